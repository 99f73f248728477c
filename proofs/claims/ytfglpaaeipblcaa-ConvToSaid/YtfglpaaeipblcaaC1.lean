/- The document's examples of layer 7 hold; an integer as a float is the rounding of that integer. -/
import Derived.Test.YtfglpaaeipblcaaS7
import Derived.Test.YtfglpaaeipblcaaPConv1
import Derived.Test.YtfglpaaeipblcaaPFlyballlaw071
import Derived.Test.YtfglpaaeipblcaaPFlyballref071
namespace Go.Proofs.Ytfglpaaeipblcaa.Pure
open Go.RowKit Go.Proofs.Ytfglpaaeipblcaa.P Go.Proofs.YtfglpaaeipblcaaW.PrintWords Go.Proofs.YtfglpaaeipblcaaW.PrintLast

theorem works7 : Ev (fun k => flyballlaw07_works.f k) true := Ev.of flyballlaw07_works.mono (k := 400) (by decide +kernel)
/-- The magnitude of an integer of 64 bits, as the code has it. -/
def mag64 (x : Int) : Int := if x < 0 then IntKind.u64.wrap (-(IntKind.u64.wrap x)) else IntKind.u64.wrap x
theorem mag64_eq (x : Int) (h0 : -9223372036854775808 ≤ x) (h1 : x ≤ 9223372036854775807) : mag64 x = (x.natAbs : Int) := by
  unfold mag64
  simp only [u64w]
  split <;> omega
theorem FromInt_eq (k : Nat) (x mode : Int) : conv_FromInt.f k x mode = round_Round.f k (decide (x < 0)) 0 (mag64 x) 0 false mode := by
  unfold conv_FromInt.f mag64
  split
  · cases round_Round.f k (decide (x < 0)) 0 (IntKind.u64.wrap (-IntKind.u64.wrap x)) 0 false mode <;> rfl
  · cases round_Round.f k (decide (x < 0)) 0 (IntKind.u64.wrap x) 0 false mode <;> rfl
theorem FromInt_both (x mode : Int) (h0 : -9223372036854775808 ≤ x) (h1 : x ≤ 9223372036854775807) :
    ∃ r, Ev (fun k => conv_FromInt.f k x mode) r ∧ Ev (fun k => flyballref07_FromInt.f k x mode) r := by
  have hm := mag64_eq x h0 h1
  obtain ⟨r, hr1, hr2⟩ := Round_both (decide (x < 0)) x.natAbs (by omega) (wbits x.natAbs 64) (by rw [wbits_length]; omega) (by rw [bv_wbits]; exact Nat.mod_eq_of_lt (by omega)) 0 false mode
  refine ⟨r, ?_, ?_⟩
  · simp only [FromInt_eq, hm]
    rw [Nat.div_eq_of_lt (a := x.natAbs) (by omega), Nat.mod_eq_of_lt (a := x.natAbs) (by omega)] at hr1
    exact hr1
  · have ho := Of1_ev (mag64 x) (by rw [hm]; omega) (by rw [hm]; omega)
    rw [hm, Int.toNat_natCast] at ho
    unfold flyballref07_FromInt.f
    by_cases hx : x < 0
    · refine Ev.pos hx ?_
      have e : IntKind.u64.wrap (-(IntKind.u64.wrap x)) = (x.natAbs : Int) := by rw [← hm]; unfold mag64; rw [if_pos hx]
      rw [e]
      exact Ev.bind ho (Ev.bind hr2 (Ev.ret rfl))
    · refine Ev.neg hx ?_
      have e : IntKind.u64.wrap x = (x.natAbs : Int) := by rw [← hm]; unfold mag64; rw [if_neg hx]
      rw [e]
      exact Ev.bind ho (Ev.bind hr2 (Ev.ret rfl))
theorem wf_i64 {x : Int} (h : (Lit.int .i64 x).wf = true) : -9223372036854775808 ≤ x ∧ x ≤ 9223372036854775807 := by
  simp only [Lit.wf, Bool.and_eq_true, decide_eq_true_eq, show IntKind.i64.min = -9223372036854775808 by decide, show IntKind.i64.max = 9223372036854775807 by decide] at h
  exact h
end Go.Proofs.Ytfglpaaeipblcaa.Pure
