/- What is an integer of 32 bits is a float without rounding, and comes back as it was. -/
import Derived.Test.YtfglpaaeipblcaaPZConvBack1
import Derived.Test.YtfglpaaeipblcaaC3
namespace Go.Proofs.Ytfglpaaeipblcaa.Pure
open Go.RowKit Go.Proofs.Ytfglpaaeipblcaa.P Go.Proofs.YtfglpaaeipblcaaW.PrintWords Go.Proofs.YtfglpaaeipblcaaW.PrintLast

theorem FromInt_zero (mode : Int) : Ev (fun k => conv_FromInt.f k 0 mode) (0, 0) := by
  simp only [FromInt_eq]
  unfold round_Round.f
  refine Ev.bind0 (ULen 0 (by omega)) (Ev.pos rfl ?_)
  exact Ev.bind (MakeP false 0 0 (by omega) (by omega)) (Ev.ret rfl)
theorem Back_ev (x mode : Int) (h0 : -2147483648 ≤ x) (h1 : x ≤ 2147483647) : ∃ f : Int, Ev (fun k => conv_FromInt.f k x mode) (f, 0) ∧ Ev (fun k => conv_to.f k f 32) (x, 0) ∧ Ev (fun k => conv_to.f k f 64) (x, 0) ∧ Ev (fun k => conv_Whole.f k f mode) (f, 0) := by
  have hc := c73_pos
  by_cases hx : x = 0
  · subst hx
    have t : ∀ s : Nat, 1 ≤ s ∧ s ≤ 64 → Ev (fun k => conv_to.f k 0 s) (0, 0) := by
      intro s hs
      refine Ev.as (to_ev false 0 (by omega) s hs) ?_
      unfold toOut
      rw [kv_zero, Nat.zero_div, Nat.zero_mod]
      have := Nat.two_pow_pos (s - 1)
      rw [if_neg (by omega)]
      rfl
    exact ⟨0, FromInt_zero mode, t 32 (by omega), t 64 (by omega), Whole_same false 0 (by omega) mode (by simp [sx])⟩
  · have hm := mag64_eq x (by omega) (by omega)
    obtain ⟨K, hK, hkv, hround⟩ := Round_small x.natAbs (by omega) (by omega)
    have hd1 : kv K / (2 * c73) = x.natAbs := by rw [hkv, Nat.mul_div_cancel _ (by omega)]
    have hd2 : kv K % (2 * c73) = 0 := by rw [hkv, Nat.mul_mod_left]
    have t : ∀ s : Nat, 32 ≤ s ∧ s ≤ 64 → Ev (fun k => conv_to.f k (sgn (decide (x < 0)) K) s) (x, 0) := by
      intro s hs
      refine Ev.as (to_ev _ K hK s (by omega)) ?_
      unfold toOut
      rw [hd1, hd2]
      have : 2 ^ 31 ≤ 2 ^ (s - 1) := Nat.pow_le_pow_right (by decide) (by omega)
      simp only [Nat.reducePow] at this
      rw [if_neg (by simp only [decide_eq_false_iff_not]; omega)]
      simp only [decide_eq_true_eq, ne_eq, not_true_eq_false, if_false]
      congr 1
      split <;> omega
    refine ⟨sgn (decide (x < 0)) K, ?_, t 32 (by omega), t 64 (by omega), ?_⟩
    · simp only [FromInt_eq, hm]
      exact hround _ mode
    · by_cases hs : sx K < 0
      · have hup : upW (kv K) (decide (x < 0)) mode = false := by
          have hh : kv K / c73 % 2 = 0 := by
            rw [hkv, Nat.mul_comm 2 c73, ← Nat.mul_assoc, Nat.mul_right_comm, Nat.mul_div_cancel _ hc, Nat.mul_mod_left]
          unfold upW
          rw [hd2, hh]
          simp
        have := Whole_ev (decide (x < 0)) K hK mode hs (sgn (decide (x < 0)) K, 0) (by rw [hd1, hup]; exact hround _ 0)
        rw [hd2] at this
        exact this
      · exact Whole_same _ K hK mode hs
theorem ConvBack : flyballlaw07_ConvBack.Pure := by
  intro x mode hx _
  obtain ⟨h0, h1⟩ := wf_i32 hx
  obtain ⟨f, e1, e2, e3, e4⟩ := Back_ev x mode h0 h1
  have hw : wrap64 x = x := w64 (by omega) (by omega)
  refine Ev.rounds (g := fun k => flyballlaw07_ConvBack.f k x mode) ?_
  unfold flyballlaw07_ConvBack.f
  rw [hw]
  have e5 : Ev (fun k => conv_ToInt32.f k f) (x, 0) := by
    unfold conv_ToInt32.f
    refine Ev.bind e2 (Ev.ret ?_)
    have : wrap32 x = x := by unfold wrap32; omega
    rw [this]
  have e6 : Ev (fun k => conv_ToInt64.f k f) (x, 0) := by
    unfold conv_ToInt64.f
    exact Ev.bind e3 (Ev.ret rfl)
  exact Ev.bind works7 (Ev.pos rfl (Ev.bind e1 (Ev.bind e5 (Ev.bind e6 (Ev.bind e4 (Ev.pos rfl (Ev.pos rfl (Ev.pos rfl (Ev.pos rfl (Ev.pos rfl (Ev.pos rfl (Ev.ret rfl)))))))))))) 
end Go.Proofs.Ytfglpaaeipblcaa.Pure
