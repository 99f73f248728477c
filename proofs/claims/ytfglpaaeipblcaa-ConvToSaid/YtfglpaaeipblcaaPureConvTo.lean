/- A float is made an integer just as the document says. -/
import Derived.Test.YtfglpaaeipblcaaPZConvTo1
import Derived.Test.YtfglpaaeipblcaaC5
namespace Go.Proofs.Ytfglpaaeipblcaa.Pure
open Go.RowKit Go.Proofs.Ytfglpaaeipblcaa.P Go.Proofs.YtfglpaaeipblcaaW.PrintWords Go.Proofs.YtfglpaaeipblcaaW.PrintLast

theorem To_both (f : Int) (h0 : 0 ≤ f) (h1 : f < 18446744073709551616) (s : Nat) (hs : 1 ≤ s ∧ s ≤ 64) : ∃ r : Int × Int, Ev (fun k => conv_to.f k f s) r ∧ Ev (fun k => flyballref07_To.f k f s) r ∧ -((2 ^ (s - 1) : Nat) : Int) ≤ r.1 ∧ r.1 ≤ ((2 ^ (s - 1) : Nat) : Int) ∧ (r.1 = ((2 ^ (s - 1) : Nat) : Int) → False) := by
  obtain ⟨neg, K, hK, rfl⟩ := sgn_of f h0 h1
  have hp := Nat.two_pow_pos (s - 1)
  by_cases hf : K < 9218868437227405312
  · refine ⟨_, to_ev neg K hf s hs, To7_ev neg K hf s hs, ?_⟩
    unfold toOut
    generalize kv K / (2 * c73) = M
    by_cases h : 2 ^ (s - 1) < M ∨ M = 2 ^ (s - 1) ∧ neg = false
    · rw [if_pos h]
      refine ⟨?_, ?_, ?_⟩ <;> simp only [] <;> omega
    · rw [if_neg h]
      cases neg
      · simp at h
        refine ⟨?_, ?_, ?_⟩ <;> simp only [Bool.false_eq_true, if_false] <;> omega
      · simp at h
        refine ⟨?_, ?_, ?_⟩ <;> simp only [if_true] <;> omega
  · exact ⟨_, to_inf neg K hK hf s, To7_inf neg K hK hf s, by simp only []; omega, by simp only []; omega, by simp only []; omega⟩
theorem ConvTo : flyballlaw07_ConvTo.Pure := by
  intro f hf
  obtain ⟨h0, h1⟩ := wf_u64 hf
  obtain ⟨⟨a, g⟩, a1, a2, a3, a4, a5⟩ := To_both f h0 h1 32 (by omega)
  obtain ⟨⟨c, i⟩, c1, c2, c3, c4, c5⟩ := To_both f h0 h1 64 (by omega)
  simp only [Nat.reduceSub, Nat.reducePow] at a3 a4 a5
  have a6 : a ≠ 2147483648 := fun h => a5 (by omega)
  refine Ev.rounds (g := fun k => flyballlaw07_ConvTo.f k f) ?_
  unfold flyballlaw07_ConvTo.f
  have e5 : Ev (fun k => conv_ToInt32.f k f) (a, g) := by
    unfold conv_ToInt32.f
    refine Ev.bind a1 (Ev.ret ?_)
    have : wrap32 a = a := by unfold wrap32; omega
    rw [this]
  have e6 : Ev (fun k => conv_ToInt64.f k f) (c, i) := by
    unfold conv_ToInt64.f
    exact Ev.bind c1 (Ev.ret rfl)
  have ew : wrap64 a = a := w64 (by omega) (by omega)
  exact Ev.bind works7 (Ev.pos rfl (Ev.bind e5 (Ev.bind a2 (Ev.bind e6 (Ev.bind c2 (Ev.pos ew (Ev.pos rfl (Ev.pos rfl (Ev.ret (beq_self_eq_true _))))))))))
end Go.Proofs.Ytfglpaaeipblcaa.Pure
