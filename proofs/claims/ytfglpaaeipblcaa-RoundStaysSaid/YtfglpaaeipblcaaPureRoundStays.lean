import Derived.Test.YtfglpaaeipblcaaPZRoundStays1
import Derived.Test.YtfglpaaeipblcaaP2
import Derived.Test.YtfglpaaeipblcaaQ3
import Derived.Test.YtfglpaaeipblcaaW5
namespace Go.Proofs.Ytfglpaaeipblcaa.Pure
open Go.RowKit Go.Proofs.Ytfglpaaeipblcaa.P Go.Proofs.YtfglpaaeipblcaaW.PrintWords Go.Proofs.YtfglpaaeipblcaaW.PrintLast

theorem stays_ev (a0 : Int) (h0 : 0 ≤ a0) (h1 : a0 < 18446744073709551616) (a1 : Int) : Ev (fun k => flyballlaw05_RoundStays.f k a0 a1) true := by
  obtain ⟨neg, K, hK, rfl⟩ := sgn_of a0 h0 h1
  unfold flyballlaw05_RoundStays.f
  refine Ev.bind works5 (Ev.pos rfl ?_)
  by_cases hf : K < 9218868437227405312
  · refine Ev.bind (Value_ev neg K hf) (Ev.pos rfl ?_)
    have hI := IsQ.rq (fval_fits neg K hf) (by decide)
    by_cases hz : K = 0
    · subst hz
      refine Ev.bind (Exact_fval0 neg a1) ?_
      have hc := CmpP false neg 0 0 (by decide) (by decide)
      rw [sg_zero, sg_zero] at hc
      refine Ev.bind hc (Ev.pos rfl (Ev.pos rfl (Ev.pos rfl ?_)))
      have hsn := RSign_ev hI
      rw [fval_zero] at hsn ⊢
      exact Ev.bind hsn (Ev.pos (by unfold cmpQ; rw [if_neg Rat.lt_irrefl, if_neg Rat.lt_irrefl]) (Ev.ret rfl))
    · refine Ev.bind (Exact_fval neg hf hz a1) ?_
      have hc := CmpP neg neg K K (by omega) (by omega)
      refine Ev.bind hc ?_
      refine Ev.pos (by unfold cmpZ; rw [if_neg (Int.lt_irrefl _), if_neg (Int.lt_irrefl _)]) (Ev.pos rfl (Ev.pos rfl ?_))
      refine Ev.bind (RSign_ev hI) ?_
      by_cases h : cmpQ (fval neg K) 0 = 0
      · exact Ev.pos h (Ev.ret rfl)
      · exact Ev.neg h (Ev.ret (beq_self_eq_true _))
  · exact Ev.bind (Value_inf neg K hK hf) (Ev.neg (by simp) (Ev.ret rfl))
theorem RoundStays : flyballlaw05_RoundStays.Pure := by
  intro a0 a1 w0 _
  obtain ⟨h0, h1⟩ := wf_u64 w0
  obtain ⟨n, h⟩ := stays_ev a0 h0 h1 a1
  exact ⟨n, h n (Nat.le_refl _)⟩
end Go.Proofs.Ytfglpaaeipblcaa.Pure
