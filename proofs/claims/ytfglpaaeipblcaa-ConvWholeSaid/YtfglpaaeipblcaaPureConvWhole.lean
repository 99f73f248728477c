/- A float is rounded to a whole number just as the document says. -/
import Derived.Test.YtfglpaaeipblcaaPZConvWhole1
import Derived.Test.YtfglpaaeipblcaaC5
namespace Go.Proofs.Ytfglpaaeipblcaa.Pure
open Go.RowKit Go.Proofs.Ytfglpaaeipblcaa.P Go.Proofs.YtfglpaaeipblcaaW.PrintWords Go.Proofs.YtfglpaaeipblcaaW.PrintLast

theorem ConvWhole : flyballlaw07_ConvWhole.Pure := by
  intro f mode hf _
  obtain ⟨h0, h1⟩ := wf_u64 hf
  obtain ⟨neg, K, hK, rfl⟩ := sgn_of f h0 h1
  obtain ⟨r, r1, r2⟩ := Whole_both neg K hK mode
  refine Ev.rounds (g := fun k => flyballlaw07_ConvWhole.f k (sgn neg K) mode) ?_
  unfold flyballlaw07_ConvWhole.f
  exact Ev.bind works7 (Ev.pos rfl (Ev.bind r1 (Ev.bind r2 (Ev.pos rfl (Ev.ret (beq_self_eq_true _))))))
end Go.Proofs.Ytfglpaaeipblcaa.Pure
