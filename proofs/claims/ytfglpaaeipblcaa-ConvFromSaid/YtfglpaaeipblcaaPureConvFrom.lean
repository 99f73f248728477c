/- An integer is rounded to a float just as the document says, in each mode. -/
import Derived.Test.YtfglpaaeipblcaaPZConvFrom1
import Derived.Test.YtfglpaaeipblcaaC1
namespace Go.Proofs.Ytfglpaaeipblcaa.Pure
open Go.RowKit Go.Proofs.Ytfglpaaeipblcaa.P Go.Proofs.YtfglpaaeipblcaaW.PrintWords Go.Proofs.YtfglpaaeipblcaaW.PrintLast

theorem ConvFrom : flyballlaw07_ConvFrom.Pure := by
  intro x mode hx _
  obtain ⟨h0, h1⟩ := wf_i64 hx
  obtain ⟨r, hr1, hr2⟩ := FromInt_both x mode h0 h1
  refine Ev.rounds (g := fun k => flyballlaw07_ConvFrom.f k x mode) ?_
  unfold flyballlaw07_ConvFrom.f
  refine Ev.bind works7 (Ev.pos rfl (Ev.bind hr1 (Ev.bind hr2 (Ev.pos rfl (Ev.ret ?_)))))
  exact beq_self_eq_true _

end Go.Proofs.Ytfglpaaeipblcaa.Pure
