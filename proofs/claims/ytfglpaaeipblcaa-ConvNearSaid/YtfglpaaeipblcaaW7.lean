/- The document's examples of layer 7 hold. -/
import Derived.Test.YtfglpaaeipblcaaPFlyballlaw071
import Derived.Test.YtfglpaaeipblcaaM0
namespace Go.Proofs.Ytfglpaaeipblcaa.Pure
open Go.RowKit Go.Proofs.Ytfglpaaeipblcaa.P Go.Proofs.YtfglpaaeipblcaaW.PrintWords Go.Proofs.YtfglpaaeipblcaaW.PrintLast

theorem works7 : Ev (fun k => flyballlaw07_works.f k) true := Ev.of flyballlaw07_works.mono (k := 400) (by decide +kernel)
end Go.Proofs.Ytfglpaaeipblcaa.Pure
