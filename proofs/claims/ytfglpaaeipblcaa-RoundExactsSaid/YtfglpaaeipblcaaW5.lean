/- The document's examples of layer 5 hold. -/
import Derived.Test.YtfglpaaeipblcaaPFlyballlaw051
import Derived.Test.YtfglpaaeipblcaaM0
namespace Go.Proofs.Ytfglpaaeipblcaa.Pure
open Go.RowKit Go.Proofs.Ytfglpaaeipblcaa.P Go.Proofs.YtfglpaaeipblcaaW.PrintWords Go.Proofs.YtfglpaaeipblcaaW.PrintLast

theorem works5 : Ev (fun k => flyballlaw05_works.f k) true := Ev.of flyballlaw05_works.mono (k := 3000) (by decide +kernel)
end Go.Proofs.Ytfglpaaeipblcaa.Pure
