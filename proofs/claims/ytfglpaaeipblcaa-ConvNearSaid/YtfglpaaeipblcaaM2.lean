/- Rounding a fraction: it is rounded as its first bits and the knowledge that there is more. -/
import Derived.Test.YtfglpaaeipblcaaS7
namespace Go.Proofs.Ytfglpaaeipblcaa.Pure
open Go.RowKit Go.Proofs.Ytfglpaaeipblcaa.P Go.Proofs.YtfglpaaeipblcaaW.PrintWords Go.Proofs.YtfglpaaeipblcaaW.PrintLast

end Go.Proofs.Ytfglpaaeipblcaa.Pure
