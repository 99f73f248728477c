/- The number that a float is. -/
import Derived.Test.YtfglpaaeipblcaaE1
namespace Go.Proofs.Ytfglpaaeipblcaa.Pure
open Go.RowKit Go.Proofs.Ytfglpaaeipblcaa.P Go.Proofs.YtfglpaaeipblcaaW.PrintWords Go.Proofs.YtfglpaaeipblcaaW.PrintLast
/-! ### a fraction as a number -/
end Go.Proofs.Ytfglpaaeipblcaa.Pure
