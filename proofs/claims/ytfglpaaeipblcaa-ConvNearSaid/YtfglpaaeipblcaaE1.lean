/- The program's rounding of a fraction, in numbers. -/
import Derived.Test.YtfglpaaeipblcaaM2
import Derived.Test.YtfglpaaeipblcaaN7
namespace Go.Proofs.Ytfglpaaeipblcaa.Pure
open Go.RowKit Go.Proofs.Ytfglpaaeipblcaa.P Go.Proofs.YtfglpaaeipblcaaW.PrintWords Go.Proofs.YtfglpaaeipblcaaW.PrintLast

/-- Two to the 6000th. -/
def c60 : Nat := 2 ^ 6000
attribute [irreducible] c60
theorem pow_lt_B {n k : Nat} (h : n < 32 * k) : 2 ^ n < B k := by rw [B_two]; exact Nat.pow_lt_pow_right (by decide) h
theorem two_len (n : Nat) (h : n ≤ 6000) : (wd (2 ^ n)).length ≤ 190 := wd_len_B (pow_lt_B (by omega))
end Go.Proofs.Ytfglpaaeipblcaa.Pure
