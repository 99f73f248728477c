/- How near a whole number lies. -/
import Derived.Test.YtfglpaaeipblcaaV2
namespace Go.Proofs.Ytfglpaaeipblcaa.Pure
open Go.RowKit Go.Proofs.Ytfglpaaeipblcaa.P Go.Proofs.YtfglpaaeipblcaaW.PrintWords Go.Proofs.YtfglpaaeipblcaaW.PrintLast

/-- A whole number beside a float, over the float's own denominator. -/
theorem near_num (neg : Bool) {P r c W : Nat} (hr : r < c) (hW : W = P ∨ W = P + c ∧ r ≠ 0) :
    (sg neg W - sg neg (P + r)).natAbs < c ∧ (cmpI (sg neg W) (sg neg (P + r)) ≠ 0 ↔ r ≠ 0) ∧
    ((neg = false ∧ (W = P + c ∨ r = 0) ∨ neg = true ∧ W = P) → 0 ≤ cmpI (sg neg W) (sg neg (P + r))) ∧
    ((neg = false ∧ W = P ∨ neg = true ∧ (W = P + c ∨ r = 0)) → cmpI (sg neg W) (sg neg (P + r)) ≤ 0) := by
  unfold sg cmpI
  cases neg
  · simp only [Bool.false_eq_true, if_false, true_and, false_and, or_false]
    refine ⟨by omega, ?_, fun h => ?_, fun h => ?_⟩
    · split <;> (try split) <;> omega
    · split <;> (try split) <;> omega
    · split <;> (try split) <;> omega
  · simp only [if_true, true_and, false_and, false_or, Bool.true_eq_false]
    refine ⟨by omega, ?_, fun h => ?_, fun h => ?_⟩
    · split <;> (try split) <;> omega
    · split <;> (try split) <;> omega
    · split <;> (try split) <;> omega
theorem fits_int (x : Int) {n : Nat} (h : x.natAbs < B n) (h1 : 1 < B n) : fits (x : Rat) n := by
  unfold fits
  rw [Rat.num_intCast, Rat.den_intCast]
  exact ⟨h, h1⟩
theorem fits_sub {v w : Rat} {m n : Nat} (hv : fits v m) (hw : fits w n) : fits (v - w) (m + n + 1) := by
  rw [Rat.sub_eq_add_neg]
  exact fits_add hv (fits_neg hw)
end Go.Proofs.Ytfglpaaeipblcaa.Pure
