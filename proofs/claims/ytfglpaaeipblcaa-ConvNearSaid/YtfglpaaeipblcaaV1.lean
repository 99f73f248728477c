/- Numbers over one denominator. -/
import Derived.Test.YtfglpaaeipblcaaQ1s
import Derived.Test.YtfglpaaeipblcaaQ2v
namespace Go.Proofs.Ytfglpaaeipblcaa.Pure
open Go.RowKit Go.Proofs.Ytfglpaaeipblcaa.P Go.Proofs.YtfglpaaeipblcaaW.PrintWords Go.Proofs.YtfglpaaeipblcaaW.PrintLast

theorem mkRat_le {a b : Int} {d : Nat} (hd : 0 < d) : mkRat a d ≤ mkRat b d ↔ a ≤ b := by
  obtain ⟨x, hx⟩ : ∃ v, v = mkRat a d := ⟨_, rfl⟩
  obtain ⟨y, hy⟩ : ∃ v, v = mkRat b d := ⟨_, rfl⟩
  have px := (Rat.mkRat_eq_iff (by omega : d ≠ 0) x.den_nz).1 (hx.symm.trans (Rat.mkRat_self x).symm)
  have py := (Rat.mkRat_eq_iff (by omega : d ≠ 0) y.den_nz).1 (hy.symm.trans (Rat.mkRat_self y).symm)
  rw [← hx, ← hy, Rat.le_iff]
  have h1 : (0 : Int) < (x.den : Int) := by have := x.den_nz; omega
  have h2 : (0 : Int) < (y.den : Int) := by have := y.den_nz; omega
  have h3 : (0 : Int) < (d : Int) := by omega
  clear hx hy hd
  generalize x.num = xn at *
  generalize y.num = yn at *
  generalize (x.den : Int) = xd at *
  generalize (y.den : Int) = yd at *
  generalize (d : Int) = d at *
  have q1 : xn * yd * d = a * (xd * yd) := by
    have : xn * yd * d = xn * d * yd := by ac_rfl
    rw [this, ← px]
    ac_rfl
  have q2 : yn * xd * d = b * (xd * yd) := by
    have : yn * xd * d = yn * d * xd := by ac_rfl
    rw [this, ← py]
    ac_rfl
  have p2 : 0 < xd * yd := Int.mul_pos h1 h2
  constructor
  · intro h
    have := Int.mul_le_mul_of_nonneg_right h (Int.le_of_lt h3)
    rw [q1, q2] at this
    exact Int.le_of_mul_le_mul_right this p2
  · intro h
    have := Int.mul_le_mul_of_nonneg_right h (Int.le_of_lt p2)
    rw [← q1, ← q2] at this
    exact Int.le_of_mul_le_mul_right this h3
/-- The order of two whole numbers. -/
def cmpI (x y : Int) : Int := if x < y then -1 else if y < x then 1 else 0
theorem cmpQ_mk {a b : Int} {d : Nat} (hd : 0 < d) : cmpQ (mkRat a d) (mkRat b d) = cmpI a b := by
  unfold cmpQ cmpI
  have e : ∀ x y : Int, mkRat x d < mkRat y d ↔ x < y := fun x y => by
    rw [← Rat.not_le, mkRat_le hd]
    omega
  by_cases h : a < b
  · rw [if_pos ((e a b).2 h), if_pos h]
  · rw [if_neg (fun x => h ((e a b).1 x)), if_neg h]
    by_cases h2 : b < a
    · rw [if_pos ((e b a).2 h2), if_pos h2]
    · rw [if_neg (fun x => h2 ((e b a).1 x)), if_neg h2]
theorem mk_sub {a b : Int} {d : Nat} (hd : 0 < d) : mkRat a d - mkRat b d = mkRat (a - b) d := by
  have hd0 : d ≠ 0 := by omega
  rw [Rat.sub_eq_add_neg, Rat.neg_mkRat, Rat.mkRat_add_mkRat _ _ hd0 hd0, ← Int.add_mul, ← Int.sub_eq_add_neg, Rat.mkRat_mul_right hd0]
theorem mk_abs {a : Int} {d : Nat} (hd : 0 < d) : qabs (mkRat a d) = mkRat (a.natAbs : Int) d := by
  have e : mkRat a d < 0 ↔ a < 0 := by
    rw [← Rat.zero_mkRat d, ← Rat.not_le, mkRat_le hd]
    omega
  unfold qabs
  by_cases h : a < 0
  · rw [if_pos (e.2 h), Rat.neg_mkRat]
    congr 1
    omega
  · rw [if_neg (fun x => h (e.1 x))]
    congr 1
    omega
theorem mk_int (x : Int) {d : Nat} (hd : 0 < d) : (x : Rat) = mkRat (x * (d : Int)) d := by
  have h := Rat.mkRat_mul_right (n := x) (d := 1) (a := d) (by omega)
  rw [Nat.one_mul] at h
  rw [h, Rat.mkRat_one]
end Go.Proofs.Ytfglpaaeipblcaa.Pure
