/- Rounding, in numbers: the floats' values by their keys; the key and the flags. -/
import Derived.Test.YtfglpaaeipblcaaM0
namespace Go.Proofs.Ytfglpaaeipblcaa.Pure
open Go.RowKit Go.Proofs.Ytfglpaaeipblcaa.P Go.Proofs.YtfglpaaeipblcaaW.PrintWords Go.Proofs.YtfglpaaeipblcaaW.PrintLast

/-- A float's m and e by its key; and its value times 2^1074. -/
def sm (K : Nat) : Nat := if K / 4503599627370496 = 0 then K % 4503599627370496 else K % 4503599627370496 + 4503599627370496
def se (K : Nat) : Int := if K / 4503599627370496 = 0 then -1074 else (K / 4503599627370496 : Nat) - 1075
def kv (K : Nat) : Nat := sm K * 2 ^ (se K + 1074).toNat
theorem sm_se (q w : Nat) (hw : w < 9007199254740992) (h : q = 0 ∨ 4503599627370496 ≤ w) : sm (4503599627370496 * q + w) = w ∧ se (4503599627370496 * q + w) = (q : Int) - 1074 := by
  unfold sm se
  by_cases h0 : w < 4503599627370496
  · obtain rfl : q = 0 := by omega
    rw [if_pos (by omega), if_pos (by omega)]
    omega
  · rw [if_neg (by omega), if_neg (by omega)]
    omega
theorem kv_qw (q w : Nat) (hw : w ≤ 9007199254740992) (h : q = 0 ∨ 4503599627370496 ≤ w) : kv (4503599627370496 * q + w) = w * 2 ^ q := by
  by_cases h1 : w < 9007199254740992
  · obtain ⟨a, b⟩ := sm_se q w h1 h
    unfold kv
    rw [a, b]
    congr 2
    omega
  · obtain rfl : w = 9007199254740992 := by omega
    rw [show 4503599627370496 * q + 9007199254740992 = 4503599627370496 * (q + 1) + 4503599627370496 by omega]
    obtain ⟨a, b⟩ := sm_se (q + 1) 4503599627370496 (by omega) (by omega)
    unfold kv
    rw [a, b, show (((q + 1 : Nat) : Int) - 1074 + 1074).toNat = q + 1 by omega, Nat.pow_succ, Nat.mul_comm (2 ^ q) 2, ← Nat.mul_assoc]
/-- Two to the 4926th. -/
def c26 : Nat := 2 ^ 4926
attribute [irreducible] c26
/-- Two to the 4978th. -/
def c78 : Nat := 2 ^ 4978
attribute [irreducible] c78
theorem se_bd (K : Nat) (hK : K ≤ 9218868437227405312) : -1074 ≤ se K ∧ se K ≤ 972 := by unfold se; split <;> omega
/-- The way of a mode, at a sign. -/
def wayOf (neg : Bool) (mode : Int) : Int := if neg = true then (if mode = 1 then 2 else if mode = 2 then 1 else mode) else mode
/-- A key with a sign. -/
def sgn (neg : Bool) (K : Int) : Int := if neg = true then K + 9223372036854775808 else K
/-- Is it rounded up? -/
def upP (way : Int) (odd half rest : Bool) : Bool := if way = 1 then half || rest else if way = 2 then false else half && (rest || odd)
/-- The key and the flags, of w units of 2^Q (times 2^-1074), a half or none, a rest or none. -/
def roundOut (w Q : Nat) (half rest uf : Bool) (way : Int) : Int × Int :=
  if 9218868437227405312 ≤ 4503599627370496 * Q + (if upP way (decide (w % 2 = 1)) half rest = true then w + 1 else w) then (if way = 2 then 9218868437227405311 else 9218868437227405312, 5)
  else (((4503599627370496 * Q + (if upP way (decide (w % 2 = 1)) half rest = true then w + 1 else w) : Nat) : Int), if (half || rest) = true then (if uf = true then 3 else 1) else 0)
end Go.Proofs.Ytfglpaaeipblcaa.Pure
