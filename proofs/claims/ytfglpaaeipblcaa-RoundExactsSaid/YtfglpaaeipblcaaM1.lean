/- Rounding, in numbers: the floats' values by their keys; the key and the flags. -/
import Derived.Test.YtfglpaaeipblcaaM0
namespace Go.Proofs.Ytfglpaaeipblcaa.Pure
open Go.RowKit Go.Proofs.Ytfglpaaeipblcaa.P Go.Proofs.YtfglpaaeipblcaaW.PrintWords Go.Proofs.YtfglpaaeipblcaaW.PrintLast

/-- A float's m and e by its key; and its value times 2^1074. -/
def sm (K : Nat) : Nat := if K / 4503599627370496 = 0 then K % 4503599627370496 else K % 4503599627370496 + 4503599627370496
def se (K : Nat) : Int := if K / 4503599627370496 = 0 then -1074 else (K / 4503599627370496 : Nat) - 1075
def kv (K : Nat) : Nat := sm K * 2 ^ (se K + 1074).toNat
theorem sm_se (q w : Nat) (hw : w < 9007199254740992) (h : q = 0 ∨ 4503599627370496 ≤ w) : sm (4503599627370496 * q + w) = w ∧ se (4503599627370496 * q + w) = (q : Int) - 1074 := by
  unfold sm se
  by_cases h0 : w < 4503599627370496
  · obtain rfl : q = 0 := by omega
    rw [if_pos (by omega), if_pos (by omega)]
    omega
  · rw [if_neg (by omega), if_neg (by omega)]
    omega
theorem kv_qw (q w : Nat) (hw : w ≤ 9007199254740992) (h : q = 0 ∨ 4503599627370496 ≤ w) : kv (4503599627370496 * q + w) = w * 2 ^ q := by
  by_cases h1 : w < 9007199254740992
  · obtain ⟨a, b⟩ := sm_se q w h1 h
    unfold kv
    rw [a, b]
    congr 2
    omega
  · obtain rfl : w = 9007199254740992 := by omega
    rw [show 4503599627370496 * q + 9007199254740992 = 4503599627370496 * (q + 1) + 4503599627370496 by omega]
    obtain ⟨a, b⟩ := sm_se (q + 1) 4503599627370496 (by omega) (by omega)
    unfold kv
    rw [a, b, show (((q + 1 : Nat) : Int) - 1074 + 1074).toNat = q + 1 by omega, Nat.pow_succ, Nat.mul_comm (2 ^ q) 2, ← Nat.mul_assoc]
theorem qw_of (K : Nat) : ∃ q w, K = 4503599627370496 * q + w ∧ w < 9007199254740992 ∧ (q = 0 ∨ 4503599627370496 ≤ w) := by
  by_cases h : K / 4503599627370496 = 0
  · exact ⟨0, K, by omega, by omega, .inl rfl⟩
  · exact ⟨K / 4503599627370496 - 1, K % 4503599627370496 + 4503599627370496, by omega, by omega, .inr (by omega)⟩
theorem kv_succ (K : Nat) : kv K < kv (K + 1) := by
  obtain ⟨q, w, rfl, hw, h⟩ := qw_of K
  rw [Nat.add_assoc, kv_qw q w (by omega) h, kv_qw q (w + 1) (by omega) (by omega)]
  exact Nat.mul_lt_mul_of_pos_right (by omega) (Nat.two_pow_pos q)
theorem kv_mono {K L : Nat} (h : K ≤ L) : kv K ≤ kv L := by
  induction h with
  | refl => exact Nat.le_refl _
  | step _ ih => exact Nat.le_trans ih (Nat.le_of_lt (kv_succ _))
theorem kv_strict {K L : Nat} (h : K < L) : kv K < kv L := Nat.lt_of_lt_of_le (kv_succ K) (kv_mono h)
/-- Two to the 4926th. -/
def c26 : Nat := 2 ^ 4926
theorem c26_pos : 0 < c26 := by unfold c26; exact Nat.two_pow_pos 4926
theorem pow_c26 (n : Nat) : 2 ^ (n + 4926) = 2 ^ n * c26 := by unfold c26; exact Nat.pow_add 2 n 4926
attribute [irreducible] c26
/-- Two to the 4978th. -/
def c78 : Nat := 2 ^ 4978
theorem pow78 : 2 ^ 4978 = c78 := by unfold c78; rfl
attribute [irreducible] c78
/-- A comparison, of a number that is a little more than X (if rest) with Y. -/
def cm (X Y : Nat) (rest : Bool) : Int := if X < Y then -1 else if Y < X then 1 else if rest then 1 else 0
theorem cm_ge {X Y : Nat} {rest : Bool} : 0 ≤ cm X Y rest ↔ Y ≤ X := by
  unfold cm
  by_cases h : X < Y
  · rw [if_pos h]; omega
  · rw [if_neg h]
    constructor
    · omega
    · intro _
      split
      · omega
      · split <;> omega
theorem cmpN_cm (X Y : Nat) (rest : Bool) : (if cmpN X Y = 0 then (if rest = true then (1 : Int) else cmpN X Y) else cmpN X Y) = cm X Y rest := by
  unfold cmpN cm
  by_cases h : X < Y
  · simp [h]
  · by_cases h2 : Y < X
    · simp [h, h2]
    · cases rest <;> simp [h, h2]
theorem cmpN_scale (x y c : Nat) (hc : 0 < c) : cmpN (x * c) (y * c) = cmpN x y := by
  unfold cmpN
  have a : x * c < y * c ↔ x < y := Nat.mul_lt_mul_right hc
  have b : y * c < x * c ↔ y < x := Nat.mul_lt_mul_right hc
  simp only [a, b]
theorem mn_le (x y : Int) : mn x y ≤ x ∧ mn x y ≤ y ∧ (mn x y = x ∨ mn x y = y) := by unfold mn; split <;> omega
theorem wraps_i64 (n : Int) (h₀ : 0 ≤ n) (h₁ : n < 2 ^ 63) : IntKind.i64.wrap n = n := by rw [IntKind.wrap_i64]; omega
theorem and_frac (x : Int) (h0 : 0 ≤ x) (h1 : x < 9223372036854775808) : Go.bits .and .i64 x 4503599627370495 = x % 4503599627370496 := by
  have := bits_mask .i64 63 (by decide) wraps_i64 52 (by decide) x h0 (by simpa using h1)
  simpa using this
theorem se_bd (K : Nat) (hK : K ≤ 9218868437227405312) : -1074 ≤ se K ∧ se K ≤ 972 := by unfold se; split <;> omega
theorem kv_scale (K U : Nat) (hK : K ≤ 9218868437227405312) : sm K * U * 2 ^ (se K + 6000).toNat = kv K * (U * c26) := by
  have := se_bd K hK
  unfold kv
  rw [show (se K + 6000).toNat = (se K + 1074).toNat + 4926 by omega, pow_c26]
  generalize 2 ^ (se K + 1074).toNat = p
  generalize c26 = c
  rw [Nat.mul_assoc, Nat.mul_assoc, Nat.mul_left_comm U p c]
/-- The end of a rounding: the key, and the flags; way: 1 away from nought, 2 towards it, else to the nearest. -/
def magEnd (K : Nat) (f0 way : Int) : Int × Int :=
  if 9218868437227405311 < K then (if way = 2 then (9218868437227405311, Go.bits .or .u8 (Go.bits .or .u8 f0 4) 1) else (9218868437227405312, Go.bits .or .u8 (Go.bits .or .u8 f0 4) 1)) else ((K : Int), f0)
/-- Is what lies between rounded up? -/
def upB (X B : Nat) (rest : Bool) (K : Nat) (ex : Bool) (way : Int) : Bool :=
  if way = 1 then !ex else if way = 2 then false else decide (0 < cm X ((2 * sm K + 1) * B * 2 ^ (se K + 5999).toNat) rest) || (decide (cm X ((2 * sm K + 1) * B * 2 ^ (se K + 5999).toNat) rest = 0) && decide (K % 2 = 1))
theorem tmod2 (K : Nat) : (Int.tmod (K : Int) 2 == 1) = decide (K % 2 = 1) := by
  have e : Int.tmod (K : Int) 2 = ((K % 2 : Nat) : Int) := by rw [Int.tmod_eq_emod_of_nonneg (by omega)]; omega
  rw [e]
  by_cases h : K % 2 = 1
  · rw [h]; rfl
  · have h0 : K % 2 = 0 := by omega
    rw [h0]; rfl
/-- The reference's answer, of a number X against the unit U, where K is its floor. -/
def magOut (X U B : Nat) (rest : Bool) (K : Nat) (way : Int) : Int × Int :=
  magEnd (if K < 9218868437227405312 ∧ upB X B rest K (decide (cm X (kv K * U) rest = 0)) way = true then K + 1 else K)
    (if cm X (kv K * U) rest = 0 then 0 else if cm X (B * c78) rest < 0 then 3 else 1) way
theorem td (K : Nat) (h : K ≤ 9218868437227405312) : wrap64 (Int.tdiv (K : Int) 4503599627370496) = ((K / 4503599627370496 : Nat) : Int) := by
  rw [Int.tdiv_eq_ediv_of_nonneg (by omega), w64] <;> omega
theorem tm (K : Nat) (h : K ≤ 9218868437227405312) : IntKind.u64.wrap (Int.tmod (K : Int) 4503599627370496) = ((K % 4503599627370496 : Nat) : Int) := by
  rw [Int.tmod_eq_emod_of_nonneg (by omega), u64i] <;> omega
/-- The way of a mode, at a sign. -/
def wayOf (neg : Bool) (mode : Int) : Int := if neg = true then (if mode = 1 then 2 else if mode = 2 then 1 else mode) else mode
/-- A key with a sign. -/
def sgn (neg : Bool) (K : Int) : Int := if neg = true then K + 9223372036854775808 else K
theorem magEnd_bd (K : Nat) (f0 way : Int) (h : K ≤ 9218868437227405312) : ∃ L : Nat, (magEnd K f0 way).1 = L ∧ L ≤ 9218868437227405312 := by
  unfold magEnd
  split
  · split
    · exact ⟨9218868437227405311, rfl, by omega⟩
    · exact ⟨9218868437227405312, rfl, by omega⟩
  · exact ⟨K, rfl, h⟩
theorem magOut_bd (X U B : Nat) (rest : Bool) (K : Nat) (way : Int) (h : K ≤ 9218868437227405312) : ∃ L : Nat, (magOut X U B rest K way).1 = L ∧ L ≤ 9218868437227405312 := by
  unfold magOut
  refine magEnd_bd _ _ _ ?_
  split <;> omega
/-- An exponent within bounds. -/
def clampE (e : Int) : Int := mn (mx e (-5000)) 5000
theorem clampE_bd (e : Int) : -5000 ≤ clampE e ∧ clampE e ≤ 5000 := by unfold clampE mn mx; repeat' split <;> omega
theorem cm_scale (x y c : Nat) (rest : Bool) (hc : 0 < c) : cm (x * c) (y * c) rest = cm x y rest := by
  unfold cm
  have a : x * c < y * c ↔ x < y := Nat.mul_lt_mul_right hc
  have b : y * c < x * c ↔ y < x := Nat.mul_lt_mul_right hc
  simp only [a, b]
theorem floor_unique (X K K0 : Nat) (hK : K ≤ 9218868437227405312) (h1 : kv K * c26 ≤ X) (h2 : K = 9218868437227405312 ∨ X < kv (K + 1) * c26)
    (g1 : kv K0 * c26 ≤ X) (g2 : X < kv (K0 + 1) * c26) : (K0 < 9218868437227405312 → K = K0) ∧ (9218868437227405312 ≤ K0 → K = 9218868437227405312) := by
  have up : ∀ {a b : Nat}, a ≤ b → kv a * c26 ≤ kv b * c26 := fun h => Nat.mul_le_mul_right _ (kv_mono h)
  constructor
  · intro h0
    rcases Nat.lt_trichotomy K K0 with h | h | h
    · rcases h2 with h2 | h2
      · omega
      · have := up (show K + 1 ≤ K0 by omega)
        omega
    · exact h
    · have := up (show K0 + 1 ≤ K by omega)
      omega
  · intro h0
    rcases h2 with h2 | h2
    · exact h2
    · by_cases h : K = 9218868437227405312
      · exact h
      · have := up (show K + 1 ≤ K0 by omega)
        omega
/-- Is it rounded up? -/
def upP (way : Int) (odd half rest : Bool) : Bool := if way = 1 then half || rest else if way = 2 then false else half && (rest || odd)
/-- The key and the flags, of w units of 2^Q (times 2^-1074), a half or none, a rest or none. -/
def roundOut (w Q : Nat) (half rest uf : Bool) (way : Int) : Int × Int :=
  if 9218868437227405312 ≤ 4503599627370496 * Q + (if upP way (decide (w % 2 = 1)) half rest = true then w + 1 else w) then (if way = 2 then 9218868437227405311 else 9218868437227405312, 5)
  else (((4503599627370496 * Q + (if upP way (decide (w % 2 = 1)) half rest = true then w + 1 else w) : Nat) : Int), if (half || rest) = true then (if uf = true then 3 else 1) else 0)
theorem or8a : Go.bits .or .u8 (Go.bits .or .u8 0 4) 1 = 5 := by decide
theorem or8b : Go.bits .or .u8 (Go.bits .or .u8 1 4) 1 = 5 := by decide
theorem magOut_eq (X w Q D c r : Nat) (half rest : Bool) (way : Int) (K : Nat)
    (hX : X = (w * 2 ^ D + half.toNat * 2 ^ (D - 1) + r) * c) (hD : 1 ≤ D) (hr : r < 2 ^ (D - 1)) (hc : 0 < c) (hQ : 2 ^ Q * c26 = 2 ^ D * c)
    (hw : w < 9007199254740992) (hQw : Q = 0 ∨ 4503599627370496 ≤ w)
    (hbig : 9218868437227405311 ≤ 4503599627370496 * Q + w → ¬ X < c78)
    (hK : K ≤ 9218868437227405312) (h1 : kv K * c26 ≤ X) (h2 : K = 9218868437227405312 ∨ X < kv (K + 1) * c26) :
    magOut X c26 1 rest K way = roundOut w Q half (rest || decide (r ≠ 0)) (decide (X < c78)) way := by
  have hp : 2 ^ D = 2 * 2 ^ (D - 1) := by
    have := Nat.pow_succ 2 (D - 1)
    rw [show (D - 1).succ = D by omega] at this
    omega
  generalize hP : 2 ^ (D - 1) = P at hX hr hp
  have hPpos : 0 < P := by rw [← hP]; exact Nat.two_pow_pos _
  have k0 : kv (4503599627370496 * Q + w) * c26 = w * (2 * P) * c := by
    rw [kv_qw Q w (by omega) hQw, Nat.mul_assoc, hQ, hp, ← Nat.mul_assoc]
  have k1 : kv (4503599627370496 * Q + w + 1) * c26 = (w + 1) * (2 * P) * c := by
    rw [Nat.add_assoc, kv_qw Q (w + 1) (by omega) (by omega), Nat.mul_assoc, hQ, hp, ← Nat.mul_assoc]
  rw [hp] at hX
  have hhalf : half.toNat ≤ 1 := by cases half <;> simp
  have hM : w * (2 * P) + half.toNat * P + r < (w + 1) * (2 * P) := by
    rw [Nat.add_mul, Nat.one_mul]
    have : half.toNat * P ≤ 1 * P := Nat.mul_le_mul_right _ hhalf
    omega
  have g1 : kv (4503599627370496 * Q + w) * c26 ≤ X := by
    rw [k0, hX]
    exact Nat.mul_le_mul_right _ (by omega)
  have g2 : X < kv (4503599627370496 * Q + w + 1) * c26 := by
    rw [k1, hX]
    exact Nat.mul_lt_mul_of_pos_right hM hc
  obtain ⟨u1, u2⟩ := floor_unique X K _ hK h1 h2 g1 g2
  have huf : (cm X (1 * c78) rest < 0) ↔ X < c78 := by
    rw [Nat.one_mul]
    have := @cm_ge X (c78) rest
    omega
  by_cases hT : 4503599627370496 * Q + w < 9218868437227405312
  · obtain rfl := u1 hT
    have hex : cm X (kv (4503599627370496 * Q + w) * c26) rest = 0 ↔ (half || (rest || decide (r ≠ 0))) = false := by
      rw [k0, hX, cm_scale _ _ _ _ hc]
      unfold cm
      rw [if_neg (by omega)]
      cases half
      · by_cases hr0 : r = 0
        · subst hr0
          rw [if_neg (by simp)]
          cases rest <;> simp
        · rw [if_pos (by omega)]
          simp [hr0]
      · rw [if_pos (by simp; omega)]
        simp
    have hmid : ∀ Y : Nat, Y = (2 * w + 1) * P * c → (cm X Y rest > 0 ↔ half = true ∧ (rest || decide (r ≠ 0)) = true) ∧ (cm X Y rest = 0 ↔ half = true ∧ (rest || decide (r ≠ 0)) = false) := by
      intro Y hY
      rw [hY, hX, cm_scale _ _ _ _ hc]
      have e : (2 * w + 1) * P = w * (2 * P) + P := by rw [Nat.add_mul, Nat.one_mul, Nat.mul_comm 2 w, Nat.mul_assoc]
      rw [e]
      unfold cm
      cases half
      · rw [if_pos (by simp; omega)]
        simp
      · simp only [Bool.toNat_true, Nat.one_mul]
        rw [if_neg (by omega)]
        by_cases hr0 : r = 0
        · subst hr0
          rw [if_neg (by omega)]
          cases rest <;> simp
        · rw [if_pos (by omega)]
          simp [hr0]
    obtain ⟨s1, s2⟩ := sm_se Q w hw hQw
    have hY : (2 * sm (4503599627370496 * Q + w) + 1) * 1 * 2 ^ (se (4503599627370496 * Q + w) + 5999).toNat = (2 * w + 1) * P * c := by
      rw [s1, s2, Nat.mul_one, Nat.mul_assoc]
      congr 1
      have z : ((Q : Int) - 1074 + 5999).toNat = Q + 4925 := by omega
      rw [z]
      have y : 2 ^ (Q + 4925) * 2 = 2 ^ Q * c26 := by rw [← pow_c26, ← Nat.pow_succ]
      rw [hQ, hp] at y
      have x : 2 * P * c = P * c * 2 := by rw [Nat.mul_assoc, Nat.mul_comm]
      omega
    obtain ⟨m1, m2⟩ := hmid _ hY
    have hodd : decide ((4503599627370496 * Q + w) % 2 = 1) = decide (w % 2 = 1) := decide_eq_decide.2 (by omega)
    have hup : upB X 1 rest (4503599627370496 * Q + w) (decide (cm X (kv (4503599627370496 * Q + w) * c26) rest = 0)) way = upP way (decide (w % 2 = 1)) half (rest || decide (r ≠ 0)) := by
      unfold upB upP
      by_cases w1 : way = 1
      · rw [if_pos w1, if_pos w1]
        by_cases hz : (half || (rest || decide (r ≠ 0))) = false
        · rw [decide_eq_true (hex.2 hz), hz]; rfl
        · rw [decide_eq_false (fun h => hz (hex.1 h)), eq_true_of_ne_false hz]
          rfl
      · rw [if_neg w1, if_neg w1]
        by_cases w2 : way = 2
        · rw [if_pos w2, if_pos w2]
        · rw [if_neg w2, if_neg w2, hodd]
          generalize cm X ((2 * sm (4503599627370496 * Q + w) + 1) * 1 * 2 ^ (se (4503599627370496 * Q + w) + 5999).toNat) rest = c0 at m1 m2
          generalize (rest || decide (r ≠ 0)) = rr at m1 m2
          cases half
          · rw [decide_eq_false (fun h => by simpa using m1.1 h), decide_eq_false (fun h => by simpa using m2.1 h)]
            rfl
          · cases rr
            · rw [decide_eq_false (fun h => by simpa using m1.1 h), decide_eq_true (m2.2 ⟨rfl, rfl⟩)]
              rfl
            · rw [decide_eq_true (m1.2 ⟨rfl, rfl⟩)]
              rfl
    unfold magOut roundOut
    rw [hup]
    simp only [hT, true_and, huf, hex]
    generalize hK2 : (if upP way (decide (w % 2 = 1)) half (rest || decide (r ≠ 0)) = true then w + 1 else w) = w2
    have hK2' : (if upP way (decide (w % 2 = 1)) half (rest || decide (r ≠ 0)) = true then 4503599627370496 * Q + w + 1 else 4503599627370496 * Q + w) = 4503599627370496 * Q + w2 := by
      rw [← hK2]
      split <;> rfl
    rw [hK2']
    have hw2 : w2 ≤ w + 1 := by rw [← hK2]; split <;> omega
    unfold magEnd
    by_cases hov : 9218868437227405312 ≤ 4503599627370496 * Q + w2
    · have nuf := hbig (by omega)
      rw [if_pos (by omega), if_pos hov]
      have hf : (if (half || (rest || decide (r ≠ 0))) = false then (0 : Int) else if X < c78 then 3 else 1) = 0 ∨ (if (half || (rest || decide (r ≠ 0))) = false then (0 : Int) else if X < c78 then 3 else 1) = 1 := by
        rw [if_neg nuf]
        split
        · exact .inl rfl
        · exact .inr rfl
      rcases hf with hf | hf <;> rw [hf] <;> split <;> simp only [or8a, or8b]
    · rw [if_neg (by omega), if_neg hov]
      refine congrArg (Prod.mk _) ?_
      by_cases hz : (half || (rest || decide (r ≠ 0))) = false
      · rw [if_pos hz, if_neg (by rw [hz]; simp)]
      · rw [if_neg hz, if_pos (eq_true_of_ne_false hz)]
        by_cases hx : X < c78
        · rw [if_pos hx, decide_eq_true hx, if_pos rfl]
        · rw [if_neg hx, decide_eq_false hx, if_neg (by simp)]
  · obtain rfl := u2 (by omega)
    have nuf := hbig (by omega)
    unfold magOut roundOut
    rw [if_neg (fun h => by omega)]
    have hov : 9218868437227405312 ≤ 4503599627370496 * Q + (if upP way (decide (w % 2 = 1)) half (rest || decide (r ≠ 0)) = true then w + 1 else w) := by split <;> omega
    rw [if_pos hov]
    unfold magEnd
    rw [if_pos (by omega)]
    have hn : ¬ cm X (1 * c78) rest < 0 := fun h => nuf (huf.1 h)
    rw [if_neg hn]
    by_cases hz : cm X (kv 9218868437227405312 * c26) rest = 0
    · rw [if_pos hz]
      split <;> simp only [or8a]
    · rw [if_neg hz]
      split <;> simp only [or8b]
end Go.Proofs.Ytfglpaaeipblcaa.Pure
