/- The reference's search for the float that stands for a number, in numbers. -/
import Derived.Test.YtfglpaaeipblcaaPFlyballref051
import Derived.Test.YtfglpaaeipblcaaS2
namespace Go.Proofs.Ytfglpaaeipblcaa.Pure
open Go.RowKit Go.Proofs.Ytfglpaaeipblcaa.P Go.Proofs.YtfglpaaeipblcaaW.PrintWords Go.Proofs.YtfglpaaeipblcaaW.PrintLast

/-- A float's m and e by its key; and its value times 2^1074. -/
def sm (K : Nat) : Nat := if K / 4503599627370496 = 0 then K % 4503599627370496 else K % 4503599627370496 + 4503599627370496
def se (K : Nat) : Int := if K / 4503599627370496 = 0 then -1074 else (K / 4503599627370496 : Nat) - 1075
def kv (K : Nat) : Nat := sm K * 2 ^ (se K + 1074).toNat
theorem sm_se (q w : Nat) (hw : w < 9007199254740992) (h : q = 0 ∨ 4503599627370496 ≤ w) : sm (4503599627370496 * q + w) = w ∧ se (4503599627370496 * q + w) = (q : Int) - 1074 := by
  unfold sm se
  by_cases h0 : w < 4503599627370496
  · obtain rfl : q = 0 := by omega
    rw [if_pos (by omega), if_pos (by omega)]
    omega
  · rw [if_neg (by omega), if_neg (by omega)]
    omega
theorem kv_qw (q w : Nat) (hw : w ≤ 9007199254740992) (h : q = 0 ∨ 4503599627370496 ≤ w) : kv (4503599627370496 * q + w) = w * 2 ^ q := by
  by_cases h1 : w < 9007199254740992
  · obtain ⟨a, b⟩ := sm_se q w h1 h
    unfold kv
    rw [a, b]
    congr 2
    omega
  · obtain rfl : w = 9007199254740992 := by omega
    rw [show 4503599627370496 * q + 9007199254740992 = 4503599627370496 * (q + 1) + 4503599627370496 by omega]
    obtain ⟨a, b⟩ := sm_se (q + 1) 4503599627370496 (by omega) (by omega)
    unfold kv
    rw [a, b, show (((q + 1 : Nat) : Int) - 1074 + 1074).toNat = q + 1 by omega, Nat.pow_succ, Nat.mul_comm (2 ^ q) 2, ← Nat.mul_assoc]
theorem qw_of (K : Nat) : ∃ q w, K = 4503599627370496 * q + w ∧ w < 9007199254740992 ∧ (q = 0 ∨ 4503599627370496 ≤ w) := by
  by_cases h : K / 4503599627370496 = 0
  · exact ⟨0, K, by omega, by omega, .inl rfl⟩
  · exact ⟨K / 4503599627370496 - 1, K % 4503599627370496 + 4503599627370496, by omega, by omega, .inr (by omega)⟩
theorem kv_succ (K : Nat) : kv K < kv (K + 1) := by
  obtain ⟨q, w, rfl, hw, h⟩ := qw_of K
  rw [Nat.add_assoc, kv_qw q w (by omega) h, kv_qw q (w + 1) (by omega) (by omega)]
  exact Nat.mul_lt_mul_of_pos_right (by omega) (Nat.two_pow_pos q)
theorem kv_mono {K L : Nat} (h : K ≤ L) : kv K ≤ kv L := by
  induction h with
  | refl => exact Nat.le_refl _
  | step _ ih => exact Nat.le_trans ih (Nat.le_of_lt (kv_succ _))
theorem kv_strict {K L : Nat} (h : K < L) : kv K < kv L := Nat.lt_of_lt_of_le (kv_succ K) (kv_mono h)

/-- Two to the 4926th. -/
def c26 : Nat := 2 ^ 4926
theorem c26_pos : 0 < c26 := by unfold c26; exact Nat.two_pow_pos 4926
theorem pow_c26 (n : Nat) : 2 ^ (n + 4926) = 2 ^ n * c26 := by unfold c26; exact Nat.pow_add 2 n 4926
attribute [irreducible] c26
/-- Two to the 4978th. -/
def c78 : Nat := 2 ^ 4978
theorem pow78 : 2 ^ 4978 = c78 := by unfold c78; rfl
attribute [irreducible] c78

/-- A comparison, of a number that is a little more than X (if rest) with Y. -/
def cm (X Y : Nat) (rest : Bool) : Int := if X < Y then -1 else if Y < X then 1 else if rest then 1 else 0
theorem cm_ge {X Y : Nat} {rest : Bool} : 0 ≤ cm X Y rest ↔ Y ≤ X := by
  unfold cm
  by_cases h : X < Y
  · rw [if_pos h]; omega
  · rw [if_neg h]
    constructor
    · omega
    · intro _
      split
      · omega
      · split <;> omega
theorem cmpN_cm (X Y : Nat) (rest : Bool) : (if cmpN X Y = 0 then (if rest = true then (1 : Int) else cmpN X Y) else cmpN X Y) = cm X Y rest := by
  unfold cmpN cm
  by_cases h : X < Y
  · simp [h]
  · by_cases h2 : Y < X
    · simp [h, h2]
    · cases rest <;> simp [h, h2]
theorem cmpN_scale (x y c : Nat) (hc : 0 < c) : cmpN (x * c) (y * c) = cmpN x y := by
  unfold cmpN
  have a : x * c < y * c ↔ x < y := Nat.mul_lt_mul_right hc
  have b : y * c < x * c ↔ y < x := Nat.mul_lt_mul_right hc
  simp only [a, b]
theorem mn_le (x y : Int) : mn x y ≤ x ∧ mn x y ≤ y ∧ (mn x y = x ∨ mn x y = y) := by unfold mn; split <;> omega

theorem cmp_ev (A B m : List Bool) (E e : Int) (rest : Bool) (hE : -5000 ≤ E ∧ E ≤ 5000) (he : -2000 ≤ e ∧ e ≤ 2000) (hA : A.length < 1000000) (hB : B.length < 1000000) (hm : m.length < 1000000) :
    Ev (fun k => flyballref05_cmp.f k A B E rest m e) (cm (bv A * 2 ^ (E + 6000).toNat) (bv m * bv B * 2 ^ (e + 6000).toNat) rest) := by
  obtain ⟨l1, l2, l3⟩ := mn_le E e
  generalize hlow : mn E e = low at l1 l2 l3
  unfold flyballref05_cmp.f
  rw [hlow, w64 (by omega) (by omega), w64 (by omega) (by omega)]
  obtain ⟨p, hp1, hp2, hp3⟩ := Mul_ev m B (by omega)
  have s1 := Shl_ev A (E - low) (by omega) (by omega)
  have s2 := Shl_ev p (e - low) (by omega) (by omega)
  have c := Cmp_ev (List.replicate (E - low).toNat false ++ A) (List.replicate (e - low).toNat false ++ p) (by simp; omega) (by simp; omega)
  have key : cmpN (bv A * 2 ^ (E - low).toNat) (bv p * 2 ^ (e - low).toNat) = cmpN (bv A * 2 ^ (E + 6000).toNat) (bv m * bv B * 2 ^ (e + 6000).toNat) := by
    rw [← cmpN_scale _ _ (2 ^ (low + 6000).toNat) (Nat.two_pow_pos _), Nat.mul_assoc, Nat.mul_assoc, ← Nat.pow_add, ← Nat.pow_add, hp2]
    rw [show (E - low).toNat + (low + 6000).toNat = (E + 6000).toNat by omega, show (e - low).toNat + (low + 6000).toNat = (e + 6000).toNat by omega]
  rw [bv_shl, bv_shl, key] at c
  refine Ev.bind s1 (Ev.bind hp1 (Ev.bind s2 (Ev.bind c ?_)))
  have f := cmpN_cm (bv A * 2 ^ (E + 6000).toNat) (bv m * bv B * 2 ^ (e + 6000).toNat) rest
  rw [← f]
  by_cases h0 : cmpN (bv A * 2 ^ (E + 6000).toNat) (bv m * bv B * 2 ^ (e + 6000).toNat) = 0
  · refine Ev.pos h0 ?_
    rw [if_pos h0]
    cases rest
    · exact Ev.neg (by simp) (Ev.ret (by simp))
    · exact Ev.pos rfl (Ev.ret (by simp))
  · refine Ev.neg h0 (Ev.ret ?_)
    rw [if_neg h0]

/-! ### split -/
theorem wraps_i64 (n : Int) (h₀ : 0 ≤ n) (h₁ : n < 2 ^ 63) : IntKind.i64.wrap n = n := by rw [IntKind.wrap_i64]; omega
theorem and_frac (x : Int) (h0 : 0 ≤ x) (h1 : x < 9223372036854775808) : Go.bits .and .i64 x 4503599627370495 = x % 4503599627370496 := by
  have := bits_mask .i64 63 (by decide) wraps_i64 52 (by decide) x h0 (by simpa using h1)
  simpa using this
theorem split_ev (K : Nat) (hK : K ≤ 9218868437227405312) : ∃ b, Ev (fun k => flyballref05_split.f k K) (b, se K) ∧ bv b = sm K ∧ b.length = 64 := by
  unfold flyballref05_split.f
  rw [and_frac K (by omega) (by omega)]
  have e : (K : Int) % 4503599627370496 = ((K % 4503599627370496 : Nat) : Int) := by omega
  have e2 : (K : Int) / 4503599627370496 = ((K / 4503599627370496 : Nat) : Int) := by omega
  rw [e, e2, u64i (x := ((K % 4503599627370496 : Nat) : Int)) (by omega) (by omega), u64i (by omega) (by omega)]
  by_cases h : K / 4503599627370496 = 0
  · refine ⟨wbits (K % 4503599627370496) 64, ?_, ?_, wbits_length _ _⟩
    · refine Ev.pos (by omega) ?_
      have := Of1_ev ((K % 4503599627370496 : Nat) : Int) (by omega) (by omega)
      rw [Int.toNat_natCast] at this
      refine Ev.bind this (Ev.ret ?_)
      unfold se
      rw [if_pos h]
    · rw [bv_wbits, Nat.mod_eq_of_lt (by omega)]
      unfold sm
      rw [if_pos h]
  · refine ⟨wbits (K % 4503599627370496 + 4503599627370496) 64, ?_, ?_, wbits_length _ _⟩
    · refine Ev.neg (by omega) ?_
      have := Of1_ev (((K % 4503599627370496 : Nat) : Int) + 4503599627370496) (by omega) (by omega)
      rw [show (((K % 4503599627370496 : Nat) : Int) + 4503599627370496).toNat = K % 4503599627370496 + 4503599627370496 by omega] at this
      refine Ev.bind this (Ev.ret ?_)
      unfold se
      rw [if_neg h, w64 (by omega) (by omega)]
    · rw [bv_wbits, Nat.mod_eq_of_lt (by omega)]
      unfold sm
      rw [if_neg h]
theorem se_bd (K : Nat) (hK : K ≤ 9218868437227405312) : -1074 ≤ se K ∧ se K ≤ 972 := by unfold se; split <;> omega
theorem kv_scale (K U : Nat) (hK : K ≤ 9218868437227405312) : sm K * U * 2 ^ (se K + 6000).toNat = kv K * (U * c26) := by
  have := se_bd K hK
  unfold kv
  rw [show (se K + 6000).toNat = (se K + 1074).toNat + 4926 by omega, pow_c26]
  generalize 2 ^ (se K + 1074).toNat = p
  generalize c26 = c
  rw [Nat.mul_assoc, Nat.mul_assoc, Nat.mul_left_comm U p c]

/-! ### floor -/
theorem floor_l0_ev (A B : List Bool) (E : Int) (rest : Bool) (hE : -5000 ≤ E ∧ E ≤ 5000) (hA : A.length < 1000000) (hB : B.length < 1000000) (X U : Nat)
    (hX : X = bv A * 2 ^ (E + 6000).toNat) (hU : U = bv B * c26) :
    ∀ (d lo hi : Nat), hi = lo + d → hi ≤ 9218868437227405312 → kv lo * U ≤ X → (hi = 9218868437227405312 ∨ X < kv (hi + 1) * U) →
    ∃ K : Nat, Ev (fun k => flyballref05_floor.l0 k lo hi A B E rest) K ∧ K ≤ 9218868437227405312 ∧ kv K * U ≤ X ∧ (K = 9218868437227405312 ∨ X < kv (K + 1) * U) := by
  intro d
  induction d using Nat.strongRecOn with
  | _ d ih =>
    intro lo hi hd hT hlo hhi
    by_cases hlt : lo < hi
    · have e1 : wrap64 ((hi : Int) - lo) = ((d : Nat) : Int) := by rw [w64] <;> omega
      have e2 : wrap64 (Int.tdiv ((d : Nat) : Int) 2) = ((d / 2 : Nat) : Int) := by
        rw [Int.tdiv_eq_ediv_of_nonneg (by omega), w64] <;> omega
      have e3 : wrap64 ((hi : Int) - ((d / 2 : Nat) : Int)) = ((hi - d / 2 : Nat) : Int) := by rw [w64] <;> omega
      have e4 : wrap64 (((hi - d / 2 : Nat) : Int) - 1) = ((hi - d / 2 - 1 : Nat) : Int) := by rw [w64] <;> omega
      obtain ⟨b, hb, hbv, hbl⟩ := split_ev (hi - d / 2) (by omega)
      have hse := se_bd (hi - d / 2) (by omega)
      have hc := cmp_ev A B b E (se (hi - d / 2)) rest hE (by omega) hA hB (by omega)
      rw [hbv, kv_scale _ _ (by omega), ← hX, ← hU] at hc
      by_cases hp : kv (hi - d / 2) * U ≤ X
      · obtain ⟨K, hK, r⟩ := ih (d / 2) (by omega) (hi - d / 2) hi (by omega) hT hp hhi
        refine ⟨K, ?_, r⟩
        refine Ev.step (fun k => by rw [flyballref05_floor.l0]) ?_
        rw [e1, e2, e3]
        refine Ev.pos (by omega) (Ev.bind hb (Ev.bind hc (Ev.pos (cm_ge.2 hp) ?_)))
        exact hK
      · obtain ⟨K, hK, r⟩ := ih (hi - d / 2 - 1 - lo) (by omega) lo (hi - d / 2 - 1) (by omega) (by omega) hlo (.inr (by
          rw [show hi - d / 2 - 1 + 1 = hi - d / 2 by omega]; omega))
        refine ⟨K, ?_, r⟩
        refine Ev.step (fun k => by rw [flyballref05_floor.l0]) ?_
        rw [e1, e2, e3, e4]
        refine Ev.pos (by omega) (Ev.bind hb (Ev.bind hc (Ev.neg (fun h => hp (cm_ge.1 h)) ?_)))
        exact hK
    · obtain rfl : lo = hi := by omega
      refine ⟨lo, ?_, hT, hlo, hhi⟩
      refine Ev.step (fun k => by rw [flyballref05_floor.l0]) ?_
      exact Ev.neg (by omega) (Ev.ret rfl)
theorem floor_ev (A B : List Bool) (E : Int) (rest : Bool) (hE : -5000 ≤ E ∧ E ≤ 5000) (hA : A.length < 1000000) (hB : B.length < 1000000) (X U : Nat)
    (hX : X = bv A * 2 ^ (E + 6000).toNat) (hU : U = bv B * c26) :
    ∃ K : Nat, Ev (fun k => flyballref05_floor.f k A B E rest) K ∧ K ≤ 9218868437227405312 ∧ kv K * U ≤ X ∧ (K = 9218868437227405312 ∨ X < kv (K + 1) * U) :=
  floor_l0_ev A B E rest hE hA hB X U hX hU 9218868437227405312 0 9218868437227405312 (by omega) (Nat.le_refl _) (by simp [kv, sm]) (.inl rfl)
end Go.Proofs.Ytfglpaaeipblcaa.Pure
