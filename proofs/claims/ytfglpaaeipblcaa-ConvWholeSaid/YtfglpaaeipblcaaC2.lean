/- What a float's bits mean; what is ahead of its point; the program's integers of floats. -/
import Derived.Test.YtfglpaaeipblcaaC1
import Derived.Test.YtfglpaaeipblcaaPFlyballref041
namespace Go.Proofs.Ytfglpaaeipblcaa.Pure
open Go.RowKit Go.Proofs.Ytfglpaaeipblcaa.P Go.Proofs.YtfglpaaeipblcaaW.PrintWords Go.Proofs.YtfglpaaeipblcaaW.PrintLast

theorem wf_u64 {x : Int} (h : (Lit.int .u64 x).wf = true) : 0 ≤ x ∧ x < 18446744073709551616 := by
  simp only [Lit.wf, Bool.and_eq_true, decide_eq_true_eq, show IntKind.u64.min = 0 by decide, show IntKind.u64.max = 18446744073709551615 by decide] at h
  omega
theorem wf_i32 {x : Int} (h : (Lit.int .i32 x).wf = true) : -2147483648 ≤ x ∧ x ≤ 2147483647 := by
  simp only [Lit.wf, Bool.and_eq_true, decide_eq_true_eq, show IntKind.i32.min = -2147483648 by decide, show IntKind.i32.max = 2147483647 by decide] at h
  exact h
theorem sgn_of (f : Int) (h0 : 0 ≤ f) (h1 : f < 18446744073709551616) : ∃ (neg : Bool) (K : Nat), K < 9223372036854775808 ∧ f = sgn neg K := by
  by_cases h : f < 9223372036854775808
  · exact ⟨false, f.toNat, by omega, by unfold sgn; rw [if_neg (by simp)]; omega⟩
  · exact ⟨true, (f - 9223372036854775808).toNat, by omega, by unfold sgn; rw [if_pos rfl]; omega⟩
theorem sgn_bd (neg : Bool) (K : Nat) (hK : K < 9223372036854775808) : 0 ≤ sgn neg K ∧ sgn neg K < 18446744073709551616 := by
  unfold sgn; split <;> omega
theorem sgn_nat (neg : Bool) (K : Nat) : sgn neg K = ((K + (if neg = true then 9223372036854775808 else 0) : Nat) : Int) := by
  unfold sgn; split <;> simp
theorem sgn_neg (neg : Bool) (K : Nat) (hK : K < 9223372036854775808) : (sgn neg K / 9223372036854775808 == 1) = neg := by
  unfold sgn
  cases neg
  · simp only [Bool.false_eq_true, if_false]; exact beq_eq_false_iff_ne.2 (by omega)
  · simp only [if_true]; exact beq_iff_eq.2 (by omega)
theorem and2047 (x : Nat) (h : x < 18446744073709551616) : Go.bits .and .u64 (x : Int) 2047 = ((x % 2048 : Nat) : Int) := by
  have := bits_mask .u64 64 (by decide) wraps_u64 11 (by decide) (x : Int) (by omega) (by simpa using (by omega : (x : Int) < 18446744073709551616))
  have e : (x : Int) % 2048 = ((x % 2048 : Nat) : Int) := by omega
  rw [← e]
  simpa using this
theorem PartsP (neg : Bool) (K : Nat) (hK : K < 9223372036854775808) :
    pattern_Parts.f (sgn neg K) = some (neg, ((K / 4503599627370496 : Nat) : Int), ((K % 4503599627370496 : Nat) : Int)) := by
  unfold pattern_Parts.f
  rw [sgn_neg neg K hK, sgn_nat]
  generalize hx : K + (if neg = true then 9223372036854775808 else 0) = x
  have hx2 : x < 18446744073709551616 := by revert hx; split <;> omega
  have e : (x : Int) / 4503599627370496 = ((x / 4503599627370496 : Nat) : Int) := by omega
  rw [e, and2047 _ (by omega), and52 _ hx2, w64 (by omega) (by omega)]
  have a1 : x / 4503599627370496 % 2048 = K / 4503599627370496 := by revert hx; split <;> omega
  have a2 : x % 4503599627370496 = K % 4503599627370496 := by revert hx; split <;> omega
  rw [a1, a2]
theorem Parts4 (neg : Bool) (K : Nat) (hK : K < 9223372036854775808) :
    flyballref04_Parts.f (sgn neg K) = some (neg, ((K / 4503599627370496 : Nat) : Int), ((K % 4503599627370496 : Nat) : Int)) := by
  unfold flyballref04_Parts.f
  have hb := sgn_bd neg K hK
  rw [Int.tdiv_eq_ediv_of_nonneg hb.1, Int.tdiv_eq_ediv_of_nonneg hb.1, Int.tmod_eq_emod_of_nonneg hb.1, u64i (by omega) (by omega), u64i (by omega) (by omega), Int.tmod_eq_emod_of_nonneg (by omega), w64 (by omega) (by omega), sgn_neg neg K hK]
  have a1 : sgn neg K / 4503599627370496 % 2048 = ((K / 4503599627370496 : Nat) : Int) := by unfold sgn; split <;> omega
  have a2 : sgn neg K % 4503599627370496 = ((K % 4503599627370496 : Nat) : Int) := by unfold sgn; split <;> omega
  rw [a1, a2]
/-- The class of a key. -/
def cls (K : Nat) : Int := if K / 4503599627370496 = 2047 then (if K % 4503599627370496 = 0 then 3 else 4) else if K / 4503599627370496 = 0 then (if K % 4503599627370496 = 0 then 0 else 1) else 2
theorem ClassP (neg : Bool) (K : Nat) (hK : K < 9223372036854775808) : Ev (fun k => pattern_Class.f k (sgn neg K)) (cls K) := by
  have hj1 : ∀ b : Bool, b = decide (K / 4503599627370496 = 0 ∧ K % 4503599627370496 = 0) → K / 4503599627370496 ≠ 2047 → Ev (fun k => pattern_Class.j1 k ((K / 4503599627370496 : Nat) : Int) b) (cls K) := by
    intro b hb h7
    subst hb
    refine Ev.step (fun k => by rw [pattern_Class.j1]) ?_
    unfold cls
    rw [if_neg h7]
    by_cases h1 : K / 4503599627370496 = 0
    · rw [if_pos h1]
      by_cases h2 : K % 4503599627370496 = 0
      · rw [if_pos h2]
        exact Ev.pos (decide_eq_true ⟨h1, h2⟩) (Ev.ret rfl)
      · rw [if_neg h2]
        refine Ev.neg (by simp; omega) (Ev.pos (by omega) (Ev.ret rfl))
    · rw [if_neg h1]
      refine Ev.neg (by simp; omega) (Ev.neg (by omega) (Ev.ret rfl))
  have hj0 : ∀ b : Bool, b = decide (K / 4503599627370496 = 2047 ∧ K % 4503599627370496 = 0) → Ev (fun k => pattern_Class.j0 k ((K / 4503599627370496 : Nat) : Int) ((K % 4503599627370496 : Nat) : Int) b) (cls K) := by
    intro b hb
    subst hb
    refine Ev.step (fun k => by rw [pattern_Class.j0]) ?_
    by_cases h7 : K / 4503599627370496 = 2047
    · by_cases h2 : K % 4503599627370496 = 0
      · refine Ev.pos (decide_eq_true ⟨h7, h2⟩) (Ev.ret ?_)
        unfold cls
        rw [if_pos h7, if_pos h2]
      · refine Ev.neg (by simp; omega) (Ev.pos (by omega) (Ev.ret ?_))
        unfold cls
        rw [if_pos h7, if_neg h2]
    · refine Ev.neg (by simp; omega) (Ev.neg (by omega) ?_)
      by_cases h1 : K / 4503599627370496 = 0
      · refine Ev.pos (by omega) (hj1 _ ?_ h7)
        by_cases h2 : K % 4503599627370496 = 0
        · rw [decide_eq_true ⟨h1, h2⟩, h2]; rfl
        · rw [decide_eq_false (by omega)]
          exact beq_eq_false_iff_ne.2 (by omega)
      · exact Ev.neg (by omega) (hj1 _ (by rw [decide_eq_false (by omega)]) h7)
  unfold pattern_Class.f
  refine Ev.bind0 (PartsP neg K hK) ?_
  by_cases h7 : K / 4503599627370496 = 2047
  · refine Ev.pos (by simp only []; omega) (hj0 _ ?_)
    by_cases h2 : K % 4503599627370496 = 0
    · rw [decide_eq_true ⟨h7, h2⟩]; simp only [h2]; rfl
    · rw [decide_eq_false (by omega)]
      exact beq_eq_false_iff_ne.2 (by simp only []; omega)
  · exact Ev.neg (by simp only []; omega) (hj0 _ (by rw [decide_eq_false (by omega)]))
theorem Class4 (neg : Bool) (K : Nat) (hK : K < 9223372036854775808) : Ev (fun k => flyballref04_Class.f k (sgn neg K)) (cls K) := by
  have hj1 : ∀ b : Bool, b = decide (K / 4503599627370496 = 0 ∧ K % 4503599627370496 = 0) → K / 4503599627370496 ≠ 2047 → Ev (fun k => flyballref04_Class.j1 k ((K / 4503599627370496 : Nat) : Int) b) (cls K) := by
    intro b hb h7
    subst hb
    refine Ev.step (fun k => by rw [flyballref04_Class.j1]) ?_
    unfold cls
    rw [if_neg h7]
    by_cases h1 : K / 4503599627370496 = 0
    · rw [if_pos h1]
      by_cases h2 : K % 4503599627370496 = 0
      · rw [if_pos h2]
        exact Ev.pos (decide_eq_true ⟨h1, h2⟩) (Ev.ret rfl)
      · rw [if_neg h2]
        refine Ev.neg (by simp; omega) (Ev.pos (by omega) (Ev.ret rfl))
    · rw [if_neg h1]
      refine Ev.neg (by simp; omega) (Ev.neg (by omega) (Ev.ret rfl))
  have hj0 : ∀ b : Bool, b = decide (K / 4503599627370496 = 2047 ∧ K % 4503599627370496 = 0) → Ev (fun k => flyballref04_Class.j0 k ((K / 4503599627370496 : Nat) : Int) ((K % 4503599627370496 : Nat) : Int) b) (cls K) := by
    intro b hb
    subst hb
    refine Ev.step (fun k => by rw [flyballref04_Class.j0]) ?_
    by_cases h7 : K / 4503599627370496 = 2047
    · by_cases h2 : K % 4503599627370496 = 0
      · refine Ev.pos (decide_eq_true ⟨h7, h2⟩) (Ev.ret ?_)
        unfold cls
        rw [if_pos h7, if_pos h2]
      · refine Ev.neg (by simp; omega) (Ev.pos (by omega) (Ev.ret ?_))
        unfold cls
        rw [if_pos h7, if_neg h2]
    · refine Ev.neg (by simp; omega) (Ev.neg (by omega) ?_)
      by_cases h1 : K / 4503599627370496 = 0
      · refine Ev.pos (by omega) (hj1 _ ?_ h7)
        by_cases h2 : K % 4503599627370496 = 0
        · rw [decide_eq_true ⟨h1, h2⟩, h2]; rfl
        · rw [decide_eq_false (by omega)]
          exact beq_eq_false_iff_ne.2 (by omega)
      · exact Ev.neg (by omega) (hj1 _ (by rw [decide_eq_false (by omega)]) h7)
  unfold flyballref04_Class.f
  refine Ev.bind0 (Parts4 neg K hK) ?_
  by_cases h7 : K / 4503599627370496 = 2047
  · refine Ev.pos (by simp only []; omega) (hj0 _ ?_)
    by_cases h2 : K % 4503599627370496 = 0
    · rw [decide_eq_true ⟨h7, h2⟩]; simp only [h2]; rfl
    · rw [decide_eq_false (by omega)]
      exact beq_eq_false_iff_ne.2 (by simp only []; omega)
  · exact Ev.neg (by simp only []; omega) (hj0 _ (by rw [decide_eq_false (by omega)]))
theorem cls_fin (K : Nat) (hK : K < 9218868437227405312) : cls K = 0 ∧ K = 0 ∨ cls K = 1 ∧ K / 4503599627370496 = 0 ∧ K ≠ 0 ∨ cls K = 2 ∧ K / 4503599627370496 ≠ 0 := by
  unfold cls
  rw [if_neg (by omega)]
  by_cases h1 : K / 4503599627370496 = 0
  · rw [if_pos h1]
    by_cases h2 : K % 4503599627370496 = 0
    · rw [if_pos h2]; omega
    · rw [if_neg h2]; omega
  · rw [if_neg h1]; omega
theorem cls_inf (K : Nat) (hK : K < 9223372036854775808) (h : ¬ K < 9218868437227405312) : cls K = 3 ∨ cls K = 4 := by
  unfold cls
  rw [if_pos (by omega)]
  split <;> simp
/-- The exponent of a split float. -/
def sx (K : Nat) : Int := if K = 0 then 0 else se K
theorem SplitP (neg : Bool) (K : Nat) (hK : K < 9218868437227405312) : Ev (fun k => pattern_Split.f k (sgn neg K)) (((sm K : Nat) : Int), sx K) := by
  unfold pattern_Split.f
  refine Ev.bind0 (PartsP neg K (by omega)) (Ev.bind (ClassP neg K (by omega)) ?_)
  unfold sx
  rcases cls_fin K hK with ⟨c, h⟩ | ⟨c, h, h2⟩ | ⟨c, h⟩
  · rw [c]
    refine Ev.neg (by decide) (Ev.neg (by decide) (Ev.ret ?_))
    subst h
    rfl
  · rw [c]
    refine Ev.neg (by decide) (Ev.pos rfl (Ev.ret ?_))
    rw [if_neg h2]
    unfold sm se
    rw [if_pos h, if_pos h]
  · rw [c]
    refine Ev.pos rfl (Ev.ret ?_)
    rw [if_neg (by omega)]
    unfold sm se
    rw [if_neg h, if_neg h]
    have j2 : 4503599627370496 * 1 ||| (K % 4503599627370496) = 4503599627370496 * 1 + (K % 4503599627370496) := or_join 1 _ 52 (by simp; omega)
    have o := or64 4503599627370496 (K % 4503599627370496) (by omega) (by omega)
    rw [Nat.mul_one] at j2
    rw [j2] at o
    have o2 : Go.bits .or .u64 4503599627370496 ((K % 4503599627370496 : Nat) : Int) = ((4503599627370496 + K % 4503599627370496 : Nat) : Int) := o
    simp only []
    rw [o2, w64 (by omega) (by omega), Nat.add_comm]
theorem Split4 (neg : Bool) (K : Nat) (hK : K < 9218868437227405312) : Ev (fun k => flyballref04_Split.f k (sgn neg K)) (((sm K : Nat) : Int), sx K) := by
  unfold flyballref04_Split.f
  refine Ev.bind0 (Parts4 neg K (by omega)) (Ev.bind (Class4 neg K (by omega)) ?_)
  unfold sx
  rcases cls_fin K hK with ⟨c, h⟩ | ⟨c, h, h2⟩ | ⟨c, h⟩
  · rw [c]
    refine Ev.neg (by decide) (Ev.neg (by decide) (Ev.ret ?_))
    subst h
    rfl
  · rw [c]
    refine Ev.neg (by decide) (Ev.pos rfl (Ev.ret ?_))
    rw [if_neg h2]
    unfold sm se
    rw [if_pos h, if_pos h]
  · rw [c]
    refine Ev.pos rfl (Ev.ret ?_)
    rw [if_neg (by omega)]
    unfold sm se
    rw [if_neg h, if_neg h]
    simp only []
    rw [u64i (by omega) (by omega), w64 (by omega) (by omega)]
    congr 1
    omega
theorem sm_lt (K : Nat) : sm K < 9007199254740992 := by unfold sm; split <;> omega

/-! ### ahead of the point -/
/-- Two to the 1073rd. -/
def c73 : Nat := 2 ^ 1073
theorem pow_c73 : 2 ^ 1073 = c73 := by unfold c73; rfl
theorem c73_pos : 0 < c73 := by unfold c73; exact Nat.two_pow_pos 1073
attribute [irreducible] c73
theorem pow_c74 (n : Nat) : 2 ^ (n + 1074) = 2 ^ n * (2 * c73) := by
  rw [show n + 1074 = n + 1 + 1073 by omega, Nat.pow_add 2 (n + 1) 1073, pow_c73, Nat.pow_succ, Nat.mul_assoc]
theorem pow_split (a b : Nat) (h : a + b = 1073) : c73 = 2 ^ a * 2 ^ b := by rw [← Nat.pow_add, h, pow_c73]
theorem mod_two (V c : Nat) : V % (2 * c) = c * (V / c % 2) + V % c := by
  rw [Nat.mul_comm 2 c, Nat.mod_mul, Nat.add_comm]
theorem between_eq (V c : Nat) (hc : 0 < c) : (decide (V / c % 2 = 1) || decide (V % c ≠ 0)) = decide (V % (2 * c) ≠ 0) := by
  rw [mod_two]
  by_cases h1 : V / c % 2 = 1
  · rw [h1]
    simp only [decide_true, Bool.true_or]
    exact (decide_eq_true (by omega)).symm
  · rw [show V / c % 2 = 0 by omega]
    simp
theorem kv_zero : kv 0 = 0 := by simp [kv, sm]
theorem kv_of (K : Nat) (h : K ≠ 0) (d : Nat) (hd : sx K = (d : Int) - 1074) : kv K = sm K * 2 ^ d := by
  unfold sx at hd
  rw [if_neg h] at hd
  unfold kv
  congr 2
  omega
/-- What cut comes to. -/
theorem cut_ev (neg : Bool) (K : Nat) (hK : K < 9218868437227405312) : ∃ (hi lo : Int) (half more ok : Bool), Ev (fun k => conv_cut.f k (sgn neg K)) (hi, lo, half, more, ok) ∧ ok = decide (kv K / (2 * c73) < 18446744073709551616) ∧
    (ok = true → hi = 0 ∧ lo = ((kv K / (2 * c73) : Nat) : Int) ∧ half = decide (kv K / c73 % 2 = 1) ∧ more = decide (kv K % c73 ≠ 0)) := by
  have hm := sm_lt K
  have hc := c73_pos
  by_cases h0 : K = 0
  · subst h0
    refine ⟨0, 0, false, false, true, ?_, ?_, ?_⟩
    · unfold conv_cut.f
      refine Ev.bind (SplitP neg 0 hK) (Ev.neg (by simp [sx]) (Ev.pos (by simp [sx]) ?_))
      have := UShl 0 0 (by omega) (by omega)
      exact Ev.bind this (Ev.ret rfl)
    · rw [kv_zero, Nat.zero_div]; rfl
    · intro _
      rw [kv_zero, Nat.zero_div, Nat.zero_div, Nat.zero_mod]
      exact ⟨rfl, rfl, rfl, rfl⟩
  · have hsx : sx K = se K := if_neg h0
    have hse := se_bd K (by omega)
    unfold conv_cut.f
    by_cases h64 : sx K > 64
    · refine ⟨0, _, false, false, false, Ev.bind (SplitP neg K hK) (Ev.pos h64 (Ev.ret rfl)), ?_, by simp⟩
      obtain ⟨d, hd⟩ : ∃ d : Nat, sx K = ((d + 1074 : Nat) : Int) - 1074 := ⟨(sx K).toNat, by omega⟩
      rw [kv_of K h0 _ hd, pow_c74, ← Nat.mul_assoc, Nat.mul_div_cancel _ (by omega)]
      symm
      refine decide_eq_false ?_
      have h1 : 4503599627370496 ≤ sm K := by
        unfold sm
        unfold se at hsx
        rw [hsx] at h64
        split
        · rw [if_pos (by assumption)] at h64; omega
        · omega
      have h2 : 2 ^ 64 ≤ 2 ^ d := Nat.pow_le_pow_right (by decide) (by omega)
      have h3 : 1 * 2 ^ d ≤ sm K * 2 ^ d := Nat.mul_le_mul_right _ (by omega)
      simp only [Nat.reducePow] at h2
      omega
    · by_cases hp : sx K ≥ 0
      · obtain ⟨d, hd⟩ : ∃ d : Nat, sx K = (d : Int) := ⟨(sx K).toNat, by omega⟩
        have hkv : kv K / (2 * c73) = sm K * 2 ^ d := by
          rw [kv_of K h0 (d + 1074) (by omega), pow_c74, ← Nat.mul_assoc, Nat.mul_div_cancel _ (by omega)]
        have hbig : sm K * 2 ^ d < 340282366920938463463374607431768211456 := by
          have h2 : 2 ^ d ≤ 2 ^ 64 := Nat.pow_le_pow_right (by decide) (by omega)
          have h3 := Nat.mul_le_mul (Nat.le_of_lt hm) h2
          simp only [Nat.reducePow] at h3
          omega
        have s := UShl (sm K) d (by omega) (by omega)
        rw [Nat.div_eq_of_lt (a := sm K) (by omega), Nat.mod_eq_of_lt (a := sm K) (by omega), Nat.mod_eq_of_lt (a := sm K * 2 ^ d / 18446744073709551616) (by omega)] at s
        refine ⟨_, _, false, false, _, Ev.bind (SplitP neg K hK) (Ev.neg h64 (Ev.pos hp (Ev.bind (by rw [hd]; exact s) (Ev.ret rfl)))), ?_, ?_⟩
        · rw [hkv]
          by_cases hh : sm K * 2 ^ d < 18446744073709551616
          · rw [decide_eq_true hh, Nat.div_eq_of_lt hh]; rfl
          · rw [decide_eq_false hh]
            exact beq_eq_false_iff_ne.2 (by simp only []; omega)
        · intro hok
          have hok2 : ((sm K * 2 ^ d / 18446744073709551616 : Nat) : Int) = 0 := beq_iff_eq.1 hok
          rw [hkv]
          refine ⟨hok2, by rw [Nat.mod_eq_of_lt (by omega)], ?_, ?_⟩
          · symm
            refine decide_eq_false ?_
            rw [kv_of K h0 (d + 1074) (by omega), pow_c74, Nat.mul_comm 2 c73, ← Nat.mul_assoc, Nat.mul_left_comm, Nat.mul_div_cancel_left _ hc]
            generalize sm K * 2 ^ d = y
            have : sm K * (2 ^ d * 2) = sm K * 2 ^ d * 2 := (Nat.mul_assoc _ _ _).symm
            omega
          · symm
            refine decide_eq_false ?_
            rw [kv_of K h0 (d + 1074) (by omega), pow_c74, Nat.mul_comm 2 c73, ← Nat.mul_assoc, Nat.mul_left_comm, Nat.mul_mod_right]
            simp
      · obtain ⟨d, hd⟩ : ∃ d : Nat, sx K = -((d + 1 : Nat) : Int) := ⟨(-sx K - 1).toNat, by omega⟩
        have hd2 : d ≤ 1073 := by omega
        have hkv : kv K = sm K * 2 ^ (1073 - d) := kv_of K h0 _ (by omega)
        have hc3 : c73 = 2 ^ d * 2 ^ (1073 - d) := pow_split _ _ (by omega)
        have hpp : 0 < 2 ^ (1073 - d) := Nat.two_pow_pos _
        have e1 : wrap64 (wrap64 (-sx K) - 1) = (d : Int) := by rw [w64 (x := -sx K) (by omega) (by omega), w64 (by omega) (by omega)]; omega
        have s1 := UShr (sm K) d (by omega) (by omega)
        rw [Nat.div_eq_of_lt (a := sm K) (by omega), Nat.mod_eq_of_lt (a := sm K) (by omega)] at s1
        have hq : sm K / 2 ^ d < 9007199254740992 := Nat.lt_of_le_of_lt (Nat.div_le_self _ _) hm
        have s2 := UShr (sm K / 2 ^ d) 1 (by omega) (by omega)
        refine ⟨_, _, _, _, true, Ev.bind (SplitP neg K hK) (Ev.neg h64 (Ev.neg hp (Ev.bind (by rw [e1]; exact s1) (Ev.bind s2 (Ev.ret rfl))))), ?_, ?_⟩
        · symm
          refine decide_eq_true ?_
          have a1 : kv K / (2 * c73) = kv K / c73 / 2 := by rw [Nat.mul_comm, Nat.div_div_eq_div_mul]
          rw [a1, hkv, hc3, Nat.mul_div_mul_right _ _ hpp]
          omega
        · intro _
          have a1 : kv K / (2 * c73) = kv K / c73 / 2 := by rw [Nat.mul_comm, Nat.div_div_eq_div_mul]
          have a2 : kv K / c73 = sm K / 2 ^ d := by rw [hkv, hc3, Nat.mul_div_mul_right _ _ hpp]
          have a3 : kv K % c73 = sm K % 2 ^ d * 2 ^ (1073 - d) := by rw [hkv, hc3, Nat.mul_mod_mul_right]
          rw [a1, a2, a3, and1 _ (Nat.mod_lt _ (by decide))]
          refine ⟨?_, ?_, ?_, ?_⟩
          · rw [Nat.pow_one, Nat.div_eq_of_lt (a := sm K / 2 ^ d / 2) (by omega)]; rfl
          · rw [Nat.pow_one, Nat.mod_eq_of_lt (a := sm K / 2 ^ d / 2) (by omega)]
          · exact decide_eq_decide.2 (by omega)
          · refine decide_eq_decide.2 ?_
            constructor
            · intro hne h
              exact hne ((Nat.mul_eq_zero.1 h).resolve_right (by omega))
            · intro hne h
              exact hne (by rw [h, Nat.zero_mul])
/-- A float as an integer of s bits. -/
def toOut (neg : Bool) (V s : Nat) : Int × Int :=
  if 2 ^ (s - 1) < V / (2 * c73) ∨ V / (2 * c73) = 2 ^ (s - 1) ∧ neg = false then (0, 16) else ((if neg = true then -((V / (2 * c73) : Nat) : Int) else ((V / (2 * c73) : Nat) : Int)), if V % (2 * c73) ≠ 0 then 1 else 0)
theorem to_ev (neg : Bool) (K : Nat) (hK : K < 9218868437227405312) (s : Nat) (hs : 1 ≤ s ∧ s ≤ 64) : Ev (fun k => conv_to.f k (sgn neg K) s) (toOut neg (kv K) s) := by
  obtain ⟨hi, lo, half, more, ok, hcut, hok, hif⟩ := cut_ev neg K hK
  have hc := c73_pos
  have hpow : 2 ^ (s - 1) ≤ 9223372036854775808 := by
    have : 2 ^ (s - 1) ≤ 2 ^ 63 := Nat.pow_le_pow_right (by decide) (by omega)
    simpa using this
  have e1 : wrap64 ((s : Int) - 1) = ((s - 1 : Nat) : Int) := by rw [w64] <;> omega
  have e2 : shl .u64 1 ((s - 1 : Nat) : Int) = ((2 ^ (s - 1) : Nat) : Int) := by
    have := shl64 1 (s - 1) (by omega)
    rw [Nat.one_mul, Nat.mod_eq_of_lt (by omega)] at this
    exact this
  have bad : ∀ a b c d e : Bool, ∀ x y : Int, e = true → Ev (fun k => conv_to.j1 k a b c e x y) (0, 16) := by
    intro a b c d e x y he
    refine Ev.step (fun k => by rw [conv_to.j1]) ?_
    exact Ev.pos he (Ev.ret rfl)
  have hj : Ev (fun k => conv_to.j0 k (sgn neg K) s neg false) (toOut neg (kv K) s) := by
    refine Ev.step (fun k => by rw [conv_to.j0]) ?_
    rw [e1, e2]
    refine Ev.neg (by simp) (Ev.bind hcut (Ev.pos (by omega) ?_))
    by_cases hk : ok = true
    · obtain ⟨r1, r2, r3, r4⟩ := hif hk
      have hV : kv K / (2 * c73) < 18446744073709551616 := of_decide_eq_true (hok ▸ hk)
      have hbt := between_eq (kv K) c73 hc
      rw [← r3, ← r4] at hbt
      unfold toOut
      generalize hM : kv K / (2 * c73) = M at *
      subst r2
      have good : ¬ (2 ^ (s - 1) < M ∨ M = 2 ^ (s - 1) ∧ neg = false) → ∀ e : Bool, e = false → Ev (fun k => conv_to.j1 k neg half more e hi M) ((if neg = true then -((M : Nat) : Int) else ((M : Nat) : Int)), if kv K % (2 * c73) ≠ 0 then 1 else 0) := by
        intro hng e he
        have hsgn : ∀ fl : Int, Ev (fun _ : Nat => if neg = true then some (wrap64 (IntKind.u64.wrap (-(M : Int))), fl) else some (wrap64 (M : Int), fl)) ((if neg = true then -((M : Nat) : Int) else ((M : Nat) : Int)), fl) := by
          intro fl
          cases neg
          · refine Ev.neg (by simp) (Ev.ret ?_)
            rw [if_neg (by simp), w64 (by omega) (by simp at hng; omega)]
          · refine Ev.pos rfl (Ev.ret ?_)
            rw [if_pos rfl, u64w]
            congr 1
            unfold wrap64
            simp at hng
            omega
        have hj2 : ∀ b : Bool, Ev (fun k => conv_to.j2 k neg 0 b hi M) ((if neg = true then -((M : Nat) : Int) else ((M : Nat) : Int)), if b = true then 1 else 0) := by
          intro b
          refine Ev.step (fun k => by rw [conv_to.j2]) ?_
          cases b
          · exact Ev.neg (by simp) (hsgn 0)
          · exact Ev.pos rfl (hsgn 1)
        have hfl : (if kv K % (2 * c73) ≠ 0 then (1 : Int) else 0) = if (half || more) = true then 1 else 0 := by
          rw [hbt]; simp only [decide_eq_true_eq]
        rw [hfl]
        refine Ev.step (fun k => by rw [conv_to.j1]) ?_
        refine Ev.neg (by rw [he]; simp) ?_
        cases half
        · exact Ev.neg (by simp) (hj2 more)
        · exact Ev.pos rfl (hj2 true)
      refine Ev.pos hk ?_
      by_cases h1 : 2 ^ (s - 1) < M
      · rw [if_pos (.inl h1)]
        exact Ev.pos (by simp only []; omega) (bad _ _ _ true _ _ _ rfl)
      · refine Ev.neg (by simp only []; omega) ?_
        by_cases h2 : M = 2 ^ (s - 1)
        · refine Ev.pos (by simp only []; omega) ?_
          cases neg
          · rw [if_pos (.inr ⟨h2, rfl⟩)]
            exact bad _ _ _ true _ _ _ rfl
          · rw [if_neg (by simp; omega)]
            exact good (by simp; omega) _ rfl
        · rw [if_neg (by omega)]
          exact Ev.neg (by simp only []; omega) (good (by omega) _ rfl)
    · refine Ev.neg hk ?_
      have hV : ¬ kv K / (2 * c73) < 18446744073709551616 := fun h => hk (by rw [hok]; exact decide_eq_true h)
      unfold toOut
      rw [if_pos (.inl (by omega))]
      exact bad _ _ _ true _ _ _ rfl
  unfold conv_to.f
  rw [sgn_neg neg K (by omega)]
  refine Ev.bind (ClassP neg K (by omega)) ?_
  have hcl : cls K ≠ 3 ∧ cls K ≠ 4 := by
    rcases cls_fin K hK with ⟨c, h⟩ | ⟨c, h, h2⟩ | ⟨c, h⟩ <;> rw [c] <;> decide
  refine Ev.neg hcl.1 ?_
  rw [show (cls K == 4) = false from beq_eq_false_iff_ne.2 hcl.2]
  exact hj
theorem to_inf (neg : Bool) (K : Nat) (hK : K < 9223372036854775808) (h : ¬ K < 9218868437227405312) (s : Int) : Ev (fun k => conv_to.f k (sgn neg K) s) (0, 16) := by
  have hj : Ev (fun k => conv_to.j0 k (sgn neg K) s neg true) (0, 16) := by
    refine Ev.step (fun k => by rw [conv_to.j0]) ?_
    exact Ev.pos rfl (Ev.ret rfl)
  unfold conv_to.f
  rw [sgn_neg neg K hK]
  refine Ev.bind (ClassP neg K hK) ?_
  rcases cls_inf K hK h with c | c
  · rw [c]; exact Ev.pos rfl hj
  · rw [c]; exact Ev.neg (by decide) hj
end Go.Proofs.Ytfglpaaeipblcaa.Pure
