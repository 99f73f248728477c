/- Rounding rises with the number. -/
import Derived.Test.YtfglpaaeipblcaaPRound3
import Derived.Test.YtfglpaaeipblcaaQ2
import Derived.Test.YtfglpaaeipblcaaP2
namespace Go.Proofs.Ytfglpaaeipblcaa.Pure
open Go.RowKit Go.Proofs.Ytfglpaaeipblcaa.P Go.Proofs.YtfglpaaeipblcaaW.PrintWords Go.Proofs.YtfglpaaeipblcaaW.PrintLast

theorem magOut_scale (X U B : Nat) (rest : Bool) (K : Nat) (way : Int) {c : Nat} (hc : 0 < c) : magOut (X * c) (U * c) (B * c) rest K way = magOut X U B rest K way := by
  have e1 : kv K * (U * c) = kv K * U * c := by ac_rfl
  have e2 : (2 * sm K + 1) * (B * c) * 2 ^ (se K + 5999).toNat = (2 * sm K + 1) * B * 2 ^ (se K + 5999).toNat * c := by ac_rfl
  have e3 : B * c * c78 = B * c78 * c := by ac_rfl
  unfold magOut upB
  rw [e1, e2, e3, cm_scale _ _ _ _ hc, cm_scale _ _ _ _ hc, cm_scale _ _ _ _ hc]
theorem IsFloor.scale {N D K c : Nat} (hc : 0 < c) (h : IsFloor N D K) : IsFloor (N * c) (D * c) K := by
  obtain ⟨h0, h1, h2⟩ := h
  have e1 : ∀ x : Nat, x * (D * c * c26) = x * (D * c26) * c := fun x => by ac_rfl
  have e2 : N * c * c60 = N * c60 * c := by ac_rfl
  refine ⟨h0, ?_, ?_⟩
  · rw [e1, e2]; exact Nat.mul_le_mul_right _ h1
  · rcases h2 with h2 | h2
    · exact .inl h2
    · rw [e1, e2]; exact .inr (Nat.mul_lt_mul_of_pos_right h2 hc)
theorem rnd_scale (neg : Bool) (N D K : Nat) (mode : Int) {c : Nat} (hc : 0 < c) : rnd neg (N * c) (D * c) K mode = rnd neg N D K mode := by
  have e1 : N * c * c60 = N * c60 * c := by ac_rfl
  have e2 : D * c * c26 = D * c26 * c := by ac_rfl
  unfold rnd
  rw [e1, e2, magOut_scale _ _ _ _ _ _ hc]
theorem cm_mono {X Y Z : Nat} (h : X ≤ Y) : cm X Z false ≤ cm Y Z false := by
  unfold cm
  repeat' split
  all_goals omega
theorem cm_val (X Z : Nat) : cm X Z false = -1 ∨ cm X Z false = 0 ∨ cm X Z false = 1 := by
  unfold cm
  repeat' split
  all_goals simp_all
theorem magEnd_mono {a b : Nat} (f g way way2 : Int) (h : a ≤ b) (hw : way = 2 ∨ way2 ≠ 2) : (magEnd a f way).1 ≤ (magEnd b g way2).1 := by
  unfold magEnd
  repeat' split
  all_goals simp only []
  all_goals omega
/-- The key ahead of the end. -/
def preK (X U B K : Nat) (way : Int) : Nat := if K < 9218868437227405312 ∧ upB X B false K (decide (cm X (kv K * U) false = 0)) way = true then K + 1 else K
theorem magOut_pre (X U B K : Nat) (way : Int) : ∃ f, (magOut X U B false K way).1 = (magEnd (preK X U B K way) f way).1 := ⟨_, rfl⟩
theorem pre_bd (X U B K : Nat) (way : Int) : K ≤ preK X U B K way ∧ preK X U B K way ≤ K + 1 := by
  unfold preK
  split <;> omega
theorem up_mono {X Y U B K : Nat} (h : X ≤ Y) (hX : kv K * U ≤ X) (way : Int) (hu : upB X B false K (decide (cm X (kv K * U) false = 0)) way = true) : upB Y B false K (decide (cm Y (kv K * U) false = 0)) way = true := by
  unfold upB at hu ⊢
  have m1 := cm_mono (Z := kv K * U) h
  have m2 := cm_mono (Z := (2 * sm K + 1) * B * 2 ^ (se K + 5999).toNat) h
  have v1 := cm_val X (kv K * U)
  have v3 := cm_val Y (kv K * U)
  have v2 : 0 ≤ cm X (kv K * U) false := cm_ge.2 hX
  generalize cm X (kv K * U) false = a at *
  generalize cm Y (kv K * U) false = b at *
  generalize cm X ((2 * sm K + 1) * B * 2 ^ (se K + 5999).toNat) false = c at *
  generalize cm Y ((2 * sm K + 1) * B * 2 ^ (se K + 5999).toNat) false = d at *
  clear hX h
  split at hu
  · rename_i h1
    rw [if_pos h1]
    simp only [Bool.not_eq_true', decide_eq_false_iff_not] at hu ⊢
    omega
  · rename_i h1
    rw [if_neg h1]
    split at hu
    · exact absurd hu (by simp)
    · rename_i h2
      rw [if_neg h2]
      simp only [Bool.or_eq_true, Bool.and_eq_true, decide_eq_true_eq] at hu ⊢
      rcases hu with hu | ⟨hu, ho⟩
      · left; omega
      · by_cases hd : d = 0
        · exact .inr ⟨hd, ho⟩
        · left; omega
theorem pre_mono {X Y D K L : Nat} (h : X ≤ Y) (hX : kv K * (D * c26) ≤ X) (hY : L = 9218868437227405312 ∨ Y < kv (L + 1) * (D * c26)) (hK : K ≤ 9218868437227405312) (hL : L ≤ 9218868437227405312) (way : Int) :
    preK X (D * c26) D K way ≤ preK Y (D * c26) D L way := by
  have b1 := pre_bd X (D * c26) D K way
  have b2 := pre_bd Y (D * c26) D L way
  have hKL : K ≤ L := by
    rcases hY with hY | hY
    · omega
    · apply Nat.le_of_not_lt
      intro hlt
      have := Nat.mul_le_mul_right (D * c26) (kv_mono (show L + 1 ≤ K by omega))
      omega
  by_cases he : K = L
  · subst he
    unfold preK
    by_cases hu : K < 9218868437227405312 ∧ upB X D false K (decide (cm X (kv K * (D * c26)) false = 0)) way = true
    · rw [if_pos hu, if_pos ⟨hu.1, up_mono h hX way hu.2⟩]
      exact Nat.le_refl _
    · rw [if_neg hu]
      split <;> omega
  · omega
/-- The rounded key of a number, with a sign. -/
def rkey (neg : Bool) (N D K : Nat) (mode : Int) : Int := if neg = true then -(magOut (N * c60) (D * c26) D false K (wayOf neg mode)).1 else (magOut (N * c60) (D * c26) D false K (wayOf neg mode)).1
theorem mag_mono {N M D K L : Nat} (h : N ≤ M) (hK : IsFloor N D K) (hL : IsFloor M D L) (way : Int) :
    (magOut (N * c60) (D * c26) D false K way).1 ≤ (magOut (M * c60) (D * c26) D false L way).1 := by
  obtain ⟨f, e1⟩ := magOut_pre (N * c60) (D * c26) D K way
  obtain ⟨g, e2⟩ := magOut_pre (M * c60) (D * c26) D L way
  rw [e1, e2]
  refine magEnd_mono _ _ _ _ (pre_mono (Nat.mul_le_mul_right _ h) hK.2.1 hL.2.2 hK.1 hL.1 way) ?_
  omega
theorem mag_cross {N M D E K L : Nat} (hD : 0 < D) (hE : 0 < E) (h : N * E ≤ M * D) (hK : IsFloor N D K) (hL : IsFloor M E L) (way : Int) :
    (magOut (N * c60) (D * c26) D false K way).1 ≤ (magOut (M * c60) (E * c26) E false L way).1 := by
  have k1 := hK.scale hE
  have l1 := hL.scale hD
  rw [Nat.mul_comm E D] at l1
  have m := mag_mono h k1 l1 way
  have e1 : N * E * c60 = N * c60 * E := by ac_rfl
  have e2 : D * E * c26 = D * c26 * E := by ac_rfl
  have e3 : M * D * c60 = M * c60 * D := by ac_rfl
  have e4 : D * E * c26 = E * c26 * D := by ac_rfl
  have s1 := magOut_scale (N * c60) (D * c26) D false K way hE
  have s2 := magOut_scale (M * c60) (E * c26) E false L way hD
  rw [← e1, ← e2] at s1
  rw [← e3, ← e4, Nat.mul_comm E D] at s2
  rw [s1, s2] at m
  exact m
theorem up_way {X D K : Nat} (hD : 0 < D) (hK : K < 9218868437227405312) (hX : kv K * (D * c26) ≤ X) (h : upB X D false K (decide (cm X (kv K * (D * c26)) false = 0)) 0 = true) : upB X D false K (decide (cm X (kv K * (D * c26)) false = 0)) 1 = true := by
  by_cases he : X = kv K * (D * c26)
  · have m := congrArg Prod.fst (magOut_exact hD hK he 0)
    unfold magOut at m
    rw [h] at m
    rw [if_pos ⟨hK, rfl⟩] at m
    unfold magEnd at m
    exfalso
    split at m
    · rw [if_neg (by decide)] at m
      simp only [] at m
      omega
    · simp only [] at m
      omega
  · unfold upB
    rw [if_pos rfl]
    have : cm X (kv K * (D * c26)) false = 1 := by
      unfold cm
      rw [if_neg (by omega), if_pos (by omega)]
    rw [this]
    rfl
theorem mag_way {N D K : Nat} (hD : 0 < D) (hK : IsFloor N D K) :
    (magOut (N * c60) (D * c26) D false K 2).1 ≤ (magOut (N * c60) (D * c26) D false K 0).1 ∧ (magOut (N * c60) (D * c26) D false K 0).1 ≤ (magOut (N * c60) (D * c26) D false K 1).1 := by
  obtain ⟨f, e1⟩ := magOut_pre (N * c60) (D * c26) D K 2
  obtain ⟨g, e2⟩ := magOut_pre (N * c60) (D * c26) D K 0
  obtain ⟨i, e3⟩ := magOut_pre (N * c60) (D * c26) D K 1
  rw [e1, e2, e3]
  have h2 : preK (N * c60) (D * c26) D K 2 = K := by
    unfold preK upB
    rw [if_neg (by simp)]
  constructor
  · refine magEnd_mono _ _ _ _ ?_ (.inl rfl)
    rw [h2]
    exact (pre_bd _ _ _ _ _).1
  · refine magEnd_mono _ _ _ _ ?_ (.inr (by decide))
    unfold preK
    by_cases hu : K < 9218868437227405312 ∧ upB (N * c60) D false K (decide (cm (N * c60) (kv K * (D * c26)) false = 0)) 0 = true
    · rw [if_pos hu, if_pos ⟨hu.1, up_way hD hu.1 hK.2.1 hu.2⟩]
      exact Nat.le_refl _
    · rw [if_neg hu]
      split <;> omega
theorem mag_pos {N D K : Nat} (hK : IsFloor N D K) (way : Int) : 0 ≤ (magOut (N * c60) (D * c26) D false K way).1 := by
  obtain ⟨L, h, _⟩ := magOut_bd (N * c60) (D * c26) D false K way hK.1
  omega
theorem mkRat_le {a b : Int} {d e : Nat} (hd : 0 < d) (he : 0 < e) : mkRat a d ≤ mkRat b e ↔ a * (e : Int) ≤ b * (d : Int) := by
  obtain ⟨x, hx⟩ : ∃ v, v = mkRat a d := ⟨_, rfl⟩
  obtain ⟨y, hy⟩ : ∃ v, v = mkRat b e := ⟨_, rfl⟩
  have px := (Rat.mkRat_eq_iff (by omega : d ≠ 0) x.den_nz).1 (hx.symm.trans (Rat.mkRat_self x).symm)
  have py := (Rat.mkRat_eq_iff (by omega : e ≠ 0) y.den_nz).1 (hy.symm.trans (Rat.mkRat_self y).symm)
  rw [← hx, ← hy, Rat.le_iff]
  have h1 : (0 : Int) < (x.den : Int) := by have := x.den_nz; omega
  have h2 : (0 : Int) < (y.den : Int) := by have := y.den_nz; omega
  have h3 : (0 : Int) < (d : Int) := by omega
  have h4 : (0 : Int) < (e : Int) := by omega
  clear hx hy hd he
  generalize x.num = xn at *
  generalize y.num = yn at *
  generalize (x.den : Int) = xd at *
  generalize (y.den : Int) = yd at *
  generalize (d : Int) = d at *
  generalize (e : Int) = e at *
  -- xn * d = a * xd, yn * e = b * yd
  have q1 : xn * yd * (d * e) = a * e * (xd * yd) := by
    have : xn * yd * (d * e) = xn * d * (yd * e) := by ac_rfl
    rw [this, ← px]
    ac_rfl
  have q2 : yn * xd * (d * e) = b * d * (xd * yd) := by
    have : yn * xd * (d * e) = yn * e * (xd * d) := by ac_rfl
    rw [this, ← py]
    ac_rfl
  have p1 : 0 < d * e := Int.mul_pos h3 h4
  have p2 : 0 < xd * yd := Int.mul_pos h1 h2
  constructor
  · intro h
    have := Int.mul_le_mul_of_nonneg_right h (Int.le_of_lt p1)
    rw [q1, q2] at this
    exact Int.le_of_mul_le_mul_right this p2
  · intro h
    have := Int.mul_le_mul_of_nonneg_right h (Int.le_of_lt p2)
    rw [← q1, ← q2] at this
    exact Int.le_of_mul_le_mul_right this p1
/-- What a number is rounded to: the key, with a sign, at each mode. -/
def RK (v : Rat) (f : Int → Int) : Prop := (v = 0 ∧ f = fun _ => 0) ∨ ∃ b N D K, N ≠ 0 ∧ 0 < D ∧ v = mkRat (sg b N) D ∧ IsFloor N D K ∧ f = rkey b N D K
theorem RK_mono {v w : Rat} {f g : Int → Int} (hv : RK v f) (hw : RK w g) (h : v ≤ w) (mode : Int) : f mode ≤ g mode := by
  rcases hv with ⟨hv, hf⟩ | ⟨b, N, D, K, hN, hD, hv, hK, hf⟩ <;> rcases hw with ⟨hw, hg⟩ | ⟨c, M, E, L, hM, hE, hw, hL, hg⟩
  · rw [hf, hg]; exact Int.le_refl _
  · rw [hf, hg]
    have m0 := mag_pos hL (wayOf c mode)
    rw [hv, hw, ← Rat.zero_mkRat 1, mkRat_le (by decide) hE] at h
    unfold rkey
    cases c
    · rw [if_neg (by simp)]; exact m0
    · exfalso
      unfold sg at h
      rw [if_pos rfl, Int.zero_mul] at h
      omega
  · rw [hf, hg]
    have m0 := mag_pos hK (wayOf b mode)
    rw [hv, hw, ← Rat.zero_mkRat 1, mkRat_le hD (by decide)] at h
    unfold rkey
    cases b
    · exfalso
      unfold sg at h
      rw [if_neg (by simp), Int.zero_mul] at h
      omega
    · rw [if_pos rfl]
      show _ ≤ (0 : Int)
      omega
  · rw [hf, hg]
    rw [hv, hw, mkRat_le hD hE] at h
    have m0 := mag_pos hK (wayOf b mode)
    have m1 := mag_pos hL (wayOf c mode)
    unfold rkey
    unfold sg at h
    cases b <;> cases c
    · simp only [Bool.false_eq_true, if_false] at h ⊢
      rw [← Int.natCast_mul, ← Int.natCast_mul] at h
      exact mag_cross hD hE (Int.ofNat_le.1 h) hK hL _
    · exfalso
      simp only [Bool.false_eq_true, if_false, if_true] at h
      rw [Int.neg_mul, ← Int.natCast_mul, ← Int.natCast_mul] at h
      have a1 := Nat.mul_pos (Nat.pos_of_ne_zero hN) hE
      clear hK hL m0 m1
      generalize N * E = x at *
      generalize M * D = y at *
      omega
    · simp only [Bool.false_eq_true, if_false, if_true] at h ⊢
      omega
    · simp only [if_true] at h ⊢
      rw [Int.neg_mul, Int.neg_mul, ← Int.natCast_mul, ← Int.natCast_mul] at h
      have := mag_cross hE hD (show M * D ≤ N * E by
        clear hK hL m0 m1
        generalize N * E = x at *
        generalize M * D = y at *
        omega) hL hK (wayOf true mode)
      omega
theorem RK_way {v : Rat} {f : Int → Int} (hv : RK v f) : f 2 ≤ f 0 ∧ f 0 ≤ f 1 := by
  rcases hv with ⟨hv, hf⟩ | ⟨b, N, D, K, hN, hD, hv, hK, hf⟩
  · rw [hf]; exact ⟨Int.le_refl _, Int.le_refl _⟩
  · rw [hf]
    obtain ⟨a1, a2⟩ := mag_way hD hK
    unfold rkey wayOf
    cases b
    · simp only [Bool.false_eq_true, if_false]
      exact ⟨a1, a2⟩
    · simp only [if_true]
      rw [if_neg (by decide : ¬ ((2 : Int) = 1)), if_neg (by decide : ¬ ((0 : Int) = 1)), if_neg (by decide : ¬ ((0 : Int) = 2))]
      exact ⟨by omega, by omega⟩
/-- The program's rounding, by its key. -/
theorem Exact_RK {l d : List Int} (hl : W32 l) (hd : W32 d) (h1 : l.length ≤ 150) (h2 : d.length ≤ 150) (neg : Bool) :
    ∃ f, RK (qv neg l d) f ∧ ∀ mode, ∃ (b : Bool) (L : Nat) (fl : Int), L ≤ 9218868437227405312 ∧ f mode = sg b L ∧ Ev (fun k => round_Exact.f k neg l d mode) (sgn b L, fl) := by
  by_cases h : nv l = 0 ∨ nv d = 0
  · refine ⟨fun _ => 0, .inl ⟨?_, rfl⟩, fun mode => ⟨false, 0, 0, by decide, rfl, (Frac_zero hl hd h1 h2 h neg mode).2⟩⟩
    unfold qv
    rcases h with h | h
    · rw [h, sg_zero, Rat.zero_mkRat]
    · rw [h, Rat.mkRat_zero]
  · have hN : nv l ≠ 0 := fun h0 => h (.inl h0)
    have hD : nv d ≠ 0 := fun h0 => h (.inr h0)
    obtain ⟨K, hK, _⟩ := Exact_ev hl hd h1 h2 hN hD neg 0
    refine ⟨rkey neg (nv l) (nv d) K, .inr ⟨neg, _, _, K, hN, Nat.pos_of_ne_zero hD, rfl, hK, rfl⟩, fun mode => ?_⟩
    obtain ⟨K2, hK2, he, _⟩ := Exact_ev hl hd h1 h2 hN hD neg mode
    have := floor_one (Nat.pos_of_ne_zero hD) hK2 hK
    subst this
    obtain ⟨L, e, hL⟩ := magOut_bd (nv l * c60) (nv d * c26) (nv d) false K2 (wayOf neg mode) hK.1
    unfold rnd at he
    rw [e] at he
    refine ⟨neg, L, _, hL, ?_, he⟩
    unfold rkey sg
    rw [e]
end Go.Proofs.Ytfglpaaeipblcaa.Pure
