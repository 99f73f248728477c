/- The reference's integers of floats; they are the program's. -/
import Derived.Test.YtfglpaaeipblcaaC3
import Derived.Test.YtfglpaaeipblcaaC4
import Derived.Test.YtfglpaaeipblcaaPFlyballref071
namespace Go.Proofs.Ytfglpaaeipblcaa.Pure
open Go.RowKit Go.Proofs.Ytfglpaaeipblcaa.P Go.Proofs.YtfglpaaeipblcaaW.PrintWords Go.Proofs.YtfglpaaeipblcaaW.PrintLast

theorem bv_pad (b : List Bool) (n : Nat) : bv (b ++ List.replicate n false) = bv b := by
  rw [bv_append, bv_false, Nat.mul_zero, Nat.add_zero]
theorem half_len : ∀ n : Nat, n = 1073 → (List.replicate n false ++ [true]).length < 2000 := by
  intro n h
  rw [List.length_append, List.length_replicate, List.length_singleton]
  omega
theorem half_bv : ∀ n : Nat, n = 1073 → bv (List.replicate n false ++ [true]) = c73 := by
  intro n h
  rw [bv_shl, bv_one, Nat.one_mul, h, pow_c73]
theorem wneg (M : Nat) (h : M ≤ 9223372036854775808) : wrap64 (-(wrap64 (M : Int))) = -(M : Int) := by
  by_cases hm : M = 9223372036854775808
  · have e1 : wrap64 (M : Int) = -9223372036854775808 := by unfold wrap64; omega
    rw [e1]
    unfold wrap64
    omega
  · rw [w64 (x := (M : Int)) (by omega) (by omega), w64 (by omega) (by omega)]
theorem parts_e_ev (x : List Bool) (h1 : 1074 ≤ x.length) (h2 : x.length < 100000) :
    Ev (fun k => flyballref07_parts.e k x) (x.drop (1074 : Int).toNat, decide (bv x % (2 * c73) ≠ 0), cmpN (bv x % (2 * c73)) c73) := by
  have hp := pow_c74h _ (rfl : (1074 : Int).toNat = 1074)
  have hb : bv (x.take (1074 : Int).toNat) = bv x % (2 * c73) := by rw [bv_take, hp]
  obtain ⟨n73, h73⟩ : ∃ n : Nat, n = (1073 : Int).toNat := ⟨_, rfl⟩
  have h73' : n73 = 1073 := h73.trans rfl
  have hs := Shl_ev [true] 1073 (by omega) (by rw [← h73, List.length_singleton]; omega)
  rw [← h73] at hs
  have hl := Len_ev (x.take (1074 : Int).toNat) (by rw [List.length_take]; omega)
  have hcm := Cmp_ev (x.take (1074 : Int).toNat) (List.replicate n73 false ++ [true]) (by rw [List.length_take]; omega) (Nat.lt_trans (half_len n73 h73') (by decide))
  have hh := half_bv n73 h73'
  rw [hb] at hl
  rw [hb, hh] at hcm
  unfold flyballref07_parts.e
  refine Ev.bind hs (Ev.pos (by omega) (Ev.bind hl (Ev.bind hcm (Ev.ret ?_))))
  have e : decide (((blen (bv x % (2 * c73)) : Nat) : Int) > 0) = decide (bv x % (2 * c73) ≠ 0) := by
    refine decide_eq_decide.2 ?_
    have := @blen_eq_zero (bv x % (2 * c73))
    omega
  rw [e]
theorem parts_l0_ev : ∀ (d : Nat) (x : List Bool), 1074 ≤ x.length + d → x.length < 50000 → d ≤ 1074 → 
    ∃ w : List Bool, Ev (fun k => flyballref07_parts.l0 k false 0 x) (w, decide (bv x % (2 * c73) ≠ 0), cmpN (bv x % (2 * c73)) c73) ∧ bv w = bv x / (2 * c73) ∧ w.length < 100000
  | 0, x, h1, h2, _ => by
    refine ⟨x.drop (1074 : Int).toNat, ?_, ?_, by simp; omega⟩
    · refine Ev.step (fun k => by unfold flyballref07_parts.l0; rfl) ?_
      exact Ev.neg (by omega) (parts_e_ev x (by omega) (by omega))
    · rw [bv_drop, pow_c74h _ (rfl : (1074 : Int).toNat = 1074)]
  | d + 1, x, h1, h2, h3 => by
    by_cases h : x.length < 1074
    · obtain ⟨w, r1, r2, r3⟩ := parts_l0_ev d (x ++ [false]) (by simp; omega) (by simp; omega) (by omega)
      have e : bv (x ++ [false]) = bv x := bv_pad x 1
      rw [e] at r1 r2
      refine ⟨w, ?_, r2, r3⟩
      refine Ev.step (fun k => by unfold flyballref07_parts.l0; rfl) ?_
      exact Ev.pos (by omega) (Ev.pos (by omega) r1)
    · refine ⟨x.drop (1074 : Int).toNat, ?_, ?_, by simp; omega⟩
      · refine Ev.step (fun k => by unfold flyballref07_parts.l0; rfl) ?_
        exact Ev.neg (by omega) (parts_e_ev x (by omega) (by omega))
      · rw [bv_drop, pow_c74h _ (rfl : (1074 : Int).toNat = 1074)]
theorem parts_ev (neg : Bool) (K : Nat) (hK : K < 9218868437227405312) :
    ∃ w : List Bool, Ev (fun k => flyballref07_parts.f k (sgn neg K)) (w, decide (kv K % (2 * c73) ≠ 0), cmpN (kv K % (2 * c73)) c73) ∧ bv w = kv K / (2 * c73) ∧ w.length < 100000 := by
  obtain ⟨b, h1, h2, h3⟩ := Scaled_ev neg K hK
  obtain ⟨w, r1, r2, r3⟩ := parts_l0_ev 1074 b (by omega) (by omega) (by omega)
  rw [h2] at r1 r2
  refine ⟨w, ?_, r2, r3⟩
  unfold flyballref07_parts.f
  exact Ev.bind h1 r1
theorem Finite4 (neg : Bool) (K : Nat) (hK : K < 9223372036854775808) : Ev (fun k => flyballref04_Finite.f k (sgn neg K)) (decide (K < 9218868437227405312)) := by
  unfold flyballref04_Finite.f
  refine Ev.bind (Class4 neg K hK) ?_
  by_cases h : K < 9218868437227405312
  · rw [decide_eq_true h]
    rcases cls_fin K h with ⟨c, _⟩ | ⟨c, _, _⟩ | ⟨c, _⟩ <;> rw [c] <;> exact Ev.neg (by decide) (Ev.ret rfl)
  · rw [decide_eq_false h]
    rcases cls_inf K hK h with c | c <;> rw [c]
    · exact Ev.pos rfl (Ev.ret rfl)
    · exact Ev.neg (by decide) (Ev.ret rfl)
theorem To7_inf (neg : Bool) (K : Nat) (hK : K < 9223372036854775808) (h : ¬ K < 9218868437227405312) (s : Int) : Ev (fun k => flyballref07_To.f k (sgn neg K) s) (0, 16) := by
  have hf := Finite4 neg K hK
  rw [decide_eq_false h] at hf
  unfold flyballref07_To.f
  exact Ev.bind hf (Ev.neg (by simp) (Ev.ret rfl))
theorem cmpN_gt (x y : Nat) : cmpN x y > 0 ↔ y < x := by
  unfold cmpN
  by_cases h : x < y
  · rw [if_pos h]; omega
  · rw [if_neg h]; split <;> omega
theorem cmpN_eq0 (x y : Nat) : cmpN x y = 0 ↔ x = y := by
  unfold cmpN
  by_cases h : x < y
  · rw [if_pos h]; omega
  · rw [if_neg h]; split <;> omega
theorem To7_ev (neg : Bool) (K : Nat) (hK : K < 9218868437227405312) (s : Nat) (hs : 1 ≤ s ∧ s ≤ 64) : Ev (fun k => flyballref07_To.f k (sgn neg K) s) (toOut neg (kv K) s) := by
  have hf := Finite4 neg K (by omega)
  rw [decide_eq_true hK] at hf
  obtain ⟨w, hp, hw, hwl⟩ := parts_ev neg K hK
  have hpow : 2 ^ (s - 1) ≤ 9223372036854775808 := by
    have : 2 ^ (s - 1) ≤ 2 ^ 63 := Nat.pow_le_pow_right (by decide) (by omega)
    simpa using this
  have hsh := Shl_ev [true] ((s - 1 : Nat) : Int) (by omega) (by simp; omega)
  rw [Int.toNat_natCast] at hsh
  have hcm := Cmp_ev w (List.replicate (s - 1) false ++ [true]) (by omega) (by simp; omega)
  rw [bv_shl, bv_one, Nat.one_mul, hw] at hcm
  have hwd := Words1_ev w (by omega)
  rw [hw] at hwd
  have e1 : wrap64 ((s : Int) - 1) = ((s - 1 : Nat) : Int) := by rw [w64] <;> omega
  unfold flyballref07_To.f
  rw [sgn_neg neg K (by omega), e1]
  refine Ev.bind hf (Ev.pos rfl (Ev.bind hp (Ev.bind hsh (Ev.bind hcm ?_))))
  have bad : ∀ a b c d, d = true → Ev (fun k => flyballref07_To.j0 k a b c d) (0, 16) := by
    intro a b c d hd
    refine Ev.step (fun k => by rw [flyballref07_To.j0]) ?_
    exact Ev.pos hd (Ev.ret rfl)
  unfold toOut
  generalize kv K / (2 * c73) = M at *
  have good : ¬ (2 ^ (s - 1) < M ∨ M = 2 ^ (s - 1) ∧ neg = false) → ∀ e : Bool, e = false → Ev (fun k => flyballref07_To.j0 k w (decide (kv K % (2 * c73) ≠ 0)) neg e) ((if neg = true then -((M : Nat) : Int) else ((M : Nat) : Int)), if kv K % (2 * c73) ≠ 0 then 1 else 0) := by
    intro hng e he
    refine Ev.step (fun k => by rw [flyballref07_To.j0]) ?_
    refine Ev.neg (by rw [he]; simp) (Ev.bind hwd (Ev.pos (by simp) ?_))
    have er : rd [((M % 2 ^ 64 : Nat) : Int)] 0 = (M : Int) := by
      have : M % 2 ^ 64 = M := Nat.mod_eq_of_lt (by simp at hng; simp only [Nat.reducePow]; omega)
      rw [this]
      rfl
    rw [er]
    by_cases hb : kv K % (2 * c73) ≠ 0
    · rw [if_pos hb, decide_eq_true hb]
      cases neg
      · refine Ev.neg (by simp) (Ev.pos rfl (Ev.ret ?_))
        rw [if_neg (by simp), w64 (by omega) (by simp at hng; omega)]
      · refine Ev.pos rfl (Ev.pos rfl (Ev.ret ?_))
        rw [if_pos rfl]
        rw [wneg M (by simp at hng; omega)]
    · rw [if_neg hb, decide_eq_false hb]
      cases neg
      · refine Ev.neg (by simp) (Ev.neg (by simp) (Ev.ret ?_))
        rw [if_neg (by simp), w64 (by omega) (by simp at hng; omega)]
      · refine Ev.pos rfl (Ev.neg (by simp) (Ev.ret ?_))
        rw [if_pos rfl]
        rw [wneg M (by simp at hng; omega)]
  by_cases h1 : 2 ^ (s - 1) < M
  · rw [if_pos (.inl h1)]
    exact Ev.pos ((cmpN_gt _ _).2 h1) (bad _ _ _ true rfl)
  · refine Ev.neg (fun h => h1 ((cmpN_gt _ _).1 h)) ?_
    by_cases h2 : M = 2 ^ (s - 1)
    · refine Ev.pos ((cmpN_eq0 _ _).2 h2) ?_
      cases neg
      · rw [if_pos (.inr ⟨h2, rfl⟩)]
        exact bad _ _ _ _ rfl
      · rw [if_neg (by simp; omega)]
        exact good (by simp; omega) _ rfl
    · rw [if_neg (by omega)]
      exact Ev.neg (fun h => h2 ((cmpN_eq0 _ _).1 h)) (good (by omega) _ rfl)

/-! ### Whole -/
theorem half_cmp (V c : Nat) (hc : 0 < c) : (decide (cmpN (V % (2 * c)) c > 0) || (decide (cmpN (V % (2 * c)) c = 0) && decide (V / (2 * c) % 2 = 1))) = (decide (V / c % 2 = 1) && (decide (V % c ≠ 0) || decide (V / (2 * c) % 2 = 1))) := by
  have hm := mod_two V c
  have hl : V % c < c := Nat.mod_lt _ hc
  have e1 : decide (cmpN (V % (2 * c)) c > 0) = decide (c < V % (2 * c)) := decide_eq_decide.2 (cmpN_gt _ _)
  have e2 : decide (cmpN (V % (2 * c)) c = 0) = decide (V % (2 * c) = c) := decide_eq_decide.2 (cmpN_eq0 _ _)
  rw [e1, e2, hm]
  generalize decide (V / (2 * c) % 2 = 1) = o
  by_cases h : V / c % 2 = 1
  · rw [h, Nat.mul_one]
    by_cases h0 : V % c = 0
    · rw [decide_eq_false (by omega : ¬ c < c + V % c), decide_eq_true (by omega : c + V % c = c), decide_eq_false (by omega : ¬ V % c ≠ 0)]
      cases o <;> rfl
    · rw [decide_eq_true (by omega : c < c + V % c), decide_eq_true (by omega : V % c ≠ 0)]
      cases o <;> simp
  · have h0 : V / c % 2 = 0 := by omega
    rw [h0, Nat.mul_zero, Nat.zero_add, decide_eq_false (by omega : ¬ c < V % c), decide_eq_false (by omega : ¬ V % c = c)]
    cases o <;> rfl
/-- A float's own value, rounded by the reference. -/
theorem ref_exact (neg : Bool) (l : List Bool) (hl : l.length < 1000000) (K0 : Nat) (hK0 : K0 < 9218868437227405312) (h : bv l * (2 * c73) = kv K0) (mode : Int) : Ev (fun k => flyballref05_Round.f k neg l 0 false mode) (sgn neg K0, 0) := by
  obtain ⟨r0, r1⟩ := Round_ev neg l hl 0 false mode
  have hc := c73_pos
  by_cases h0 : bv l = 0
  · rw [h0, Nat.zero_mul] at h
    have hz : K0 = 0 := by
      by_cases hk : K0 = 0
      · exact hk
      · have := kv_strict (show 0 < K0 by omega)
        rw [kv_zero] at this
        omega
    subst hz
    exact r0 h0
  · obtain ⟨K, hK, h1, h2, hr⟩ := r1 h0
    have hX : bv l * 2 ^ (clampE 0 + 6000).toNat = kv K0 * c26 := by
      obtain ⟨n74, h74⟩ : ∃ n : Nat, n = 1074 := ⟨_, rfl⟩
      have e : (clampE 0 + 6000).toNat = n74 + 4926 := by rw [h74]; decide
      rw [e, pow_c26, pow_c74h n74 h74, ← Nat.mul_assoc, h]
    rw [hX] at h1 h2 hr
    obtain rfl : K = K0 := (floor_unique _ K K0 hK h1 h2 (Nat.le_refl _) (Nat.mul_lt_mul_of_pos_right (kv_succ K0) c26_pos)).1 hK0
    rw [Bool.false_and] at hr
    refine Ev.as hr ?_
    have hcm : cm (kv K * c26) (kv K * c26) false = 0 := by simp [cm]
    have hse := se_bd K (by omega)
    have hup : upB (kv K * c26) 1 false K (decide (cm (kv K * c26) (kv K * c26) false = 0)) (wayOf neg mode) = false := by
      have hlt : cm (kv K * c26) ((2 * sm K + 1) * 1 * 2 ^ (se K + 5999).toNat) false = -1 := by
        have := kv_scale K 1 (by omega)
        rw [Nat.mul_one, Nat.one_mul] at this
        rw [← this, Nat.mul_one, show (se K + 6000).toNat = (se K + 5999).toNat + 1 by omega, Nat.pow_succ]
        have hp := Nat.two_pow_pos (se K + 5999).toNat
        generalize 2 ^ (se K + 5999).toNat = p at hp
        unfold cm
        rw [if_pos]
        have : sm K * (p * 2) = 2 * sm K * p := by rw [Nat.mul_comm p 2, ← Nat.mul_assoc, Nat.mul_comm (sm K) 2]
        rw [this]
        exact Nat.mul_lt_mul_of_pos_right (by omega) hp
      unfold upB
      rw [hcm, hlt]
      split
      · rfl
      · split
        · rfl
        · rfl
    unfold magOut
    rw [hup, hcm]
    unfold magEnd
    simp only [Bool.false_eq_true, and_false, if_false, if_true]
    rw [if_neg (by omega)]
theorem rd0 (w : List Bool) : w.getD 0 false = decide (bv w % 2 = 1) := by
  rw [bv_getD, Nat.pow_zero, Nat.div_one]
theorem Whole7_ev (neg : Bool) (K : Nat) (hK : K < 9218868437227405312) (mode : Int) : ∃ l : List Bool, l.length < 1000000 ∧ bv l = kv K / (2 * c73) + (upW (kv K) neg mode).toNat ∧
    ∀ r, Ev (fun k => flyballref05_Round.f k neg l 0 false 0) r → Ev (fun k => flyballref07_Whole.f k (sgn neg K) mode) (r.1, if kv K % (2 * c73) ≠ 0 then 1 else 0) := by
  obtain ⟨w, hp, hw, hwl⟩ := parts_ev neg K hK
  have hc := c73_pos
  obtain ⟨s, hs, hsb⟩ : ∃ s, Ev (fun k => flyballref01_Add.f k w [true]) s ∧ bv s = bv w + 1 ∧ s.length < 1000000 := by
    obtain ⟨s, h1, h2, h3⟩ := Add_ev w [true] (by omega) (by simp)
    exact ⟨s, h1, by rw [h2, bv_one], by simp at h3; omega⟩
  refine ⟨if upW (kv K) neg mode = true then s else w, by split <;> omega, ?_, ?_⟩
  · cases upW (kv K) neg mode
    · rw [if_neg (by simp), hw]; rfl
    · rw [if_pos rfl, hsb.1, hw]; rfl
  · intro r hr
    have hj2 : Ev (fun k => flyballref07_Whole.j2 k w (decide (kv K % (2 * c73) ≠ 0)) neg (upW (kv K) neg mode)) (r.1, if kv K % (2 * c73) ≠ 0 then 1 else 0) := by
      refine Ev.step (fun k => by rw [flyballref07_Whole.j2]) ?_
      have fin : Ev (fun _ : Nat => if decide (kv K % (2 * c73) ≠ 0) = true then some (r.1, (1 : Int)) else some (r.1, 0)) (r.1, if kv K % (2 * c73) ≠ 0 then 1 else 0) := by
        by_cases hb : kv K % (2 * c73) ≠ 0
        · rw [if_pos hb]
          exact Ev.pos (decide_eq_true hb) (Ev.ret rfl)
        · rw [if_neg hb]
          exact Ev.neg (by rw [decide_eq_false hb]; simp) (Ev.ret rfl)
      revert hr
      cases upW (kv K) neg mode
      · intro hr
        rw [if_neg (by simp)] at hr
        exact Ev.neg (by simp) (Ev.bind hr fin)
      · intro hr
        rw [if_pos rfl] at hr
        exact Ev.pos rfl (Ev.bind hs (Ev.bind hr fin))
    have hj1 : ∀ x12, x12 = (decide (kv K / c73 % 2 = 1) && (decide (kv K % c73 ≠ 0) || decide (kv K / (2 * c73) % 2 = 1))) → Ev (fun k => flyballref07_Whole.j1 k mode w (decide (kv K % (2 * c73) ≠ 0)) neg x12) (r.1, if kv K % (2 * c73) ≠ 0 then 1 else 0) := by
      intro x12 h12
      refine Ev.step (fun k => by rw [flyballref07_Whole.j1]) ?_
      by_cases m1 : mode = 1
      · refine Ev.pos m1 ?_
        have e : upW (kv K) neg mode = (decide (kv K % (2 * c73) ≠ 0) && !neg) := by unfold upW; rw [if_pos m1]
        rw [e] at hj2
        revert hj2
        cases decide (kv K % (2 * c73) ≠ 0)
        · intro hj2; exact Ev.neg (by simp) hj2
        · intro hj2; exact Ev.pos rfl hj2
      · refine Ev.neg m1 ?_
        by_cases m2 : mode = 2
        · refine Ev.pos m2 ?_
          have e : upW (kv K) neg mode = (decide (kv K % (2 * c73) ≠ 0) && neg) := by unfold upW; rw [if_neg m1, if_pos m2]
          rw [e] at hj2
          revert hj2
          cases decide (kv K % (2 * c73) ≠ 0)
          · intro hj2; exact Ev.neg (by simp) hj2
          · intro hj2; exact Ev.pos rfl hj2
        · refine Ev.neg m2 ?_
          have e : upW (kv K) neg mode = x12 := by unfold upW; rw [if_neg m1, if_neg m2, h12]
          rw [e] at hj2
          exact hj2
    have hj0 : ∀ x11, x11 = decide (kv K / (2 * c73) % 2 = 1) → Ev (fun k => flyballref07_Whole.j0 k mode w (decide (kv K % (2 * c73) ≠ 0)) (cmpN (kv K % (2 * c73)) c73) neg x11) (r.1, if kv K % (2 * c73) ≠ 0 then 1 else 0) := by
      intro x11 h11
      have hh := half_cmp (kv K) c73 hc
      rw [← h11] at hh
      refine Ev.step (fun k => by rw [flyballref07_Whole.j0]) ?_
      by_cases g1 : cmpN (kv K % (2 * c73)) c73 > 0
      · rw [decide_eq_true g1, Bool.true_or] at hh
        exact Ev.pos g1 (hj1 _ (by rw [← h11]; exact hh))
      · rw [decide_eq_false g1, Bool.false_or] at hh
        refine Ev.neg g1 ?_
        by_cases g2 : cmpN (kv K % (2 * c73)) c73 = 0
        · rw [decide_eq_true g2, Bool.true_and] at hh
          exact Ev.pos g2 (hj1 _ (by rw [← h11]; exact hh))
        · rw [decide_eq_false g2, Bool.false_and] at hh
          exact Ev.neg g2 (hj1 _ (by rw [← h11]; exact hh))
    have hcl : cls K ≠ 3 ∧ cls K ≠ 4 := by
      rcases cls_fin K hK with ⟨c, h⟩ | ⟨c, h, h2⟩ | ⟨c, h⟩ <;> rw [c] <;> decide
    unfold flyballref07_Whole.f
    rw [sgn_neg neg K (by omega)]
    refine Ev.bind (Class4 neg K (by omega)) (Ev.neg hcl.2 (Ev.neg hcl.1 (Ev.bind hp ?_)))
    have hodd := rd0 w
    rw [hw] at hodd
    by_cases hl : (w.length : Int) > 0
    · refine Ev.pos hl (Ev.pos hl (hj0 _ ?_))
      rw [← hodd]
      exact rdOf_getD w 0
    · refine Ev.neg hl (hj0 _ ?_)
      rw [← hodd]
      obtain rfl : w = [] := List.length_eq_zero_iff.1 (by omega)
      rfl
theorem Whole_both (neg : Bool) (K : Nat) (hK : K < 9223372036854775808) (mode : Int) : ∃ r, Ev (fun k => conv_Whole.f k (sgn neg K) mode) r ∧ Ev (fun k => flyballref07_Whole.f k (sgn neg K) mode) r := by
  by_cases hf : K < 9218868437227405312
  · obtain ⟨l, hl, hlv, hw⟩ := Whole7_ev neg K hf mode
    have hc := c73_pos
    by_cases hs : sx K < 0
    · have hsm := se_small K hs
      have hu : (upW (kv K) neg mode).toNat ≤ 1 := by cases upW (kv K) neg mode <;> simp
      obtain ⟨r, hr1, hr2⟩ := Round_both neg (kv K / (2 * c73) + (upW (kv K) neg mode).toNat) (by omega) l hl hlv 0 false 0
      rw [Nat.div_eq_of_lt (a := kv K / (2 * c73) + (upW (kv K) neg mode).toNat) (by omega), Nat.mod_eq_of_lt (a := kv K / (2 * c73) + (upW (kv K) neg mode).toNat) (by omega)] at hr1
      exact ⟨_, Whole_ev neg K hf mode hs r hr1, hw r hr2⟩
    · refine ⟨_, Whole_same neg K hf mode hs, ?_⟩
      have hz : kv K % (2 * c73) = 0 ∧ kv K / c73 % 2 = 0 := by
        by_cases h0 : K = 0
        · rw [h0, kv_zero, Nat.zero_mod, Nat.zero_div]
          exact ⟨rfl, rfl⟩
        · obtain ⟨d, hd⟩ : ∃ d : Nat, sx K = (d : Int) := ⟨(sx K).toNat, by omega⟩
          have hkv := kv_of K h0 (d + 1074) (by omega)
          rw [pow_c74] at hkv
          constructor
          · rw [hkv, ← Nat.mul_assoc, Nat.mul_mod_left]
          · rw [hkv, Nat.mul_comm 2 c73, ← Nat.mul_assoc, ← Nat.mul_assoc, Nat.mul_right_comm, Nat.mul_div_cancel _ hc, Nat.mul_mod_left]
      have hup : upW (kv K) neg mode = false := by
        unfold upW
        rw [hz.1, hz.2]
        simp
      rw [hup] at hlv
      have := hw _ (ref_exact neg l hl K hf (by rw [hlv, Bool.toNat_false, Nat.add_zero]; have := Nat.div_add_mod (kv K) (2 * c73); rw [hz.1, Nat.add_zero] at this; rw [Nat.mul_comm]; exact this) 0)
      rw [hz.1] at this
      exact this
  · have hr7 : cls K = 3 ∨ cls K = 4 := cls_inf K hK hf
    rcases hr7 with c | c
    · refine ⟨(sgn neg K, 0), ?_, ?_⟩
      · unfold conv_Whole.f
        refine Ev.bind (ClassP neg K hK) ?_
        rw [c]
        exact Ev.neg (by decide) (Ev.pos rfl (Ev.ret rfl))
      · unfold flyballref07_Whole.f
        refine Ev.bind (Class4 neg K hK) ?_
        rw [c]
        exact Ev.neg (by decide) (Ev.pos rfl (Ev.ret rfl))
    · refine ⟨(9221120237041090560, 0), ?_, ?_⟩
      · unfold conv_Whole.f
        refine Ev.bind (ClassP neg K hK) ?_
        rw [c]
        exact Ev.pos rfl (Ev.bind0 rfl (Ev.ret rfl))
      · unfold flyballref07_Whole.f
        refine Ev.bind (Class4 neg K hK) ?_
        rw [c]
        exact Ev.pos rfl (Ev.ret rfl)
end Go.Proofs.Ytfglpaaeipblcaa.Pure
