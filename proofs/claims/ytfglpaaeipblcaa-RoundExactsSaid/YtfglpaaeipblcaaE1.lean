/- The program's rounding of a fraction, in numbers. -/
import Derived.Test.YtfglpaaeipblcaaPRound2
import Derived.Test.YtfglpaaeipblcaaPRound3
import Derived.Test.YtfglpaaeipblcaaM2
import Derived.Test.YtfglpaaeipblcaaN7
namespace Go.Proofs.Ytfglpaaeipblcaa.Pure
open Go.RowKit Go.Proofs.Ytfglpaaeipblcaa.P Go.Proofs.YtfglpaaeipblcaaW.PrintWords Go.Proofs.YtfglpaaeipblcaaW.PrintLast

/-- Two to the 6000th. -/
def c60 : Nat := 2 ^ 6000
theorem c60_pos : 0 < c60 := by unfold c60; exact Nat.two_pow_pos 6000
theorem c60_split (a b : Nat) (h : a + b = 6000) : c60 = 2 ^ a * 2 ^ b := by unfold c60; rw [← Nat.pow_add, h]
attribute [irreducible] c60
theorem floor_upto (X : Nat) : ∀ n : Nat, ∃ K, K ≤ n ∧ kv K * c26 ≤ X ∧ (K = n ∨ X < kv (K + 1) * c26)
  | 0 => ⟨0, Nat.le_refl _, by simp [kv, sm], .inl rfl⟩
  | n + 1 => by
    by_cases h : kv (n + 1) * c26 ≤ X
    · exact ⟨n + 1, Nat.le_refl _, h, .inl rfl⟩
    · obtain ⟨K, h1, h2, h3⟩ := floor_upto X n
      refine ⟨K, Nat.le_succ_of_le h1, h2, .inr ?_⟩
      rcases h3 with rfl | h3
      · omega
      · exact h3
theorem two_ev (k : Int) (h : k ≤ 6000) : Ev (fun f => round_two.f f k) (wd (2 ^ k.toNat)) := by
  unfold round_two.f
  have hb : blen 1 = 1 := by decide
  have hl : (wd 1).length ≤ 1 := wd_len_B (by decide)
  have hs := ShlN_ev (W32_wd 1) (by omega) k
  rw [nv_wd, if_neg (by decide), hb, if_neg (by omega), Nat.one_mul] at hs
  exact Ev.bind (New_ev 1 (by decide)) (Ev.bind hs (Ev.ret rfl))
theorem pow_lt_B {n k : Nat} (h : n < 32 * k) : 2 ^ n < B k := by rw [B_two]; exact Nat.pow_lt_pow_right (by decide) h
theorem two_len (n : Nat) (h : n ≤ 6000) : (wd (2 ^ n)).length ≤ 190 := wd_len_B (pow_lt_B (by omega))
/-- The fraction's first 63 or 64 bits. -/
theorem first_bits {N D kp km : Nat} (hN : N ≠ 0) (hD : D ≠ 0) (h : blen N - 1 + kp = blen D + km + 62) : 4611686018427387904 ≤ N * 2 ^ kp / (D * 2 ^ km) ∧ N * 2 ^ kp / (D * 2 ^ km) < 18446744073709551616 := by
  have n1 := blen_le N hN
  have n2 := lt_blen N
  have d1 := blen_le D hD
  have d2 := lt_blen D
  have hb1 : blen N ≠ 0 := fun h => hN (blen_eq_zero.1 h)
  have hb2 : blen D ≠ 0 := fun h => hD (blen_eq_zero.1 h)
  have hpos : 0 < D * 2 ^ km := Nat.mul_pos (Nat.pos_of_ne_zero hD) (Nat.two_pow_pos _)
  constructor
  · rw [Nat.le_div_iff_mul_le hpos]
    have e1 : 2 ^ (blen N - 1) * 2 ^ kp ≤ N * 2 ^ kp := Nat.mul_le_mul_right _ n1
    have e2 : D * 2 ^ km ≤ 2 ^ blen D * 2 ^ km := Nat.mul_le_mul_right _ (Nat.le_of_lt d2)
    have e3 : 2 ^ (blen N - 1) * 2 ^ kp = 4611686018427387904 * (2 ^ blen D * 2 ^ km) := by
      rw [← Nat.pow_add, ← Nat.pow_add, h, Nat.pow_add 2 (blen D + km) 62, Nat.mul_comm]
    have e4 := Nat.mul_le_mul_left 4611686018427387904 e2
    omega
  · rw [Nat.div_lt_iff_lt_mul hpos]
    have e1 : N * 2 ^ kp < 2 ^ blen N * 2 ^ kp := Nat.mul_lt_mul_of_pos_right n2 (Nat.two_pow_pos _)
    have e2 : 2 ^ (blen D - 1) * 2 ^ km ≤ D * 2 ^ km := Nat.mul_le_mul_right _ d1
    have e3 : 2 ^ blen N * 2 ^ kp = 18446744073709551616 * (2 ^ (blen D - 1) * 2 ^ km) := by
      rw [← Nat.pow_add, ← Nat.pow_add, show blen N + kp = blen D - 1 + km + 64 by omega, Nat.pow_add 2 (blen D - 1 + km) 64, Nat.mul_comm]
    have e4 := Nat.mul_le_mul_left 18446744073709551616 e2
    omega
theorem frac_scale {m Z N D kp km s c : Nat} (hc : c = 2 ^ kp * 2 ^ (s - km)) (hs : km ≤ s) (hZ : Z = N * c) : m * (D * 2 ^ km) * 2 ^ (s - km) = m * 2 ^ s * D ∧ N * 2 ^ kp * 2 ^ (s - km) = Z := by
  constructor
  · have e : 2 ^ s = 2 ^ km * 2 ^ (s - km) := by rw [← Nat.pow_add, Nat.add_sub_cancel' hs]
    rw [e]
    ac_rfl
  · rw [hZ, hc]
    ac_rfl
/-- THE PROGRAM ROUNDS A FRACTION. -/
theorem Frac_ev {l d : List Int} (hl : W32 l) (hd : W32 d) (h1 : l.length ≤ 150) (h2 : d.length ≤ 150) (hN : nv l ≠ 0) (hD : nv d ≠ 0) (neg : Bool) (mode : Int) :
    ∃ K, K ≤ 9218868437227405312 ∧ kv K * (nv d * c26) ≤ nv l * c60 ∧ (K = 9218868437227405312 ∨ nv l * c60 < kv (K + 1) * (nv d * c26)) ∧
      Ev (fun k => round_Frac.f k neg l d mode) (sgn neg (magOut (nv l * c60) (nv d * c26) (nv d) false K (wayOf neg mode)).1, (magOut (nv l * c60) (nv d * c26) (nv d) false K (wayOf neg mode)).2) := by
  have lN := Len_evN (by omega : l.length < 1000000) hl
  have lD := Len_evN (by omega : d.length < 1000000) hd
  have bN : blen (nv l) ≤ 32 * l.length := by have := nv_lt hl; rw [B_two] at this; exact blen_lt_iff.2 this
  have bD : blen (nv d) ≤ 32 * d.length := by have := nv_lt hd; rw [B_two] at this; exact blen_lt_iff.2 this
  have zN : blen (nv l) ≠ 0 := fun h => hN (blen_eq_zero.1 h)
  have zD : blen (nv d) ≠ 0 := fun h => hD (blen_eq_zero.1 h)
  generalize hNe : nv l = N at *
  generalize hDe : nv d = D at *
  obtain ⟨x, hx⟩ : ∃ x : Int, x = 63 - ((blen N : Int) - (blen D : Int)) := ⟨_, rfl⟩
  have hxb : -4900 ≤ x ∧ x ≤ 4900 := by omega
  have ex : wrap64 (63 - wrap64 ((blen N : Int) - (blen D : Int))) = x := by rw [w64 (x := (blen N : Int) - (blen D : Int)) (by omega) (by omega), w64 (by omega) (by omega), hx]
  have eny : wrap64 (-x) = -x := by rw [w64] <;> omega
  obtain ⟨q1, q2⟩ := first_bits (kp := x.toNat) (km := (-x).toNat) hN hD (by omega)
  have hDp : 0 < D * 2 ^ (-x).toNat := Nat.mul_pos (Nat.pos_of_ne_zero hD) (Nat.two_pow_pos _)
  obtain ⟨s, hs⟩ : ∃ s : Nat, (s : Int) = 6000 - x := ⟨(6000 - x).toNat, by omega⟩
  have hsk : (-x).toNat ≤ s := by omega
  have hcs := c60_split x.toNat (s - (-x).toNat) (by omega)
  generalize hm : N * 2 ^ x.toNat / (D * 2 ^ (-x).toNat) = m at *
  obtain ⟨f1, f2⟩ := frac_scale (m := m) (Z := N * c60) (N := N) (D := D) (kp := x.toNat) (km := (-x).toNat) (s := s) hcs hsk rfl
  obtain ⟨g1, _⟩ := frac_scale (m := m + 1) (Z := N * c60) (N := N) (D := D) (kp := x.toNat) (km := (-x).toNat) (s := s) hcs hsk rfl
  have hle : m * (D * 2 ^ (-x).toNat) ≤ N * 2 ^ x.toNat := by rw [← hm]; exact Nat.div_mul_le_self _ _
  have hlt : N * 2 ^ x.toNat < (m + 1) * (D * 2 ^ (-x).toNat) := by
    rw [← hm, ← Nat.div_lt_iff_lt_mul hDp]
    exact Nat.lt_succ_self _
  have z1 : m * 2 ^ s * D ≤ N * c60 := by rw [← f1, ← f2]; exact Nat.mul_le_mul_right _ hle
  have z2 : N * c60 < (m + 1) * 2 ^ s * D := by rw [← g1, ← f2]; exact Nat.mul_lt_mul_of_pos_right hlt (Nat.two_pow_pos _)
  have hrest : decide (N * c60 ≠ m * 2 ^ s * D) = decide ((blen (N * 2 ^ x.toNat % (D * 2 ^ (-x).toNat)) : Int) > 0) := by
    refine decide_eq_decide.2 ?_
    have hdm := Nat.div_add_mod (N * 2 ^ x.toNat) (D * 2 ^ (-x).toNat)
    rw [hm, Nat.mul_comm] at hdm
    have hb : ((blen (N * 2 ^ x.toNat % (D * 2 ^ (-x).toNat)) : Int) > 0) ↔ N * 2 ^ x.toNat % (D * 2 ^ (-x).toNat) ≠ 0 := by
      rw [← Nat.pos_iff_ne_zero]
      have := @blen_eq_zero (N * 2 ^ x.toNat % (D * 2 ^ (-x).toNat))
      constructor
      · intro h
        apply Nat.pos_of_ne_zero
        intro h0
        rw [h0] at h
        exact absurd h (by decide)
      · intro h
        have : blen (N * 2 ^ x.toNat % (D * 2 ^ (-x).toNat)) ≠ 0 := fun h3 => by
          have := this.1 h3
          omega
        omega
    rw [hb, ← f1, ← f2]
    generalize N * 2 ^ x.toNat % (D * 2 ^ (-x).toNat) = r at *
    rw [← hdm]
    constructor
    · intro h h0
      subst h0
      exact h rfl
    · intro h h0
      have := Nat.eq_of_mul_eq_mul_right (Nat.two_pow_pos _) h0
      omega
  obtain ⟨K, k0, k1, k2⟩ := floor_upto (m * 2 ^ s) 9218868437227405312
  obtain ⟨o1, o2, o3⟩ := magOut_more (Nat.pos_of_ne_zero hD) q1 z1 z2 K k0 (wayOf neg mode) k1 k2
  refine ⟨K, k0, o2, o3, ?_⟩
  have hms : (-x + 6000).toNat = s := by omega
  have fl := float_ev neg m (by omega) (by omega) (-x) (by omega) (decide (N * c60 ≠ m * 2 ^ s * D)) (fun _ => by
    have : ¬ blen m ≤ 53 := fun h => by
      have := blen_lt_iff.1 h
      simp at this
      omega
    omega) mode K k0 (by rw [hms]; exact k1) (by rw [hms]; exact k2)
  rw [hms, o1, Nat.div_eq_of_lt q2, Nat.mod_eq_of_lt q2, hrest] at fl
  -- the walk
  have t1 := two_ev x (by omega)
  have t2 := two_ev (-x) (by omega)
  have u1 := two_len x.toNat (by omega)
  have u2 := two_len (-x).toNat (by omega)
  have m1 := MulN_ev hl (W32_wd (2 ^ x.toNat)) (by omega)
  have m2 := MulN_ev hd (W32_wd (2 ^ (-x).toNat)) (by omega)
  rw [nv_wd] at m1 m2
  rw [hNe] at m1
  rw [hDe] at m2
  have v1 : (wd (N * 2 ^ x.toNat)).length ≤ 340 := wd_len_B (by
    have a1 : N < B 150 := by rw [← hNe]; exact Nat.lt_of_lt_of_le (nv_lt hl) (B_mono h1)
    have a2 : 2 ^ x.toNat < B 190 := pow_lt_B (by omega)
    exact mul_lt_B a1 a2)
  have v2 : (wd (D * 2 ^ (-x).toNat)).length ≤ 340 := wd_len_B (by
    have a1 : D < B 150 := by rw [← hDe]; exact Nat.lt_of_lt_of_le (nv_lt hd) (B_mono h2)
    have a2 : 2 ^ (-x).toNat < B 190 := pow_lt_B (by omega)
    exact mul_lt_B a1 a2)
  have dv := DivN_ev (W32_wd (N * 2 ^ x.toNat)) (W32_wd (D * 2 ^ (-x).toNat)) (by omega) (by omega)
  rw [nv_wd, nv_wd, if_neg (by omega), hm] at dv
  have v3 : (wd m).length ≤ 2 := wd_len_B (by
    have : B 2 = 18446744073709551616 := by decide
    omega)
  have un := UintN_ev (W32_wd m) (by omega)
  rw [nv_wd, if_pos q2] at un
  have v4 : (wd (N * 2 ^ x.toNat % (D * 2 ^ (-x).toNat))).length ≤ 340 := by
    have := wd_len_le (W32_wd (D * 2 ^ (-x).toNat))
    refine Nat.le_trans (wd_len_B (n := N * 2 ^ x.toNat % (D * 2 ^ (-x).toNat)) (k := (wd (D * 2 ^ (-x).toNat)).length) ?_) v2
    have h3 := nv_lt (W32_wd (D * 2 ^ (-x).toNat))
    rw [nv_wd] at h3
    exact Nat.lt_trans (Nat.mod_lt _ hDp) h3
  have lr := Len_evN (l := wd (N * 2 ^ x.toNat % (D * 2 ^ (-x).toNat))) (by omega) (W32_wd _)
  rw [nv_wd] at lr
  have j1 : Ev (fun k => round_Frac.j1 k neg l d mode x false) (sgn neg (magOut (N * c60) (D * c26) D false K (wayOf neg mode)).1, (magOut (N * c60) (D * c26) D false K (wayOf neg mode)).2) := by
    refine Ev.step (fun k => by rw [round_Frac.j1]) ?_
    rw [eny]
    exact Ev.neg (by simp) (Ev.bind t1 (Ev.bind m1 (Ev.bind t2 (Ev.bind m2 (Ev.bind dv (Ev.bind un (Ev.bind lr (Ev.bind fl (Ev.ret rfl)))))))))
  unfold round_Frac.f
  refine Ev.bind lN (Ev.neg (by omega) (Ev.bind lD ?_))
  have hz : (((blen D : Nat) : Int) == 0) = false := beq_eq_false_iff_ne.2 (by omega)
  rw [hz]
  refine Ev.step (fun k => by rw [round_Frac.j0]) ?_
  refine Ev.neg (by simp) (Ev.bind lN (Ev.bind lD ?_))
  rw [ex]
  refine Ev.neg (by omega) ?_
  rw [decide_eq_false (by omega)]
  exact j1
end Go.Proofs.Ytfglpaaeipblcaa.Pure
