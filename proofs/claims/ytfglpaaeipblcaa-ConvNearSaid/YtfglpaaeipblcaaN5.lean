/- One word of a quotient: the guess, and what is taken away. -/
import Derived.Test.YtfglpaaeipblcaaPNat1
import Derived.Test.YtfglpaaeipblcaaN4
namespace Go.Proofs.Ytfglpaaeipblcaa.Pure
open Go.RowKit Go.Proofs.Ytfglpaaeipblcaa.P Go.Proofs.YtfglpaaeipblcaaW.PrintWords Go.Proofs.YtfglpaaeipblcaaW.PrintLast

/-! ### the guess, in numbers -/
theorem guess_first {N D q v1 b1 : Nat} (hv1 : v1 = D / b1) (hb : 0 < b1) (hq : q * D ≤ N) : q * v1 ≤ N / b1 := by
  rw [Nat.le_div_iff_mul_le hb, Nat.mul_assoc]
  refine Nat.le_trans (Nat.mul_le_mul_left q ?_) hq
  rw [hv1]
  exact Nat.div_mul_le_self D b1
theorem guess_dec {N D g v1 v2 left T u b2 : Nat} (hD : (v1 * 4294967296 + v2) * b2 ≤ D) (hN : N < (T * 4294967296 + u + 1) * b2) (ht : g * v1 + left = T) (hg : left * 4294967296 + u < g * v2) : N < g * D := by
  have h1 : T * 4294967296 + u + 1 ≤ g * (v1 * 4294967296 + v2) := by
    rw [← ht, Nat.add_mul, Nat.mul_add, ← Nat.mul_assoc]
    omega
  have h2 := Nat.mul_le_mul_right b2 h1
  have h3 := Nat.mul_le_mul_left g hD
  rw [← Nat.mul_assoc] at h3
  exact Nat.lt_of_lt_of_le hN (Nat.le_trans h2 h3)
theorem two_less {Q S z : Nat} (h : Q ≤ S) : Q * (S + 1) ≤ (Q + 1 + z) * S := by
  rw [Nat.mul_add, Nat.mul_one, Nat.add_mul, Nat.add_mul, Nat.one_mul]
  generalize Q * S = z1
  generalize z * S = z2
  omega
theorem guess_end {N D g q v1 v2 left T u b2 : Nat} (hD : D < (v1 * 4294967296 + v2 + 1) * b2) (hN : (T * 4294967296 + u) * b2 ≤ N) (ht : g * v1 + left = T) (hg : g * v2 ≤ left * 4294967296 + u) (hgW : g < 4294967296) (hv : 1 ≤ v1) (hq : N < (q + 1) * D) : g ≤ q + 1 := by
  apply Nat.le_of_not_lt
  intro hlt
  have h1 : g * (v1 * 4294967296 + v2) ≤ T * 4294967296 + u := by
    rw [← ht, Nat.add_mul, Nat.mul_add, ← Nat.mul_assoc]
    omega
  have h2 : (q + 1) * (v1 * 4294967296 + v2 + 1) ≤ g * (v1 * 4294967296 + v2) := by
    obtain ⟨z, rfl⟩ : ∃ z, g = q + 1 + 1 + z := ⟨g - (q + 1 + 1), by omega⟩
    exact two_less (by clear hD hN ht hg hq h1; omega)
  have h3 := Nat.mul_le_mul_left (q + 1) (Nat.le_of_lt hD)
  have h4 := Nat.mul_le_mul_right b2 h2
  have h5 := Nat.mul_le_mul_right b2 h1
  rw [← Nat.mul_assoc] at h3
  omega
theorem guess_break {N D g v1 v2 left T b1 : Nat} (hb : 0 < b1) (hN : N < 4294967296 * D) (hT : T = N / b1) (hD : D < (v1 + 1) * b1) (ht : g * v1 + left = T) (hl : 4294967296 ≤ left) (hv2 : v2 < 4294967296) (u : Nat) : g < 4294967296 ∧ g * v2 ≤ left * 4294967296 + u := by
  have h1 : T < 4294967296 * (v1 + 1) := by
    rw [hT, Nat.div_lt_iff_lt_mul hb, Nat.mul_assoc]
    have := Nat.mul_le_mul_left 4294967296 (Nat.le_of_lt hD)
    omega
  have hg : g < 4294967296 := by
    apply Nat.lt_of_not_le
    intro hge
    have := Nat.mul_le_mul_right v1 hge
    omega
  refine ⟨hg, ?_⟩
  have h2 := Nat.mul_le_mul (Nat.le_of_lt hg) (Nat.le_of_lt hv2)
  have h3 := Nat.mul_le_mul_right 4294967296 hl
  omega

/-! ### words -/
theorem and32 (x : Nat) (h : x < 18446744073709551616) : Go.bits .and .u64 (x : Int) 4294967295 = ((x % 4294967296 : Nat) : Int) := by
  have := bits_mask .u64 64 (by decide) wraps_u64 32 (by decide) (x : Int) (by omega) (by simpa using (by omega : (x : Int) < 18446744073709551616))
  have e : (x : Int) % 4294967296 = ((x % 4294967296 : Nat) : Int) := by omega
  rw [← e]
  simpa using this
/-- One word of what is taken away. -/
theorem msub_step {x y g c w : Nat} (hx : x < 4294967296) (hy : y < 4294967296) (hg : g < 4294967296) (hc : c < 4294967296) (hw : w ≤ 1) :
    ∃ C r w2 : Nat, C = c + g * y ∧ C < 18446744073709551616 ∧ C / 4294967296 < 4294967296 ∧ IntKind.u64.wrap (IntKind.u64.wrap (IntKind.u64.wrap (x : Int) - Go.bits .and .u64 (C : Int) 4294967295) - (w : Int)) % 4294967296 = (r : Int) ∧
      IntKind.u64.wrap (IntKind.u64.wrap (IntKind.u64.wrap (x : Int) - Go.bits .and .u64 (C : Int) 4294967295) - (w : Int)) / 9223372036854775808 = (w2 : Int) ∧ r < 4294967296 ∧ w2 ≤ 1 ∧ r + C % 4294967296 + w = x + 4294967296 * w2 := by
  have hxy := mul32 hg hy
  have hC : c + g * y < 18446744073709551616 := by omega
  obtain ⟨r, w2, h1, h2, h3, h4, h5⟩ := sub_step hx (Nat.mod_lt (c + g * y) (show 4294967296 > 0 by decide)) hw
  refine ⟨c + g * y, r, w2, rfl, hC, by omega, ?_, ?_, h3, h4, h5⟩
  · rw [and32 _ hC, u64i (x := (x : Int)) (by omega) (by omega)]
    exact h1
  · rw [and32 _ hC, u64i (x := (x : Int)) (by omega) (by omega)]
    exact h2
theorem carry_word {y g c : Nat} (hy : y < 4294967296) (hg : g < 4294967296) (hc : c < 4294967296) : IntKind.u64.wrap ((c : Int) + IntKind.u64.wrap ((g : Int) * IntKind.u64.wrap (y : Int))) = ((c + g * y : Nat) : Int) := by
  have hxy := mul32 hg hy
  rw [u64i (x := (y : Int)) (by omega) (by omega), ← Int.natCast_mul]
  generalize g * y = p at *
  rw [u64i (x := (p : Int)) (by omega) (by omega), u64i (by omega) (by omega)]
  omega
theorem msub_alg {a a2 p x r w w2 C c gy N gD : Nat} (hs : a2 + p * x = a + p * r) (h5 : r + C % 4294967296 + w = x + 4294967296 * w2) (hC : C = c + gy) (hv : a + gD = N + p * (w + c)) : a2 + (gD + p * gy) = N + 4294967296 * p * (w2 + C / 4294967296) := by
  have hd := Nat.mod_add_div C 4294967296
  generalize C % 4294967296 = C0 at *
  generalize C / 4294967296 = C1 at *
  have h2 : p * (r + C0 + w) = p * (x + 4294967296 * w2) := by rw [h5]
  have h3 : p * (C0 + 4294967296 * C1) = p * (c + gy) := by rw [hd, hC]
  have h4 : 4294967296 * p * (w2 + C1) = p * (4294967296 * w2) + p * (4294967296 * C1) := by
    rw [Nat.mul_add, Nat.mul_comm 4294967296 p, Nat.mul_assoc, Nat.mul_assoc]
  rw [h4]
  rw [Nat.mul_add, Nat.mul_add, Nat.mul_add] at h2
  rw [Nat.mul_add, Nat.mul_add] at h3
  rw [Nat.mul_add] at hv
  clear h4 h5 hd hC
  generalize p * (4294967296 * w2) = z1 at *
  generalize p * (4294967296 * C1) = z2 at *
  generalize p * r = z3 at *
  generalize p * C0 = z4 at *
  generalize p * w = z5 at *
  generalize p * x = z6 at *
  generalize p * c = z7 at *
  generalize p * gy = z8 at *
  omega
theorem wd1_high {n i D : Nat} (h : D < B n) (hi : n ≤ i) : wd1 D i = 0 := by
  unfold wd1
  rw [Nat.div_eq_of_lt (Nat.lt_of_lt_of_le h (B_mono hi)), Nat.zero_mod]
theorem l1_ev {den : List Int} (hd : W32 den) (hn : den.length < 800000) {g : Nat} (hg : g < 4294967296) (N : Nat) :
    ∀ (d i w c : Nat) (x : List Int), i + d = den.length + 1 → W32 x → x.length = den.length + 1 → w ≤ 1 → c < 4294967296 → (i = den.length + 1 → c = 0) → nv x + g * (nv den % B i) = N + B i * (w + c) →
    ∃ (x2 : List Int) (w2 : Nat), W32 x2 ∧ x2.length = den.length + 1 ∧ w2 ≤ 1 ∧ nv x2 + g * nv den = N + B (den.length + 1) * w2 ∧ ∀ r, Ev (fun k => if (w2 : Int) = 0 then some ((g : Int) % 4294967296, x2) else nat_step.l2 k x2 den (den.length : Int) (g : Int) 0 ((x2.length : Nat) : Int) 0) r →
      Ev (fun k => nat_step.l1 k x den (den.length : Int) (g : Int) (w : Int) (c : Int) ((den.length + 1 : Nat) : Int) (i : Int)) r := by
  intro d
  induction d with
  | zero =>
    intro i w c x hi hw hl hw1 hc hc0 hv
    obtain rfl : i = den.length + 1 := by clear hv; omega
    rw [hc0 rfl, Nat.add_zero, Nat.mod_eq_of_lt (Nat.lt_of_lt_of_le (nv_lt hd) (B_mono (Nat.le_succ _)))] at hv
    refine ⟨x, w, hw, hl, hw1, hv, fun r h => ?_⟩
    refine Ev.step (fun k => by rw [nat_step.l1]) ?_
    exact Ev.neg (Int.lt_irrefl _) h
  | succ d ih =>
    intro i w c x hi hw hl hw1 hc hc0 hv
    have q0 : (i : Int) < ((den.length + 1 : Nat) : Int) := by clear hv hc0; omega
    have q1 : i < x.length := by clear hv hc0; omega
    have q3 : i + 1 + d = den.length + 1 := by clear hv hc0; omega
    have e2 : wrap64 ((i : Int) + 1) = ((i + 1 : Nat) : Int) := by clear hv hc0; rw [w64] <;> omega
    have g2 := hw.getD i
    obtain ⟨z, hz2⟩ := Int.eq_ofNat_of_zero_le g2.1
    rw [hz2] at g2
    have hy := wd1_lt (nv den) i
    have hm := nv_mod_succ (nv den) i
    have hgd := nv_getD hd i
    obtain ⟨C, rr, w2, hC, hC2, hC3, hr, hw2, hr2, hw3, he⟩ := msub_step (x := z) (y := wd1 (nv den) i) (g := g) (c := c) (w := w) (Int.ofNat_lt.1 g2.2) hy hg hc hw1
    have hs := nv_set (l := x) i q1 ((rr : Nat) : Int)
    rw [hz2, Int.toNat_natCast, Int.toNat_natCast] at hs
    have hfin : nv (x.set i ((rr : Nat) : Int)) + g * (nv den % B (i + 1)) = N + B (i + 1) * (w2 + C / 4294967296) := by
      rw [hm, Nat.mul_add, B_succ, show g * (B i * wd1 (nv den) i) = B i * (g * wd1 (nv den) i) by ac_rfl]
      exact msub_alg hs he hC hv
    have hcz : i + 1 = den.length + 1 → C / 4294967296 = 0 := by
      intro h
      have h0 : wd1 (nv den) i = 0 := wd1_high (nv_lt hd) (Nat.le_of_succ_le_succ (Nat.le_of_eq h.symm))
      rw [hC, h0, Nat.mul_zero, Nat.add_zero]
      exact Nat.div_eq_of_lt hc
    obtain ⟨x9, w9, y1, y2, y3, y4, hrec0⟩ := ih (i + 1) w2 (C / 4294967296) (x.set i ((rr : Nat) : Int)) q3 (hw.set _ (Int.natCast_nonneg _) (Int.ofNat_lt.2 hr2)) (by rw [List.length_set, hl]) hw3 hC3 hcz hfin
    have eC : ((C : Nat) : Int) / 4294967296 = ((C / 4294967296 : Nat) : Int) := by clear hv hc0 hfin hs he y4 hrec0; omega
    refine ⟨x9, w9, y1, y2, y3, y4, fun r hr0 => ?_⟩
    have hrec := hrec0 r hr0
    refine Ev.step (fun k => by rw [nat_step.l1]) ?_
    refine Ev.pos q0 ?_
    rw [e2, Int.toNat_natCast, rd_nat, rd_nat, hz2]
    by_cases hin : i < den.length
    · rw [hgd, carry_word hy hg hc, ← hC, hr, hw2, eC]
      exact Ev.pos (Int.ofNat_lt.2 hin) (Ev.pos (Int.natCast_nonneg _) (Ev.pos (Int.ofNat_lt.2 hin) (Ev.pos (Int.ofNat_lt.2 q1) hrec)))
    · have h0 : wd1 (nv den) i = 0 := wd1_high (nv_lt hd) (Nat.le_of_not_lt hin)
      rw [h0, Nat.mul_zero, Nat.add_zero] at hC
      subst hC
      rw [hr, hw2, eC]
      exact Ev.neg (fun h => hin (Int.ofNat_lt.1 h)) (Ev.pos (Int.natCast_nonneg _) (Ev.pos (Int.ofNat_lt.2 q1) hrec))
/-- One word of a sum that is added back. -/
theorem back_step {x y s : Nat} (hx : x < 4294967296) (hy : y < 4294967296) (hs : s ≤ 1) : ∃ r q : Nat, IntKind.u64.wrap (IntKind.u64.wrap ((s : Int) + IntKind.u64.wrap (y : Int)) + IntKind.u64.wrap (x : Int)) % 4294967296 = (r : Int) ∧
    IntKind.u64.wrap (IntKind.u64.wrap ((s : Int) + IntKind.u64.wrap (y : Int)) + IntKind.u64.wrap (x : Int)) / 4294967296 = (q : Int) ∧ r < 4294967296 ∧ q ≤ 1 ∧ r + 4294967296 * q = s + y + x := by
  rw [u64i (x := (y : Int)) (by omega) (by omega), u64i (x := (x : Int)) (by omega) (by omega), u64i (x := (s : Int) + (y : Int)) (by omega) (by omega), u64i (by omega) (by omega)]
  exact ⟨(s + y + x) % 4294967296, (s + y + x) / 4294967296, by omega, by omega, by omega, by omega, by omega⟩
theorem back_alg {a a2 p x r q s y X0 Dl : Nat} (hs : a2 + p * x = a + p * r) (he : r + 4294967296 * q = s + y + x) (hv : a + p * s = X0 + Dl) : a2 + 4294967296 * p * q = X0 + (Dl + p * y) := by
  have h2 : p * (r + 4294967296 * q) = p * (s + y + x) := by rw [he]
  have h4 : 4294967296 * p * q = p * (4294967296 * q) := by rw [Nat.mul_comm 4294967296 p, Nat.mul_assoc]
  rw [h4]
  rw [Nat.mul_add, Nat.mul_add, Nat.mul_add] at h2
  clear h4 he
  generalize p * (4294967296 * q) = z1 at *
  generalize p * r = z3 at *
  generalize p * s = z5 at *
  generalize p * x = z6 at *
  generalize p * y = z7 at *
  omega
theorem l2_ev {den : List Int} (hd : W32 den) (hn : den.length < 800000) {g : Nat} (hg0 : 1 ≤ g) (hg : g < 4294967296) (X0 : Nat) :
    ∀ (d i s : Nat) (x : List Int), i + d = den.length + 1 → W32 x → x.length = den.length + 1 → s ≤ 1 → nv x + B i * s = X0 + nv den % B i →
    ∃ x2, Ev (fun k => nat_step.l2 k x den (den.length : Int) (g : Int) (s : Int) ((den.length + 1 : Nat) : Int) (i : Int)) (((g - 1 : Nat) : Int), x2) ∧ W32 x2 ∧ x2.length = den.length + 1 ∧ nv x2 = (X0 + nv den) % B (den.length + 1) := by
  intro d
  induction d with
  | zero =>
    intro i s x hi hw hl hs hv
    obtain rfl : i = den.length + 1 := by clear hv; omega
    rw [Nat.mod_eq_of_lt (Nat.lt_of_lt_of_le (nv_lt hd) (B_mono (Nat.le_succ _)))] at hv
    refine ⟨x, ?_, hw, hl, ?_⟩
    · refine Ev.step (fun k => by rw [nat_step.l2]) ?_
      refine Ev.neg (Int.lt_irrefl _) (Ev.ret ?_)
      have e : IntKind.u64.wrap ((g : Int) - 1) % 4294967296 = ((g - 1 : Nat) : Int) := by clear hv; rw [u64i] <;> omega
      rw [e]
    · have hlt := nv_lt hw
      rw [hl] at hlt
      rw [← hv, Nat.add_mul_mod_self_left, Nat.mod_eq_of_lt hlt]
  | succ d ih =>
    intro i s x hi hw hl hs hv
    have q0 : (i : Int) < ((den.length + 1 : Nat) : Int) := by clear hv; omega
    have q1 : i < x.length := by clear hv; omega
    have q3 : i + 1 + d = den.length + 1 := by clear hv; omega
    have e2 : wrap64 ((i : Int) + 1) = ((i + 1 : Nat) : Int) := by clear hv; rw [w64] <;> omega
    have g2 := hw.getD i
    obtain ⟨z, hz2⟩ := Int.eq_ofNat_of_zero_le g2.1
    rw [hz2] at g2
    have hy := wd1_lt (nv den) i
    have hm := nv_mod_succ (nv den) i
    have hgd := nv_getD hd i
    obtain ⟨rr, qq, hr, hq, hr2, hq2, he⟩ := back_step (x := z) (y := wd1 (nv den) i) (s := s) (Int.ofNat_lt.1 g2.2) hy hs
    have hst := nv_set (l := x) i q1 ((rr : Nat) : Int)
    rw [hz2, Int.toNat_natCast, Int.toNat_natCast] at hst
    have hfin : nv (x.set i ((rr : Nat) : Int)) + B (i + 1) * qq = X0 + nv den % B (i + 1) := by
      rw [hm, B_succ]
      exact back_alg hst he hv
    obtain ⟨x2, hx2, r2⟩ := ih (i + 1) qq (x.set i ((rr : Nat) : Int)) q3 (hw.set _ (Int.natCast_nonneg _) (Int.ofNat_lt.2 hr2)) (by rw [List.length_set, hl]) hq2 hfin
    refine ⟨x2, ?_, r2⟩
    refine Ev.step (fun k => by rw [nat_step.l2]) ?_
    refine Ev.pos q0 ?_
    rw [e2, Int.toNat_natCast, rd_nat, rd_nat, hz2]
    by_cases hin : i < den.length
    · rw [hgd, hr, hq]
      exact Ev.pos (Int.ofNat_lt.2 hin) (Ev.pos (Int.natCast_nonneg _) (Ev.pos (Int.ofNat_lt.2 hin) (Ev.pos (Int.ofNat_lt.2 q1) hx2)))
    · have h0 : wd1 (nv den) i = 0 := wd1_high (nv_lt hd) (Nat.le_of_not_lt hin)
      rw [h0] at hr hq
      have e3 : IntKind.u64.wrap ((s : Int) + IntKind.u64.wrap ((0 : Nat) : Int)) = (s : Int) := by clear hv hfin hst hr hq; rw [u64i (x := ((0 : Nat) : Int)) (by decide) (by decide), u64i] <;> omega
      rw [e3] at hr hq
      rw [hr, hq]
      exact Ev.neg (fun h => hin (Int.ofNat_lt.1 h)) (Ev.pos (Int.natCast_nonneg _) (Ev.pos (Int.ofNat_lt.2 q1) hx2))
end Go.Proofs.Ytfglpaaeipblcaa.Pure
