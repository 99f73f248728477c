/- The reference's sums, comparisons and products of rows of bits are those of the numbers that they stand for. -/
import Derived.Test.YtfglpaaeipblcaaPFlyballref011
import Derived.Test.YtfglpaaeipblcaaS1
namespace Go.Proofs.Ytfglpaaeipblcaa.Pure
open Go.RowKit Go.Proofs.Ytfglpaaeipblcaa.P Go.Proofs.YtfglpaaeipblcaaW.PrintWords Go.Proofs.YtfglpaaeipblcaaW.PrintLast

theorem Add_l0_ev (a b : List Bool) (ha : a.length < 549755813888) (hb : b.length < 549755813888) :
    ∀ (d i : Nat) (c : Bool) (out : List Bool), i + d = max a.length b.length + 1 → out.length = i → bv out + 2 ^ i * c.toNat = bv a % 2 ^ i + bv b % 2 ^ i →
    ∃ r, Ev (fun k => flyballref01_Add.l0 k a b out c i) r ∧ bv r = bv a + bv b ∧ r.length ≤ max a.length b.length + 1 := by
  intro d
  induction d with
  | zero =>
    intro i c out hi ho hv
    have e1 := bv_mod_len a i (by omega)
    have e2 := bv_mod_len b i (by omega)
    have hc : c = false := by
      have l1 : bv a < 2 ^ (max a.length b.length) := Nat.lt_of_lt_of_le (bv_lt a) (Nat.pow_le_pow_right (by decide) (by omega))
      have l2 : bv b < 2 ^ (max a.length b.length) := Nat.lt_of_lt_of_le (bv_lt b) (Nat.pow_le_pow_right (by decide) (by omega))
      have p : 2 ^ i = 2 ^ (max a.length b.length) * 2 := by rw [show i = max a.length b.length + 1 by omega, Nat.pow_succ]
      cases c with
      | false => rfl
      | true => simp only [Bool.toNat_true, Nat.mul_one] at hv; omega
    subst hc
    refine ⟨out, ?_, by simpa [e1, e2] using hv, by omega⟩
    refine Ev.step (fun k => by rw [flyballref01_Add.l0]) ?_
    refine Ev.neg (by omega) (Ev.neg (by omega) ?_)
    refine Ev.step (fun k => by rw [flyballref01_Add.j1]) ?_
    exact Ev.neg (by simp) (Ev.ret rfl)
  | succ d ih =>
    intro i c out hi ho hv
    by_cases hstop : (¬ i < a.length) ∧ (¬ i < b.length) ∧ c = false
    · obtain ⟨h1, h2, rfl⟩ := hstop
      have e1 := bv_mod_len a i (by omega)
      have e2 := bv_mod_len b i (by omega)
      refine ⟨out, ?_, by simpa [e1, e2] using hv, by omega⟩
      refine Ev.step (fun k => by rw [flyballref01_Add.l0]) ?_
      refine Ev.neg (by omega) (Ev.neg (by omega) ?_)
      refine Ev.step (fun k => by rw [flyballref01_Add.j1]) ?_
      exact Ev.neg (by simp) (Ev.ret rfl)
    · have m1 := bv_mod_succ a i
      have m2 := bv_mod_succ b i
      have hb1 := bit_some a i (by omega)
      have hb2 := bit_some b i (by omega)
      rw [Int.toNat_natCast] at hb1 hb2
      generalize a.getD i false = x at m1 hb1
      generalize b.getD i false = y at m2 hb2
      obtain ⟨r, hr, hr2, hr3⟩ := ih (i + 1) (x && y || x && c || y && c) (out ++ [((x != y) != c)]) (by omega) (by simp [ho]) (by
        rw [bv_snoc, ho, m1, m2, Nat.pow_succ]
        cases x <;> cases y <;> cases c <;> simp at hv ⊢ <;> omega)
      refine ⟨r, ?_, hr2, hr3⟩
      have hj : Ev (fun k => flyballref01_Add.j1 k a b out c i true) r := by
        refine Ev.step (fun k => by rw [flyballref01_Add.j1]) ?_
        refine Ev.pos rfl (Ev.bind0 hb1 (Ev.bind0 hb2 (Ev.pos (by omega) (Ev.bind0 rfl ?_))))
        rw [show wrap64 ((i : Int) + 1) = ((i + 1 : Nat) : Int) by rw [w64] <;> omega]
        cases x <;> cases y <;> cases c <;> simpa using hr
      refine Ev.step (fun k => by rw [flyballref01_Add.l0]) ?_
      by_cases h1 : (i : Int) < (a.length : Int)
      · exact Ev.pos h1 hj
      · refine Ev.neg h1 ?_
        by_cases h2 : (i : Int) < (b.length : Int)
        · exact Ev.pos h2 hj
        · have hc : c = true := by
            cases c with
            | true => rfl
            | false => exact absurd ⟨by omega, by omega, rfl⟩ hstop
          subst hc
          exact Ev.neg h2 hj
theorem Add_ev (a b : List Bool) (ha : a.length < 549755813888) (hb : b.length < 549755813888) :
    ∃ r, Ev (fun k => flyballref01_Add.f k a b) r ∧ bv r = bv a + bv b ∧ r.length ≤ max a.length b.length + 1 := by
  have := Add_l0_ev a b ha hb (max a.length b.length + 1) 0 false [] (by omega) rfl (by simp [bv, Nat.mod_one])
  simpa [flyballref01_Add.f] using this
theorem Cmp_l0_ev (a b : List Bool) (ha : a.length < 549755813888) (hb : b.length < 549755813888) :
    ∀ (n : Nat), n ≤ max a.length b.length → bv a / 2 ^ n = bv b / 2 ^ n → Ev (fun k => flyballref01_Cmp.l0 k a b ((n : Int) - 1)) (cmpN (bv a) (bv b)) := by
  intro n
  induction n with
  | zero =>
    intro hn he
    refine Ev.step (fun k => by rw [flyballref01_Cmp.l0]) ?_
    refine Ev.neg (by omega) (Ev.ret ?_)
    simp only [Nat.pow_zero, Nat.div_one] at he
    simp [cmpN, he]
  | succ n ih =>
    intro hn he
    refine Ev.step (fun k => by rw [flyballref01_Cmp.l0]) ?_
    have e0 : (((n + 1 : Nat) : Int) - 1) = (n : Nat) := by omega
    rw [e0]
    have hb1 := bit_some a n (by omega)
    have hb2 := bit_some b n (by omega)
    rw [Int.toNat_natCast] at hb1 hb2
    have g1 := bv_getD a n
    have g2 := bv_getD b n
    have q1 : bv a / 2 ^ (n + 1) = bv a / 2 ^ n / 2 := by rw [Nat.pow_succ, Nat.div_div_eq_div_mul]
    have q2 : bv b / 2 ^ (n + 1) = bv b / 2 ^ n / 2 := by rw [Nat.pow_succ, Nat.div_div_eq_div_mul]
    rw [q1, q2] at he
    refine Ev.pos (by omega) (Ev.bind0 hb1 (Ev.bind0 hb2 ?_))
    by_cases hx : bv a / 2 ^ n % 2 = 1 <;> by_cases hy : bv b / 2 ^ n % 2 = 1
    · rw [g1, g2, decide_eq_true hx, decide_eq_true hy]
      refine Ev.neg (by simp) ?_
      rw [w64 (by omega) (by omega)]
      exact ih (by omega) (by omega)
    · rw [g1, g2, decide_eq_true hx, decide_eq_false hy]
      refine Ev.pos (by simp) (Ev.pos (by simp) (Ev.ret ?_))
      have : bv b / 2 ^ n < bv a / 2 ^ n := by omega
      have : bv b < bv a := Nat.lt_of_div_lt_div this
      unfold cmpN
      rw [if_neg (by omega), if_pos this]
    · rw [g1, g2, decide_eq_false hx, decide_eq_true hy]
      refine Ev.pos (by simp) (Ev.neg (by simp) (Ev.ret ?_))
      have : bv a / 2 ^ n < bv b / 2 ^ n := by omega
      have : bv a < bv b := Nat.lt_of_div_lt_div this
      unfold cmpN
      rw [if_pos this]
    · rw [g1, g2, decide_eq_false hx, decide_eq_false hy]
      refine Ev.neg (by simp) ?_
      rw [w64 (by omega) (by omega)]
      exact ih (by omega) (by omega)
theorem Cmp_ev (a b : List Bool) (ha : a.length < 549755813888) (hb : b.length < 549755813888) : Ev (fun k => flyballref01_Cmp.f k a b) (cmpN (bv a) (bv b)) := by
  have := Cmp_l0_ev a b ha hb (max a.length b.length) (Nat.le_refl _) (by
    rw [Nat.div_eq_of_lt (Nat.lt_of_lt_of_le (bv_lt a) (Nat.pow_le_pow_right (by decide) (by omega))), Nat.div_eq_of_lt (Nat.lt_of_lt_of_le (bv_lt b) (Nat.pow_le_pow_right (by decide) (by omega)))])
  unfold flyballref01_Cmp.f
  rw [mx_nat, w64 (by omega) (by omega)]
  exact this
theorem Mul_l0_ev (a b : List Bool) (hl : a.length + b.length < 274877906944) :
    ∀ (d i : Nat) (out : List Bool), i + d = b.length → out.length ≤ a.length + i → bv out = bv a * (bv b % 2 ^ i) →
    ∃ r, Ev (fun k => flyballref01_Mul.l0 k a b out i) r ∧ bv r = bv a * bv b ∧ r.length ≤ a.length + b.length := by
  intro d
  induction d with
  | zero =>
    intro i out hi ho hv
    refine ⟨out, ?_, by rw [hv, bv_mod_len b i (by omega)], by omega⟩
    refine Ev.step (fun k => by rw [flyballref01_Mul.l0]) ?_
    exact Ev.neg (by omega) (Ev.ret rfl)
  | succ d ih =>
    intro i out hi ho hv
    have l1 : out.length < 549755813888 := by clear hv ih; omega
    have l2 : (List.replicate i false ++ a).length < 549755813888 := by rw [List.length_append, List.length_replicate]; clear hv ih; omega
    have l3 : a.length + i < 1099511627776 := by clear hv ih; omega
    have m2 := bv_mod_succ b i
    have e1 : wrap64 ((i : Int) + 1) = ((i + 1 : Nat) : Int) := by rw [w64] <;> omega
    have hrd : rdOf false b (i : Int) = b.getD i false := by unfold rdOf; rw [Int.toNat_natCast]
    by_cases hbit : b.getD i false = true
    · obtain ⟨s, hs1, hs2, hs3⟩ := Add_ev out (List.replicate i false ++ a) l1 l2
      rw [bv_shl, hv] at hs2
      simp only [List.length_append, List.length_replicate] at hs3
      rw [hbit] at m2
      have q1 : i + 1 + d = b.length := by clear hv hs2 m2 ih; omega
      have q2 : s.length ≤ a.length + (i + 1) := by clear hv hs2 m2 ih; omega
      have q3 : (i : Int) < (b.length : Int) := by clear hv hs2 m2 ih; omega
      obtain ⟨r, hr, hr2, hr3⟩ := ih (i + 1) s q1 q2 (by
        rw [hs2, m2, Bool.toNat_true, Nat.mul_one, Nat.mul_add])
      refine ⟨r, ?_, hr2, hr3⟩
      refine Ev.step (fun k => by rw [flyballref01_Mul.l0]) ?_
      refine Ev.pos q3 (Ev.pos (Int.natCast_nonneg _) (Ev.pos (hrd.trans hbit) ?_))
      have hsh := Shl_ev a i (Int.natCast_nonneg _) l3
      rw [Int.toNat_natCast] at hsh
      refine Ev.bind hsh (Ev.bind hs1 ?_)
      rw [e1]
      exact hr
    · rw [Bool.eq_false_iff.mpr hbit] at m2
      have q1 : i + 1 + d = b.length := by clear hv m2 ih; omega
      have q2 : out.length ≤ a.length + (i + 1) := by clear hv m2 ih; omega
      have q3 : (i : Int) < (b.length : Int) := by clear hv m2 ih; omega
      obtain ⟨r, hr, hr2, hr3⟩ := ih (i + 1) out q1 q2 (by rw [hv, m2]; simp)
      refine ⟨r, ?_, hr2, hr3⟩
      refine Ev.step (fun k => by rw [flyballref01_Mul.l0]) ?_
      refine Ev.pos q3 (Ev.pos (Int.natCast_nonneg _) (Ev.neg (fun h => hbit (hrd.symm.trans h)) ?_))
      rw [e1]
      exact hr
theorem Mul_ev (a b : List Bool) (hl : a.length + b.length < 274877906944) :
    ∃ r, Ev (fun k => flyballref01_Mul.f k a b) r ∧ bv r = bv a * bv b ∧ r.length ≤ a.length + b.length := by
  have := Mul_l0_ev a b hl b.length 0 [] (by omega) (by simp) (by simp [bv, Nat.mod_one])
  simpa [flyballref01_Mul.f] using this
end Go.Proofs.Ytfglpaaeipblcaa.Pure
