/- The reference's differences, quotients and greatest common divisors of rows of bits are those of the numbers. -/
import Derived.Test.YtfglpaaeipblcaaPFlyballref011
import Derived.Test.YtfglpaaeipblcaaPFlyballref021
import Derived.Test.YtfglpaaeipblcaaPFlyballref031
import Derived.Test.YtfglpaaeipblcaaPFlyballref032
import Derived.Test.YtfglpaaeipblcaaS2
namespace Go.Proofs.Ytfglpaaeipblcaa.Pure
open Go.RowKit Go.Proofs.Ytfglpaaeipblcaa.P Go.Proofs.YtfglpaaeipblcaaW.PrintWords Go.Proofs.YtfglpaaeipblcaaW.PrintLast

theorem SubB_l0 {a b : List Bool} (ha : a.length < 100000000) (hle : bv b ≤ bv a) :
    ∀ (d i : Nat) (c : Bool) (out : List Bool), i + d = a.length → out.length = i → bv out + bv b % 2 ^ i = bv a % 2 ^ i + 2 ^ i * c.toNat →
    ∃ r e, Ev (fun k => flyballref01_Sub.l0 k a b (a.length : Int) out c (i : Int)) (r, e) ∧ bv r = bv a - bv b ∧ r.length = a.length := by
  intro d
  induction d with
  | zero =>
    intro i c out hi ho hv
    have hlt := bv_lt a
    have e1 := bv_mod_len a i (by omega)
    have e2 : bv b % 2 ^ i = bv b := Nat.mod_eq_of_lt (by rw [show i = a.length by omega]; omega)
    rw [e1, e2] at hv
    have ho2 := bv_lt out
    rw [ho] at ho2
    have hc : c = false := by
      cases c with
      | false => rfl
      | true => simp only [Bool.toNat_true, Nat.mul_one] at hv; omega
    subst hc
    simp only [Bool.toNat_false, Nat.mul_zero, Nat.add_zero] at hv
    refine ⟨out, false, ?_, by omega, by omega⟩
    refine Ev.step (fun k => by rw [flyballref01_Sub.l0]) ?_
    exact Ev.neg (by omega) (Ev.ret rfl)
  | succ d ih =>
    intro i c out hi ho hv
    have m1 := bv_mod_succ a i
    have m2 := bv_mod_succ b i
    have hb1 := bit_some a i (by omega)
    have hb2 := bit_some b i (by omega)
    rw [Int.toNat_natCast] at hb1 hb2
    generalize a.getD i false = x at m1 hb1
    generalize b.getD i false = y at m2 hb2
    obtain ⟨r, e, hr, hr2, hr3⟩ := ih (i + 1) (if x = true then (if y = true then c else false) else (if y = true then true else c)) (out ++ [((x != y) != c)]) (by omega) (by simp [ho]) (by
      rw [bv_snoc, ho, m1, m2, Nat.pow_succ]
      clear ih hle m1 m2
      cases x <;> cases y <;> cases c <;> simp at hv ⊢ <;> omega)
    refine ⟨r, e, ?_, hr2, hr3⟩
    refine Ev.step (fun k => by rw [flyballref01_Sub.l0]) ?_
    refine Ev.pos (by omega) (Ev.bind0 hb1 (Ev.bind0 hb2 (Ev.pos (by omega) (Ev.bind0 rfl ?_))))
    rw [show wrap64 ((i : Int) + 1) = ((i + 1 : Nat) : Int) by rw [w64] <;> omega]
    cases x <;> cases y <;> cases c <;> simpa using hr
theorem SubB_ev {a b : List Bool} (ha : a.length < 100000000) (hle : bv b ≤ bv a) : ∃ r e, Ev (fun k => flyballref01_Sub.f k a b (a.length : Int)) (r, e) ∧ bv r = bv a - bv b ∧ r.length = a.length := by
  have := SubB_l0 ha hle a.length 0 false [] (by omega) rfl (by simp [bv, Nat.mod_one])
  simpa [flyballref01_Sub.f] using this
theorem bv_set_true (l : List Bool) : ∀ i : Nat, i < l.length → l.getD i false = false → bv (l.set i true) = bv l + 2 ^ i := by
  induction l with
  | nil => intro i h; simp at h
  | cons b t ih =>
    intro i h hb
    cases i with
    | zero =>
      simp at hb
      subst hb
      simp [bv, Nat.add_comm]
    | succ i =>
      have := ih i (by simpa using h) (by simpa using hb)
      simp only [List.set_cons_succ, bv, this, Nat.pow_succ]
      omega
theorem trimmed {l : List Bool} (h : l.length < 100000000) {α : Type} {f : Nat → List Bool → Option α} {r : α} (k : Ev (fun n => f n (l.take (blen (bv l)))) r) :
    Ev (fun n => (flyballref01_Len.f n l).bind fun t => if 0 ≤ t then (if t ≤ (l.length : Int) then f n (l.take (t : Int).toNat) else none) else none) r := by
  have hb := bv_len_le l
  refine Ev.bind (Len_ev l (by omega)) (Ev.pos (by omega) (Ev.pos (by omega) ?_))
  rw [Int.toNat_natCast]
  exact k
theorem take_blen (l : List Bool) : (l.take (blen (bv l))).length = blen (bv l) := by
  rw [List.length_take, Nat.min_eq_left (bv_len_le l)]
theorem divB_alg {V P Q B R x : Nat} (h : V / (P * 2) = Q * B + R) (hx : V / P % 2 = x) : V / P = 2 * Q * B + (x + 2 * R) := by
  have e := Nat.div_add_mod (V / P) 2
  rw [Nat.div_div_eq_div_mul, h, hx, Nat.mul_add] at e
  rw [← e, Nat.mul_assoc]
  omega
theorem DivB_l0 {a b : List Bool} (ha : a.length < 10000000) (hb : b.length < 10000000) :
    ∀ (n : Nat) (q r : List Bool) (Q : Nat), n ≤ a.length → q.length = a.length → bv q = 2 ^ n * Q → bv a / 2 ^ n = Q * bv b + bv r → bv r < bv b → r.length = blen (bv r) →
    ∃ q' r', Ev (fun k => flyballref01_Div.l0 k a b q r ((n : Int) - 1)) (q', r') ∧ bv a = bv q' * bv b + bv r' ∧ bv r' < bv b ∧ q'.length = a.length ∧ r'.length = blen (bv r') := by
  intro n
  induction n with
  | zero =>
    intro q r Q hn hq hQ hv hlt hr
    refine ⟨q, r, ?_, ?_, hlt, hq, hr⟩
    · refine Ev.step (fun k => by rw [flyballref01_Div.l0]) ?_
      exact Ev.neg (by omega) (Ev.ret rfl)
    · rw [Nat.pow_zero, Nat.one_mul] at hQ
      rw [Nat.pow_zero, Nat.div_one] at hv
      rw [hQ, hv]
  | succ i ih =>
    intro q r Q hn hq hQ hv hlt hr
    have hrl : r.length ≤ b.length := by
      rw [hr]
      exact Nat.le_trans (blen_lt_iff.2 (Nat.lt_of_lt_of_le hlt (Nat.le_of_lt (lt_blen (bv b))))) (bv_len_le b)
    have e1 : (((i + 1 : Nat) : Int) - 1) = (i : Int) := by omega
    have e2 : wrap64 ((i : Int) - 1) = (i : Int) - 1 := by rw [w64] <;> omega
    have hbit : rdOf false a (i : Int) = decide (bv a / 2 ^ i % 2 = 1) := by
      unfold rdOf
      rw [Int.toNat_natCast]
      exact bv_getD a i
    have hx : bv a / 2 ^ i % 2 = (rdOf false a (i : Int)).toNat := by
      rw [hbit]
      by_cases h : bv a / 2 ^ i % 2 = 1
      · rw [decide_eq_true h, h]; rfl
      · rw [decide_eq_false h]
        have := Nat.mod_lt (bv a / 2 ^ i) (show 0 < 2 by decide)
        show bv a / 2 ^ i % 2 = 0
        omega
    rw [Nat.pow_succ] at hv hQ
    have hal := divB_alg hv hx
    obtain ⟨x, hxe⟩ : ∃ x, rdOf false a (i : Int) = x := ⟨_, rfl⟩
    rw [hxe] at hx hal
    have hy : bv ([x] ++ r) = x.toNat + 2 * bv r := rfl
    have hyl : ([x] ++ r).length = r.length + 1 := by simp
    have hyb := bv_len_le ([x] ++ r)
    have hcm := Cmp_ev ([x] ++ r) b (by omega) (by omega)
    rw [e1]
    have hqi : q.getD i false = false := by
      rw [bv_getD, hQ, Nat.mul_assoc, Nat.mul_div_cancel_left _ (Nat.two_pow_pos i)]
      exact decide_eq_false (by omega)
    by_cases hc : bv b ≤ bv ([x] ++ r)
    · have hc0 : cmpN (bv ([x] ++ r)) (bv b) ≥ 0 := by
        unfold cmpN
        rw [if_neg (by omega)]
        split <;> omega
      obtain ⟨s, e, hs, hs2, hs3⟩ := SubB_ev (a := [x] ++ r) (b := b) (by omega) hc
      have hset := bv_set_true q i (by omega) hqi
      have hb1 := bv_take_len s
      obtain ⟨q', r', h1, h2⟩ := ih (q.set i true) (s.take (blen (bv s))) (2 * Q + 1) (by omega) (by rw [List.length_set]; exact hq)
        (by rw [hset, hQ, Nat.mul_add, Nat.mul_one, Nat.mul_assoc])
        (by rw [hb1, hs2, hal, hy, Nat.add_mul, Nat.one_mul]; rw [hy] at hc; omega)
        (by rw [hb1, hs2, hy]; cases x <;> simp <;> omega) (by rw [hb1]; exact take_blen s)
      refine ⟨q', r', ?_, h2⟩
      refine Ev.step (fun k => by rw [flyballref01_Div.l0]) ?_
      rw [e2, hxe]
      refine Ev.pos (by omega) (Ev.pos (by omega) (Ev.pos (by omega) (Ev.bind0 rfl (Ev.pos (by simp; omega) (Ev.bind0 rfl ?_)))))
      refine Ev.bind hcm (Ev.pos hc0 (Ev.bind hs (Ev.pos (by omega) ?_)))
      refine trimmed (l := s) (f := fun k t => flyballref01_Div.l0 k a b (q.set ((i : Int)).toNat true) t ((i : Int) - 1)) (by omega) ?_
      rw [Int.toNat_natCast]
      exact h1
    · have hc0 : ¬ cmpN (bv ([x] ++ r)) (bv b) ≥ 0 := by
        unfold cmpN
        rw [if_pos (by omega)]
        decide
      have hb1 := bv_take_len ([x] ++ r)
      obtain ⟨q', r', h1, h2⟩ := ih q (([x] ++ r).take (blen (bv ([x] ++ r)))) (2 * Q) (by omega) hq
        (by rw [hQ, Nat.mul_assoc]) (by rw [hb1, hal, hy]) (by rw [hb1]; omega) (by rw [hb1]; exact take_blen _)
      refine ⟨q', r', ?_, h2⟩
      refine Ev.step (fun k => by rw [flyballref01_Div.l0]) ?_
      rw [e2, hxe]
      refine Ev.pos (by omega) (Ev.pos (by omega) (Ev.pos (by omega) (Ev.bind0 rfl (Ev.pos (by simp; omega) (Ev.bind0 rfl ?_)))))
      refine Ev.bind hcm (Ev.neg hc0 ?_)
      exact trimmed (l := [x] ++ r) (f := fun k t => flyballref01_Div.l0 k a b q t ((i : Int) - 1)) (by omega) h1
theorem DivB_ev {a b : List Bool} (ha : a.length < 10000000) (hb : b.length < 10000000) (h0 : bv b ≠ 0) :
    ∃ q r, Ev (fun k => flyballref01_Div.f k a b) (q, r) ∧ bv q = bv a / bv b ∧ bv r = bv a % bv b ∧ q.length = a.length ∧ r.length = blen (bv r) := by
  obtain ⟨q, r, h1, h2, h3, h4, h5⟩ := DivB_l0 ha hb a.length (List.replicate a.length false) [] 0 (Nat.le_refl _) (by simp) (by rw [bv_false, Nat.mul_zero])
    (by rw [Nat.div_eq_of_lt (bv_lt a)]; simp [bv]) (by simp [bv]; omega) (by simp [bv, blen])
  refine ⟨q, r, ?_, ?_, ?_, h4, h5⟩
  · unfold flyballref01_Div.f
    have e2 : wrap64 ((a.length : Int) - 1) = (a.length : Int) - 1 := by rw [w64] <;> omega
    rw [e2, Int.toNat_natCast]
    exact Ev.pos (by omega) (Ev.pos (by omega) h1)
  · rw [h2, Nat.add_comm, Nat.add_mul_div_right _ _ (Nat.pos_of_ne_zero h0), Nat.div_eq_of_lt h3, Nat.zero_add]
  · rw [h2, Nat.add_comm, Nat.add_mul_mod_self_right, Nat.mod_eq_of_lt h3]
theorem GcdB_l0 : ∀ (m : Nat) (a b : List Bool), bv b ≤ m → a.length < 10000000 → b.length < 10000000 → ∃ g, Ev (fun k => flyballref02_Gcd.l0 k a b) g ∧ bv g = Nat.gcd (bv a) (bv b) ∧ g.length < 10000000 := by
  intro m
  induction m with
  | zero =>
    intro a b hm ha hb
    have hz : bv b = 0 := by omega
    refine ⟨a, ?_, by rw [hz, Nat.gcd_zero_right], ha⟩
    refine Ev.step (fun k => by rw [flyballref02_Gcd.l0]) ?_
    have hl := Len_ev b (by omega)
    rw [hz, blen_zero] at hl
    exact Ev.bind hl (Ev.neg (by decide) (Ev.ret rfl))
  | succ m ih =>
    intro a b hm ha hb
    by_cases hz : bv b = 0
    · exact ih a b (by omega) ha hb
    · obtain ⟨q, r, h1, h2, h3, h4, h5⟩ := DivB_ev ha hb hz
      have hlt := Nat.mod_lt (bv a) (Nat.pos_of_ne_zero hz)
      have hrl : r.length ≤ b.length := by
        rw [h5, h3]
        exact Nat.le_trans (blen_lt_iff.2 (Nat.lt_trans hlt (lt_blen (bv b)))) (bv_len_le b)
      obtain ⟨g, g1, g2, g3⟩ := ih b r (by omega) hb (by omega)
      refine ⟨g, ?_, ?_, g3⟩
      · refine Ev.step (fun k => by rw [flyballref02_Gcd.l0]) ?_
        have hbl : blen (bv b) ≠ 0 := fun h => hz (blen_eq_zero.1 h)
        exact Ev.bind (Len_ev b (by omega)) (Ev.pos (by omega) (Ev.bind h1 g1))
      · rw [g2, h3, Nat.gcd_comm (bv b), ← Nat.gcd_rec, Nat.gcd_comm]
theorem GcdB_ev {a b : List Bool} (ha : a.length < 10000000) (hb : b.length < 10000000) : ∃ g, Ev (fun k => flyballref02_Gcd.f k a b) g ∧ bv g = Nat.gcd (bv a) (bv b) ∧ g.length < 10000000 :=
  GcdB_l0 (bv b) a b (Nat.le_refl _) ha hb
theorem trim_ev3 {l : List Bool} (h : l.length < 10000000) : Ev (fun k => flyballref03_trim.f k l) (l.take (blen (bv l))) := by
  unfold flyballref03_trim.f
  exact trimmed (l := l) (f := fun _ t => some t) (by omega) (Ev.ret rfl)
/-- The reference's lowest terms. -/
theorem Low_ev (neg : Bool) {l d : List Bool} (hl : l.length < 10000000) (hd : d.length < 10000000) :
    ((bv l = 0 ∨ bv d = 0) → Ev (fun k => flyballref03_Low.f k neg l d) (false, [], [true])) ∧
    (bv l ≠ 0 → bv d ≠ 0 → ∃ p q, Ev (fun k => flyballref03_Low.f k neg l d) (neg, p, q) ∧ bv p = bv l / Nat.gcd (bv l) (bv d) ∧ bv q = bv d / Nat.gcd (bv l) (bv d) ∧ p.length ≤ l.length ∧ q.length ≤ d.length) := by
  have t1 := trim_ev3 hl
  have t2 := trim_ev3 hd
  have n1 := take_blen l
  have n2 := take_blen d
  have v1 := bv_take_len l
  have v2 := bv_take_len d
  have b1 := bv_len_le l
  have b2 := bv_len_le d
  have z1 := @blen_eq_zero (bv l)
  have z2 := @blen_eq_zero (bv d)
  generalize l.take (blen (bv l)) = l2 at *
  generalize d.take (blen (bv d)) = d2 at *
  constructor
  · intro h
    have hj : Ev (fun k => flyballref03_Low.j0 k neg l2 d2 true) (false, [], [true]) := by
      refine Ev.step (fun k => by rw [flyballref03_Low.j0]) ?_
      exact Ev.pos rfl (Ev.bind0 (by unfold flyballref03_one.f; rfl) (Ev.ret rfl))
    unfold flyballref03_Low.f
    refine Ev.bind t1 (Ev.bind t2 ?_)
    by_cases h0 : bv l = 0
    · exact Ev.pos (by have := z1.2 h0; omega) hj
    · have h3 := z2.2 (h.resolve_left h0)
      have h4 : blen (bv l) ≠ 0 := fun x => h0 (z1.1 x)
      refine Ev.neg (by omega) ?_
      rw [show ((d2.length : Int) == 0) = true from beq_iff_eq.2 (by omega)]
      exact hj
  · intro h0 h3
    have h4 : blen (bv l) ≠ 0 := fun x => h0 (z1.1 x)
    have h5 : blen (bv d) ≠ 0 := fun x => h3 (z2.1 x)
    obtain ⟨g, g1, g2, g3⟩ := GcdB_ev (a := l2) (b := d2) (by omega) (by omega)
    rw [v1, v2] at g2
    have hg : bv g ≠ 0 := by
      rw [g2]
      have := Nat.gcd_pos_of_pos_left (bv d) (Nat.pos_of_ne_zero h0)
      omega
    obtain ⟨p, _, p1, p2, _, p4, _⟩ := DivB_ev (a := l2) (b := g) (by omega) g3 hg
    obtain ⟨q, _, q1, q2, _, q4, _⟩ := DivB_ev (a := d2) (b := g) (by omega) g3 hg
    have u1 := trim_ev3 (l := p) (by omega)
    have u2 := trim_ev3 (l := q) (by omega)
    have bp := bv_len_le p
    have bq := bv_len_le q
    refine ⟨_, _, ?_, by rw [bv_take_len, p2, v1, g2], by rw [bv_take_len, q2, v2, g2], by rw [take_blen]; omega, by rw [take_blen]; omega⟩
    unfold flyballref03_Low.f
    refine Ev.bind t1 (Ev.bind t2 (Ev.neg (by omega) ?_))
    rw [show ((d2.length : Int) == 0) = false from beq_eq_false_iff_ne.2 (by omega)]
    refine Ev.step (fun k => by rw [flyballref03_Low.j0]) ?_
    exact Ev.neg (by simp) (Ev.bind g1 (Ev.bind p1 (Ev.bind q1 (Ev.bind u1 (Ev.bind u2 (Ev.ret rfl))))))
end Go.Proofs.Ytfglpaaeipblcaa.Pure
