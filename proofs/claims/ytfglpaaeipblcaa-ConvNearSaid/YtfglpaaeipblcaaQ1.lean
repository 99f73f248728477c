/- The rational numbers of the program are rational numbers: lowest terms, sums, comparisons. -/
import Derived.Test.YtfglpaaeipblcaaPRatio1
import Derived.Test.YtfglpaaeipblcaaN7
namespace Go.Proofs.Ytfglpaaeipblcaa.Pure
open Go.RowKit Go.Proofs.Ytfglpaaeipblcaa.P Go.Proofs.YtfglpaaeipblcaaW.PrintWords Go.Proofs.YtfglpaaeipblcaaW.PrintLast
/-- A number with a sign. -/
def sg (neg : Bool) (n : Nat) : Int := if neg = true then -(n : Int) else (n : Int)
theorem sg_natAbs (neg : Bool) (n : Nat) : (sg neg n).natAbs = n := by unfold sg; cases neg <;> simp
theorem sg_zero (neg : Bool) : sg neg 0 = 0 := by cases neg <;> rfl
theorem sg_num (z : Int) : sg (decide (z < 0)) z.natAbs = z := by
  unfold sg
  by_cases h : z < 0
  · rw [decide_eq_true h, if_pos rfl]; omega
  · rw [decide_eq_false h, if_neg (by simp)]; omega
/-- The words of a rational number, in lowest terms. -/
def rq (v : Rat) : Bool × List Int × List Int := (decide (v.num < 0), wd v.num.natAbs, wd v.den)
/-- The number of words. -/
def qv (neg : Bool) (l d : List Int) : Rat := mkRat (sg neg (nv l)) (nv d)
theorem qv_rq (v : Rat) : qv (rq v).1 (rq v).2.1 (rq v).2.2 = v := by
  unfold qv rq
  simp only []
  rw [nv_wd, nv_wd, sg_num, Rat.mkRat_self]
theorem rq_zero : rq 0 = (false, [], wd 1) := by
  unfold rq
  rw [Rat.zero_num, Rat.zero_den]
  simp [wd_zero]
theorem rq_mkRat {neg : Bool} {n d : Nat} (hn : n ≠ 0) (hd : d ≠ 0) : rq (mkRat (sg neg n) d) = (neg, wd (n / Nat.gcd n d), wd (d / Nat.gcd n d)) := by
  unfold rq
  rw [Rat.num_mkRat, Rat.den_mkRat, if_neg hd, if_neg hd, sg_natAbs, Nat.gcd_comm d n]
  have hg : 0 < Nat.gcd n d := Nat.gcd_pos_of_pos_left _ (by omega)
  have hdiv : Nat.gcd n d ∣ n := Nat.gcd_dvd_left n d
  obtain ⟨m, hm⟩ := hdiv
  have hm0 : m ≠ 0 := by rintro rfl; rw [Nat.mul_zero] at hm; exact hn hm
  have hq : n / Nat.gcd n d = m := by
    have := Nat.mul_div_cancel_left m hg
    rwa [← hm] at this
  have hz : sg neg n / (Nat.gcd n d : Int) = sg neg m := by
    have e : sg neg n = (Nat.gcd n d : Int) * sg neg m := by
      have e2 : (n : Int) = (Nat.gcd n d : Int) * (m : Int) := by rw [← Int.natCast_mul, ← hm]
      unfold sg
      cases neg
      · simpa using e2
      · simp only [if_true]
        rw [e2, Int.mul_neg]
    rw [e, Int.mul_ediv_cancel_left _ (by omega)]
  rw [hz, hq, sg_natAbs]
  have hs : decide (sg neg m < 0) = neg := by
    unfold sg
    cases neg
    · simp
    · simp; omega
  rw [hs]
theorem low_ev {l d : List Int} (hl : W32 l) (hd : W32 d) (h1 : l.length < 180000) (h2 : d.length < 180000) (neg : Bool) : Ev (fun k => ratio_low.f k neg l d) (rq (qv neg l d)) := by
  unfold ratio_low.f
  have hj : ∀ b : Bool, b = decide (nv l = 0 ∨ nv d = 0) → Ev (fun k => ratio_low.j0 k neg l d b) (rq (qv neg l d)) := by
    intro b hb
    refine Ev.step (fun k => by rw [ratio_low.j0]) ?_
    unfold qv
    by_cases h : nv l = 0 ∨ nv d = 0
    · rw [hb, decide_eq_true h]
      have hz : mkRat (sg neg (nv l)) (nv d) = 0 := by
        rcases h with h | h
        · rw [h, sg_zero, Rat.zero_mkRat]
        · rw [h, Rat.mkRat_zero]
      rw [hz, rq_zero]
      exact Ev.pos rfl (Ev.bind (New_ev 1 (by decide)) (Ev.ret rfl))
    · rw [hb, decide_eq_false h]
      have hn : nv l ≠ 0 := fun h0 => h (.inl h0)
      have hd0 : nv d ≠ 0 := fun h0 => h (.inr h0)
      have hg : Nat.gcd (nv l) (nv d) ≠ 0 := by
        have := Nat.gcd_pos_of_pos_left (nv d) (Nat.pos_of_ne_zero hn)
        omega
      have hgl : (wd (Nat.gcd (nv l) (nv d))).length ≤ l.length := by
        refine wd_len_B ?_
        exact Nat.lt_of_le_of_lt (Nat.gcd_le_left _ (Nat.pos_of_ne_zero hn)) (nv_lt hl)
      have d1 := DivN_ev hl (W32_wd (Nat.gcd (nv l) (nv d))) (by omega) (by omega)
      have d2 := DivN_ev hd (W32_wd (Nat.gcd (nv l) (nv d))) (by omega) (by omega)
      rw [nv_wd, if_neg hg] at d1 d2
      rw [rq_mkRat hn hd0]
      exact Ev.neg (by simp) (Ev.bind (GcdN_ev hl hd (by omega) (by omega)) (Ev.bind d1 (Ev.bind d2 (Ev.ret rfl))))
  refine Ev.bind (Len_evN (by omega) hl) ?_
  by_cases h : nv l = 0
  · exact Ev.pos (by rw [h]; rfl) (hj true (by rw [decide_eq_true (.inl h)]))
  · have hb : blen (nv l) ≠ 0 := by rw [Ne, blen_eq_zero]; exact h
    refine Ev.neg (by omega) (Ev.bind (Len_evN (by omega) hd) (hj _ ?_))
    by_cases h3 : nv d = 0
    · rw [decide_eq_true (.inr h3), h3]; rfl
    · have hb2 : blen (nv d) ≠ 0 := by rw [Ne, blen_eq_zero]; exact h3
      rw [decide_eq_false (by simp [h, h3])]
      exact beq_eq_false_iff_ne.2 (by omega)
theorem R_low_ev {l d : List Int} (hl : W32 l) (hd : W32 d) (h1 : l.length < 180000) (h2 : d.length < 180000) (neg : Bool) : Ev (fun k => ratio_R_low.f k neg l d) (rq (qv neg l d)) := by
  unfold ratio_R_low.f
  exact Ev.bind (low_ev hl hd h1 h2 neg) (Ev.ret rfl)
/-- A number takes so many words at most. -/
def fits (v : Rat) (n : Nat) : Prop := v.num.natAbs < B n ∧ v.den < B n
theorem fits_mono {v : Rat} {m n : Nat} (h : fits v m) (hm : m ≤ n) : fits v n := ⟨Nat.lt_of_lt_of_le h.1 (B_mono hm), Nat.lt_of_lt_of_le h.2 (B_mono hm)⟩
theorem fits_mkRat {z : Int} {d n : Nat} (hz : z.natAbs < B n) (hd : d < B n) (hn : 0 < n) : fits (mkRat z d) n := by
  unfold fits
  rw [Rat.num_mkRat, Rat.den_mkRat]
  split
  · have h1 : 1 < B n := by
      have := B_mono (m := 1) hn
      simp [B] at this ⊢
      omega
    exact ⟨by simpa using B_pos n, h1⟩
  · refine ⟨?_, Nat.lt_of_le_of_lt (Nat.div_le_self _ _) hd⟩
    rw [Int.natAbs_ediv_of_dvd]
    · exact Nat.lt_of_le_of_lt (Nat.div_le_self _ _) hz
    · exact Int.ofNat_dvd_left.2 (Nat.gcd_dvd_right _ _)
theorem fits_len {v : Rat} {n : Nat} (h : fits v n) : (wd v.num.natAbs).length ≤ n ∧ (wd v.den).length ≤ n := ⟨wd_len_B h.1, wd_len_B h.2⟩

/-! ### sums -/
theorem neg_mul_pos (a : Int) (d : Nat) (hd : d ≠ 0) : decide (a < 0) = decide (a * (d : Int) < 0) := by
  refine decide_eq_decide.2 ?_
  constructor
  · intro h
    exact Int.mul_neg_of_neg_of_pos h (by omega)
  · intro h
    apply Int.lt_of_not_ge
    intro h2
    have := Int.mul_nonneg h2 (show (0 : Int) ≤ (d : Int) by omega)
    omega
/-- What is the number v, in whatever terms. -/
def IsQ (b : Bool) (l d : List Int) (v : Rat) : Prop := Ev (fun k => ratio_R_low.f k b l d) (rq v) ∧ qv b l d = v ∧ W32 l ∧ W32 d ∧ l.length < 40000 ∧ d.length < 40000
theorem IsQ.of {l d : List Int} (hl : W32 l) (hd : W32 d) (h1 : l.length < 40000) (h2 : d.length < 40000) (neg : Bool) : IsQ neg l d (qv neg l d) := ⟨R_low_ev hl hd (by omega) (by omega) neg, rfl, hl, hd, h1, h2⟩
theorem IsQ.rq {v : Rat} {n : Nat} (h : fits v n) (hn : n < 40000) : IsQ (rq v).1 (rq v).2.1 (rq v).2.2 v := by
  obtain ⟨v1, v2⟩ := fits_len h
  have := IsQ.of (W32_wd v.num.natAbs) (W32_wd v.den) (by omega) (by omega) (decide (v.num < 0))
  have e : qv (decide (v.num < 0)) (wd v.num.natAbs) (wd v.den) = v := qv_rq v
  rw [e] at this
  exact this
/-! ### the other operations -/
theorem num_neg_iff {v : Rat} : v.num < 0 ↔ v < 0 := by
  have := @Rat.num_nonneg v
  constructor
  · intro h
    apply Rat.not_le.1
    intro h2
    have := this.2 h2
    omega
  · intro h
    apply Int.lt_of_not_ge
    intro h2
    exact Rat.not_le.2 h (this.1 h2)
/-- -1, 0, 1. -/
def cmpQ (v w : Rat) : Int := if v < w then -1 else if w < v then 1 else 0
theorem RCmp_ev {b1 b2 : Bool} {l1 d1 l2 d2 : List Int} {v w : Rat} {n : Nat} (qv0 : IsQ b1 l1 d1 v) (qw0 : IsQ b2 l2 d2 w) (hv : fits v n) (hw : fits w n) (hn : n < 40000) : Ev (fun k => ratio_R_Cmp.f k b1 l1 d1 b2 l2 d2) (cmpQ v w) := by
  obtain ⟨v1, v2⟩ := fits_len hv
  obtain ⟨w1, w2⟩ := fits_len hw
  unfold ratio_R_Cmp.f
  refine Ev.bind qv0.1 (Ev.bind qw0.1 ?_)
  have e : cmpQ v w = (if v.num * (w.den : Int) < w.num * (v.den : Int) then -1 else if w.num * (v.den : Int) < v.num * (w.den : Int) then 1 else 0) := by
    unfold cmpQ
    simp only [Rat.lt_iff]
  rw [e]
  clear e
  have hvd : (0 : Int) < (v.den : Int) := by have := v.den_nz; omega
  have hwd : (0 : Int) < (w.den : Int) := by have := w.den_nz; omega
  have sv := neg_mul_pos v.num w.den w.den_nz
  have sw := neg_mul_pos w.num v.den v.den_nz
  have hx : (v.num * (w.den : Int)).natAbs = v.num.natAbs * w.den := by rw [Int.natAbs_mul, Int.natAbs_natCast]
  have hy : (w.num * (v.den : Int)).natAbs = w.num.natAbs * v.den := by rw [Int.natAbs_mul, Int.natAbs_natCast]
  have m1 := MulN_ev (W32_wd v.num.natAbs) (W32_wd w.den) (by omega)
  have m2 := MulN_ev (W32_wd w.num.natAbs) (W32_wd v.den) (by omega)
  rw [nv_wd, nv_wd, ← hx] at m1
  rw [nv_wd, nv_wd, ← hy] at m2
  have f1 : (v.num * (w.den : Int)).natAbs < B (n + n) := by rw [hx]; exact mul_lt_B hv.1 hw.2
  have f2 : (w.num * (v.den : Int)).natAbs < B (n + n) := by rw [hy]; exact mul_lt_B hw.1 hv.2
  have g1 := wd_len_B f1
  have g2 := wd_len_B f2
  clear hx hy hvd hwd f1 f2
  generalize v.num * (w.den : Int) = x at *
  generalize w.num * (v.den : Int) = y at *
  by_cases hs : decide (v.num < 0) = decide (w.num < 0)
  · refine Ev.neg (by show ¬ (decide (v.num < 0) != decide (w.num < 0)) = true; rw [hs]; simp) ?_
    have c1 := CmpN_ev (W32_wd x.natAbs) (W32_wd y.natAbs) (by omega)
    rw [nv_wd, nv_wd] at c1
    refine Ev.bind m1 (Ev.bind m2 (Ev.bind c1 ?_))
    have hsx : decide (x < 0) = decide (y < 0) := by rw [← sv, ← sw]; exact hs
    show Ev (fun _ => if decide (v.num < 0) = true then some (wrap64 (-cmpN x.natAbs y.natAbs)) else some (cmpN x.natAbs y.natAbs)) _
    rw [sv]
    by_cases hneg : x < 0
    · have hy : y < 0 := by rw [decide_eq_true hneg] at hsx; exact of_decide_eq_true hsx.symm
      refine Ev.pos (decide_eq_true hneg) (Ev.ret ?_)
      unfold cmpN
      rw [w64 (by split <;> (try split) <;> omega) (by split <;> (try split) <;> omega)]
      by_cases a1 : x < y
      · rw [if_pos a1, if_neg (by omega), if_pos (by omega)]
      · rw [if_neg a1]
        by_cases a2 : y < x
        · rw [if_pos a2, if_pos (by omega)]; rfl
        · rw [if_neg a2, if_neg (by omega), if_neg (by omega)]; rfl
    · have hy : ¬ y < 0 := by rw [decide_eq_false hneg] at hsx; exact of_decide_eq_false hsx.symm
      refine Ev.neg (by rw [decide_eq_false hneg]; simp) (Ev.ret ?_)
      unfold cmpN
      by_cases a1 : x < y
      · rw [if_pos a1, if_pos (by omega)]
      · rw [if_neg a1]
        by_cases a2 : y < x
        · rw [if_pos a2, if_neg (by omega), if_pos (by omega)]
        · rw [if_neg a2, if_neg (by omega), if_neg (by omega)]
  · refine Ev.pos (by show (decide (v.num < 0) != decide (w.num < 0)) = true; rw [bne_iff_ne]; exact hs) ?_
    have hsx : decide (x < 0) ≠ decide (y < 0) := by rw [← sv, ← sw]; exact hs
    show Ev (fun _ => if decide (v.num < 0) = true then some (-1) else some 1) _
    rw [sv]
    by_cases hneg : x < 0
    · have hy : ¬ y < 0 := fun hy => hsx (by rw [decide_eq_true hneg, decide_eq_true hy])
      exact Ev.pos (decide_eq_true hneg) (Ev.ret (by rw [if_pos (by omega)]))
    · have hy : y < 0 := by
        apply Decidable.byContradiction
        intro hy
        exact hsx (by rw [decide_eq_false hneg, decide_eq_false hy])
      exact Ev.neg (by rw [decide_eq_false hneg]; simp) (Ev.ret (by rw [if_neg (by omega), if_pos (by omega)]))
end Go.Proofs.Ytfglpaaeipblcaa.Pure
