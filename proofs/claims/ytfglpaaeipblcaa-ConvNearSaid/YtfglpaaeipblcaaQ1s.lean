/- Sums of rational numbers, in the program. -/
import Derived.Test.YtfglpaaeipblcaaPRatio1
import Derived.Test.YtfglpaaeipblcaaN2s
import Derived.Test.YtfglpaaeipblcaaQ1
namespace Go.Proofs.Ytfglpaaeipblcaa.Pure
open Go.RowKit Go.Proofs.Ytfglpaaeipblcaa.P Go.Proofs.YtfglpaaeipblcaaW.PrintWords Go.Proofs.YtfglpaaeipblcaaW.PrintLast

theorem sgn_sum {x y : Int} (h : decide (x < 0) = decide (y < 0)) : sg (decide (x < 0)) (x.natAbs + y.natAbs) = x + y := by
  unfold sg
  by_cases hx : x < 0
  · have hy : y < 0 := by rw [decide_eq_true hx] at h; exact of_decide_eq_true h.symm
    rw [decide_eq_true hx, if_pos rfl]; omega
  · have hy : ¬ y < 0 := by rw [decide_eq_false hx] at h; exact of_decide_eq_false h.symm
    rw [decide_eq_false hx, if_neg (by simp)]; omega
theorem sgn_diff {x y : Int} (h : decide (x < 0) ≠ decide (y < 0)) (hle : y.natAbs ≤ x.natAbs) : sg (decide (x < 0)) (x.natAbs - y.natAbs) = x + y := by
  unfold sg
  by_cases hx : x < 0
  · have hy : ¬ y < 0 := fun hy => h (by rw [decide_eq_true hx, decide_eq_true hy])
    rw [decide_eq_true hx, if_pos rfl]; omega
  · have hy : y < 0 := by
      apply Decidable.byContradiction
      intro hy
      exact h (by rw [decide_eq_false hx, decide_eq_false hy])
    rw [decide_eq_false hx, if_neg (by simp)]; omega
theorem RAdd_ev {b1 b2 : Bool} {l1 d1 l2 d2 : List Int} {v w : Rat} {n : Nat} (qv0 : IsQ b1 l1 d1 v) (qw0 : IsQ b2 l2 d2 w) (hv : fits v n) (hw : fits w n) (hn : n < 40000) : Ev (fun k => ratio_R_Add.f k b1 l1 d1 b2 l2 d2) (Go.Proofs.Ytfglpaaeipblcaa.Pure.rq (v + w)) := by
  obtain ⟨v1, v2⟩ := fits_len hv
  obtain ⟨w1, w2⟩ := fits_len hw
  have lv := qv0.1
  have lw := qw0.1
  unfold ratio_R_Add.f
  refine Ev.bind lv (Ev.bind lw ?_)
  have m1 := MulN_ev (W32_wd v.num.natAbs) (W32_wd w.den) (by omega)
  have m2 := MulN_ev (W32_wd w.num.natAbs) (W32_wd v.den) (by omega)
  have m3 := MulN_ev (W32_wd v.den) (W32_wd w.den) (by omega)
  rw [nv_wd, nv_wd] at m1 m2 m3
  refine Ev.bind m1 (Ev.bind m2 (Ev.bind m3 ?_))
  have f1 : v.num.natAbs * w.den < B (n + n) := mul_lt_B hv.1 hw.2
  have f2 : w.num.natAbs * v.den < B (n + n) := mul_lt_B hw.1 hv.2
  have f3 : v.den * w.den < B (n + n) := mul_lt_B hv.2 hw.2
  have g1 := wd_len_B f1
  have g2 := wd_len_B f2
  have g3 := wd_len_B f3
  have hx : (v.num * (w.den : Int)).natAbs = v.num.natAbs * w.den := by rw [Int.natAbs_mul, Int.natAbs_natCast]
  have hy : (w.num * (v.den : Int)).natAbs = w.num.natAbs * v.den := by rw [Int.natAbs_mul, Int.natAbs_natCast]
  have sv := neg_mul_pos v.num w.den w.den_nz
  have sw := neg_mul_pos w.num v.den v.den_nz
  rw [Rat.add_def']
  generalize v.num * (w.den : Int) = x at *
  generalize w.num * (v.den : Int) = y at *
  have hB : B (n + n) + B (n + n) ≤ B (n + n + 1) := by rw [B_succ]; have := B_pos (n + n); omega
  by_cases hs : decide (v.num < 0) = decide (w.num < 0)
  · refine Ev.pos (by show (decide (v.num < 0) == decide (w.num < 0)) = true; rw [hs]; exact beq_self_eq_true _) ?_
    have a1 := AddN_ev (W32_wd (v.num.natAbs * w.den)) (W32_wd (w.num.natAbs * v.den)) (by omega)
    rw [nv_wd, nv_wd] at a1
    have g4 : (wd (v.num.natAbs * w.den + w.num.natAbs * v.den)).length ≤ n + n + 1 := wd_len_B (by omega)
    have lo := low_ev (W32_wd (v.num.natAbs * w.den + w.num.natAbs * v.den)) (W32_wd (v.den * w.den)) (by omega) (by omega) (decide (v.num < 0))
    have e : qv (decide (v.num < 0)) (wd (v.num.natAbs * w.den + w.num.natAbs * v.den)) (wd (v.den * w.den)) = mkRat (x + y) (v.den * w.den) := by
      unfold qv
      rw [nv_wd, nv_wd, ← hx, ← hy, sv, sgn_sum (by rw [← sv, ← sw]; exact hs)]
    rw [e] at lo
    exact Ev.bind a1 (Ev.bind lo (Ev.ret rfl))
  · refine Ev.neg (by show ¬ (decide (v.num < 0) == decide (w.num < 0)) = true; rw [beq_iff_eq]; exact hs) ?_
    have hs2 : decide (x < 0) ≠ decide (y < 0) := by rw [← sv, ← sw]; exact hs
    have a1 := SubN_ev (W32_wd (v.num.natAbs * w.den)) (W32_wd (w.num.natAbs * v.den)) (by omega)
    rw [nv_wd, nv_wd] at a1
    by_cases hlt : v.num.natAbs * w.den < w.num.natAbs * v.den
    · rw [if_pos hlt] at a1
      refine Ev.bind a1 (Ev.neg (by decide) ?_)
      have a2 := SubN_ev (W32_wd (w.num.natAbs * v.den)) (W32_wd (v.num.natAbs * w.den)) (by omega)
      rw [nv_wd, nv_wd, if_neg (by omega)] at a2
      have g4 : (wd (w.num.natAbs * v.den - v.num.natAbs * w.den)).length ≤ n + n + 1 := wd_len_B (by omega)
      have lo := low_ev (W32_wd (w.num.natAbs * v.den - v.num.natAbs * w.den)) (W32_wd (v.den * w.den)) (by omega) (by omega) (decide (w.num < 0))
      have e : qv (decide (w.num < 0)) (wd (w.num.natAbs * v.den - v.num.natAbs * w.den)) (wd (v.den * w.den)) = mkRat (x + y) (v.den * w.den) := by
        unfold qv
        rw [nv_wd, nv_wd, ← hx, ← hy, sw, sgn_diff (fun h => hs2 h.symm) (by omega), Int.add_comm]
      rw [e] at lo
      exact Ev.bind a2 (Ev.bind lo (Ev.ret rfl))
    · rw [if_neg hlt] at a1
      refine Ev.bind a1 (Ev.pos rfl ?_)
      have g4 : (wd (v.num.natAbs * w.den - w.num.natAbs * v.den)).length ≤ n + n + 1 := wd_len_B (by omega)
      have lo := low_ev (W32_wd (v.num.natAbs * w.den - w.num.natAbs * v.den)) (W32_wd (v.den * w.den)) (by omega) (by omega) (decide (v.num < 0))
      have e : qv (decide (v.num < 0)) (wd (v.num.natAbs * w.den - w.num.natAbs * v.den)) (wd (v.den * w.den)) = mkRat (x + y) (v.den * w.den) := by
        unfold qv
        rw [nv_wd, nv_wd, ← hx, ← hy, sv, sgn_diff hs2 (by omega)]
      rw [e] at lo
      exact Ev.bind lo (Ev.ret rfl)
theorem fits_add {v w : Rat} {m n : Nat} (hv : fits v m) (hw : fits w n) : fits (v + w) (m + n + 1) := by
  rw [Rat.add_def']
  have f1 : v.num.natAbs * w.den < B (m + n) := mul_lt_B hv.1 hw.2
  have f2 : w.num.natAbs * v.den < B (m + n) := by rw [Nat.add_comm m n]; exact mul_lt_B hw.1 hv.2
  have f3 : v.den * w.den < B (m + n) := mul_lt_B hv.2 hw.2
  have hB : B (m + n) + B (m + n) ≤ B (m + n + 1) := by rw [B_succ]; have := B_pos (m + n); omega
  have hx : (v.num * (w.den : Int)).natAbs = v.num.natAbs * w.den := by rw [Int.natAbs_mul, Int.natAbs_natCast]
  have hy : (w.num * (v.den : Int)).natAbs = w.num.natAbs * v.den := by rw [Int.natAbs_mul, Int.natAbs_natCast]
  refine fits_mkRat ?_ (by omega) (by omega)
  have := Int.natAbs_add_le (v.num * (w.den : Int)) (w.num * (v.den : Int))
  omega

theorem qv_neg (b : Bool) (l d : List Int) : qv (!b) l d = -qv b l d := by
  unfold qv
  rw [Rat.neg_mkRat]
  congr 1
  unfold sg
  cases b <;> simp
theorem RNeg1_ev {b : Bool} {l d : List Int} {v : Rat} (h : IsQ b l d v) : Ev (fun k => ratio_R_Neg1.f k b l d) (rq (-v)) := by
  obtain ⟨_, rfl, h1, h2, h3, h4⟩ := h
  unfold ratio_R_Neg1.f
  rw [← qv_neg]
  exact Ev.bind (low_ev h1 h2 (by omega) (by omega) (!b)) (Ev.ret rfl)
theorem fits_neg {v : Rat} {n : Nat} (h : fits v n) : fits (-v) n := by
  unfold fits at *
  rw [Rat.neg_num, Rat.neg_den, Int.natAbs_neg]
  exact h
theorem RSub_ev {b1 b2 : Bool} {l1 d1 l2 d2 : List Int} {v w : Rat} {n : Nat} (qv0 : IsQ b1 l1 d1 v) (qw0 : IsQ b2 l2 d2 w) (hv : fits v n) (hw : fits w n) (hn : n < 40000) : Ev (fun k => ratio_R_Sub.f k b1 l1 d1 b2 l2 d2) (rq (v - w)) := by
  unfold ratio_R_Sub.f
  rw [Rat.sub_eq_add_neg]
  exact Ev.bind (RNeg1_ev qw0) (Ev.bind (RAdd_ev qv0 (IsQ.rq (fits_neg hw) hn) hv (fits_neg hw) hn) (Ev.ret rfl))
/-- A number without its sign. -/
def qabs (v : Rat) : Rat := if v < 0 then -v else v
theorem RAbs_ev {b : Bool} {l d : List Int} {v : Rat} (h : IsQ b l d v) : Ev (fun k => ratio_R_Abs.f k b l d) (rq (qabs v)) := by
  obtain ⟨_, rfl, h1, h2, h3, h4⟩ := h
  unfold ratio_R_Abs.f
  have e : qabs (qv b l d) = qv false l d := by
    unfold qabs
    have hnn : ¬ qv false l d < 0 := by
      rw [← num_neg_iff]
      unfold qv
      rw [Rat.num_mkRat]
      split
      · decide
      · have : (0 : Int) ≤ sg false (nv l) / (((nv d).gcd (sg false (nv l)).natAbs : Nat) : Int) := Int.ediv_nonneg (by unfold sg; simp) (Int.natCast_nonneg _)
        omega
    cases b
    · rw [if_neg hnn]
    · have e2 : qv true l d = -qv false l d := qv_neg false l d
      rw [e2]
      by_cases hz : -qv false l d < 0
      · rw [if_pos hz, Rat.neg_neg]
      · rw [if_neg hz]
        have h5 : 0 ≤ qv false l d := Rat.not_lt.1 hnn
        have h6 : 0 ≤ -qv false l d := Rat.not_lt.1 hz
        have h7 := Rat.nonneg_antisymm h5 h6
        rw [h7]
        rfl
  rw [e]
  exact Ev.bind (low_ev h1 h2 (by omega) (by omega) false) (Ev.ret rfl)
theorem fits_abs {v : Rat} {n : Nat} (h : fits v n) : fits (qabs v) n := by
  unfold qabs
  split
  · exact fits_neg h
  · exact h
theorem RInt_ev (x : Int) (h0 : -9223372036854775808 ≤ x) (h1 : x ≤ 9223372036854775807) : Ev (fun k => ratio_Int.f k x) (rq (x : Rat)) := by
  unfold ratio_Int.f
  have one := New_ev 1 (by decide)
  have e : ∀ b : Bool, b = decide (x < 0) → qv b (wd x.natAbs) (wd 1) = (x : Rat) := by
    intro b hb
    unfold qv
    rw [nv_wd, nv_wd, hb, sg_num]
    have := Rat.mkRat_self (x : Rat)
    rwa [Rat.num_intCast, Rat.den_intCast] at this
  have hlen : (wd x.natAbs).length ≤ 2 := wd_len_B (by
    have : B 2 = 18446744073709551616 := by decide
    omega)
  have hlen1 : (wd 1).length ≤ 2 := wd_len_B (by
    have : B 2 = 18446744073709551616 := by decide
    omega)
  by_cases hx : x < 0
  · have f : IntKind.u64.wrap (-(IntKind.u64.wrap x)) = (x.natAbs : Int) := by rw [u64w, u64w]; omega
    have lo := low_ev (W32_wd x.natAbs) (W32_wd 1) (by omega) (by omega) true
    rw [e true (by rw [decide_eq_true hx])] at lo
    refine Ev.pos hx ?_
    rw [f]
    exact Ev.bind (New_ev x.natAbs (by omega)) (Ev.bind one (Ev.bind lo (Ev.ret rfl)))
  · have f : IntKind.u64.wrap x = (x.natAbs : Int) := by rw [u64w]; omega
    have lo := low_ev (W32_wd x.natAbs) (W32_wd 1) (by omega) (by omega) false
    rw [e false (by rw [decide_eq_false hx])] at lo
    refine Ev.neg hx ?_
    rw [f]
    exact Ev.bind (New_ev x.natAbs (by omega)) (Ev.bind one (Ev.bind lo (Ev.ret rfl)))

end Go.Proofs.Ytfglpaaeipblcaa.Pure
