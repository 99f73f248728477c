/- The number that a float is: a float's value in the program. -/
import Derived.Test.YtfglpaaeipblcaaPNat1
import Derived.Test.YtfglpaaeipblcaaPPattern2
import Derived.Test.YtfglpaaeipblcaaPRatio1
import Derived.Test.YtfglpaaeipblcaaQ2
import Derived.Test.YtfglpaaeipblcaaQ1
import Derived.Test.YtfglpaaeipblcaaP1
namespace Go.Proofs.Ytfglpaaeipblcaa.Pure
open Go.RowKit Go.Proofs.Ytfglpaaeipblcaa.P Go.Proofs.YtfglpaaeipblcaaW.PrintWords Go.Proofs.YtfglpaaeipblcaaW.PrintLast

theorem Dyad_ev (neg : Bool) (m : Nat) (hm : m < 18446744073709551616) (e : Int) (h0 : -6000 ≤ e) (h1 : e ≤ 6000) :
    Ev (fun k => ratio_Dyad.f k neg (m : Int) e) ((rq (mkRat (sg neg (m * 2 ^ e.toNat)) (2 ^ (-e).toNat))).1, (rq (mkRat (sg neg (m * 2 ^ e.toNat)) (2 ^ (-e).toNat))).2.1, (rq (mkRat (sg neg (m * 2 ^ e.toNat)) (2 ^ (-e).toNat))).2.2, 0) := by
  have eny : wrap64 (-e) = -e := by rw [w64] <;> omega
  have hb1 : blen 1 = 1 := by decide
  have l1 : (wd 1).length ≤ 1 := wd_len_B (by decide)
  have lm : (wd m).length ≤ 2 := wd_len_B (by
    have : B 2 = 18446744073709551616 := by decide
    omega)
  have hbm : blen m ≤ 64 := blen_lt_iff.2 (by simpa using hm)
  have s1 := ShlN_ev (W32_wd m) (by omega) e
  have s2 := ShlN_ev (W32_wd 1) (by omega) (-e)
  rw [nv_wd] at s1 s2
  rw [if_neg (by decide), hb1, if_neg (by omega), Nat.one_mul] at s2
  have l2 := two_len (-e).toNat (by omega)
  have l3 : (wd (m * 2 ^ e.toNat)).length ≤ 2 + 190 := wd_len_B (mul_lt_B (by
    have : B 2 = 18446744073709551616 := by decide
    omega) (pow_lt_B (by omega)))
  have lo := low_ev (W32_wd (m * 2 ^ e.toNat)) (W32_wd (2 ^ (-e).toNat)) (by omega) (by omega) neg
  have eq1 : qv neg (wd (m * 2 ^ e.toNat)) (wd (2 ^ (-e).toNat)) = mkRat (sg neg (m * 2 ^ e.toNat)) (2 ^ (-e).toNat) := by
    unfold qv
    rw [nv_wd, nv_wd]
  rw [eq1] at lo
  have hs : ∃ c, Ev (fun k => nat_Nat_Shl.f k (wd m) e) (wd (m * 2 ^ e.toNat), c) := by
    by_cases h : m = 0
    · rw [if_pos h] at s1
      refine ⟨0, ?_⟩
      rw [h, Nat.zero_mul, wd_zero]
      rw [h, wd_zero] at s1
      exact s1
    · rw [if_neg h, if_neg (by omega)] at s1
      exact ⟨0, s1⟩
  obtain ⟨c, hs⟩ := hs
  unfold ratio_Dyad.f
  refine Ev.neg (by omega) ?_
  rw [decide_eq_false (by omega)]
  refine Ev.step (fun k => by rw [ratio_Dyad.j0]) ?_
  rw [eny]
  exact Ev.neg (by simp) (Ev.bind (New_ev m hm) (Ev.bind hs (Ev.bind (New_ev 1 (by decide)) (Ev.bind s2 (Ev.bind lo (Ev.ret rfl))))))

/-- The number that a float is. -/
def fval (neg : Bool) (K : Nat) : Rat := mkRat (sg neg (kv K)) (2 * c73)
theorem c74_ne : 2 * c73 ≠ 0 := by have := c73_pos; omega
theorem fval_eq (neg : Bool) (K : Nat) (hK : K < 9218868437227405312) : mkRat (sg neg (sm K * 2 ^ (sx K).toNat)) (2 ^ (-(sx K)).toNat) = fval neg K := by
  unfold fval
  by_cases h0 : K = 0
  · subst h0
    have e1 : sm 0 = 0 := by decide
    rw [kv_zero, e1, Nat.zero_mul, sg_zero, Rat.zero_mkRat, Rat.zero_mkRat]
  · have hse := se_bd K (by omega)
    have hsx : sx K = se K := if_neg h0
    rw [Rat.mkRat_eq_iff (by have := Nat.two_pow_pos (-(sx K)).toNat; omega) c74_ne]
    obtain ⟨d, hd⟩ : ∃ d : Nat, sx K = (d : Int) - 1074 := ⟨(sx K + 1074).toNat, by omega⟩
    rw [kv_of K h0 d hd]
    have e : sm K * 2 ^ (sx K).toNat * (2 * c73) = sm K * 2 ^ d * 2 ^ (-(sx K)).toNat := by
      rw [Nat.mul_assoc, Nat.mul_assoc, ← pow_c74, ← Nat.pow_add]
      congr 2
      omega
    unfold sg
    cases neg
    · simp only [Bool.false_eq_true, if_false]
      rw [← Int.natCast_mul, ← Int.natCast_mul, e]
    · simp only [if_true]
      rw [Int.neg_mul, Int.neg_mul, ← Int.natCast_mul, ← Int.natCast_mul, e]
theorem fval_fits (neg : Bool) (K : Nat) (hK : K < 9218868437227405312) : fits (fval neg K) 34 := by
  rw [← fval_eq neg K hK]
  have hm := sm_lt K
  have hb : -1074 ≤ sx K ∧ sx K ≤ 972 := by
    unfold sx
    split
    · omega
    · have := se_bd K (by omega)
      omega
  refine fits_mkRat ?_ (pow_lt_B (by omega)) (by decide)
  rw [sg_natAbs]
  refine mul_lt_B (m := 2) (n := 32) ?_ (pow_lt_B (by omega))
  have : B 2 = 18446744073709551616 := by decide
  omega
theorem Value_ev (neg : Bool) (K : Nat) (hK : K < 9218868437227405312) : Ev (fun k => pattern_Value.f k (sgn neg K)) ((rq (fval neg K)).1, (rq (fval neg K)).2.1, (rq (fval neg K)).2.2, true) := by
  have hb : -1074 ≤ sx K ∧ sx K ≤ 972 := by
    unfold sx
    split
    · omega
    · have := se_bd K (by omega)
      omega
  have hm := sm_lt K
  have hd := Dyad_ev neg (sm K) (by omega) (sx K) (by omega) (by omega)
  rw [fval_eq neg K hK] at hd
  have hj : Ev (fun k => pattern_Value.j0 k (sgn neg K) false) ((rq (fval neg K)).1, (rq (fval neg K)).2.1, (rq (fval neg K)).2.2, true) := by
    refine Ev.step (fun k => by rw [pattern_Value.j0]) ?_
    refine Ev.neg (by simp) (Ev.bind (SplitP neg K hK) ?_)
    rw [sgn_neg neg K (by omega)]
    exact Ev.bind hd (Ev.ret rfl)
  unfold pattern_Value.f
  refine Ev.bind (ClassP neg K (by omega)) ?_
  have hcl : cls K ≠ 3 ∧ cls K ≠ 4 := by
    rcases cls_fin K hK with ⟨c, h⟩ | ⟨c, h, h2⟩ | ⟨c, h⟩ <;> rw [c] <;> decide
  refine Ev.neg hcl.1 ?_
  rw [show (cls K == 4) = false from beq_eq_false_iff_ne.2 hcl.2]
  exact hj
theorem Value_inf (neg : Bool) (K : Nat) (hK : K < 9223372036854775808) (h : ¬ K < 9218868437227405312) : Ev (fun k => pattern_Value.f k (sgn neg K)) (false, [], [], false) := by
  have hj : Ev (fun k => pattern_Value.j0 k (sgn neg K) true) (false, [], [], false) := by
    refine Ev.step (fun k => by rw [pattern_Value.j0]) ?_
    exact Ev.pos rfl (Ev.ret rfl)
  unfold pattern_Value.f
  refine Ev.bind (ClassP neg K hK) ?_
  rcases cls_inf K hK h with c | c
  · rw [c]; exact Ev.pos rfl hj
  · rw [c]; exact Ev.neg (by decide) hj

end Go.Proofs.Ytfglpaaeipblcaa.Pure
