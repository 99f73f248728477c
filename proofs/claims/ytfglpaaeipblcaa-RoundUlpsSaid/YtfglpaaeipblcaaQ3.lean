/- A float's own number is rounded to the float. -/
import Derived.Test.YtfglpaaeipblcaaPRound3
import Derived.Test.YtfglpaaeipblcaaQ2
namespace Go.Proofs.Ytfglpaaeipblcaa.Pure
open Go.RowKit Go.Proofs.Ytfglpaaeipblcaa.P Go.Proofs.YtfglpaaeipblcaaW.PrintWords Go.Proofs.YtfglpaaeipblcaaW.PrintLast

theorem c60_c73 : c60 = 2 * c73 * c26 := by
  have h1 := c60_split 1074 4926 (by decide)
  have h2 := pow_c74 0
  have h3 := pow_c26 0
  rw [Nat.zero_add] at h2 h3
  rw [h1, h2, h3, Nat.pow_zero, Nat.one_mul, Nat.one_mul]
theorem kv_ne {K : Nat} (h : K ≠ 0) : kv K ≠ 0 := by
  have := kv_strict (Nat.pos_of_ne_zero h)
  omega
theorem fval_zero (neg : Bool) : fval neg 0 = 0 := by unfold fval; rw [kv_zero, sg_zero, Rat.zero_mkRat]
theorem fval_num (neg : Bool) {K : Nat} (h : K ≠ 0) : (rq (fval neg K)).1 = neg ∧ ∃ N D : Nat, N ≠ 0 ∧ 0 < D ∧ (rq (fval neg K)).2.1 = wd N ∧ (rq (fval neg K)).2.2 = wd D ∧ N * c60 = kv K * (D * c26) := by
  have hk := kv_ne h
  unfold fval
  rw [rq_mkRat hk c74_ne]
  have hg : 0 < Nat.gcd (kv K) (2 * c73) := Nat.gcd_pos_of_pos_left _ (Nat.pos_of_ne_zero hk)
  obtain ⟨N, hN⟩ := Nat.gcd_dvd_left (kv K) (2 * c73)
  obtain ⟨D, hD⟩ := Nat.gcd_dvd_right (kv K) (2 * c73)
  refine ⟨rfl, kv K / Nat.gcd (kv K) (2 * c73), 2 * c73 / Nat.gcd (kv K) (2 * c73), ?_, ?_, rfl, rfl, ?_⟩
  · have := Nat.div_pos (Nat.le_of_dvd (Nat.pos_of_ne_zero hk) (Nat.gcd_dvd_left (kv K) (2 * c73))) hg
    omega
  · exact Nat.div_pos (Nat.le_of_dvd (Nat.pos_of_ne_zero c74_ne) (Nat.gcd_dvd_right (kv K) (2 * c73))) hg
  · have e1 : kv K / Nat.gcd (kv K) (2 * c73) = N := by
      have := Nat.mul_div_cancel_left N hg
      rwa [← hN] at this
    have e2 : 2 * c73 / Nat.gcd (kv K) (2 * c73) = D := by
      have := Nat.mul_div_cancel_left D hg
      rwa [← hD] at this
    rw [e1, e2, c60_c73]
    generalize Nat.gcd (kv K) (2 * c73) = g at *
    clear e1 e2
    rw [hN, hD]
    ac_rfl
theorem IsFloor.of {N D K : Nat} (hD : 0 < D) (hK : K < 9218868437227405312) (h : N * c60 = kv K * (D * c26)) : IsFloor N D K := by
  refine ⟨Nat.le_of_lt hK, Nat.le_of_eq h.symm, .inr ?_⟩
  rw [h]
  exact Nat.mul_lt_mul_of_pos_right (kv_succ K) (Nat.mul_pos hD c26_pos)
theorem rnd_exact {N D K : Nat} (hD : 0 < D) (hK : K < 9218868437227405312) (h : N * c60 = kv K * (D * c26)) (neg : Bool) (mode : Int) : rnd neg N D K mode = (sgn neg K, 0) := by
  unfold rnd
  rw [magOut_exact hD hK h]
/-- A float's own number is rounded to the float. -/
theorem Exact_fval (neg : Bool) {K : Nat} (hK : K < 9218868437227405312) (h : K ≠ 0) (mode : Int) :
    Ev (fun k => round_Exact.f k (rq (fval neg K)).1 (rq (fval neg K)).2.1 (rq (fval neg K)).2.2 mode) (sgn neg K, 0) := by
  obtain ⟨e0, N, D, hN, hD, e1, e2, e3⟩ := fval_num neg h
  obtain ⟨f1, f2⟩ := fval_fits neg K hK
  have l1 : (wd N).length ≤ 34 := by rw [← e1]; exact wd_len_B f1
  have l2 : (wd D).length ≤ 34 := by rw [← e2]; exact wd_len_B f2
  rw [e0, e1, e2]
  obtain ⟨L, hL, he, _⟩ := Exact_ev (W32_wd N) (W32_wd D) (by omega) (by omega) (by rw [nv_wd]; exact hN) (by rw [nv_wd]; omega) neg mode
  rw [nv_wd, nv_wd] at hL he
  have hLK := floor_one hD hL (IsFloor.of hD hK e3)
  rw [hLK, rnd_exact hD hK e3] at he
  exact he
theorem Exact_fval0 (neg : Bool) (mode : Int) : Ev (fun k => round_Exact.f k (rq (fval neg 0)).1 (rq (fval neg 0)).2.1 (rq (fval neg 0)).2.2 mode) (0, 0) := by
  rw [fval_zero, rq_zero]
  have h1 : (wd 1).length ≤ 1 := wd_len_B (by decide)
  refine (Frac_zero (l := []) (d := wd 1) ?_ (W32_wd 1) (by simp) (by omega) (.inl ?_) false mode).2
  · rw [← wd_zero]; exact W32_wd 0
  · rw [← wd_zero, nv_wd]
end Go.Proofs.Ytfglpaaeipblcaa.Pure
