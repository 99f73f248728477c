import Derived.Test.YtfglpaaeipblcaaPPattern1
import Derived.Test.YtfglpaaeipblcaaPRound1
import Derived.Test.YtfglpaaeipblcaaPRound3
import Derived.Test.YtfglpaaeipblcaaPZRoundUlps1
import Derived.Test.YtfglpaaeipblcaaP4
import Derived.Test.YtfglpaaeipblcaaQ3
import Derived.Test.YtfglpaaeipblcaaW5
namespace Go.Proofs.Ytfglpaaeipblcaa.Pure
open Go.RowKit Go.Proofs.Ytfglpaaeipblcaa.P Go.Proofs.YtfglpaaeipblcaaW.PrintWords Go.Proofs.YtfglpaaeipblcaaW.PrintLast

theorem SplitP_inf (neg : Bool) (K : Nat) (hK : K < 9223372036854775808) (h : ¬ K < 9218868437227405312) : Ev (fun k => pattern_Split.f k (sgn neg K)) (0, 0) := by
  unfold pattern_Split.f
  refine Ev.bind0 (PartsP neg K hK) (Ev.bind (ClassP neg K hK) ?_)
  rcases cls_inf K hK h with c | c <;> rw [c] <;> exact Ev.neg (by decide) (Ev.neg (by decide) (Ev.ret rfl))
/-- The float of a power of two. -/
theorem two_key (a : Nat) (ha : a ≤ 2045) : ∃ K, K < 9218868437227405312 ∧ kv K = 2 ^ a ∧ (a = 0 → K = 1) := by
  by_cases h : a ≤ 52
  · have hp : 2 ^ a ≤ 4503599627370496 := by
      have := Nat.pow_le_pow_right (n := 2) (by decide) h
      simpa using this
    have := kv_qw 0 (2 ^ a) (by omega) (.inl rfl)
    refine ⟨4503599627370496 * 0 + 2 ^ a, by omega, ?_, ?_⟩
    · rw [this, Nat.pow_zero, Nat.mul_one]
    · intro h0; rw [h0]
  · have := kv_qw (a - 52) 4503599627370496 (by omega) (.inr (by omega))
    refine ⟨4503599627370496 * (a - 52) + 4503599627370496, by omega, ?_, fun h0 => by omega⟩
    rw [this, show (4503599627370496 : Nat) = 2 ^ 52 by decide, ← Nat.pow_add]
    congr 1
    omega
theorem Round_two (e : Int) (h0 : -1074 ≤ e) (h1 : e ≤ 971) {K : Nat} (hK : K < 9218868437227405312) (hk : kv K = 2 ^ (e + 1074).toNat) : Ev (fun k => round_Round.f k false 0 1 e false 0) ((K : Int), 0) := by
  have hb1 : blen 1 = 1 := by decide
  have hX : 1 * 2 ^ (e + 6000).toNat = kv K * (1 * c26) := by
    rw [show (e + 6000).toNat = (e + 1074).toNat + 4926 by omega, pow_c26, hk, Nat.one_mul, Nat.one_mul]
  have hX2 : 1 * 2 ^ (e + 6000).toNat = kv K * c26 := by rw [hX, Nat.one_mul]
  have fl := float_ev false 1 (by decide) (by decide) e (by omega) false (by simp) 0 K (Nat.le_of_lt hK) (Nat.le_of_eq hX2.symm) (.inr (by
    rw [hX2]
    exact Nat.mul_lt_mul_of_pos_right (kv_succ K) c26_pos))
  have hm := magOut_exact (D := 1) (by decide) hK hX (wayOf false 0)
  rw [Nat.one_mul c26] at hm
  rw [hm] at fl
  have hu := ULen 1 (by decide)
  unfold round_Round.f
  refine Ev.bind0 hu (Ev.neg (by rw [hb1]; decide) (Ev.neg (by simp) ?_))
  have ec : mn (mx e (-5000)) 5000 = e := by unfold mx mn; repeat' split <;> omega
  rw [ec]
  exact Ev.bind fl (Ev.ret rfl)
theorem Dyad_key (e : Int) (h0 : -1074 ≤ e) {K : Nat} (hk : kv K = 2 ^ (e + 1074).toNat) : mkRat (sg false (1 * 2 ^ e.toNat)) (2 ^ (-e).toNat) = fval false K := by
  unfold fval
  rw [Rat.mkRat_eq_iff (by have := Nat.two_pow_pos (-e).toNat; omega) c74_ne, hk]
  have e1 : 1 * 2 ^ e.toNat * (2 * c73) = 2 ^ (e + 1074).toNat * 2 ^ (-e).toNat := by
    rw [Nat.one_mul, ← pow_c74, ← Nat.pow_add]
    congr 1
    omega
  unfold sg
  simp only [Bool.false_eq_true, if_false]
  rw [← Int.natCast_mul, ← Int.natCast_mul, e1]
theorem sm_ne {K : Nat} (h : K ≠ 0) : sm K ≠ 0 := by unfold sm; split <;> omega
theorem sx_bd (K : Nat) (hK : K < 9218868437227405312) : -1074 ≤ sx K ∧ sx K ≤ 971 := by
  unfold sx se
  repeat' split
  all_goals omega
theorem ulps_ev (a0 : Int) (h0 : 0 ≤ a0) (h1 : a0 < 18446744073709551616) : Ev (fun k => flyballlaw05_RoundUlps.f k a0) true := by
  obtain ⟨neg, K, hK, rfl⟩ := sgn_of a0 h0 h1
  unfold flyballlaw05_RoundUlps.f
  refine Ev.bind works5 (Ev.pos rfl ?_)
  have hF := Finite4 neg K hK
  by_cases hf : K < 9218868437227405312
  · rw [decide_eq_true hf] at hF
    have hs := SplitP neg K hf
    have hs4 := Split4 neg K hf
    have hsx := sx_bd K hf
    by_cases hz : K = 0
    · subst hz
      obtain ⟨L, hL, hk, hL1⟩ := two_key 0 (by decide)
      have hL1 := hL1 rfl
      subst hL1
      have hr := Round_two (-1074) (by decide) (by decide) hL (by rw [hk]; rfl)
      have hu : Ev (fun k => round_Ulp.f k (sgn neg (0 : Nat))) 1 := by
        unfold round_Ulp.f
        refine Ev.bind hs (Ev.bind0 (by unfold pattern_Quiet.f; rfl) (Ev.bind (ClassP neg 0 hK) ?_))
        exact Ev.pos (by decide) (Ev.bind hr (Ev.ret rfl))
      exact Ev.bind hu (Ev.bind hF (Ev.pos rfl (Ev.bind hs4 (Ev.pos (by decide) (Ev.ret rfl)))))
    · obtain ⟨L, hL, hk, _⟩ := two_key (sx K + 1074).toNat (by omega)
      have hr := Round_two (sx K) hsx.1 hsx.2 hL hk
      have hu : Ev (fun k => round_Ulp.f k (sgn neg K)) (L : Int) := by
        unfold round_Ulp.f
        refine Ev.bind hs (Ev.bind0 (by unfold pattern_Quiet.f; rfl) (Ev.bind (ClassP neg K hK) ?_))
        rcases cls_fin K hf with ⟨c, h⟩ | ⟨c, h, h2⟩ | ⟨c, h⟩
        · exact absurd h hz
        · rw [c]
          exact Ev.neg (by decide) (Ev.pos rfl (Ev.bind hr (Ev.ret rfl)))
        · rw [c]
          exact Ev.neg (by decide) (Ev.neg (by decide) (Ev.pos rfl (Ev.bind hr (Ev.ret rfl))))
      have hv := Value_ev false L hL
      have hd := Dyad_ev false 1 (by decide) (sx K) (by omega) (by omega)
      rw [Dyad_key (sx K) hsx.1 hk] at hd
      have hI := IsQ.rq (fval_fits false L hL) (by decide)
      have hfit := fval_fits false L hL
      have hc := RCmp_ev hI hI hfit hfit (by decide)
      have hsn : sgn false (L : Int) = (L : Int) := by unfold sgn; rw [if_neg (by simp)]
      rw [hsn] at hv
      refine Ev.bind hu (Ev.bind hF (Ev.pos rfl (Ev.bind hs4 (Ev.neg ?_ (Ev.bind hv (Ev.bind hd (Ev.bind hc (Ev.ret ?_))))))))
      · have := sm_ne hz
        simp only []
        omega
      · unfold cmpQ
        rw [if_neg Rat.lt_irrefl, if_neg Rat.lt_irrefl]
        rfl
  · rw [decide_eq_false hf] at hF
    have hu : Ev (fun k => round_Ulp.f k (sgn neg K)) 9221120237041090560 := by
      unfold round_Ulp.f
      refine Ev.bind (SplitP_inf neg K hK hf) (Ev.bind0 (by unfold pattern_Quiet.f; rfl) (Ev.bind (ClassP neg K hK) ?_))
      rcases cls_inf K hK hf with c | c <;> rw [c] <;> exact Ev.neg (by decide) (Ev.neg (by decide) (Ev.neg (by decide) (Ev.ret rfl)))
    exact Ev.bind hu (Ev.bind hF (Ev.neg (by simp) (Ev.bind0 (by unfold pattern_Quiet.f; rfl) (Ev.ret rfl))))
theorem RoundUlps : flyballlaw05_RoundUlps.Pure := by
  intro a0 w0
  obtain ⟨h0, h1⟩ := wf_u64 w0
  obtain ⟨n, h⟩ := ulps_ev a0 h0 h1
  exact ⟨n, h n (Nat.le_refl _)⟩
end Go.Proofs.Ytfglpaaeipblcaa.Pure
