/- A float without its fraction, in numbers. -/
import Derived.Test.YtfglpaaeipblcaaPConv1
import Derived.Test.YtfglpaaeipblcaaPRound1
import Derived.Test.YtfglpaaeipblcaaV1
import Derived.Test.YtfglpaaeipblcaaC3
namespace Go.Proofs.Ytfglpaaeipblcaa.Pure
open Go.RowKit Go.Proofs.Ytfglpaaeipblcaa.P Go.Proofs.YtfglpaaeipblcaaW.PrintWords Go.Proofs.YtfglpaaeipblcaaW.PrintLast

theorem se_small2 (K : Nat) (h : sx K < 0) : kv K / (2 * c73) < 4503599627370496 := by
  by_cases h0 : K = 0
  · subst h0; rw [kv_zero, Nat.zero_div]; decide
  · unfold sx at h
    rw [if_neg h0] at h
    have hm := sm_lt K
    have hc := c73_pos
    have hk : kv K ≤ sm K * c73 := by
      unfold kv
      obtain ⟨m, hm7⟩ : ∃ m : Nat, m = 1073 := ⟨_, rfl⟩
      have h2 : 2 ^ (se K + 1074).toNat ≤ 2 ^ m := Nat.pow_le_pow_right (by decide) (by omega)
      have h3 : 2 ^ m = c73 := by rw [hm7]; exact pow_c73
      rw [h3] at h2
      exact Nat.mul_le_mul_left _ h2
    refine (Nat.div_lt_iff_lt_mul (by omega)).2 ?_
    have h4 := Nat.mul_lt_mul_of_pos_right hm hc
    have e : 4503599627370496 * (2 * c73) = 9007199254740992 * c73 := by rw [← Nat.mul_assoc]
    omega
theorem Whole_num (neg : Bool) (K : Nat) (hK : K < 9218868437227405312) (mode : Int) :
    ∃ L : Nat, L < 9218868437227405312 ∧ kv L = (kv K / (2 * c73) + (upW (kv K) neg mode).toNat) * (2 * c73) ∧ Ev (fun k => conv_Whole.f k (sgn neg K) mode) (sgn neg L, if kv K % (2 * c73) ≠ 0 then 1 else 0) := by
  have hc := c73_pos
  by_cases hs : sx K < 0
  · have hsm := se_small2 K hs
    have hu : (upW (kv K) neg mode).toNat ≤ 1 := by cases upW (kv K) neg mode <;> simp
    by_cases hn : kv K / (2 * c73) + (upW (kv K) neg mode).toNat = 0
    · refine ⟨0, by decide, by rw [hn, kv_zero, Nat.zero_mul], ?_⟩
      refine Whole_ev neg K hK mode hs (sgn neg (0 : Nat), 0) ?_
      rw [hn]
      unfold round_Round.f
      refine Ev.bind0 (ULen 0 (by decide)) (Ev.pos rfl ?_)
      exact Ev.bind (MakeP neg 0 0 (by omega) (by omega)) (Ev.ret (by cases neg <;> rfl))
    · obtain ⟨L, hL, hk, hr⟩ := Round_small (kv K / (2 * c73) + (upW (kv K) neg mode).toNat) hn (by omega)
      exact ⟨L, hL, hk, Whole_ev neg K hK mode hs (sgn neg L, 0) (hr neg 0)⟩
  · have hz : kv K % (2 * c73) = 0 ∧ kv K / c73 % 2 = 0 := by
      by_cases h0 : K = 0
      · rw [h0, kv_zero, Nat.zero_mod, Nat.zero_div]
        exact ⟨rfl, rfl⟩
      · obtain ⟨d, hd⟩ : ∃ d : Nat, sx K = (d : Int) := ⟨(sx K).toNat, by omega⟩
        have hkv := kv_of K h0 (d + 1074) (by omega)
        rw [pow_c74] at hkv
        constructor
        · rw [hkv, ← Nat.mul_assoc, Nat.mul_mod_left]
        · rw [hkv, Nat.mul_comm 2 c73, ← Nat.mul_assoc, ← Nat.mul_assoc, Nat.mul_right_comm, Nat.mul_div_cancel _ hc, Nat.mul_mod_left]
    have hup : upW (kv K) neg mode = false := by
      unfold upW
      rw [hz.1, hz.2]
      simp
    refine ⟨K, hK, ?_, ?_⟩
    · rw [hup, Bool.toNat_false, Nat.add_zero]
      have := Nat.div_add_mod (kv K) (2 * c73)
      rw [hz.1, Nat.add_zero, Nat.mul_comm] at this
      exact this.symm
    · have := Whole_same neg K hK mode hs
      rw [hz.1, if_neg (by simp)]
      exact this
end Go.Proofs.Ytfglpaaeipblcaa.Pure
