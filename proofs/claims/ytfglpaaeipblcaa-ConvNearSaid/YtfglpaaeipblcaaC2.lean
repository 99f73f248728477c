/- The program's integers of floats. -/
import Derived.Test.YtfglpaaeipblcaaPConv1
import Derived.Test.YtfglpaaeipblcaaS7
import Derived.Test.YtfglpaaeipblcaaP1
namespace Go.Proofs.Ytfglpaaeipblcaa.Pure
open Go.RowKit Go.Proofs.Ytfglpaaeipblcaa.P Go.Proofs.YtfglpaaeipblcaaW.PrintWords Go.Proofs.YtfglpaaeipblcaaW.PrintLast

/-- What cut comes to. -/
theorem cut_ev (neg : Bool) (K : Nat) (hK : K < 9218868437227405312) : ∃ (hi lo : Int) (half more ok : Bool), Ev (fun k => conv_cut.f k (sgn neg K)) (hi, lo, half, more, ok) ∧ ok = decide (kv K / (2 * c73) < 18446744073709551616) ∧
    (ok = true → hi = 0 ∧ lo = ((kv K / (2 * c73) : Nat) : Int) ∧ half = decide (kv K / c73 % 2 = 1) ∧ more = decide (kv K % c73 ≠ 0)) := by
  have hm := sm_lt K
  have hc := c73_pos
  by_cases h0 : K = 0
  · subst h0
    refine ⟨0, 0, false, false, true, ?_, ?_, ?_⟩
    · unfold conv_cut.f
      refine Ev.bind (SplitP neg 0 hK) (Ev.neg (by simp [sx]) (Ev.pos (by simp [sx]) ?_))
      have := UShl 0 0 (by omega) (by omega)
      exact Ev.bind this (Ev.ret rfl)
    · rw [kv_zero, Nat.zero_div]; rfl
    · intro _
      rw [kv_zero, Nat.zero_div, Nat.zero_div, Nat.zero_mod]
      exact ⟨rfl, rfl, rfl, rfl⟩
  · have hsx : sx K = se K := if_neg h0
    have hse := se_bd K (by omega)
    unfold conv_cut.f
    by_cases h64 : sx K > 64
    · refine ⟨0, _, false, false, false, Ev.bind (SplitP neg K hK) (Ev.pos h64 (Ev.ret rfl)), ?_, by simp⟩
      obtain ⟨d, hd⟩ : ∃ d : Nat, sx K = ((d + 1074 : Nat) : Int) - 1074 := ⟨(sx K).toNat, by omega⟩
      rw [kv_of K h0 _ hd, pow_c74, ← Nat.mul_assoc, Nat.mul_div_cancel _ (by omega)]
      symm
      refine decide_eq_false ?_
      have h1 : 4503599627370496 ≤ sm K := by
        unfold sm
        unfold se at hsx
        rw [hsx] at h64
        split
        · rw [if_pos (by assumption)] at h64; omega
        · omega
      have h2 : 2 ^ 64 ≤ 2 ^ d := Nat.pow_le_pow_right (by decide) (by omega)
      have h3 : 1 * 2 ^ d ≤ sm K * 2 ^ d := Nat.mul_le_mul_right _ (by omega)
      simp only [Nat.reducePow] at h2
      omega
    · by_cases hp : sx K ≥ 0
      · obtain ⟨d, hd⟩ : ∃ d : Nat, sx K = (d : Int) := ⟨(sx K).toNat, by omega⟩
        have hkv : kv K / (2 * c73) = sm K * 2 ^ d := by
          rw [kv_of K h0 (d + 1074) (by omega), pow_c74, ← Nat.mul_assoc, Nat.mul_div_cancel _ (by omega)]
        have hbig : sm K * 2 ^ d < 340282366920938463463374607431768211456 := by
          have h2 : 2 ^ d ≤ 2 ^ 64 := Nat.pow_le_pow_right (by decide) (by omega)
          have h3 := Nat.mul_le_mul (Nat.le_of_lt hm) h2
          simp only [Nat.reducePow] at h3
          omega
        have s := UShl (sm K) d (by omega) (by omega)
        rw [Nat.div_eq_of_lt (a := sm K) (by omega), Nat.mod_eq_of_lt (a := sm K) (by omega), Nat.mod_eq_of_lt (a := sm K * 2 ^ d / 18446744073709551616) (by omega)] at s
        refine ⟨_, _, false, false, _, Ev.bind (SplitP neg K hK) (Ev.neg h64 (Ev.pos hp (Ev.bind (by rw [hd]; exact s) (Ev.ret rfl)))), ?_, ?_⟩
        · rw [hkv]
          by_cases hh : sm K * 2 ^ d < 18446744073709551616
          · rw [decide_eq_true hh, Nat.div_eq_of_lt hh]; rfl
          · rw [decide_eq_false hh]
            exact beq_eq_false_iff_ne.2 (by simp only []; omega)
        · intro hok
          have hok2 : ((sm K * 2 ^ d / 18446744073709551616 : Nat) : Int) = 0 := beq_iff_eq.1 hok
          rw [hkv]
          refine ⟨hok2, by rw [Nat.mod_eq_of_lt (by omega)], ?_, ?_⟩
          · symm
            refine decide_eq_false ?_
            rw [kv_of K h0 (d + 1074) (by omega), pow_c74, Nat.mul_comm 2 c73, ← Nat.mul_assoc, Nat.mul_left_comm, Nat.mul_div_cancel_left _ hc]
            generalize sm K * 2 ^ d = y
            have : sm K * (2 ^ d * 2) = sm K * 2 ^ d * 2 := (Nat.mul_assoc _ _ _).symm
            omega
          · symm
            refine decide_eq_false ?_
            rw [kv_of K h0 (d + 1074) (by omega), pow_c74, Nat.mul_comm 2 c73, ← Nat.mul_assoc, Nat.mul_left_comm, Nat.mul_mod_right]
            simp
      · obtain ⟨d, hd⟩ : ∃ d : Nat, sx K = -((d + 1 : Nat) : Int) := ⟨(-sx K - 1).toNat, by omega⟩
        have hd2 : d ≤ 1073 := by omega
        have hkv : kv K = sm K * 2 ^ (1073 - d) := kv_of K h0 _ (by omega)
        have hc3 : c73 = 2 ^ d * 2 ^ (1073 - d) := pow_split _ _ (by omega)
        have hpp : 0 < 2 ^ (1073 - d) := Nat.two_pow_pos _
        have e1 : wrap64 (wrap64 (-sx K) - 1) = (d : Int) := by rw [w64 (x := -sx K) (by omega) (by omega), w64 (by omega) (by omega)]; omega
        have s1 := UShr (sm K) d (by omega) (by omega)
        rw [Nat.div_eq_of_lt (a := sm K) (by omega), Nat.mod_eq_of_lt (a := sm K) (by omega)] at s1
        have hq : sm K / 2 ^ d < 9007199254740992 := Nat.lt_of_le_of_lt (Nat.div_le_self _ _) hm
        have s2 := UShr (sm K / 2 ^ d) 1 (by omega) (by omega)
        refine ⟨_, _, _, _, true, Ev.bind (SplitP neg K hK) (Ev.neg h64 (Ev.neg hp (Ev.bind (by rw [e1]; exact s1) (Ev.bind s2 (Ev.ret rfl))))), ?_, ?_⟩
        · symm
          refine decide_eq_true ?_
          have a1 : kv K / (2 * c73) = kv K / c73 / 2 := by rw [Nat.mul_comm, Nat.div_div_eq_div_mul]
          rw [a1, hkv, hc3, Nat.mul_div_mul_right _ _ hpp]
          omega
        · intro _
          have a1 : kv K / (2 * c73) = kv K / c73 / 2 := by rw [Nat.mul_comm, Nat.div_div_eq_div_mul]
          have a2 : kv K / c73 = sm K / 2 ^ d := by rw [hkv, hc3, Nat.mul_div_mul_right _ _ hpp]
          have a3 : kv K % c73 = sm K % 2 ^ d * 2 ^ (1073 - d) := by rw [hkv, hc3, Nat.mul_mod_mul_right]
          rw [a1, a2, a3, and1 _ (Nat.mod_lt _ (by decide))]
          refine ⟨?_, ?_, ?_, ?_⟩
          · rw [Nat.pow_one, Nat.div_eq_of_lt (a := sm K / 2 ^ d / 2) (by omega)]; rfl
          · rw [Nat.pow_one, Nat.mod_eq_of_lt (a := sm K / 2 ^ d / 2) (by omega)]
          · exact decide_eq_decide.2 (by omega)
          · refine decide_eq_decide.2 ?_
            constructor
            · intro hne h
              exact hne ((Nat.mul_eq_zero.1 h).resolve_right (by omega))
            · intro hne h
              exact hne (by rw [h, Nat.zero_mul])
/-- A float as an integer of s bits. -/
def toOut (neg : Bool) (V s : Nat) : Int × Int :=
  if 2 ^ (s - 1) < V / (2 * c73) ∨ V / (2 * c73) = 2 ^ (s - 1) ∧ neg = false then (0, 16) else ((if neg = true then -((V / (2 * c73) : Nat) : Int) else ((V / (2 * c73) : Nat) : Int)), if V % (2 * c73) ≠ 0 then 1 else 0)
theorem to_ev (neg : Bool) (K : Nat) (hK : K < 9218868437227405312) (s : Nat) (hs : 1 ≤ s ∧ s ≤ 64) : Ev (fun k => conv_to.f k (sgn neg K) s) (toOut neg (kv K) s) := by
  obtain ⟨hi, lo, half, more, ok, hcut, hok, hif⟩ := cut_ev neg K hK
  have hc := c73_pos
  have hpow : 2 ^ (s - 1) ≤ 9223372036854775808 := by
    have : 2 ^ (s - 1) ≤ 2 ^ 63 := Nat.pow_le_pow_right (by decide) (by omega)
    simpa using this
  have e1 : wrap64 ((s : Int) - 1) = ((s - 1 : Nat) : Int) := by rw [w64] <;> omega
  have e2 : shl .u64 1 ((s - 1 : Nat) : Int) = ((2 ^ (s - 1) : Nat) : Int) := by
    have := shl64 1 (s - 1) (by omega)
    rw [Nat.one_mul, Nat.mod_eq_of_lt (by omega)] at this
    exact this
  have bad : ∀ a b c d e : Bool, ∀ x y : Int, e = true → Ev (fun k => conv_to.j1 k a b c e x y) (0, 16) := by
    intro a b c d e x y he
    refine Ev.step (fun k => by rw [conv_to.j1]) ?_
    exact Ev.pos he (Ev.ret rfl)
  have hj : Ev (fun k => conv_to.j0 k (sgn neg K) s neg false) (toOut neg (kv K) s) := by
    refine Ev.step (fun k => by rw [conv_to.j0]) ?_
    rw [e1, e2]
    refine Ev.neg (by simp) (Ev.bind hcut (Ev.pos (by omega) ?_))
    by_cases hk : ok = true
    · obtain ⟨r1, r2, r3, r4⟩ := hif hk
      have hV : kv K / (2 * c73) < 18446744073709551616 := of_decide_eq_true (hok ▸ hk)
      have hbt := between_eq (kv K) c73 hc
      rw [← r3, ← r4] at hbt
      unfold toOut
      generalize hM : kv K / (2 * c73) = M at *
      subst r2
      have good : ¬ (2 ^ (s - 1) < M ∨ M = 2 ^ (s - 1) ∧ neg = false) → ∀ e : Bool, e = false → Ev (fun k => conv_to.j1 k neg half more e hi M) ((if neg = true then -((M : Nat) : Int) else ((M : Nat) : Int)), if kv K % (2 * c73) ≠ 0 then 1 else 0) := by
        intro hng e he
        have hsgn : ∀ fl : Int, Ev (fun _ : Nat => if neg = true then some (wrap64 (IntKind.u64.wrap (-(M : Int))), fl) else some (wrap64 (M : Int), fl)) ((if neg = true then -((M : Nat) : Int) else ((M : Nat) : Int)), fl) := by
          intro fl
          cases neg
          · refine Ev.neg (by simp) (Ev.ret ?_)
            rw [if_neg (by simp), w64 (by omega) (by simp at hng; omega)]
          · refine Ev.pos rfl (Ev.ret ?_)
            rw [if_pos rfl, u64w]
            congr 1
            unfold wrap64
            simp at hng
            omega
        have hj2 : ∀ b : Bool, Ev (fun k => conv_to.j2 k neg 0 b hi M) ((if neg = true then -((M : Nat) : Int) else ((M : Nat) : Int)), if b = true then 1 else 0) := by
          intro b
          refine Ev.step (fun k => by rw [conv_to.j2]) ?_
          cases b
          · exact Ev.neg (by simp) (hsgn 0)
          · exact Ev.pos rfl (hsgn 1)
        have hfl : (if kv K % (2 * c73) ≠ 0 then (1 : Int) else 0) = if (half || more) = true then 1 else 0 := by
          rw [hbt]; simp only [decide_eq_true_eq]
        rw [hfl]
        refine Ev.step (fun k => by rw [conv_to.j1]) ?_
        refine Ev.neg (by rw [he]; simp) ?_
        cases half
        · exact Ev.neg (by simp) (hj2 more)
        · exact Ev.pos rfl (hj2 true)
      refine Ev.pos hk ?_
      by_cases h1 : 2 ^ (s - 1) < M
      · rw [if_pos (.inl h1)]
        exact Ev.pos (by simp only []; omega) (bad _ _ _ true _ _ _ rfl)
      · refine Ev.neg (by simp only []; omega) ?_
        by_cases h2 : M = 2 ^ (s - 1)
        · refine Ev.pos (by simp only []; omega) ?_
          cases neg
          · rw [if_pos (.inr ⟨h2, rfl⟩)]
            exact bad _ _ _ true _ _ _ rfl
          · rw [if_neg (by simp; omega)]
            exact good (by simp; omega) _ rfl
        · rw [if_neg (by omega)]
          exact Ev.neg (by simp only []; omega) (good (by omega) _ rfl)
    · refine Ev.neg hk ?_
      have hV : ¬ kv K / (2 * c73) < 18446744073709551616 := fun h => hk (by rw [hok]; exact decide_eq_true h)
      unfold toOut
      rw [if_pos (.inl (by omega))]
      exact bad _ _ _ true _ _ _ rfl
  unfold conv_to.f
  rw [sgn_neg neg K (by omega)]
  refine Ev.bind (ClassP neg K (by omega)) ?_
  have hcl : cls K ≠ 3 ∧ cls K ≠ 4 := by
    rcases cls_fin K hK with ⟨c, h⟩ | ⟨c, h, h2⟩ | ⟨c, h⟩ <;> rw [c] <;> decide
  refine Ev.neg hcl.1 ?_
  rw [show (cls K == 4) = false from beq_eq_false_iff_ne.2 hcl.2]
  exact hj
end Go.Proofs.Ytfglpaaeipblcaa.Pure
