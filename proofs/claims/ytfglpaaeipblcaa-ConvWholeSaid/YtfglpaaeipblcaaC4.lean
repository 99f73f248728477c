/- The reference's Words, Scaled, in numbers. -/
import Derived.Test.YtfglpaaeipblcaaC2
import Derived.Test.YtfglpaaeipblcaaPFlyballref041
namespace Go.Proofs.Ytfglpaaeipblcaa.Pure
open Go.RowKit Go.Proofs.Ytfglpaaeipblcaa.P Go.Proofs.YtfglpaaeipblcaaW.PrintWords Go.Proofs.YtfglpaaeipblcaaW.PrintLast

theorem rdOf_getD (b : List Bool) (i : Nat) : rdOf false b (i : Int) = b.getD i false := by
  unfold rdOf
  simp
theorem Words_l0_ev (b : List Bool) (hb : b.length < 1000000) : ∀ d i : Nat, i + d = 64 → i ≤ b.length → Ev (fun k => flyballref01_Words.l0 k b 1 [((bv (b.take i) : Nat) : Int)] i) [((bv b % 2 ^ 64 : Nat) : Int)]
  | 0, i, hd, hi => by
    refine Ev.step (fun k => by rw [flyballref01_Words.l0]) ?_
    have fin : Ev (fun k => flyballref01_Words.j1 k b 1 [((bv (b.take i) : Nat) : Int)] i false) [((bv b % 2 ^ 64 : Nat) : Int)] := by
      refine Ev.step (fun k => by rw [flyballref01_Words.j1]) ?_
      refine Ev.neg (by simp) (Ev.ret ?_)
      rw [bv_take, show i = 64 by omega]
    by_cases h : i < b.length
    · refine Ev.pos (by omega) ?_
      rw [show decide ((i : Int) < wrap64 (64 * 1)) = false from decide_eq_false (by rw [w64 (by omega) (by omega)]; omega)]
      exact fin
    · exact Ev.neg (by omega) fin
  | d + 1, i, hd, hi => by
    refine Ev.step (fun k => by rw [flyballref01_Words.l0]) ?_
    by_cases h : i < b.length
    · refine Ev.pos (by omega) ?_
      rw [show decide ((i : Int) < wrap64 (64 * 1)) = true from decide_eq_true (by rw [w64 (by omega) (by omega)]; omega)]
      refine Ev.step (fun k => by rw [flyballref01_Words.j1]) ?_
      have e1 : wrap64 ((i : Int) + 1) = ((i + 1 : Nat) : Int) := by rw [w64 (by omega) (by omega)]; omega
      have e2 : wrap64 (Int.tdiv (i : Int) 64) = 0 := by rw [Int.tdiv_eq_ediv_of_nonneg (by omega), w64 (by omega) (by omega)]; omega
      have e3 : IntKind.u64.wrap (Int.tmod (i : Int) 64) = (i : Int) := by rw [Int.tmod_eq_emod_of_nonneg (by omega), u64i (by omega) (by omega)]; omega
      have hs := bv_take_succ b i h
      have rec_ := Words_l0_ev b hb d (i + 1) (by omega) (by omega)
      have hlt : bv (b.take i) < 2 ^ i := Nat.lt_of_lt_of_le (bv_lt _) (Nat.pow_le_pow_right (by decide) (by simp; omega))
      have hi64 : 2 ^ (i + 1) ≤ 2 ^ 64 := Nat.pow_le_pow_right (by decide) (by omega)
      rw [Nat.pow_succ] at hi64
      simp only [Nat.reducePow] at hi64
      refine Ev.pos rfl (Ev.pos (by omega) (Ev.pos (by omega) ?_))
      rw [rdOf_getD, e1, e2, e3]
      cases hg : b.getD i false
      · refine Ev.neg (by simp) ?_
        rw [hg] at hs
        rw [hs] at rec_
        simpa using rec_
      · refine Ev.pos rfl (Ev.pos (by omega) (Ev.pos (by simp) (Ev.pos (by omega) ?_)))
        rw [hg] at hs
        rw [hs] at rec_
        have er : rd [((bv (b.take i) : Nat) : Int)] 0 = ((bv (b.take i) : Nat) : Int) := rfl
        have es : shl .u64 1 (i : Int) = ((2 ^ i : Nat) : Int) := by
          have := shl64 1 i (by omega)
          rw [Nat.one_mul, Nat.mod_eq_of_lt (by omega)] at this
          exact this
        have eo : Go.bits .or .u64 ((bv (b.take i) : Nat) : Int) ((2 ^ i : Nat) : Int) = ((bv (b.take i) + 2 ^ i * true.toNat : Nat) : Int) := by
          rw [or64 _ _ (by omega) (by omega), Nat.or_comm]
          have := or_join 1 (bv (b.take i)) i hlt
          rw [Nat.mul_one] at this
          rw [this, Bool.toNat_true, Nat.mul_one, Nat.add_comm]
        rw [er, es, eo]
        exact rec_
    · refine Ev.neg (by omega) ?_
      refine Ev.step (fun k => by rw [flyballref01_Words.j1]) ?_
      refine Ev.neg (by simp) (Ev.ret ?_)
      rw [bv_take, Nat.mod_eq_of_lt (Nat.lt_of_lt_of_le (bv_lt b) (Nat.pow_le_pow_right (by decide) (by omega))), Nat.mod_eq_of_lt (Nat.lt_of_lt_of_le (bv_lt b) (Nat.pow_le_pow_right (by decide) (by omega)))]
theorem Words1_ev (b : List Bool) (hb : b.length < 1000000) : Ev (fun k => flyballref01_Words.f k b 1) [((bv b % 2 ^ 64 : Nat) : Int)] := by
  unfold flyballref01_Words.f
  refine Ev.pos (by omega) (Ev.pos (by decide) ?_)
  exact Words_l0_ev b hb 64 0 (by omega) (by omega)
/-- The reference's scaled bits. -/
theorem Scaled_ev (neg : Bool) (K : Nat) (hK : K < 9218868437227405312) : ∃ b, Ev (fun k => flyballref04_Scaled.f k (sgn neg K)) b ∧ bv b = kv K ∧ b.length < 10000 := by
  have hm := sm_lt K
  have hse := se_bd K (by omega)
  have ho := Of1_ev ((sm K : Nat) : Int) (by omega) (by omega)
  rw [Int.toNat_natCast] at ho
  have hbl : bv (wbits (sm K) 64) = sm K := by rw [bv_wbits]; exact Nat.mod_eq_of_lt (by omega)
  have hl := Len_ev (wbits (sm K) 64) (by rw [wbits_length]; omega)
  rw [hbl] at hl
  have hbb : blen (sm K) ≤ 64 := blen_lt_iff.2 (by omega)
  unfold flyballref04_Scaled.f
  by_cases h0 : sm K = 0
  · refine ⟨[], Ev.bind (Split4 neg K hK) (Ev.bind ho (Ev.bind hl (Ev.pos (by omega) (Ev.pos (by rw [wbits_length]; omega) (Ev.pos (by simp only []; omega) (Ev.ret rfl)))))), ?_, by simp⟩
    unfold kv
    rw [h0, Nat.zero_mul]
    rfl
  · have hK0 : K ≠ 0 := by
      intro h
      subst h
      exact h0 rfl
    have hx : sx K = se K := if_neg hK0
    have hs := Shl_ev ((wbits (sm K) 64).take (((blen (sm K) : Nat) : Int)).toNat) (se K + 1074) (by omega) (by simp [wbits_length]; omega)
    refine ⟨_, Ev.bind (Split4 neg K hK) (Ev.bind ho (Ev.bind hl (Ev.pos (by omega) (Ev.pos (by rw [wbits_length]; omega) (Ev.neg (by simp only []; omega) (Ev.bind (by rw [hx, w64 (by omega) (by omega)]; exact hs) (Ev.ret rfl))))))), ?_, ?_⟩
    · rw [bv_shl, Int.toNat_natCast]
      have := bv_take_len (wbits (sm K) 64)
      rw [hbl] at this
      rw [this]
      rfl
    · simp [wbits_length]
      omega
end Go.Proofs.Ytfglpaaeipblcaa.Pure
