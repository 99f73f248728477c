/- The program's Whole; a small integer as a float. -/
import Derived.Test.YtfglpaaeipblcaaPConv1
import Derived.Test.YtfglpaaeipblcaaPRound1
import Derived.Test.YtfglpaaeipblcaaC2
namespace Go.Proofs.Ytfglpaaeipblcaa.Pure
open Go.RowKit Go.Proofs.Ytfglpaaeipblcaa.P Go.Proofs.YtfglpaaeipblcaaW.PrintWords Go.Proofs.YtfglpaaeipblcaaW.PrintLast

theorem pow_c74h (m : Nat) (h : m = 1074) : 2 ^ m = 2 * c73 := by
  subst h
  have := pow_c74 0
  rw [Nat.zero_add, Nat.pow_zero, Nat.one_mul] at this
  exact this
/-- An integer of at most 53 bits is rounded to itself. -/
theorem Round_small (n : Nat) (h0 : n ≠ 0) (h1 : n < 9007199254740992) : ∃ K : Nat, K < 9218868437227405312 ∧ kv K = n * (2 * c73) ∧ ∀ (neg : Bool) (mode : Int), Ev (fun k => round_Round.f k neg 0 n 0 false mode) (sgn neg K, 0) := by
  have hb1 : blen n ≤ 53 := blen_lt_iff.2 (by simpa using h1)
  have hb0 : blen n ≠ 0 := fun h => h0 (blen_eq_zero.1 h)
  have hlo := blen_le n h0
  have hhi := lt_blen n
  have hw : n * 2 ^ (53 - blen n) < 9007199254740992 := by
    have := Nat.mul_lt_mul_of_pos_right hhi (Nat.two_pow_pos (53 - blen n))
    rw [← Nat.pow_add, show blen n + (53 - blen n) = 53 by omega] at this
    simpa using this
  have hw2 : 4503599627370496 ≤ n * 2 ^ (53 - blen n) := by
    have := Nat.mul_le_mul_right (2 ^ (53 - blen n)) hlo
    rw [← Nat.pow_add, show blen n - 1 + (53 - blen n) = 52 by omega] at this
    simpa using this
  refine ⟨4503599627370496 * (blen n + 1021) + n * 2 ^ (53 - blen n), by omega, ?_, ?_⟩
  · rw [kv_qw _ _ (by omega) (.inr hw2), Nat.mul_assoc, ← Nat.pow_add, pow_c74h _ (show 53 - blen n + (blen n + 1021) = 1074 by omega)]
  · intro neg mode
    have hU := ULen n (by omega)
    have hS := UShl n (53 - blen n) (by omega) (by omega)
    rw [Nat.div_eq_of_lt (a := n) (by omega), Nat.mod_eq_of_lt (a := n) (by omega)] at hU hS
    rw [Nat.mod_eq_of_lt (a := n * 2 ^ (53 - blen n)) (by omega), Nat.div_eq_of_lt (a := n * 2 ^ (53 - blen n)) (by omega)] at hS
    unfold round_Round.f
    refine Ev.bind0 hU (Ev.neg (by omega) (Ev.neg (by simp) ?_))
    have hcl : mn (mx (0 : Int) (-5000)) 5000 = 0 := by decide
    rw [hcl]
    have hq : mx (wrap64 (wrap64 (((blen n : Nat) : Int) - 53) + 0)) (-1074) = ((blen n + 1021 : Nat) : Int) - 1074 := by
      rw [w64 (x := ((blen n : Nat) : Int) - 53) (by omega) (by omega), w64 (by omega) (by omega)]
      unfold mx
      split <;> omega
    have hfl : Ev (fun k => round_number_float.f k neg 0 n 0 false mode) (sgn neg ((4503599627370496 * (blen n + 1021) + n * 2 ^ (53 - blen n) : Nat) : Int), 0) := by
      unfold round_number_float.f
      refine Ev.bind0 hU ?_
      rw [hq, w64 (x := ((blen n + 1021 : Nat) : Int) - 1074 - 0) (by omega) (by omega)]
      refine Ev.neg (by omega) ?_
      rw [show wrap64 (-(((blen n + 1021 : Nat) : Int) - 1074 - 0)) = ((53 - blen n : Nat) : Int) by rw [w64] <;> omega]
      refine Ev.bind hS ?_
      have f := fj0_ev (blen n : Nat) 0 mode (by omega) (by omega) (blen n + 1021) (n * 2 ^ (53 - blen n)) hw (by omega) (.inr hw2) false false neg 0 n false (((0 % 18446744073709551616 : Nat)) : Int)
      refine Ev.as f ?_
      unfold roundOut
      have hup : upP (wayOf neg mode) (decide (n * 2 ^ (53 - blen n) % 2 = 1)) false false = false := by
        unfold upP
        split
        · rfl
        · split
          · rfl
          · simp
      simp only [hup, Bool.false_eq_true, if_false, Bool.or_self]
      rw [if_neg (by omega)]
    exact Ev.bind hfl (Ev.ret rfl)

/-- Whether what is behind the point goes up, in the reference's and in the program's word. -/
def upW (V : Nat) (neg : Bool) (mode : Int) : Bool :=
  if mode = 1 then decide (V % (2 * c73) ≠ 0) && !neg else if mode = 2 then decide (V % (2 * c73) ≠ 0) && neg else decide (V / c73 % 2 = 1) && (decide (V % c73 ≠ 0) || decide (V / (2 * c73) % 2 = 1))
theorem W2_ev (neg : Bool) (up : Bool) (lo : Nat) (hlo : lo + 1 < 18446744073709551616) (b : Bool) (r : Int × Int) (hr : Ev (fun k => round_Round.f k neg 0 ((lo + up.toNat : Nat) : Int) 0 false 0) r) :
    Ev (fun k => conv_Whole.j2 k neg b up 0 lo) (r.1, if b = true then 1 else 0) := by
  refine Ev.step (fun k => by rw [conv_Whole.j2]) ?_
  have fin : Ev (fun _ : Nat => if b = true then some (r.1, (1 : Int)) else some (r.1, 0)) (r.1, if b = true then 1 else 0) := by
    cases b
    · exact Ev.neg (by simp) (Ev.ret rfl)
    · exact Ev.pos rfl (Ev.ret rfl)
  cases up
  · exact Ev.neg (by simp) (Ev.bind hr fin)
  · refine Ev.pos rfl ?_
    rw [u64i (by omega) (by omega), show (lo : Int) + 1 = ((lo + true.toNat : Nat) : Int) by simp]
    exact Ev.bind hr fin
theorem W1_ev (neg : Bool) (V : Nat) (mode : Int) (hV : V / (2 * c73) + 1 < 18446744073709551616) (x14 : Bool) (h14 : x14 = (decide (V / c73 % 2 = 1) && (decide (V % c73 ≠ 0) || decide (V / (2 * c73) % 2 = 1)))) (r : Int × Int)
    (hr : Ev (fun k => round_Round.f k neg 0 ((V / (2 * c73) + (upW V neg mode).toNat : Nat) : Int) 0 false 0) r) :
    Ev (fun k => conv_Whole.j1 k mode neg (decide (V % (2 * c73) ≠ 0)) x14 0 ((V / (2 * c73) : Nat) : Int)) (r.1, if V % (2 * c73) ≠ 0 then 1 else 0) := by
  refine Ev.step (fun k => by rw [conv_Whole.j1]) ?_
  have key : ∀ u : Bool, u = upW V neg mode → Ev (fun k => conv_Whole.j2 k neg (decide (V % (2 * c73) ≠ 0)) u 0 ((V / (2 * c73) : Nat) : Int)) (r.1, if V % (2 * c73) ≠ 0 then 1 else 0) := by
    intro u hu
    subst hu
    refine Ev.as (W2_ev neg _ _ hV (decide (V % (2 * c73) ≠ 0)) r hr) ?_
    simp only [decide_eq_true_eq]
  by_cases m1 : mode = 1
  · refine Ev.pos m1 ?_
    by_cases hb : V % (2 * c73) ≠ 0
    · rw [decide_eq_true hb] at key ⊢
      exact Ev.pos rfl (key _ (by unfold upW; rw [if_pos m1, decide_eq_true hb, Bool.true_and]))
    · rw [decide_eq_false hb] at key ⊢
      exact Ev.neg (by simp) (key _ (by unfold upW; rw [if_pos m1, decide_eq_false hb, Bool.false_and]))
  · refine Ev.neg m1 ?_
    by_cases m2 : mode = 2
    · refine Ev.pos m2 ?_
      by_cases hb : V % (2 * c73) ≠ 0
      · rw [decide_eq_true hb] at key ⊢
        exact Ev.pos rfl (key _ (by unfold upW; rw [if_neg m1, if_pos m2, decide_eq_true hb, Bool.true_and]))
      · rw [decide_eq_false hb] at key ⊢
        exact Ev.neg (by simp) (key _ (by unfold upW; rw [if_neg m1, if_pos m2, decide_eq_false hb, Bool.false_and]))
    · exact Ev.neg m2 (key _ (by unfold upW; rw [if_neg m1, if_neg m2, h14]))
theorem se_small (K : Nat) (h : sx K < 0) : kv K / (2 * c73) < 9007199254740992 := by
  by_cases h0 : K = 0
  · subst h0; rw [kv_zero, Nat.zero_div]; decide
  · unfold sx at h
    rw [if_neg h0] at h
    have hm := sm_lt K
    have hc := c73_pos
    unfold kv
    have hb : (se K + 1074).toNat ≤ 1074 := by omega
    refine (Nat.div_lt_iff_lt_mul (by omega)).2 ?_
    obtain ⟨m, hm7⟩ : ∃ m : Nat, m = 1074 := ⟨_, rfl⟩
    have h2 : 2 ^ (se K + 1074).toNat ≤ 2 ^ m := Nat.pow_le_pow_right (by decide) (by omega)
    rw [pow_c74h m hm7] at h2
    exact Nat.lt_of_le_of_lt (Nat.mul_le_mul_left _ h2) (Nat.mul_lt_mul_of_pos_right hm (by omega))
theorem Whole_ev (neg : Bool) (K : Nat) (hK : K < 9218868437227405312) (mode : Int) (hs : sx K < 0) (r : Int × Int)
    (hr : Ev (fun k => round_Round.f k neg 0 ((kv K / (2 * c73) + (upW (kv K) neg mode).toNat : Nat) : Int) 0 false 0) r) :
    Ev (fun k => conv_Whole.f k (sgn neg K) mode) (r.1, if kv K % (2 * c73) ≠ 0 then 1 else 0) := by
  obtain ⟨hi, lo, half, more, ok, hcut, hok, hif⟩ := cut_ev neg K hK
  have hsm := se_small K hs
  have hc := c73_pos
  obtain ⟨rfl, rfl, rfl, rfl⟩ := hif (by rw [hok]; exact decide_eq_true (by omega))
  have hcl : cls K ≠ 3 ∧ cls K ≠ 4 := by
    rcases cls_fin K hK with ⟨c, h⟩ | ⟨c, h, h2⟩ | ⟨c, h⟩ <;> rw [c] <;> decide
  unfold conv_Whole.f
  rw [sgn_neg neg K (by omega)]
  refine Ev.bind (ClassP neg K (by omega)) (Ev.neg hcl.2 (Ev.neg hcl.1 (Ev.bind (SplitP neg K hK) (Ev.neg (by simp only []; omega) (Ev.bind hcut ?_)))))
  have hbt := between_eq (kv K) c73 hc
  have hj : Ev (fun k => conv_Whole.j0 k mode neg (decide (kv K / c73 % 2 = 1)) (decide (kv K % c73 ≠ 0)) (decide (kv K % (2 * c73) ≠ 0)) 0 ((kv K / (2 * c73) : Nat) : Int)) (r.1, if kv K % (2 * c73) ≠ 0 then 1 else 0) := by
    refine Ev.step (fun k => by rw [conv_Whole.j0]) ?_
    rw [and1 _ (by omega)]
    by_cases a : kv K / c73 % 2 = 1
    · have e1 := decide_eq_true a
      refine Ev.pos e1 ?_
      by_cases b : kv K % c73 ≠ 0
      · have e2 := decide_eq_true b
        refine Ev.pos e2 (W1_ev neg (kv K) mode (by omega) _ (by rw [e1, e2]; rfl) r hr)
      · have e2 := decide_eq_false b
        refine Ev.neg (by rw [e2]; simp) (W1_ev neg (kv K) mode (by omega) _ (by rw [e1, e2, Bool.true_and, Bool.false_or]) r hr)
    · have e1 := decide_eq_false a
      refine Ev.neg (by rw [e1]; simp) (W1_ev neg (kv K) mode (by omega) _ (by rw [e1, Bool.false_and]) r hr)
  by_cases a : kv K / c73 % 2 = 1
  · have e1 := decide_eq_true a
    rw [e1, Bool.true_or] at hbt
    rw [← hbt] at hj
    exact Ev.pos e1 hj
  · have e1 := decide_eq_false a
    rw [e1, Bool.false_or] at hbt
    rw [← hbt] at hj
    exact Ev.neg (by rw [e1]; simp) hj
theorem Whole_same (neg : Bool) (K : Nat) (hK : K < 9218868437227405312) (mode : Int) (hs : ¬ sx K < 0) : Ev (fun k => conv_Whole.f k (sgn neg K) mode) (sgn neg K, 0) := by
  have hcl : cls K ≠ 3 ∧ cls K ≠ 4 := by
    rcases cls_fin K hK with ⟨c, h⟩ | ⟨c, h, h2⟩ | ⟨c, h⟩ <;> rw [c] <;> decide
  unfold conv_Whole.f
  exact Ev.bind (ClassP neg K (by omega)) (Ev.neg hcl.2 (Ev.neg hcl.1 (Ev.bind (SplitP neg K hK) (Ev.pos (by simp only []; omega) (Ev.ret rfl)))))
end Go.Proofs.Ytfglpaaeipblcaa.Pure
