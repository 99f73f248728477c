/- What a float's bits mean, in the program. -/
import Derived.Test.YtfglpaaeipblcaaPPattern1
import Derived.Test.YtfglpaaeipblcaaM1
import Derived.Test.YtfglpaaeipblcaaS7
namespace Go.Proofs.Ytfglpaaeipblcaa.Pure
open Go.RowKit Go.Proofs.Ytfglpaaeipblcaa.P Go.Proofs.YtfglpaaeipblcaaW.PrintWords Go.Proofs.YtfglpaaeipblcaaW.PrintLast

theorem wf_u64 {x : Int} (h : (Lit.int .u64 x).wf = true) : 0 ≤ x ∧ x < 18446744073709551616 := by
  simp only [Lit.wf, Bool.and_eq_true, decide_eq_true_eq, show IntKind.u64.min = 0 by decide, show IntKind.u64.max = 18446744073709551615 by decide] at h
  omega
theorem sgn_of (f : Int) (h0 : 0 ≤ f) (h1 : f < 18446744073709551616) : ∃ (neg : Bool) (K : Nat), K < 9223372036854775808 ∧ f = sgn neg K := by
  by_cases h : f < 9223372036854775808
  · exact ⟨false, f.toNat, by omega, by unfold sgn; rw [if_neg (by simp)]; omega⟩
  · exact ⟨true, (f - 9223372036854775808).toNat, by omega, by unfold sgn; rw [if_pos rfl]; omega⟩
theorem sgn_nat (neg : Bool) (K : Nat) : sgn neg K = ((K + (if neg = true then 9223372036854775808 else 0) : Nat) : Int) := by
  unfold sgn; split <;> simp
theorem sgn_neg (neg : Bool) (K : Nat) (hK : K < 9223372036854775808) : (sgn neg K / 9223372036854775808 == 1) = neg := by
  unfold sgn
  cases neg
  · simp only [Bool.false_eq_true, if_false]; exact beq_eq_false_iff_ne.2 (by omega)
  · simp only [if_true]; exact beq_iff_eq.2 (by omega)
theorem and2047 (x : Nat) (h : x < 18446744073709551616) : Go.bits .and .u64 (x : Int) 2047 = ((x % 2048 : Nat) : Int) := by
  have := bits_mask .u64 64 (by decide) wraps_u64 11 (by decide) (x : Int) (by omega) (by simpa using (by omega : (x : Int) < 18446744073709551616))
  have e : (x : Int) % 2048 = ((x % 2048 : Nat) : Int) := by omega
  rw [← e]
  simpa using this
theorem PartsP (neg : Bool) (K : Nat) (hK : K < 9223372036854775808) :
    pattern_Parts.f (sgn neg K) = some (neg, ((K / 4503599627370496 : Nat) : Int), ((K % 4503599627370496 : Nat) : Int)) := by
  unfold pattern_Parts.f
  rw [sgn_neg neg K hK, sgn_nat]
  generalize hx : K + (if neg = true then 9223372036854775808 else 0) = x
  have hx2 : x < 18446744073709551616 := by revert hx; split <;> omega
  have e : (x : Int) / 4503599627370496 = ((x / 4503599627370496 : Nat) : Int) := by omega
  rw [e, and2047 _ (by omega), and52 _ hx2, w64 (by omega) (by omega)]
  have a1 : x / 4503599627370496 % 2048 = K / 4503599627370496 := by revert hx; split <;> omega
  have a2 : x % 4503599627370496 = K % 4503599627370496 := by revert hx; split <;> omega
  rw [a1, a2]
/-- The class of a key. -/
def cls (K : Nat) : Int := if K / 4503599627370496 = 2047 then (if K % 4503599627370496 = 0 then 3 else 4) else if K / 4503599627370496 = 0 then (if K % 4503599627370496 = 0 then 0 else 1) else 2
theorem ClassP (neg : Bool) (K : Nat) (hK : K < 9223372036854775808) : Ev (fun k => pattern_Class.f k (sgn neg K)) (cls K) := by
  have hj1 : ∀ b : Bool, b = decide (K / 4503599627370496 = 0 ∧ K % 4503599627370496 = 0) → K / 4503599627370496 ≠ 2047 → Ev (fun k => pattern_Class.j1 k ((K / 4503599627370496 : Nat) : Int) b) (cls K) := by
    intro b hb h7
    subst hb
    refine Ev.step (fun k => by rw [pattern_Class.j1]) ?_
    unfold cls
    rw [if_neg h7]
    by_cases h1 : K / 4503599627370496 = 0
    · rw [if_pos h1]
      by_cases h2 : K % 4503599627370496 = 0
      · rw [if_pos h2]
        exact Ev.pos (decide_eq_true ⟨h1, h2⟩) (Ev.ret rfl)
      · rw [if_neg h2]
        refine Ev.neg (by simp; omega) (Ev.pos (by omega) (Ev.ret rfl))
    · rw [if_neg h1]
      refine Ev.neg (by simp; omega) (Ev.neg (by omega) (Ev.ret rfl))
  have hj0 : ∀ b : Bool, b = decide (K / 4503599627370496 = 2047 ∧ K % 4503599627370496 = 0) → Ev (fun k => pattern_Class.j0 k ((K / 4503599627370496 : Nat) : Int) ((K % 4503599627370496 : Nat) : Int) b) (cls K) := by
    intro b hb
    subst hb
    refine Ev.step (fun k => by rw [pattern_Class.j0]) ?_
    by_cases h7 : K / 4503599627370496 = 2047
    · by_cases h2 : K % 4503599627370496 = 0
      · refine Ev.pos (decide_eq_true ⟨h7, h2⟩) (Ev.ret ?_)
        unfold cls
        rw [if_pos h7, if_pos h2]
      · refine Ev.neg (by simp; omega) (Ev.pos (by omega) (Ev.ret ?_))
        unfold cls
        rw [if_pos h7, if_neg h2]
    · refine Ev.neg (by simp; omega) (Ev.neg (by omega) ?_)
      by_cases h1 : K / 4503599627370496 = 0
      · refine Ev.pos (by omega) (hj1 _ ?_ h7)
        by_cases h2 : K % 4503599627370496 = 0
        · rw [decide_eq_true ⟨h1, h2⟩, h2]; rfl
        · rw [decide_eq_false (by omega)]
          exact beq_eq_false_iff_ne.2 (by omega)
      · exact Ev.neg (by omega) (hj1 _ (by rw [decide_eq_false (by omega)]) h7)
  unfold pattern_Class.f
  refine Ev.bind0 (PartsP neg K hK) ?_
  by_cases h7 : K / 4503599627370496 = 2047
  · refine Ev.pos (by simp only []; omega) (hj0 _ ?_)
    by_cases h2 : K % 4503599627370496 = 0
    · rw [decide_eq_true ⟨h7, h2⟩]; simp only [h2]; rfl
    · rw [decide_eq_false (by omega)]
      exact beq_eq_false_iff_ne.2 (by simp only []; omega)
  · exact Ev.neg (by simp only []; omega) (hj0 _ (by rw [decide_eq_false (by omega)]))
theorem cls_fin (K : Nat) (hK : K < 9218868437227405312) : cls K = 0 ∧ K = 0 ∨ cls K = 1 ∧ K / 4503599627370496 = 0 ∧ K ≠ 0 ∨ cls K = 2 ∧ K / 4503599627370496 ≠ 0 := by
  unfold cls
  rw [if_neg (by omega)]
  by_cases h1 : K / 4503599627370496 = 0
  · rw [if_pos h1]
    by_cases h2 : K % 4503599627370496 = 0
    · rw [if_pos h2]; omega
    · rw [if_neg h2]; omega
  · rw [if_neg h1]; omega
theorem cls_inf (K : Nat) (hK : K < 9223372036854775808) (h : ¬ K < 9218868437227405312) : cls K = 3 ∨ cls K = 4 := by
  unfold cls
  rw [if_pos (by omega)]
  split <;> simp
/-- The exponent of a split float. -/
def sx (K : Nat) : Int := if K = 0 then 0 else se K
theorem SplitP (neg : Bool) (K : Nat) (hK : K < 9218868437227405312) : Ev (fun k => pattern_Split.f k (sgn neg K)) (((sm K : Nat) : Int), sx K) := by
  unfold pattern_Split.f
  refine Ev.bind0 (PartsP neg K (by omega)) (Ev.bind (ClassP neg K (by omega)) ?_)
  unfold sx
  rcases cls_fin K hK with ⟨c, h⟩ | ⟨c, h, h2⟩ | ⟨c, h⟩
  · rw [c]
    refine Ev.neg (by decide) (Ev.neg (by decide) (Ev.ret ?_))
    subst h
    rfl
  · rw [c]
    refine Ev.neg (by decide) (Ev.pos rfl (Ev.ret ?_))
    rw [if_neg h2]
    unfold sm se
    rw [if_pos h, if_pos h]
  · rw [c]
    refine Ev.pos rfl (Ev.ret ?_)
    rw [if_neg (by omega)]
    unfold sm se
    rw [if_neg h, if_neg h]
    have j2 : 4503599627370496 * 1 ||| (K % 4503599627370496) = 4503599627370496 * 1 + (K % 4503599627370496) := or_join 1 _ 52 (by simp; omega)
    have o := or64 4503599627370496 (K % 4503599627370496) (by omega) (by omega)
    rw [Nat.mul_one] at j2
    rw [j2] at o
    have o2 : Go.bits .or .u64 4503599627370496 ((K % 4503599627370496 : Nat) : Int) = ((4503599627370496 + K % 4503599627370496 : Nat) : Int) := o
    simp only []
    rw [o2, w64 (by omega) (by omega), Nat.add_comm]
theorem sm_lt (K : Nat) : sm K < 9007199254740992 := by unfold sm; split <;> omega
/-- Two to the 1073rd. -/
def c73 : Nat := 2 ^ 1073
theorem pow_c73 : 2 ^ 1073 = c73 := by unfold c73; rfl
theorem c73_pos : 0 < c73 := by unfold c73; exact Nat.two_pow_pos 1073
attribute [irreducible] c73
theorem pow_c74 (n : Nat) : 2 ^ (n + 1074) = 2 ^ n * (2 * c73) := by
  rw [show n + 1074 = n + 1 + 1073 by omega, Nat.pow_add 2 (n + 1) 1073, pow_c73, Nat.pow_succ, Nat.mul_assoc]
theorem pow_split (a b : Nat) (h : a + b = 1073) : c73 = 2 ^ a * 2 ^ b := by rw [← Nat.pow_add, h, pow_c73]
theorem mod_two (V c : Nat) : V % (2 * c) = c * (V / c % 2) + V % c := by
  rw [Nat.mul_comm 2 c, Nat.mod_mul, Nat.add_comm]
theorem between_eq (V c : Nat) (hc : 0 < c) : (decide (V / c % 2 = 1) || decide (V % c ≠ 0)) = decide (V % (2 * c) ≠ 0) := by
  rw [mod_two]
  by_cases h1 : V / c % 2 = 1
  · rw [h1]
    simp only [decide_true, Bool.true_or]
    exact (decide_eq_true (by omega)).symm
  · rw [show V / c % 2 = 0 by omega]
    simp
theorem kv_zero : kv 0 = 0 := by simp [kv, sm]
theorem kv_of (K : Nat) (h : K ≠ 0) (d : Nat) (hd : sx K = (d : Int) - 1074) : kv K = sm K * 2 ^ d := by
  unfold sx at hd
  rw [if_neg h] at hd
  unfold kv
  congr 2
  omega
end Go.Proofs.Ytfglpaaeipblcaa.Pure
