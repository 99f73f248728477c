/- What a float's bits mean, in the reference. -/
import Derived.Test.YtfglpaaeipblcaaPFlyballref042
import Derived.Test.YtfglpaaeipblcaaP1
namespace Go.Proofs.Ytfglpaaeipblcaa.Pure
open Go.RowKit Go.Proofs.Ytfglpaaeipblcaa.P Go.Proofs.YtfglpaaeipblcaaW.PrintWords Go.Proofs.YtfglpaaeipblcaaW.PrintLast

theorem Parts4 (neg : Bool) (K : Nat) (hK : K < 9223372036854775808) :
    flyballref04_Parts.f (sgn neg K) = some (neg, ((K / 4503599627370496 : Nat) : Int), ((K % 4503599627370496 : Nat) : Int)) := by
  unfold flyballref04_Parts.f
  have hb := sgn_bd neg K hK
  rw [Int.tdiv_eq_ediv_of_nonneg hb.1, Int.tdiv_eq_ediv_of_nonneg hb.1, Int.tmod_eq_emod_of_nonneg hb.1, u64i (by omega) (by omega), u64i (by omega) (by omega), Int.tmod_eq_emod_of_nonneg (by omega), w64 (by omega) (by omega), sgn_neg neg K hK]
  have a1 : sgn neg K / 4503599627370496 % 2048 = ((K / 4503599627370496 : Nat) : Int) := by unfold sgn; split <;> omega
  have a2 : sgn neg K % 4503599627370496 = ((K % 4503599627370496 : Nat) : Int) := by unfold sgn; split <;> omega
  rw [a1, a2]
theorem Class4 (neg : Bool) (K : Nat) (hK : K < 9223372036854775808) : Ev (fun k => flyballref04_Class.f k (sgn neg K)) (cls K) := by
  have hj1 : ∀ b : Bool, b = decide (K / 4503599627370496 = 0 ∧ K % 4503599627370496 = 0) → K / 4503599627370496 ≠ 2047 → Ev (fun k => flyballref04_Class.j1 k ((K / 4503599627370496 : Nat) : Int) b) (cls K) := by
    intro b hb h7
    subst hb
    refine Ev.step (fun k => by rw [flyballref04_Class.j1]) ?_
    unfold cls
    rw [if_neg h7]
    by_cases h1 : K / 4503599627370496 = 0
    · rw [if_pos h1]
      by_cases h2 : K % 4503599627370496 = 0
      · rw [if_pos h2]
        exact Ev.pos (decide_eq_true ⟨h1, h2⟩) (Ev.ret rfl)
      · rw [if_neg h2]
        refine Ev.neg (by simp; omega) (Ev.pos (by omega) (Ev.ret rfl))
    · rw [if_neg h1]
      refine Ev.neg (by simp; omega) (Ev.neg (by omega) (Ev.ret rfl))
  have hj0 : ∀ b : Bool, b = decide (K / 4503599627370496 = 2047 ∧ K % 4503599627370496 = 0) → Ev (fun k => flyballref04_Class.j0 k ((K / 4503599627370496 : Nat) : Int) ((K % 4503599627370496 : Nat) : Int) b) (cls K) := by
    intro b hb
    subst hb
    refine Ev.step (fun k => by rw [flyballref04_Class.j0]) ?_
    by_cases h7 : K / 4503599627370496 = 2047
    · by_cases h2 : K % 4503599627370496 = 0
      · refine Ev.pos (decide_eq_true ⟨h7, h2⟩) (Ev.ret ?_)
        unfold cls
        rw [if_pos h7, if_pos h2]
      · refine Ev.neg (by simp; omega) (Ev.pos (by omega) (Ev.ret ?_))
        unfold cls
        rw [if_pos h7, if_neg h2]
    · refine Ev.neg (by simp; omega) (Ev.neg (by omega) ?_)
      by_cases h1 : K / 4503599627370496 = 0
      · refine Ev.pos (by omega) (hj1 _ ?_ h7)
        by_cases h2 : K % 4503599627370496 = 0
        · rw [decide_eq_true ⟨h1, h2⟩, h2]; rfl
        · rw [decide_eq_false (by omega)]
          exact beq_eq_false_iff_ne.2 (by omega)
      · exact Ev.neg (by omega) (hj1 _ (by rw [decide_eq_false (by omega)]) h7)
  unfold flyballref04_Class.f
  refine Ev.bind0 (Parts4 neg K hK) ?_
  by_cases h7 : K / 4503599627370496 = 2047
  · refine Ev.pos (by simp only []; omega) (hj0 _ ?_)
    by_cases h2 : K % 4503599627370496 = 0
    · rw [decide_eq_true ⟨h7, h2⟩]; simp only [h2]; rfl
    · rw [decide_eq_false (by omega)]
      exact beq_eq_false_iff_ne.2 (by simp only []; omega)
  · exact Ev.neg (by simp only []; omega) (hj0 _ (by rw [decide_eq_false (by omega)]))
theorem Split4 (neg : Bool) (K : Nat) (hK : K < 9218868437227405312) : Ev (fun k => flyballref04_Split.f k (sgn neg K)) (((sm K : Nat) : Int), sx K) := by
  unfold flyballref04_Split.f
  refine Ev.bind0 (Parts4 neg K (by omega)) (Ev.bind (Class4 neg K (by omega)) ?_)
  unfold sx
  rcases cls_fin K hK with ⟨c, h⟩ | ⟨c, h, h2⟩ | ⟨c, h⟩
  · rw [c]
    refine Ev.neg (by decide) (Ev.neg (by decide) (Ev.ret ?_))
    subst h
    rfl
  · rw [c]
    refine Ev.neg (by decide) (Ev.pos rfl (Ev.ret ?_))
    rw [if_neg h2]
    unfold sm se
    rw [if_pos h, if_pos h]
  · rw [c]
    refine Ev.pos rfl (Ev.ret ?_)
    rw [if_neg (by omega)]
    unfold sm se
    rw [if_neg h, if_neg h]
    simp only []
    rw [u64i (by omega) (by omega), w64 (by omega) (by omega)]
    congr 1
    omega
theorem Finite4 (neg : Bool) (K : Nat) (hK : K < 9223372036854775808) : Ev (fun k => flyballref04_Finite.f k (sgn neg K)) (decide (K < 9218868437227405312)) := by
  unfold flyballref04_Finite.f
  refine Ev.bind (Class4 neg K hK) ?_
  by_cases h : K < 9218868437227405312
  · rw [decide_eq_true h]
    rcases cls_fin K h with ⟨c, _⟩ | ⟨c, _, _⟩ | ⟨c, _⟩ <;> rw [c] <;> exact Ev.neg (by decide) (Ev.ret rfl)
  · rw [decide_eq_false h]
    rcases cls_inf K hK h with c | c <;> rw [c]
    · exact Ev.pos rfl (Ev.ret rfl)
    · exact Ev.neg (by decide) (Ev.ret rfl)
end Go.Proofs.Ytfglpaaeipblcaa.Pure
