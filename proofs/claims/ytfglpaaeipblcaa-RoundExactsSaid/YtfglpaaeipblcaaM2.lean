/- Rounding a fraction: it is rounded as its first bits and the knowledge that there is more. -/
import Derived.Test.YtfglpaaeipblcaaS7
namespace Go.Proofs.Ytfglpaaeipblcaa.Pure
open Go.RowKit Go.Proofs.Ytfglpaaeipblcaa.P Go.Proofs.YtfglpaaeipblcaaW.PrintWords Go.Proofs.YtfglpaaeipblcaaW.PrintLast

/-- Z lies from m*t*D up to below (m+1)*t*D: against multiples of t (times D) it is as m*t, and a little more. -/
theorem cm_more {Z D m t Y : Nat} (hD : 0 < D) (ht : 0 < t) (h1 : m * t * D ≤ Z) (h2 : Z < (m + 1) * t * D) (hY : (∃ y, Y = y * t) ∨ Y < m * t) : cm Z (Y * D) false = cm (m * t) Y (decide (Z ≠ m * t * D)) := by
  unfold cm
  by_cases hlt : Y < m * t
  · have h3 : Y * D < Z := Nat.lt_of_lt_of_le (Nat.mul_lt_mul_of_pos_right hlt hD) h1
    rw [if_neg (by omega), if_pos h3, if_neg (by omega), if_pos hlt]
  · obtain ⟨y, rfl⟩ : ∃ y, Y = y * t := by
      rcases hY with h | h
      · exact h
      · exact absurd h hlt
    have hmy : m ≤ y := by
      apply Nat.le_of_not_lt
      intro h
      exact hlt (Nat.mul_lt_mul_of_pos_right h ht)
    by_cases he : m = y
    · subst he
      rw [if_neg (by omega), if_neg (Nat.lt_irrefl _), if_neg (Nat.lt_irrefl _)]
      by_cases hz : Z = m * t * D
      · rw [if_neg (by omega), decide_eq_false (by simp [hz])]
      · rw [if_pos (by omega), decide_eq_true hz]
        rfl
    · have h3 : (m + 1) * t ≤ y * t := Nat.mul_le_mul_right t (by omega)
      have h4 : (m + 1) * t * D ≤ y * t * D := Nat.mul_le_mul_right D h3
      have h5 : m * t < y * t := Nat.lt_of_lt_of_le (Nat.mul_lt_mul_of_pos_right (Nat.lt_succ_self m) ht) h3
      rw [if_pos (by omega), if_pos h5]
theorem kv_pow (K : Nat) (hK : K ≤ 9218868437227405312) : ∃ q w : Nat, kv K = w * 2 ^ q ∧ (se K = (q : Int) - 1074) ∧ sm K = w ∧ w < 9007199254740992 := by
  obtain ⟨q, w, rfl, hw, h⟩ := qw_of K
  obtain ⟨a, b⟩ := sm_se q w hw h
  exact ⟨q, w, kv_qw q w (by omega) h, b, a, hw⟩
/-- THE ROUNDING OF A FRACTION: as m times 2^s, and a little more. -/
theorem magOut_more {Z D m s : Nat} (hD : 0 < D) (hm : 4611686018427387904 ≤ m) (h1 : m * 2 ^ s * D ≤ Z) (h2 : Z < (m + 1) * 2 ^ s * D) (K : Nat) (hK : K ≤ 9218868437227405312) (way : Int)
    (k1 : kv K * c26 ≤ m * 2 ^ s) (k2 : K = 9218868437227405312 ∨ m * 2 ^ s < kv (K + 1) * c26) :
    magOut (m * 2 ^ s) c26 1 (decide (Z ≠ m * 2 ^ s * D)) K way = magOut Z (D * c26) D false K way ∧ kv K * (D * c26) ≤ Z ∧ (K = 9218868437227405312 ∨ Z < kv (K + 1) * (D * c26)) := by
  have ht := Nat.two_pow_pos s
  have eU : kv K * (D * c26) = kv K * c26 * D := by rw [Nat.mul_comm D, Nat.mul_assoc]
  have eU1 : kv (K + 1) * (D * c26) = kv (K + 1) * c26 * D := by rw [Nat.mul_comm D, Nat.mul_assoc]
  -- below the top the last bit is worth more than 2^s
  have hsmall : K < 9218868437227405312 → ∃ q w : Nat, kv K = w * 2 ^ q ∧ se K = (q : Int) - 1074 ∧ sm K = w ∧ kv (K + 1) = (w + 1) * 2 ^ q ∧ s ≤ q + 4925 := by
    intro hlt
    obtain ⟨q, w, rfl, hw, h⟩ := qw_of K
    obtain ⟨a, b⟩ := sm_se q w hw h
    have e1 := kv_qw q w (by omega) h
    have e2 := kv_qw q (w + 1) (by omega) (by omega)
    rw [← Nat.add_assoc] at e2
    refine ⟨q, w, e1, b, a, e2, ?_⟩
    rcases k2 with k2 | k2
    · omega
    · rw [e2, Nat.mul_assoc, ← pow_c26] at k2
      apply Nat.le_of_not_lt
      intro hlt2
      have p1 : 2 ^ (q + 4926) ≤ 2 ^ s := Nat.pow_le_pow_right (by decide) (by omega)
      have p2 : (w + 1) * 2 ^ (q + 4926) ≤ m * 2 ^ s := Nat.mul_le_mul (by omega) p1
      omega
  have c1 : cm Z (kv K * (D * c26)) false = cm (m * 2 ^ s) (kv K * c26) (decide (Z ≠ m * 2 ^ s * D)) := by
    rw [eU]
    refine cm_more hD ht h1 h2 ?_
    rcases Nat.lt_or_eq_of_le k1 with h | h
    · exact .inr h
    · exact .inl ⟨m, h⟩
  have c2 : cm Z (D * c78) false = cm (m * 2 ^ s) (1 * c78) (decide (Z ≠ m * 2 ^ s * D)) := by
    rw [Nat.one_mul, Nat.mul_comm D]
    refine cm_more hD ht h1 h2 ?_
    by_cases hs : s ≤ 4978
    · refine .inl ⟨2 ^ (4978 - s), ?_⟩
      rw [← Nat.pow_add, Nat.sub_add_cancel hs, pow78]
    · have hle : c78 ≤ m * 2 ^ s := by
        apply Nat.le_of_not_lt
        intro h
        have h3 := (lt_c78 _).1 h
        rw [blen_mul m s (by omega)] at h3
        omega
      rcases Nat.lt_or_eq_of_le hle with h | h
      · exact .inr h
      · exact .inl ⟨m, h⟩
  have cu : K < 9218868437227405312 → ∀ ex, upB (m * 2 ^ s) 1 (decide (Z ≠ m * 2 ^ s * D)) K ex way = upB Z D false K ex way := by
    intro hlt ex
    obtain ⟨q, w, e1, e2, e3, e4, hs⟩ := hsmall hlt
    unfold upB
    have hY : (2 * sm K + 1) * D * 2 ^ (se K + 5999).toNat = (2 * sm K + 1) * 2 ^ (se K + 5999).toNat * D := by ac_rfl
    have c3 : cm Z ((2 * sm K + 1) * D * 2 ^ (se K + 5999).toNat) false = cm (m * 2 ^ s) ((2 * sm K + 1) * 1 * 2 ^ (se K + 5999).toNat) (decide (Z ≠ m * 2 ^ s * D)) := by
      rw [hY, Nat.mul_one]
      refine cm_more hD ht h1 h2 (.inl ⟨(2 * sm K + 1) * 2 ^ (q + 4925 - s), ?_⟩)
      rw [Nat.mul_assoc, ← Nat.pow_add, Nat.sub_add_cancel hs, e2]
      congr 2
      omega
    rw [c3]
  refine ⟨?_, ?_, ?_⟩
  · unfold magOut
    rw [c1, c2]
    congr 1
    by_cases hlt : K < 9218868437227405312
    · rw [cu hlt]
    · simp only [hlt, false_and, if_false]
  · rw [eU]
    exact Nat.le_trans (Nat.mul_le_mul_right D k1) h1
  · rcases k2 with k2 | k2
    · exact .inl k2
    · by_cases hlt : K < 9218868437227405312
      · right
        obtain ⟨q, w, e1, e2, e3, e4, hs⟩ := hsmall hlt
        rw [eU1]
        have e5 : kv (K + 1) * c26 = (w + 1) * 2 ^ (q + 4926 - s) * 2 ^ s := by
          rw [e4, Nat.mul_assoc, ← pow_c26, Nat.mul_assoc, ← Nat.pow_add, Nat.sub_add_cancel (by omega)]
        rw [e5] at k2 ⊢
        generalize (w + 1) * 2 ^ (q + 4926 - s) = y at *
        have hmy : m + 1 ≤ y := by
          apply Nat.lt_of_not_le
          intro h
          have := Nat.mul_le_mul_right (2 ^ s) h
          omega
        exact Nat.lt_of_lt_of_le h2 (Nat.mul_le_mul_right D (Nat.mul_le_mul_right (2 ^ s) hmy))
      · exact .inl (by omega)
end Go.Proofs.Ytfglpaaeipblcaa.Pure
