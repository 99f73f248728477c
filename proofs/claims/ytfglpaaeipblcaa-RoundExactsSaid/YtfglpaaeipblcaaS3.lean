/- The reference's search for the float that stands for a number, in numbers. -/
import Derived.Test.YtfglpaaeipblcaaPFlyballref051
import Derived.Test.YtfglpaaeipblcaaS2
import Derived.Test.YtfglpaaeipblcaaM1
namespace Go.Proofs.Ytfglpaaeipblcaa.Pure
open Go.RowKit Go.Proofs.Ytfglpaaeipblcaa.P Go.Proofs.YtfglpaaeipblcaaW.PrintWords Go.Proofs.YtfglpaaeipblcaaW.PrintLast

theorem cmp_ev (A B m : List Bool) (E e : Int) (rest : Bool) (hE : -5000 ≤ E ∧ E ≤ 5000) (he : -2000 ≤ e ∧ e ≤ 2000) (hA : A.length < 1000000) (hB : B.length < 1000000) (hm : m.length < 1000000) :
    Ev (fun k => flyballref05_cmp.f k A B E rest m e) (cm (bv A * 2 ^ (E + 6000).toNat) (bv m * bv B * 2 ^ (e + 6000).toNat) rest) := by
  obtain ⟨l1, l2, l3⟩ := mn_le E e
  generalize hlow : mn E e = low at l1 l2 l3
  unfold flyballref05_cmp.f
  rw [hlow, w64 (by omega) (by omega), w64 (by omega) (by omega)]
  obtain ⟨p, hp1, hp2, hp3⟩ := Mul_ev m B (by omega)
  have s1 := Shl_ev A (E - low) (by omega) (by omega)
  have s2 := Shl_ev p (e - low) (by omega) (by omega)
  have c := Cmp_ev (List.replicate (E - low).toNat false ++ A) (List.replicate (e - low).toNat false ++ p) (by simp; omega) (by simp; omega)
  have key : cmpN (bv A * 2 ^ (E - low).toNat) (bv p * 2 ^ (e - low).toNat) = cmpN (bv A * 2 ^ (E + 6000).toNat) (bv m * bv B * 2 ^ (e + 6000).toNat) := by
    rw [← cmpN_scale _ _ (2 ^ (low + 6000).toNat) (Nat.two_pow_pos _), Nat.mul_assoc, Nat.mul_assoc, ← Nat.pow_add, ← Nat.pow_add, hp2]
    rw [show (E - low).toNat + (low + 6000).toNat = (E + 6000).toNat by omega, show (e - low).toNat + (low + 6000).toNat = (e + 6000).toNat by omega]
  rw [bv_shl, bv_shl, key] at c
  refine Ev.bind s1 (Ev.bind hp1 (Ev.bind s2 (Ev.bind c ?_)))
  have f := cmpN_cm (bv A * 2 ^ (E + 6000).toNat) (bv m * bv B * 2 ^ (e + 6000).toNat) rest
  rw [← f]
  by_cases h0 : cmpN (bv A * 2 ^ (E + 6000).toNat) (bv m * bv B * 2 ^ (e + 6000).toNat) = 0
  · refine Ev.pos h0 ?_
    rw [if_pos h0]
    cases rest
    · exact Ev.neg (by simp) (Ev.ret (by simp))
    · exact Ev.pos rfl (Ev.ret (by simp))
  · refine Ev.neg h0 (Ev.ret ?_)
    rw [if_neg h0]
theorem split_ev (K : Nat) (hK : K ≤ 9218868437227405312) : ∃ b, Ev (fun k => flyballref05_split.f k K) (b, se K) ∧ bv b = sm K ∧ b.length = 64 := by
  unfold flyballref05_split.f
  rw [and_frac K (by omega) (by omega)]
  have e : (K : Int) % 4503599627370496 = ((K % 4503599627370496 : Nat) : Int) := by omega
  have e2 : (K : Int) / 4503599627370496 = ((K / 4503599627370496 : Nat) : Int) := by omega
  rw [e, e2, u64i (x := ((K % 4503599627370496 : Nat) : Int)) (by omega) (by omega), u64i (by omega) (by omega)]
  by_cases h : K / 4503599627370496 = 0
  · refine ⟨wbits (K % 4503599627370496) 64, ?_, ?_, wbits_length _ _⟩
    · refine Ev.pos (by omega) ?_
      have := Of1_ev ((K % 4503599627370496 : Nat) : Int) (by omega) (by omega)
      rw [Int.toNat_natCast] at this
      refine Ev.bind this (Ev.ret ?_)
      unfold se
      rw [if_pos h]
    · rw [bv_wbits, Nat.mod_eq_of_lt (by omega)]
      unfold sm
      rw [if_pos h]
  · refine ⟨wbits (K % 4503599627370496 + 4503599627370496) 64, ?_, ?_, wbits_length _ _⟩
    · refine Ev.neg (by omega) ?_
      have := Of1_ev (((K % 4503599627370496 : Nat) : Int) + 4503599627370496) (by omega) (by omega)
      rw [show (((K % 4503599627370496 : Nat) : Int) + 4503599627370496).toNat = K % 4503599627370496 + 4503599627370496 by omega] at this
      refine Ev.bind this (Ev.ret ?_)
      unfold se
      rw [if_neg h, w64 (by omega) (by omega)]
    · rw [bv_wbits, Nat.mod_eq_of_lt (by omega)]
      unfold sm
      rw [if_neg h]
theorem floor_l0_ev (A B : List Bool) (E : Int) (rest : Bool) (hE : -5000 ≤ E ∧ E ≤ 5000) (hA : A.length < 1000000) (hB : B.length < 1000000) (X U : Nat)
    (hX : X = bv A * 2 ^ (E + 6000).toNat) (hU : U = bv B * c26) :
    ∀ (d lo hi : Nat), hi = lo + d → hi ≤ 9218868437227405312 → kv lo * U ≤ X → (hi = 9218868437227405312 ∨ X < kv (hi + 1) * U) →
    ∃ K : Nat, Ev (fun k => flyballref05_floor.l0 k lo hi A B E rest) K ∧ K ≤ 9218868437227405312 ∧ kv K * U ≤ X ∧ (K = 9218868437227405312 ∨ X < kv (K + 1) * U) := by
  intro d
  induction d using Nat.strongRecOn with
  | _ d ih =>
    intro lo hi hd hT hlo hhi
    by_cases hlt : lo < hi
    · have e1 : wrap64 ((hi : Int) - lo) = ((d : Nat) : Int) := by rw [w64] <;> omega
      have e2 : wrap64 (Int.tdiv ((d : Nat) : Int) 2) = ((d / 2 : Nat) : Int) := by
        rw [Int.tdiv_eq_ediv_of_nonneg (by omega), w64] <;> omega
      have e3 : wrap64 ((hi : Int) - ((d / 2 : Nat) : Int)) = ((hi - d / 2 : Nat) : Int) := by rw [w64] <;> omega
      have e4 : wrap64 (((hi - d / 2 : Nat) : Int) - 1) = ((hi - d / 2 - 1 : Nat) : Int) := by rw [w64] <;> omega
      obtain ⟨b, hb, hbv, hbl⟩ := split_ev (hi - d / 2) (by omega)
      have hse := se_bd (hi - d / 2) (by omega)
      have hc := cmp_ev A B b E (se (hi - d / 2)) rest hE (by omega) hA hB (by omega)
      rw [hbv, kv_scale _ _ (by omega), ← hX, ← hU] at hc
      by_cases hp : kv (hi - d / 2) * U ≤ X
      · obtain ⟨K, hK, r⟩ := ih (d / 2) (by omega) (hi - d / 2) hi (by omega) hT hp hhi
        refine ⟨K, ?_, r⟩
        refine Ev.step (fun k => by rw [flyballref05_floor.l0]) ?_
        rw [e1, e2, e3]
        refine Ev.pos (by omega) (Ev.bind hb (Ev.bind hc (Ev.pos (cm_ge.2 hp) ?_)))
        exact hK
      · obtain ⟨K, hK, r⟩ := ih (hi - d / 2 - 1 - lo) (by omega) lo (hi - d / 2 - 1) (by omega) (by omega) hlo (.inr (by
          rw [show hi - d / 2 - 1 + 1 = hi - d / 2 by omega]; omega))
        refine ⟨K, ?_, r⟩
        refine Ev.step (fun k => by rw [flyballref05_floor.l0]) ?_
        rw [e1, e2, e3, e4]
        refine Ev.pos (by omega) (Ev.bind hb (Ev.bind hc (Ev.neg (fun h => hp (cm_ge.1 h)) ?_)))
        exact hK
    · obtain rfl : lo = hi := by omega
      refine ⟨lo, ?_, hT, hlo, hhi⟩
      refine Ev.step (fun k => by rw [flyballref05_floor.l0]) ?_
      exact Ev.neg (by omega) (Ev.ret rfl)
theorem floor_ev (A B : List Bool) (E : Int) (rest : Bool) (hE : -5000 ≤ E ∧ E ≤ 5000) (hA : A.length < 1000000) (hB : B.length < 1000000) (X U : Nat)
    (hX : X = bv A * 2 ^ (E + 6000).toNat) (hU : U = bv B * c26) :
    ∃ K : Nat, Ev (fun k => flyballref05_floor.f k A B E rest) K ∧ K ≤ 9218868437227405312 ∧ kv K * U ≤ X ∧ (K = 9218868437227405312 ∨ X < kv (K + 1) * U) :=
  floor_l0_ev A B E rest hE hA hB X U hX hU 9218868437227405312 0 9218868437227405312 (by omega) (Nat.le_refl _) (by simp [kv, sm]) (.inl rfl)
end Go.Proofs.Ytfglpaaeipblcaa.Pure
