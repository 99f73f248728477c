/- The number that a float is. -/
import Derived.Test.YtfglpaaeipblcaaPRound3
import Derived.Test.YtfglpaaeipblcaaE1
namespace Go.Proofs.Ytfglpaaeipblcaa.Pure
open Go.RowKit Go.Proofs.Ytfglpaaeipblcaa.P Go.Proofs.YtfglpaaeipblcaaW.PrintWords Go.Proofs.YtfglpaaeipblcaaW.PrintLast
/-! ### a fraction as a number -/
/-- What lies between: the float's key of a number above nought. -/
def IsFloor (N D K : Nat) : Prop := K ≤ 9218868437227405312 ∧ kv K * (D * c26) ≤ N * c60 ∧ (K = 9218868437227405312 ∨ N * c60 < kv (K + 1) * (D * c26))
/-- The rounding of N / D, with a sign. -/
def rnd (neg : Bool) (N D K : Nat) (mode : Int) : Int × Int := (sgn neg (magOut (N * c60) (D * c26) D false K (wayOf neg mode)).1, (magOut (N * c60) (D * c26) D false K (wayOf neg mode)).2)
theorem Exact_ev {l d : List Int} (hl : W32 l) (hd : W32 d) (h1 : l.length ≤ 150) (h2 : d.length ≤ 150) (hN : nv l ≠ 0) (hD : nv d ≠ 0) (neg : Bool) (mode : Int) :
    ∃ K, IsFloor (nv l) (nv d) K ∧ Ev (fun k => round_Exact.f k neg l d mode) (rnd neg (nv l) (nv d) K mode) ∧ Ev (fun k => round_Frac.f k neg l d mode) (rnd neg (nv l) (nv d) K mode) := by
  obtain ⟨K, k0, k1, k2, h⟩ := Frac_ev hl hd h1 h2 hN hD neg mode
  refine ⟨K, ⟨k0, k1, k2⟩, ?_, h⟩
  unfold round_Exact.f
  exact Ev.bind h (Ev.ret rfl)
theorem Frac_zero {l d : List Int} (hl : W32 l) (hd : W32 d) (h1 : l.length ≤ 150) (h2 : d.length ≤ 150) (h : nv l = 0 ∨ nv d = 0) (neg : Bool) (mode : Int) :
    Ev (fun k => round_Frac.f k neg l d mode) (0, 0) ∧ Ev (fun k => round_Exact.f k neg l d mode) (0, 0) := by
  have lN := Len_evN (by omega : l.length < 1000000) hl
  have lD := Len_evN (by omega : d.length < 1000000) hd
  have hj : Ev (fun k => round_Frac.j0 k neg l d mode true) (0, 0) := by
    refine Ev.step (fun k => by rw [round_Frac.j0]) ?_
    exact Ev.pos rfl (Ev.ret rfl)
  have hf : Ev (fun k => round_Frac.f k neg l d mode) (0, 0) := by
    unfold round_Frac.f
    refine Ev.bind lN ?_
    by_cases h0 : nv l = 0
    · exact Ev.pos (by rw [h0]; rfl) hj
    · have hd0 : nv d = 0 := h.resolve_left h0
      have hb : blen (nv l) ≠ 0 := fun h => h0 (blen_eq_zero.1 h)
      refine Ev.neg (by omega) (Ev.bind lD ?_)
      rw [hd0]
      exact hj
  refine ⟨hf, ?_⟩
  unfold round_Exact.f
  exact Ev.bind hf (Ev.ret rfl)
/-- A number has one floor. -/
theorem floor_one {N D K K0 : Nat} (hD : 0 < D) (h : IsFloor N D K) (h0 : IsFloor N D K0) : K = K0 := by
  have hU : 0 < D * c26 := Nat.mul_pos hD c26_pos
  have up : ∀ {a b : Nat}, a ≤ b → kv a * (D * c26) ≤ kv b * (D * c26) := fun h => Nat.mul_le_mul_right _ (kv_mono h)
  obtain ⟨a1, a2, a3⟩ := h
  obtain ⟨b1, b2, b3⟩ := h0
  rcases Nat.lt_trichotomy K K0 with h | h | h
  · rcases a3 with a3 | a3
    · omega
    · have := up (show K + 1 ≤ K0 by omega)
      omega
  · exact h
  · rcases b3 with b3 | b3
    · omega
    · have := up (show K0 + 1 ≤ K by omega)
      omega
/-- What a float stands for itself is rounded to it. -/
theorem magOut_exact {X D K : Nat} (hD : 0 < D) (hK : K < 9218868437227405312) (hX : X = kv K * (D * c26)) (way : Int) : magOut X (D * c26) D false K way = ((K : Int), 0) := by
  have hse := se_bd K (by omega)
  have hc : cm X (kv K * (D * c26)) false = 0 := by
    unfold cm
    rw [hX, if_neg (Nat.lt_irrefl _), if_neg (Nat.lt_irrefl _)]
    rfl
  have hmid : X < (2 * sm K + 1) * D * 2 ^ (se K + 5999).toNat := by
    have hks := kv_scale K D (by omega)
    rw [hX, ← hks]
    have e : (se K + 6000).toNat = (se K + 5999).toNat + 1 := by omega
    rw [e, Nat.pow_succ]
    have hp := Nat.two_pow_pos (se K + 5999).toNat
    generalize 2 ^ (se K + 5999).toNat = p at *
    have e2 : sm K * D * (p * 2) = 2 * sm K * D * p := by ac_rfl
    have e3 : (2 * sm K + 1) * D * p = 2 * sm K * D * p + D * p := by rw [Nat.add_mul, Nat.one_mul, Nat.add_mul]
    rw [e2, e3]
    have := Nat.mul_pos hD hp
    omega
  have hup : upB X D false K (decide ((0 : Int) = 0)) way = false := by
    unfold upB
    split
    · rfl
    · split
      · rfl
      · have h3 : cm X ((2 * sm K + 1) * D * 2 ^ (se K + 5999).toNat) false = -1 := by
          unfold cm
          rw [if_pos hmid]
        rw [h3]
        rfl
  unfold magOut
  rw [hc, hup]
  simp only [Bool.false_eq_true, and_false, if_false, if_true]
  unfold magEnd
  rw [if_neg (by omega)]


theorem magOut_scale (X U B : Nat) (rest : Bool) (K : Nat) (way : Int) {c : Nat} (hc : 0 < c) : magOut (X * c) (U * c) (B * c) rest K way = magOut X U B rest K way := by
  have e1 : kv K * (U * c) = kv K * U * c := by ac_rfl
  have e2 : (2 * sm K + 1) * (B * c) * 2 ^ (se K + 5999).toNat = (2 * sm K + 1) * B * 2 ^ (se K + 5999).toNat * c := by ac_rfl
  have e3 : B * c * c78 = B * c78 * c := by ac_rfl
  unfold magOut upB
  rw [e1, e2, e3, cm_scale _ _ _ _ hc, cm_scale _ _ _ _ hc, cm_scale _ _ _ _ hc]
theorem IsFloor.scale {N D K c : Nat} (hc : 0 < c) (h : IsFloor N D K) : IsFloor (N * c) (D * c) K := by
  obtain ⟨h0, h1, h2⟩ := h
  have e1 : ∀ x : Nat, x * (D * c * c26) = x * (D * c26) * c := fun x => by ac_rfl
  have e2 : N * c * c60 = N * c60 * c := by ac_rfl
  refine ⟨h0, ?_, ?_⟩
  · rw [e1, e2]; exact Nat.mul_le_mul_right _ h1
  · rcases h2 with h2 | h2
    · exact .inl h2
    · rw [e1, e2]; exact .inr (Nat.mul_lt_mul_of_pos_right h2 hc)
theorem rnd_scale (neg : Bool) (N D K : Nat) (mode : Int) {c : Nat} (hc : 0 < c) : rnd neg (N * c) (D * c) K mode = rnd neg N D K mode := by
  have e1 : N * c * c60 = N * c60 * c := by ac_rfl
  have e2 : D * c * c26 = D * c26 * c := by ac_rfl
  unfold rnd
  rw [e1, e2, magOut_scale _ _ _ _ _ _ hc]
end Go.Proofs.Ytfglpaaeipblcaa.Pure
