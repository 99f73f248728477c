import Derived.Test.YtfglpaaeipblcaaPConv1
import Derived.Test.YtfglpaaeipblcaaPRatio1
import Derived.Test.YtfglpaaeipblcaaPZConvNear1
import Derived.Test.YtfglpaaeipblcaaV3
import Derived.Test.YtfglpaaeipblcaaW7
namespace Go.Proofs.Ytfglpaaeipblcaa.Pure
open Go.RowKit Go.Proofs.Ytfglpaaeipblcaa.P Go.Proofs.YtfglpaaeipblcaaW.PrintWords Go.Proofs.YtfglpaaeipblcaaW.PrintLast

theorem c74_pos : 0 < 2 * c73 := by have := c73_pos; omega
theorem one_fits : fits ((1 : Int) : Rat) 34 := fits_int 1 (by unfold B; decide) (by unfold B; decide)
/-- What stands against one: how far two numbers lie apart. -/
theorem apart_ev {b1 b2 : Bool} {l1 d1 l2 d2 : List Int} {x y : Int} (h1 : IsQ b1 l1 d1 (mkRat x (2 * c73))) (h2 : IsQ b2 l2 d2 (mkRat y (2 * c73))) (f1 : fits (mkRat x (2 * c73)) 34) (f2 : fits (mkRat y (2 * c73)) 34) :
    Ev (fun k => ratio_R_Sub.f k b1 l1 d1 b2 l2 d2) (rq (mkRat (x - y) (2 * c73))) ∧
    Ev (fun k => ratio_R_Abs.f k (rq (mkRat (x - y) (2 * c73))).1 (rq (mkRat (x - y) (2 * c73))).2.1 (rq (mkRat (x - y) (2 * c73))).2.2) (rq (mkRat ((x - y).natAbs : Int) (2 * c73))) ∧
    Ev (fun k => ratio_R_Cmp.f k (rq (mkRat ((x - y).natAbs : Int) (2 * c73))).1 (rq (mkRat ((x - y).natAbs : Int) (2 * c73))).2.1 (rq (mkRat ((x - y).natAbs : Int) (2 * c73))).2.2 (rq ((1 : Int) : Rat)).1 (rq ((1 : Int) : Rat)).2.1 (rq ((1 : Int) : Rat)).2.2) (cmpI ((x - y).natAbs : Int) ((2 * c73 : Nat) : Int)) := by
  have hs := RSub_ev h1 h2 f1 f2 (by decide)
  have hf := fits_sub f1 f2
  rw [mk_sub c74_pos] at hs hf
  have hq := IsQ.rq hf (by decide)
  have ha := RAbs_ev hq
  have hfa := fits_abs hf
  rw [mk_abs c74_pos] at ha hfa
  have hc := RCmp_ev (IsQ.rq hfa (by decide)) (IsQ.rq (fits_mono one_fits (by decide : 34 ≤ 69)) (by decide)) hfa (fits_mono one_fits (by decide : 34 ≤ 69)) (by decide)
  have e : cmpQ (mkRat ((x - y).natAbs : Int) (2 * c73)) ((1 : Int) : Rat) = cmpI ((x - y).natAbs : Int) ((2 * c73 : Nat) : Int) := by
    rw [mk_int 1 c74_pos, cmpQ_mk c74_pos, Int.one_mul]
  rw [e] at hc
  exact ⟨hs, ha, hc⟩
theorem cmp_mk {b1 b2 : Bool} {l1 d1 l2 d2 : List Int} {x y : Int} (h1 : IsQ b1 l1 d1 (mkRat x (2 * c73))) (h2 : IsQ b2 l2 d2 (mkRat y (2 * c73))) {n : Nat} (hn : n < 40000) (f1 : fits (mkRat x (2 * c73)) n) (f2 : fits (mkRat y (2 * c73)) n) :
    Ev (fun k => ratio_R_Cmp.f k b1 l1 d1 b2 l2 d2) (cmpI x y) := by
  have h := RCmp_ev h1 h2 f1 f2 hn
  rw [cmpQ_mk c74_pos] at h
  exact h
theorem flag_ne {r : Nat} {t : Int} (h : t ≠ 0 ↔ r ≠ 0) : (((if r ≠ 0 then (1 : Int) else 0) == 1) != (t != 0)) = false := by
  by_cases hr : r = 0
  · have ht : t = 0 := Decidable.byContradiction fun x => (h.1 x) hr
    rw [if_neg (by omega), ht]
    rfl
  · rw [if_pos hr, show (t != 0) = true from bne_iff_ne.2 (h.2 hr)]
    rfl
theorem near_j0 (neg : Bool) (K : Nat) (hK : K < 9218868437227405312) (mode : Int) :
    Ev (fun k => flyballlaw07_ConvNear.j0 k (sgn neg K) mode true (rq (fval neg K)).1 (rq (fval neg K)).2.1 (rq (fval neg K)).2.2 (rq ((1 : Int) : Rat)).1 (rq ((1 : Int) : Rat)).2.1 (rq ((1 : Int) : Rat)).2.2) true := by
  obtain ⟨L, hL, hk, hw⟩ := Whole_num neg K hK mode
  have hv := Value_ev neg L hL
  have f1 := fval_fits neg L hL
  have f2 := fval_fits neg K hK
  have q1 := IsQ.rq f1 (by decide)
  have q2 := IsQ.rq f2 (by decide)
  have hdm := Nat.div_add_mod (kv K) (2 * c73)
  have hr := Nat.mod_lt (kv K) c74_pos
  rw [Nat.add_mul] at hk
  rw [Nat.mul_comm] at hdm
  have hup : upW (kv K) neg mode = true → kv K % (2 * c73) ≠ 0 := by
    unfold upW
    split
    · intro h; simp only [Bool.and_eq_true, decide_eq_true_eq] at h; exact h.1
    · split
      · intro h; simp only [Bool.and_eq_true, decide_eq_true_eq] at h; exact h.1
      · intro h
        simp only [Bool.and_eq_true, decide_eq_true_eq] at h
        have m2 := mod_two (kv K) c73
        rw [h.1, Nat.mul_one] at m2
        have := c73_pos
        omega
  have hW : kv L = kv K / (2 * c73) * (2 * c73) ∨ kv L = kv K / (2 * c73) * (2 * c73) + 2 * c73 ∧ kv K % (2 * c73) ≠ 0 := by
    cases hu : upW (kv K) neg mode
    · left; rw [hk, hu, Bool.toNat_false, Nat.zero_mul, Nat.add_zero]
    · right; exact ⟨by rw [hk, hu, Bool.toNat_true, Nat.one_mul], hup hu⟩
  have hm1 : mode = 1 → (neg = false ∧ (kv L = kv K / (2 * c73) * (2 * c73) + 2 * c73 ∨ kv K % (2 * c73) = 0) ∨ neg = true ∧ kv L = kv K / (2 * c73) * (2 * c73)) := by
    intro hm
    rw [hk]
    unfold upW
    rw [if_pos hm]
    by_cases h0 : kv K % (2 * c73) = 0
    · rw [decide_eq_false (by omega)]
      cases neg <;> simp [h0]
    · rw [decide_eq_true h0]
      cases neg <;> simp
  have hm2 : mode = 2 → (neg = false ∧ kv L = kv K / (2 * c73) * (2 * c73) ∨ neg = true ∧ (kv L = kv K / (2 * c73) * (2 * c73) + 2 * c73 ∨ kv K % (2 * c73) = 0)) := by
    intro hm
    rw [hk]
    unfold upW
    rw [if_neg (by omega), if_pos hm]
    by_cases h0 : kv K % (2 * c73) = 0
    · rw [decide_eq_false (by omega)]
      cases neg <;> simp [h0]
    · rw [decide_eq_true h0]
      cases neg <;> simp
  obtain ⟨n1, n2, n3, n4⟩ := near_num neg hr hW
  rw [hdm] at n1 n2 n3 n4
  have hA := apart_ev (x := sg neg (kv L)) (y := sg neg (kv K)) q1 q2 f1 f2
  have hC := cmp_mk (x := sg neg (kv L)) (y := sg neg (kv K)) q1 q2 (by decide) f1 f2
  obtain ⟨a1, a2, a3⟩ := hA
  refine Ev.step (fun k => by rw [flyballlaw07_ConvNear.j0]) ?_
  refine Ev.bind hw (Ev.bind hv (Ev.pos rfl (Ev.bind a1 (Ev.bind a2 (Ev.bind a3 (Ev.neg ?_ (Ev.bind hC (Ev.neg ?_ (Ev.bind hC (Ev.pos rfl ?_))))))))))
  · unfold cmpI
    rw [if_pos (by omega)]
    decide
  · rw [flag_ne n2]; simp
  · by_cases m1 : mode = 1
    · have h := n3 (hm1 m1)
      exact Ev.pos m1 (Ev.pos h (Ev.neg (by omega) (Ev.ret rfl)))
    · refine Ev.neg m1 ?_
      by_cases m2 : mode = 2
      · exact Ev.pos m2 (Ev.ret (decide_eq_true (n4 (hm2 m2))))
      · exact Ev.neg m2 (Ev.ret rfl)
theorem sg_bd (neg : Bool) (M : Nat) (h : M ≤ 9223372036854775808) (h2 : neg = false → M < 9223372036854775808) : -9223372036854775808 ≤ sg neg M ∧ sg neg M ≤ 9223372036854775807 := by
  unfold sg
  cases neg
  · have := h2 rfl
    simp only [Bool.false_eq_true, if_false]
    omega
  · simp only [if_true]
    omega
theorem near_f (neg : Bool) (K : Nat) (hK : K < 9218868437227405312) (mode : Int) : Ev (fun k => flyballlaw07_ConvNear.f k (sgn neg K) mode) true := by
  have hj := near_j0 neg K hK mode
  have hv := Value_ev neg K hK
  have h1 := RInt_ev 1 (by decide) (by decide)
  have ht : Ev (fun k => conv_ToInt64.f k (sgn neg K)) (toOut neg (kv K) 64) := by
    unfold conv_ToInt64.f
    exact Ev.bind (to_ev neg K hK 64 (by decide)) (Ev.ret rfl)
  unfold flyballlaw07_ConvNear.f
  refine Ev.bind works7 (Ev.pos rfl (Ev.bind hv (Ev.pos rfl (Ev.bind h1 (Ev.bind ht ?_)))))
  unfold toOut
  by_cases hb : 2 ^ (64 - 1) < kv K / (2 * c73) ∨ kv K / (2 * c73) = 2 ^ (64 - 1) ∧ neg = false
  · rw [if_pos hb]
    exact Ev.pos rfl hj
  · rw [if_neg hb]
    have hM : kv K / (2 * c73) ≤ 9223372036854775808 ∧ (neg = false → kv K / (2 * c73) < 9223372036854775808) := by
      have e : 2 ^ (64 - 1) = 9223372036854775808 := by decide
      rw [e] at hb
      exact ⟨by omega, fun h => by subst h; simp at hb; omega⟩
    have hdm := Nat.div_add_mod (kv K) (2 * c73)
    have hr := Nat.mod_lt (kv K) c74_pos
    rw [Nat.mul_comm] at hdm
    obtain ⟨n1, n2, _, _⟩ := near_num neg hr (W := kv K / (2 * c73) * (2 * c73)) (.inl rfl)
    rw [hdm] at n1 n2
    have hle : kv K / (2 * c73) * (2 * c73) ≤ kv K := by omega
    have hxe : (if neg = true then -((kv K / (2 * c73) : Nat) : Int) else ((kv K / (2 * c73) : Nat) : Int)) = sg neg (kv K / (2 * c73)) := rfl
    rw [hxe]
    have hsb := sg_bd neg _ hM.1 hM.2
    have hx := RInt_ev (sg neg (kv K / (2 * c73))) hsb.1 hsb.2
    have hm : ((sg neg (kv K / (2 * c73)) : Int) : Rat) = mkRat (sg neg (kv K / (2 * c73) * (2 * c73))) (2 * c73) := by
      rw [mk_int _ c74_pos]
      congr 1
      unfold sg
      split
      · rw [Int.neg_mul, ← Int.natCast_mul]
      · rw [← Int.natCast_mul]
    have fx : fits ((sg neg (kv K / (2 * c73)) : Int) : Rat) 34 := fits_mono (fits_int (n := 3) _ (by
      rw [sg_natAbs]
      have : B 3 = 79228162514264337593543950336 := by decide
      omega) (by decide)) (by decide)
    rw [hm] at hx fx
    have q1 := IsQ.rq fx (by decide)
    have f2 := fval_fits neg K hK
    have q2 := IsQ.rq f2 (by decide)
    obtain ⟨a1, a2, a3⟩ := apart_ev (y := sg neg (kv K)) q1 q2 fx f2
    have b1 := RAbs_ev q1
    have b2 := RAbs_ev q2
    have g1 := fits_abs fx
    have g2 := fits_abs f2
    rw [mk_abs c74_pos, sg_natAbs] at b1 g1
    unfold fval at b2 g2
    rw [mk_abs c74_pos, sg_natAbs] at b2 g2
    have b3 := cmp_mk (IsQ.rq g1 (by decide)) (IsQ.rq g2 (by decide)) (by decide) g1 g2
    have b4 := cmp_mk (y := sg neg (kv K)) q1 q2 (by decide) fx f2
    have hfl : (if kv K % (2 * c73) ≠ 0 then (1 : Int) else 0) ≠ 16 := by split <;> decide
    refine Ev.neg hfl (Ev.bind hx (Ev.bind a1 (Ev.bind a2 (Ev.bind a3 (Ev.neg ?_ (Ev.bind b1 (Ev.bind b2 (Ev.bind b3 (Ev.neg ?_ (Ev.bind b4 (Ev.neg ?_ hj)))))))))))
    · unfold cmpI
      rw [if_pos (by omega)]
      decide
    · unfold cmpI
      split
      · decide
      · rw [if_neg (by omega)]; decide
    · rw [flag_ne n2]; simp
theorem ConvNear : flyballlaw07_ConvNear.Pure := by
  intro a0 a1 w0 _
  obtain ⟨h0, h1⟩ := wf_u64 w0
  have H : Ev (fun k => flyballlaw07_ConvNear.f k a0 a1) true := by
    obtain ⟨neg, K, hK, rfl⟩ := sgn_of a0 h0 h1
    by_cases hf : K < 9218868437227405312
    · exact near_f neg K hf a1
    · unfold flyballlaw07_ConvNear.f
      exact Ev.bind works7 (Ev.pos rfl (Ev.bind (Value_inf neg K hK hf) (Ev.neg (by simp) (Ev.ret rfl))))
  obtain ⟨n, h⟩ := H
  exact ⟨n, h n (Nat.le_refl _)⟩
end Go.Proofs.Ytfglpaaeipblcaa.Pure
