/- Walks of one package: what each function returns, wherever the Lean function beside it has an answer. -/
import Derived.Test.YtfglpaaeipblcaaP0
import Derived.Test.YtfglpaaeipblcaaPPattern1
import Derived.Test.YtfglpaaeipblcaaPRound1
import Derived.Test.YtfglpaaeipblcaaPNat1
import Derived.Test.YtfglpaaeipblcaaPRound2
import Derived.Test.YtfglpaaeipblcaaPNat2
namespace Go.Proofs.Ytfglpaaeipblcaa.P
open Go.RowKit Go.Proofs.YtfglpaaeipblcaaW.PrintWords Go.Proofs.YtfglpaaeipblcaaW.PrintLast Go.Proofs.YtfglpaaeipblcaaW.PrintMore
attribute [local go_sem] max2_int min2_int max_two min_two max_three min_three max_four min_four   -- for this text's walks alone
set_option linter.unusedVariables false
set_option linter.unusedSimpArgs false

/-! ### round_Frac: function 29 -/
mutual
def round_Frac.j0 : Nat → Bool → List Int → List Int → Int → Bool → Option (Int × Int)
 | 0, _, _, _, _, _ => none
 | k + 1, x0, x1, x2, x3, x24 => if x24 = true then (some (0, 0)) else ((nat_Nat_Len.f k x1).bind fun t281 => ((nat_Nat_Len.f k x2).bind fun t282 => (if (wrap64 (63 - (wrap64 (t281 - t282)))) < (-5000) then (round_Frac.j1 k x0 x1 x2 x3 (wrap64 (63 - (wrap64 (t281 - t282)))) true) else (round_Frac.j1 k x0 x1 x2 x3 (wrap64 (63 - (wrap64 (t281 - t282)))) (decide ((wrap64 (63 - (wrap64 (t281 - t282)))) > 5000))))))
def round_Frac.j1 : Nat → Bool → List Int → List Int → Int → Int → Bool → Option (Int × Int)
 | 0, _, _, _, _, _, _ => none
 | k + 1, x0, x1, x2, x3, x10, x36 => if x36 = true then (if x10 > 0 then ((round_number_float.f k x0 0 9223372036854775808 (-5000) true x3).bind fun bt283 => (some (bt283.1, bt283.2))) else ((round_number_float.f k x0 0 9223372036854775808 5000 true x3).bind fun bt285 => (some (bt285.1, bt285.2)))) else ((round_two.f k x10).bind fun t287 => ((nat_Nat_Mul.f k x1 t287).bind fun t290 => ((round_two.f k (wrap64 (-x10))).bind fun t293 => ((nat_Nat_Mul.f k x2 t293).bind fun t296 => ((nat_Nat_Div.f k t290 t296).bind fun bt299 => ((nat_Nat_Uint.f k bt299.1).bind fun bt306 => ((nat_Nat_Len.f k bt299.2.1).bind fun t308 => ((round_number_float.f k x0 0 bt306.1 (wrap64 (-x10)) (decide (t308 > 0)) x3).bind fun bt309 => (some (bt309.1, bt309.2))))))))))
end
def round_Frac.f (k : Nat) (a0 : Bool) (l1 : List Int) (l2 : List Int) (a3 : Int) : Option (Int × Int) := (nat_Nat_Len.f k l1).bind fun t279 => (if t279 = 0 then (round_Frac.j0 k a0 l1 l2 a3 true) else ((nat_Nat_Len.f k l2).bind fun t280 => (round_Frac.j0 k a0 l1 l2 a3 (t280 == 0))))
theorem round_Frac.mono_l : ∀ k, (∀ y0 y1 y2 y3 y4, LeO (round_Frac.j0 k y0 y1 y2 y3 y4) (round_Frac.j0 (k + 1) y0 y1 y2 y3 y4)) ∧ (∀ y0 y1 y2 y3 y4 y5, LeO (round_Frac.j1 k y0 y1 y2 y3 y4 y5) (round_Frac.j1 (k + 1) y0 y1 y2 y3 y4 y5))
 | 0 => ⟨fun _ _ _ _ _ r h => by simp [round_Frac.j0] at h, fun _ _ _ _ _ _ r h => by simp [round_Frac.j1] at h⟩
 | k + 1 => by
  obtain ⟨ih0, ih1⟩ := round_Frac.mono_l k
  refine ⟨?_, ?_⟩
  ·
   intro y0 y1 y2 y3 y4
   unfold round_Frac.j0
   repeat' with_reducible first | exact ih0 _ _ _ _ _ | exact ih1 _ _ _ _ _ _ | exact nat_Nat_Div.mono _ _ _ | exact nat_Nat_Len.mono _ _ | exact nat_Nat_Mul.mono _ _ _ | exact nat_Nat_Uint.mono _ _ | exact round_number_float.mono _ _ _ _ _ _ _ | exact round_two.mono _ _ | exact LeO.refl _ | exact LeO.none _ | refine LeO.ite ?_ ?_ | refine LeO.bind ?_ (fun _ => ?_)
  ·
   intro y0 y1 y2 y3 y4 y5
   unfold round_Frac.j1
   repeat' with_reducible first | exact ih0 _ _ _ _ _ | exact ih1 _ _ _ _ _ _ | exact nat_Nat_Div.mono _ _ _ | exact nat_Nat_Len.mono _ _ | exact nat_Nat_Mul.mono _ _ _ | exact nat_Nat_Uint.mono _ _ | exact round_number_float.mono _ _ _ _ _ _ _ | exact round_two.mono _ _ | exact LeO.refl _ | exact LeO.none _ | refine LeO.ite ?_ ?_ | refine LeO.bind ?_ (fun _ => ?_)
theorem round_Frac.mono : ∀ a0 a1 a2 a3 k, LeO (round_Frac.f k a0 a1 a2 a3) (round_Frac.f (k + 1) a0 a1 a2 a3) := by
 intro a0 a1 a2 a3 k
 obtain ⟨ih0, ih1⟩ := round_Frac.mono_l k
 unfold round_Frac.f
 repeat' with_reducible first | exact ih0 _ _ _ _ _ | exact ih1 _ _ _ _ _ _ | exact nat_Nat_Div.mono _ _ _ | exact nat_Nat_Len.mono _ _ | exact nat_Nat_Mul.mono _ _ _ | exact nat_Nat_Uint.mono _ _ | exact round_number_float.mono _ _ _ _ _ _ _ | exact round_two.mono _ _ | exact LeO.refl _ | exact LeO.none _ | refine LeO.ite ?_ ?_ | refine LeO.bind ?_ (fun _ => ?_)
set_option maxHeartbeats 8000000 in
set_option maxRecDepth 100000 in
theorem round_Frac.calls (k : Nat) (a0 : Bool) (A1 : Option Addr) (c1 : Nat) (l1 : List Int) (A2 : Option Addr) (c2 : Nat) (l2 : List Int) (a3 : Int) (r1 : Int) (r2 : Int) (w : World) (hr1 : Kd.C (Kd.int .u32) w A1 l1.length l1) (hc1 : l1.length ≤ c1) (hr2 : Kd.C (Kd.int .u32) w A2 l2.length l2) (hc2 : l2.length ≤ c2) (h : round_Frac.f k a0 l1 l2 a3 = some (r1, r2)) :
  Calls Try.prog 29 #[.bool a0, .slice A1 l1.length c1, .slice A2 l2.length c2, .int .u8 a3] w fun e w' => e = .returned (.tuple #[.int .u64 r1, .int .u8 r2]) ∧ Below w.heap.size w w' := by
 have hu40 := Try.underlying40
 have hu94 := Try.underlying94
 have HR1 := Aside0.mk hr1
 have HC1 := Aside0.mk hc1
 clear hr1 hc1
 have HR2 := Aside0.mk hr2
 have HC2 := Aside0.mk hc2
 clear hr2 hc2
 have HB := Aside0.mk (Below.refl w.heap.size w)
 have H : ((nat_Nat_Len.f k l1).bind fun t279 => (if t279 = 0 then (round_Frac.j0 k a0 l1 l2 a3 true) else ((nat_Nat_Len.f k l2).bind fun t280 => (round_Frac.j0 k a0 l1 l2 a3 (t280 == 0))))) = some (r1, r2) := h
 clear h
 have HC5 := Aside0.mk H
 clear H
 go_enter Try.func29, Try.ntmps29
 go_upto_region 1 with (fail)
 go_cut [24] (fun v24 wc => ∃ (kq : Nat) (x24_4 : Bool), v24 = .bool x24_4 ∧ Aside0 (round_Frac.j0 kq a0 l1 l2 a3 x24_4 = some (r1, r2)) ∧ Aside0 (kq ≤ k) ∧ Aside0 (Below w.heap.size w wc))
 case first =>
  have H := HC5.out
  clear HC5
  replace H := Option.bind_eq_some_iff.mp H
  obtain ⟨t279, A60, H⟩ := H
  replace H : (if t279 = 0 then (round_Frac.j0 k a0 l1 l2 a3 true) else ((nat_Nat_Len.f k l2).bind fun t280 => (round_Frac.j0 k a0 l1 l2 a3 (t280 == 0)))) = some (r1, r2) := H
  have A6 := Aside0.mk A60
  clear A60
  by_cases c7 : t279 = 0
  case pos =>
   rw [if_pos c7] at H
   have c7b0 : (t279 == 0) = true := beq_iff_eq.mpr c7
   have c7b1 : (t279 != 0) = false := bne_eq_false_iff_eq.mpr c7
   clear c7
   (first | rw [c7b0] | (simp only [i64_w, i32_w]; rw [c7b0]) | skip)
   have H' := Aside0.mk H
   clear H
   go_wp2_with (first | ((with_reducible refine gc_ 66 rfl ?_); refine gM_ (some 18) Try.func66 [.slice A1 l1.length c1] ?_; (with_reducible refine (nat_Nat_Len.calls k _ _ l1 t279 _ ?side1 ?side2 A6.out).mono ?_); (case side1 => exact ch_ HR1.out); (case side2 => exact HC1.out); rintro e w8 ⟨rfl, hb⟩; refine ⟨_, rfl, ?_⟩; replace HB := bq_ hb))
   go_meet
   case rel => exact ⟨_, (true), (sh_), H', ⟨by first | omega | exact Nat.le_refl _⟩, ⟨bh_⟩⟩
  rw [if_neg c7] at H
  have c7b0 : (t279 == 0) = false := beq_eq_false_iff_ne.mpr c7
  have c7b1 : (t279 != 0) = true := bne_iff_ne.mpr c7
  (first | rw [c7b0] | (simp only [i64_w, i32_w]; rw [c7b0]) | skip)
  replace H := Option.bind_eq_some_iff.mp H
  obtain ⟨t280, A90, H⟩ := H
  replace H : (round_Frac.j0 k a0 l1 l2 a3 (t280 == 0)) = some (r1, r2) := H
  have A9 := Aside0.mk A90
  clear A90
  have H' := Aside0.mk H
  clear H
  go_wp2_with (first | ((with_reducible refine gc_ 66 rfl ?_); refine gM_ (some 18) Try.func66 [.slice A1 l1.length c1] ?_; (with_reducible refine (nat_Nat_Len.calls k _ _ l1 t279 _ ?side1 ?side2 A6.out).mono ?_); (case side1 => exact ch_ HR1.out); (case side2 => exact HC1.out); rintro e w10 ⟨rfl, hb⟩; refine ⟨_, rfl, ?_⟩; replace HB := bq_ hb) | (go_at_call 66; (with_reducible refine (nat_Nat_Len.calls k _ _ l2 t280 _ ?side1 ?side2 A9.out).mono ?_); (case side1 => exact ch_ HR2.out); (case side2 => exact HC2.out); rintro e w11 ⟨rfl, hb⟩; replace HB := bq_ hb))
  go_meet
  case rel => exact ⟨_, ((t280 == 0)), (sh_), H', ⟨by first | omega | exact Nat.le_refl _⟩, ⟨bh_⟩⟩
 case rest =>
  clear HC5
  try clear c1
  try clear c2
  try clear p2
  try clear c6
  try clear c7
  try clear c7b0
  try clear c7b1
  obtain ⟨kq, x24_4, rfl, HA, HJ4, HB⟩ := hcut
  cases kq with
  | zero => exact absurd HA.out (by simp [round_Frac.j0])
  | succ kj4 =>
   have H := HA.out
   clear HA
   simp only [round_Frac.j0] at H
   by_cases c12 : x24_4 = true
   case pos =>
    subst c12
    have H1 : (some (0, 0)) = some (r1, r2) := by rw [if_pos rfl] at H; exact H
    clear H
    have H := H1
    clear H1
    simp only [Option.some.injEq, Prod.mk.injEq] at H
    obtain ⟨rfl, rfl⟩ := H
    go_wp2
    go_ret2
    exact ⟨eh_, bh_⟩
   replace c12 := Bool.eq_false_iff.mpr c12
   subst c12
   have H1 : ((nat_Nat_Len.f kj4 l1).bind fun t281 => ((nat_Nat_Len.f kj4 l2).bind fun t282 => (if (wrap64 (63 - (wrap64 (t281 - t282)))) < (-5000) then (round_Frac.j1 kj4 a0 l1 l2 a3 (wrap64 (63 - (wrap64 (t281 - t282)))) true) else (round_Frac.j1 kj4 a0 l1 l2 a3 (wrap64 (63 - (wrap64 (t281 - t282)))) (decide ((wrap64 (63 - (wrap64 (t281 - t282)))) > 5000)))))) = some (r1, r2) := by rw [if_neg (show ¬ (false = true) by decide)] at H; exact H
   clear H
   have H := H1
   clear H1
   replace H := Option.bind_eq_some_iff.mp H
   obtain ⟨t281, A130, H⟩ := H
   replace H : ((nat_Nat_Len.f kj4 l2).bind fun t282 => (if (wrap64 (63 - (wrap64 (t281 - t282)))) < (-5000) then (round_Frac.j1 kj4 a0 l1 l2 a3 (wrap64 (63 - (wrap64 (t281 - t282)))) true) else (round_Frac.j1 kj4 a0 l1 l2 a3 (wrap64 (63 - (wrap64 (t281 - t282)))) (decide ((wrap64 (63 - (wrap64 (t281 - t282)))) > 5000))))) = some (r1, r2) := H
   have A13 := Aside0.mk A130
   clear A130
   replace H := Option.bind_eq_some_iff.mp H
   obtain ⟨t282, A140, H⟩ := H
   replace H : (if (wrap64 (63 - (wrap64 (t281 - t282)))) < (-5000) then (round_Frac.j1 kj4 a0 l1 l2 a3 (wrap64 (63 - (wrap64 (t281 - t282)))) true) else (round_Frac.j1 kj4 a0 l1 l2 a3 (wrap64 (63 - (wrap64 (t281 - t282)))) (decide ((wrap64 (63 - (wrap64 (t281 - t282)))) > 5000)))) = some (r1, r2) := H
   have A14 := Aside0.mk A140
   clear A140
   have HC15 := Aside0.mk H
   clear H
   go_upto_region 4 with (first | ((with_reducible refine gc_ 66 rfl ?_); refine gM_ (some 26) Try.func66 [.slice A1 l1.length c1] ?_; (with_reducible refine (nat_Nat_Len.calls kj4 _ _ l1 t281 _ ?side1 ?side2 A13.out).mono ?_); (case side1 => exact ch_ HR1.out); (case side2 => exact HC1.out); rintro e w16 ⟨rfl, hb⟩; refine ⟨_, rfl, ?_⟩; replace HB := bq_ hb) | ((with_reducible refine gc_ 66 rfl ?_); refine gM_ (some 28) Try.func66 [.slice A2 l2.length c2] ?_; (with_reducible refine (nat_Nat_Len.calls kj4 _ _ l2 t282 _ ?side1 ?side2 A14.out).mono ?_); (case side1 => exact ch_ HR2.out); (case side2 => exact HC2.out); rintro e w17 ⟨rfl, hb⟩; refine ⟨_, rfl, ?_⟩; replace HB := bq_ hb))
   (try simp only [Act.put, List.setIfInBounds_toArray, List.set_cons_zero, List.set_cons_succ])
   go_cut [36] (fun v36 wc => ∃ (kq : Nat) (x36_14 : Bool), v36 = .bool x36_14 ∧ Aside0 (round_Frac.j1 kq a0 l1 l2 a3 (wrap64 (63 - (wrap64 (t281 - t282)))) x36_14 = some (r1, r2)) ∧ Aside0 (kq ≤ kj4) ∧ Aside0 (Below w.heap.size w wc))
   case first =>
    have H := HC15.out
    clear HC15
    by_cases c18 : (wrap64 (63 - (wrap64 (t281 - t282)))) < (-5000)
    case pos =>
     rw [if_pos c18] at H
     have c18b0 : decide ((wrap64 (63 - (wrap64 (t281 - t282)))) < (-5000)) = true := decide_eq_true c18
     clear c18
     (first | rw [c18b0] | (simp only [i64_w, i32_w]; rw [c18b0]) | skip)
     have H' := Aside0.mk H
     clear H
     go_wp2
     go_meet
     case rel => exact ⟨_, (true), (sh_), H', ⟨by have := HJ4.out; first | omega | exact Nat.le_refl _⟩, ⟨bh_⟩⟩
    rw [if_neg c18] at H
    have c18b0 : decide ((wrap64 (63 - (wrap64 (t281 - t282)))) < (-5000)) = false := decide_eq_false c18
    clear c18
    (first | rw [c18b0] | (simp only [i64_w, i32_w]; rw [c18b0]) | skip)
    have H' := Aside0.mk H
    clear H
    go_wp2
    go_meet
    case rel => exact ⟨_, (decide ((wrap64 (63 - (wrap64 (t281 - t282)))) > 5000)), (sh_), H', ⟨by have := HJ4.out; first | omega | exact Nat.le_refl _⟩, ⟨bh_⟩⟩
   case rest =>
    clear HC15
    try clear c1
    try clear c2
    try clear p2
    try clear c6
    try clear p6
    try clear c7
    try clear c7b0
    try clear c7b1
    try clear c12
    try clear c18
    try clear c18b0
    try clear p2
    obtain ⟨kq, x36_14, rfl, HA, HJ14, HB⟩ := hcut
    cases kq with
    | zero => exact absurd HA.out (by simp [round_Frac.j1])
    | succ kj14 =>
     have H := HA.out
     clear HA
     simp only [round_Frac.j1] at H
     by_cases c19 : x36_14 = true
     case pos =>
      subst c19
      have H1 : (if (wrap64 (63 - (wrap64 (t281 - t282)))) > 0 then ((round_number_float.f kj14 a0 0 9223372036854775808 (-5000) true a3).bind fun bt283 => (some (bt283.1, bt283.2))) else ((round_number_float.f kj14 a0 0 9223372036854775808 5000 true a3).bind fun bt285 => (some (bt285.1, bt285.2)))) = some (r1, r2) := by rw [if_pos rfl] at H; exact H
      clear H
      have H := H1
      clear H1
      by_cases c20 : (wrap64 (63 - (wrap64 (t281 - t282)))) > 0
      case neg =>
       rw [if_neg c20] at H
       have c20b0 : decide (0 < (wrap64 (63 - (wrap64 (t281 - t282))))) = false := decide_eq_false c20
       clear c20
       replace H := Option.bind_eq_some_iff.mp H
       obtain ⟨⟨t285, t286⟩, A230, H⟩ := H
       replace H : (some (t285, t286)) = some (r1, r2) := H
       have A23 := Aside0.mk A230
       clear A230
       simp only [Option.some.injEq, Prod.mk.injEq] at H
       obtain ⟨rfl, rfl⟩ := H
       go_wp2_with (first | ((with_reducible refine gc_ 59 rfl ?_); refine gM_ (some 44) Try.func59 [.agg #[.bool a0, .int .u64 0, .int .u64 9223372036854775808, .int .i64 5000, .bool true], .int .u8 a3] ?_; (with_reducible refine (round_number_float.calls kj14 a0 0 9223372036854775808 5000 true a3 t285 t286 _ A23.out).mono ?_); rintro e w24 ⟨rfl, hb⟩; refine ⟨_, rfl, ?_⟩; replace HB := bq_ hb))
       go_ret2
       exact ⟨eh_, bh_⟩
      rw [if_pos c20] at H
      have c20b0 : decide (0 < (wrap64 (63 - (wrap64 (t281 - t282))))) = true := decide_eq_true c20
      clear c20
      replace H := Option.bind_eq_some_iff.mp H
      obtain ⟨⟨t283, t284⟩, A210, H⟩ := H
      replace H : (some (t283, t284)) = some (r1, r2) := H
      have A21 := Aside0.mk A210
      clear A210
      simp only [Option.some.injEq, Prod.mk.injEq] at H
      obtain ⟨rfl, rfl⟩ := H
      go_wp2_with (first | ((with_reducible refine gc_ 59 rfl ?_); refine gM_ (some 44) Try.func59 [.agg #[.bool a0, .int .u64 0, .int .u64 9223372036854775808, .int .i64 (-5000), .bool true], .int .u8 a3] ?_; (with_reducible refine (round_number_float.calls kj14 a0 0 9223372036854775808 (-5000) true a3 t283 t284 _ A21.out).mono ?_); rintro e w22 ⟨rfl, hb⟩; refine ⟨_, rfl, ?_⟩; replace HB := bq_ hb))
      go_ret2
      exact ⟨eh_, bh_⟩
     replace c19 := Bool.eq_false_iff.mpr c19
     subst c19
     have H1 : ((round_two.f kj14 (wrap64 (63 - (wrap64 (t281 - t282))))).bind fun t287 => ((nat_Nat_Mul.f kj14 l1 t287).bind fun t290 => ((round_two.f kj14 (wrap64 (-(wrap64 (63 - (wrap64 (t281 - t282))))))).bind fun t293 => ((nat_Nat_Mul.f kj14 l2 t293).bind fun t296 => ((nat_Nat_Div.f kj14 t290 t296).bind fun bt299 => ((nat_Nat_Uint.f kj14 bt299.1).bind fun bt306 => ((nat_Nat_Len.f kj14 bt299.2.1).bind fun t308 => ((round_number_float.f kj14 a0 0 bt306.1 (wrap64 (-(wrap64 (63 - (wrap64 (t281 - t282)))))) (decide (t308 > 0)) a3).bind fun bt309 => (some (bt309.1, bt309.2)))))))))) = some (r1, r2) := by rw [if_neg (show ¬ (false = true) by decide)] at H; exact H
     clear H
     have H := H1
     clear H1
     replace H := Option.bind_eq_some_iff.mp H
     obtain ⟨t287, A250, H⟩ := H
     replace H : ((nat_Nat_Mul.f kj14 l1 t287).bind fun t290 => ((round_two.f kj14 (wrap64 (-(wrap64 (63 - (wrap64 (t281 - t282))))))).bind fun t293 => ((nat_Nat_Mul.f kj14 l2 t293).bind fun t296 => ((nat_Nat_Div.f kj14 t290 t296).bind fun bt299 => ((nat_Nat_Uint.f kj14 bt299.1).bind fun bt306 => ((nat_Nat_Len.f kj14 bt299.2.1).bind fun t308 => ((round_number_float.f kj14 a0 0 bt306.1 (wrap64 (-(wrap64 (63 - (wrap64 (t281 - t282)))))) (decide (t308 > 0)) a3).bind fun bt309 => (some (bt309.1, bt309.2))))))))) = some (r1, r2) := H
     have A25 := Aside0.mk A250
     clear A250
     replace H := Option.bind_eq_some_iff.mp H
     obtain ⟨t290, A260, H⟩ := H
     replace H : ((round_two.f kj14 (wrap64 (-(wrap64 (63 - (wrap64 (t281 - t282))))))).bind fun t293 => ((nat_Nat_Mul.f kj14 l2 t293).bind fun t296 => ((nat_Nat_Div.f kj14 t290 t296).bind fun bt299 => ((nat_Nat_Uint.f kj14 bt299.1).bind fun bt306 => ((nat_Nat_Len.f kj14 bt299.2.1).bind fun t308 => ((round_number_float.f kj14 a0 0 bt306.1 (wrap64 (-(wrap64 (63 - (wrap64 (t281 - t282)))))) (decide (t308 > 0)) a3).bind fun bt309 => (some (bt309.1, bt309.2)))))))) = some (r1, r2) := H
     have A26 := Aside0.mk A260
     clear A260
     replace H := Option.bind_eq_some_iff.mp H
     obtain ⟨t293, A270, H⟩ := H
     replace H : ((nat_Nat_Mul.f kj14 l2 t293).bind fun t296 => ((nat_Nat_Div.f kj14 t290 t296).bind fun bt299 => ((nat_Nat_Uint.f kj14 bt299.1).bind fun bt306 => ((nat_Nat_Len.f kj14 bt299.2.1).bind fun t308 => ((round_number_float.f kj14 a0 0 bt306.1 (wrap64 (-(wrap64 (63 - (wrap64 (t281 - t282)))))) (decide (t308 > 0)) a3).bind fun bt309 => (some (bt309.1, bt309.2))))))) = some (r1, r2) := H
     have A27 := Aside0.mk A270
     clear A270
     replace H := Option.bind_eq_some_iff.mp H
     obtain ⟨t296, A280, H⟩ := H
     replace H : ((nat_Nat_Div.f kj14 t290 t296).bind fun bt299 => ((nat_Nat_Uint.f kj14 bt299.1).bind fun bt306 => ((nat_Nat_Len.f kj14 bt299.2.1).bind fun t308 => ((round_number_float.f kj14 a0 0 bt306.1 (wrap64 (-(wrap64 (63 - (wrap64 (t281 - t282)))))) (decide (t308 > 0)) a3).bind fun bt309 => (some (bt309.1, bt309.2)))))) = some (r1, r2) := H
     have A28 := Aside0.mk A280
     clear A280
     replace H := Option.bind_eq_some_iff.mp H
     obtain ⟨⟨t299, t302, t305⟩, A290, H⟩ := H
     replace H : ((nat_Nat_Uint.f kj14 t299).bind fun bt306 => ((nat_Nat_Len.f kj14 t302).bind fun t308 => ((round_number_float.f kj14 a0 0 bt306.1 (wrap64 (-(wrap64 (63 - (wrap64 (t281 - t282)))))) (decide (t308 > 0)) a3).bind fun bt309 => (some (bt309.1, bt309.2))))) = some (r1, r2) := H
     have A29 := Aside0.mk A290
     clear A290
     replace H := Option.bind_eq_some_iff.mp H
     obtain ⟨⟨t306, t307⟩, A300, H⟩ := H
     replace H : ((nat_Nat_Len.f kj14 t302).bind fun t308 => ((round_number_float.f kj14 a0 0 t306 (wrap64 (-(wrap64 (63 - (wrap64 (t281 - t282)))))) (decide (t308 > 0)) a3).bind fun bt309 => (some (bt309.1, bt309.2)))) = some (r1, r2) := H
     have A30 := Aside0.mk A300
     clear A300
     replace H := Option.bind_eq_some_iff.mp H
     obtain ⟨t308, A310, H⟩ := H
     replace H : ((round_number_float.f kj14 a0 0 t306 (wrap64 (-(wrap64 (63 - (wrap64 (t281 - t282)))))) (decide (t308 > 0)) a3).bind fun bt309 => (some (bt309.1, bt309.2))) = some (r1, r2) := H
     have A31 := Aside0.mk A310
     clear A310
     replace H := Option.bind_eq_some_iff.mp H
     obtain ⟨⟨t309, t310⟩, A320, H⟩ := H
     replace H : (some (t309, t310)) = some (r1, r2) := H
     have A32 := Aside0.mk A320
     clear A320
     simp only [Option.some.injEq, Prod.mk.injEq] at H
     obtain ⟨rfl, rfl⟩ := H
     go_wp2_with (first | ((with_reducible refine gc_ 68 rfl ?_); refine gM_ (some 49) Try.func68 [.int .i64 (wrap64 (63 - (wrap64 (t281 - t282))))] ?_; (with_reducible refine (round_two.calls kj14 (wrap64 (63 - (wrap64 (t281 - t282)))) t287 _ A25.out).mono ?_); rintro e w33 ⟨v288, rfl, ho0, hb⟩; refine ⟨_, rfl, ?_⟩; have HO289 := Aside0.mk (Kd.V_lower (Kd.V_mono (ok' := fun k_ => True) ho0 (fun k_ hk_ => trivial)) (below_size bh_)); replace HB := bq_ hb; skip; obtain ⟨Ao34, co34, eo34⟩ := Kd.V_slice HO289.out; subst eo34) | ((with_reducible refine gc_ 67 rfl ?_); refine gM_ (some 50) Try.func67 [.slice A1 l1.length c1, .slice Ao34 t287.length co34] ?_; (with_reducible refine (nat_Nat_Mul.calls kj14 _ _ l1 _ _ t287 t290 _ ?side1 ?side2 ?side3 ?side4 A26.out).mono ?_); (case side1 => exact ch_ HR1.out); (case side2 => exact HC1.out); (case side3 => repeat first | exact (Kd.V_reads' HO289.out).2.2 | with_reducible first | apply ca_ | apply cn_ | apply cd_); (case side4 => exact (Kd.V_reads' HO289.out).2.1); rintro e w35 ⟨v291, rfl, ho0, hb⟩; refine ⟨_, rfl, ?_⟩; have HO292 := Aside0.mk (Kd.V_lower (Kd.V_mono (ok' := fun k_ => True) ho0 (fun k_ hk_ => trivial)) (below_size bh_)); replace HB := bq_ hb) | ((with_reducible refine gc_ 68 rfl ?_); refine gM_ (some 54) Try.func68 [.int .i64 (wrap64 (-(wrap64 (63 - (wrap64 (t281 - t282))))))] ?_; (with_reducible refine (round_two.calls kj14 (wrap64 (-(wrap64 (63 - (wrap64 (t281 - t282)))))) t293 _ A27.out).mono ?_); rintro e w36 ⟨v294, rfl, ho0, hb⟩; refine ⟨_, rfl, ?_⟩; replace HO292 := Aside0.mk (Kd.V_below (by (with_reducible repeat (first | apply va_ | apply vn_ | apply vd_)); exact HO292.out) hb); have HO295 := Aside0.mk (Kd.V_lower (Kd.V_mono (ok' := fun k_ => True) ho0 (fun k_ hk_ => trivial)) (below_size bh_)); replace HB := bq_ hb; skip; obtain ⟨Ao37, co37, eo37⟩ := Kd.V_slice HO295.out; subst eo37) | ((with_reducible refine gc_ 67 rfl ?_); refine gM_ (some 55) Try.func67 [.slice A2 l2.length c2, .slice Ao37 t293.length co37] ?_; (with_reducible refine (nat_Nat_Mul.calls kj14 _ _ l2 _ _ t293 t296 _ ?side1 ?side2 ?side3 ?side4 A28.out).mono ?_); (case side1 => exact ch_ HR2.out); (case side2 => exact HC2.out); (case side3 => repeat first | exact (Kd.V_reads' HO295.out).2.2 | with_reducible first | apply ca_ | apply cn_ | apply cd_); (case side4 => exact (Kd.V_reads' HO295.out).2.1); rintro e w38 ⟨v297, rfl, ho0, hb⟩; refine ⟨_, rfl, ?_⟩; replace HO292 := Aside0.mk (Kd.V_below (by (with_reducible repeat (first | apply va_ | apply vn_ | apply vd_)); exact HO292.out) hb); have HO298 := Aside0.mk (Kd.V_lower (Kd.V_mono (ok' := fun k_ => True) ho0 (fun k_ hk_ => trivial)) (below_size bh_)); replace HB := bq_ hb; skip; obtain ⟨Ao39, co39, eo39⟩ := Kd.V_slice HO292.out; subst eo39; obtain ⟨Ao40, co40, eo40⟩ := Kd.V_slice HO298.out; subst eo40) | ((with_reducible refine gc_ 69 rfl ?_); refine gM_ (some 59) Try.func69 [.slice Ao39 t290.length co39, .slice Ao40 t296.length co40] ?_; (with_reducible refine (nat_Nat_Div.calls kj14 (fun k_ => True) _ _ t290 (fun k_ => True) _ _ t296 t299 t302 t305 _ ?side1 ?side2 A29.out).mono ?_); (case side1 => exact HO292.out); (case side2 => exact HO298.out); rintro e w41 ⟨v300, v303, rfl, ho0, ho1, hb⟩; refine ⟨_, rfl, ?_⟩; have HO301 := Aside0.mk (Kd.V_lower (Kd.V_mono (ok' := fun k_ => True) ho0 (fun k_ hk_ => trivial)) (below_size bh_)); have HO304 := Aside0.mk (Kd.V_lower (Kd.V_mono (ok' := fun k_ => True) ho1 (fun k_ hk_ => trivial)) (below_size bh_)); replace HB := bq_ hb; skip; obtain ⟨Ao42, co42, eo42⟩ := Kd.V_slice HO301.out; subst eo42) | ((with_reducible refine gc_ 70 rfl ?_); refine gM_ (some 65) Try.func70 [.slice Ao42 t299.length co42] ?_; (with_reducible refine (nat_Nat_Uint.calls kj14 _ _ t299 t306 t307 _ ?side1 ?side2 A30.out).mono ?_); (case side1 => repeat first | exact (Kd.V_reads' HO301.out).2.2 | with_reducible first | apply ca_ | apply cn_ | apply cd_); (case side2 => exact (Kd.V_reads' HO301.out).2.1); rintro e w43 ⟨rfl, hb⟩; refine ⟨_, rfl, ?_⟩; replace HO304 := Aside0.mk (Kd.V_below (by (with_reducible repeat (first | apply va_ | apply vn_ | apply vd_)); exact HO304.out) hb); replace HB := bq_ hb; skip; obtain ⟨Ao44, co44, eo44⟩ := Kd.V_slice HO304.out; subst eo44) | ((with_reducible refine gc_ 66 rfl ?_); refine gM_ (some 74) Try.func66 [.slice Ao44 t302.length co44] ?_; (with_reducible refine (nat_Nat_Len.calls kj14 _ _ t302 t308 _ ?side1 ?side2 A31.out).mono ?_); (case side1 => repeat first | exact (Kd.V_reads' HO304.out).2.2 | with_reducible first | apply ca_ | apply cn_ | apply cd_); (case side2 => exact (Kd.V_reads' HO304.out).2.1); rintro e w45 ⟨rfl, hb⟩; refine ⟨_, rfl, ?_⟩; replace HB := bq_ hb) | ((with_reducible refine gc_ 59 rfl ?_); refine gM_ (some 78) Try.func59 [.agg #[.bool a0, .int .u64 0, .int .u64 t306, .int .i64 (wrap64 (-(wrap64 (63 - (wrap64 (t281 - t282)))))), .bool (decide (t308 > 0))], .int .u8 a3] ?_; (with_reducible refine (round_number_float.calls kj14 a0 0 t306 (wrap64 (-(wrap64 (63 - (wrap64 (t281 - t282)))))) (decide (t308 > 0)) a3 t309 t310 _ A32.out).mono ?_); rintro e w46 ⟨rfl, hb⟩; refine ⟨_, rfl, ?_⟩; replace HB := bq_ hb))
     go_ret2
     exact ⟨eh_, bh_⟩

/-! ### round_Exact: function 26 -/
def round_Exact.f (k : Nat) (a0_0 : Bool) (l0_1 : List Int) (l0_2 : List Int) (a1 : Int) : Option (Int × Int) := (round_Frac.f k a0_0 l0_1 l0_2 a1).bind fun bt312 => (some (bt312.1, bt312.2))
theorem round_Exact.mono : ∀ a0 a1 a2 a3 k, LeO (round_Exact.f k a0 a1 a2 a3) (round_Exact.f (k + 1) a0 a1 a2 a3) := by
 intro a0 a1 a2 a3 k
 unfold round_Exact.f
 repeat' with_reducible first | exact round_Frac.mono _ _ _ _ _ | exact LeO.refl _ | exact LeO.none _ | refine LeO.ite ?_ ?_ | refine LeO.bind ?_ (fun _ => ?_)
set_option maxHeartbeats 8000000 in
set_option maxRecDepth 100000 in
theorem round_Exact.calls (k : Nat) (a0_0 : Bool) (A0_1 : Option Addr) (c0_1 : Nat) (l0_1 : List Int) (A0_2 : Option Addr) (c0_2 : Nat) (l0_2 : List Int) (a1 : Int) (r1 : Int) (r2 : Int) (w : World) (hr0_1 : Kd.C (Kd.int .u32) w A0_1 l0_1.length l0_1) (hc0_1 : l0_1.length ≤ c0_1) (hr0_2 : Kd.C (Kd.int .u32) w A0_2 l0_2.length l0_2) (hc0_2 : l0_2.length ≤ c0_2) (h : round_Exact.f k a0_0 l0_1 l0_2 a1 = some (r1, r2)) :
  Calls Try.prog 26 #[.agg #[.bool a0_0, .slice A0_1 l0_1.length c0_1, .slice A0_2 l0_2.length c0_2], .int .u8 a1] w fun e w' => e = .returned (.tuple #[.int .u64 r1, .int .u8 r2]) ∧ Below w.heap.size w w' := by
 have hu50 := Try.underlying50
 have HR0_1 := Aside0.mk hr0_1
 have HC0_1 := Aside0.mk hc0_1
 clear hr0_1 hc0_1
 have HR0_2 := Aside0.mk hr0_2
 have HC0_2 := Aside0.mk hc0_2
 clear hr0_2 hc0_2
 have HB := Aside0.mk (Below.refl w.heap.size w)
 have H : ((round_Frac.f k a0_0 l0_1 l0_2 a1).bind fun bt312 => (some (bt312.1, bt312.2))) = some (r1, r2) := h
 clear h
 replace H := Option.bind_eq_some_iff.mp H
 obtain ⟨⟨t312, t313⟩, A30, H⟩ := H
 replace H : (some (t312, t313)) = some (r1, r2) := H
 have A3 := Aside0.mk A30
 clear A30
 simp only [Option.some.injEq, Prod.mk.injEq] at H
 obtain ⟨rfl, rfl⟩ := H
 go_enter Try.func26, Try.ntmps26
 go_wp2_with (first | ((with_reducible refine gate_dst (N := 2) rfl ?_); refine box_event ?hg (N := 2) ?hd (cs := #[.bool a0_0, .slice A0_1 l0_1.length c0_1, .slice A0_2 l0_2.length c0_2]) (t := 50) ?hr ?_; (case hd => rfl); (case hg => rfl); (case hr => first | (go_simp; done) | (go_simp; rfl)); intro gb311 hg w4 hbox hb; have n0_ := bq_ hb; have n1_ := Aside0.mk (hbox); have n3_ := bz_ hg; clear HB; have HB := n0_; have BK311 := n1_; have GE311 := n3_; clear n0_ n1_ n3_; clear hb hbox hg; have hcz5_0 : w4.cell? ⟨gb311, 0, none⟩ = some (.bool a0_0) := (blk_cell BK311.out 0).trans rfl; have hcz5_1 : w4.cell? ⟨gb311, 1, none⟩ = some (.slice A0_1 l0_1.length c0_1) := (blk_cell BK311.out 1).trans rfl; have hcz5_2 : w4.cell? ⟨gb311, 2, none⟩ = some (.slice A0_2 l0_2.length c0_2) := (blk_cell BK311.out 2).trans rfl; have hfz5_0 := blk_frozen BK311.out 0; have hfz5_1 := blk_frozen BK311.out 1; have hfz5_2 := blk_frozen BK311.out 2) | ((with_reducible refine gc_ 29 rfl ?_); refine gM_ (some 13) Try.func29 [.bool a0_0, .slice A0_1 l0_1.length c0_1, .slice A0_2 l0_2.length c0_2, .int .u8 a1] ?_; (with_reducible refine (round_Frac.calls k a0_0 _ _ l0_1 _ _ l0_2 a1 t312 t313 _ ?side1 ?side2 ?side3 ?side4 A3.out).mono ?_); (case side1 => exact ch_ HR0_1.out); (case side2 => exact HC0_1.out); (case side3 => exact ch_ HR0_2.out); (case side4 => exact HC0_2.out); rintro e w6 ⟨rfl, hb⟩; refine ⟨_, rfl, ?_⟩; replace HB := bq_ hb))
 go_ret2
 exact ⟨eh_, bh_⟩

/-! ### round_Ulp: function 30 -/
def round_Ulp.f (k : Nat) (a0 : Int) : Option (Int) := (pattern_Split.f k a0).bind fun bt321 => ((pattern_Quiet.f).bind fun t323 => ((pattern_Class.f k a0).bind fun t324 => (if t324 = 0 then ((round_Round.f k false 0 1 (-1074) false 0).bind fun bt325 => (some bt325.1)) else (if t324 = 1 then ((round_Round.f k false 0 1 bt321.2 false 0).bind fun bt327 => (some bt327.1)) else (if t324 = 2 then ((round_Round.f k false 0 1 bt321.2 false 0).bind fun bt329 => (some bt329.1)) else (some t323))))))
theorem round_Ulp.mono : ∀ a0 k, LeO (round_Ulp.f k a0) (round_Ulp.f (k + 1) a0) := by
 intro a0 k
 unfold round_Ulp.f
 repeat' with_reducible first | exact pattern_Class.mono _ _ | exact pattern_Split.mono _ _ | exact round_Round.mono _ _ _ _ _ _ _ | exact LeO.refl _ | exact LeO.none _ | refine LeO.ite ?_ ?_ | refine LeO.bind ?_ (fun _ => ?_)
set_option maxHeartbeats 8000000 in
set_option maxRecDepth 100000 in
theorem round_Ulp.calls (k : Nat) (a0 : Int) (r : Int) (w : World) (h : round_Ulp.f k a0 = some r) :
  Calls Try.prog 30 #[.int .u64 a0] w fun e w' => e = .returned (.int .u64 r) ∧ Below w.heap.size w w' := by
 have hu40 := Try.underlying40
 have HB := Aside0.mk (Below.refl w.heap.size w)
 have H : ((pattern_Split.f k a0).bind fun bt321 => ((pattern_Quiet.f).bind fun t323 => ((pattern_Class.f k a0).bind fun t324 => (if t324 = 0 then ((round_Round.f k false 0 1 (-1074) false 0).bind fun bt325 => (some bt325.1)) else (if t324 = 1 then ((round_Round.f k false 0 1 bt321.2 false 0).bind fun bt327 => (some bt327.1)) else (if t324 = 2 then ((round_Round.f k false 0 1 bt321.2 false 0).bind fun bt329 => (some bt329.1)) else (some t323))))))) = some r := h
 clear h
 replace H := Option.bind_eq_some_iff.mp H
 obtain ⟨⟨t321, t322⟩, A20, H⟩ := H
 replace H : ((pattern_Quiet.f).bind fun t323 => ((pattern_Class.f k a0).bind fun t324 => (if t324 = 0 then ((round_Round.f k false 0 1 (-1074) false 0).bind fun bt325 => (some bt325.1)) else (if t324 = 1 then ((round_Round.f k false 0 1 t322 false 0).bind fun bt327 => (some bt327.1)) else (if t324 = 2 then ((round_Round.f k false 0 1 t322 false 0).bind fun bt329 => (some bt329.1)) else (some t323)))))) = some r := H
 have A2 := Aside0.mk A20
 clear A20
 replace H := Option.bind_eq_some_iff.mp H
 obtain ⟨t323, A30, H⟩ := H
 replace H : ((pattern_Class.f k a0).bind fun t324 => (if t324 = 0 then ((round_Round.f k false 0 1 (-1074) false 0).bind fun bt325 => (some bt325.1)) else (if t324 = 1 then ((round_Round.f k false 0 1 t322 false 0).bind fun bt327 => (some bt327.1)) else (if t324 = 2 then ((round_Round.f k false 0 1 t322 false 0).bind fun bt329 => (some bt329.1)) else (some t323))))) = some r := H
 have A3 := Aside0.mk A30
 clear A30
 replace H := Option.bind_eq_some_iff.mp H
 obtain ⟨t324, A40, H⟩ := H
 replace H : (if t324 = 0 then ((round_Round.f k false 0 1 (-1074) false 0).bind fun bt325 => (some bt325.1)) else (if t324 = 1 then ((round_Round.f k false 0 1 t322 false 0).bind fun bt327 => (some bt327.1)) else (if t324 = 2 then ((round_Round.f k false 0 1 t322 false 0).bind fun bt329 => (some bt329.1)) else (some t323)))) = some r := H
 have A4 := Aside0.mk A40
 clear A40
 by_cases c5 : t324 = 0
 case pos =>
  rw [if_pos c5] at H
  have c5b0 : (t324 == 0) = true := beq_iff_eq.mpr c5
  have c5b1 : (t324 != 0) = false := bne_eq_false_iff_eq.mpr c5
  clear c5
  replace H := Option.bind_eq_some_iff.mp H
  obtain ⟨⟨t325, t326⟩, A60, H⟩ := H
  replace H : (some t325) = some r := H
  have A6 := Aside0.mk A60
  clear A60
  obtain rfl := Option.some.inj H
  go_enter Try.func30, Try.ntmps30
  go_wp2_with (first | ((with_reducible refine gc_ 51 rfl ?_); refine gM_ (some 8) Try.func51 [.int .u64 a0] ?_; (with_reducible refine (pattern_Split.calls k a0 t321 t322 _ A2.out).mono ?_); rintro e w' ⟨rfl, ⟨nd, rfl⟩⟩; refine ⟨_, rfl, ?_⟩) | ((with_reducible refine gc_ 32 rfl ?_); refine gM_ (some 11) Try.func32 [] ?_; (with_reducible refine (pattern_Quiet.calls  t323 _ A3.out).mono ?_); rintro e w' ⟨rfl, ⟨nd, rfl⟩⟩; refine ⟨_, rfl, ?_⟩) | ((with_reducible refine gc_ 50 rfl ?_); refine gM_ (some 13) Try.func50 [.int .u64 a0] ?_; (with_reducible refine (pattern_Class.calls k a0 t324 _ A4.out).mono ?_); rintro e w' ⟨rfl, ⟨nd, rfl⟩⟩; refine ⟨_, rfl, ?_⟩) | ((with_reducible refine gc_ 23 rfl ?_); refine gM_ (some 22) Try.func23 [.bool false, .agg #[.int .u64 0, .int .u64 1], .int .i64 (-1074), .bool false, .int .u8 0] ?_; (with_reducible refine (round_Round.calls k false 0 1 (-1074) false 0 t325 t326 _ A6.out).mono ?_); rintro e w7 ⟨rfl, hb⟩; refine ⟨_, rfl, ?_⟩; replace HB := bq_ hb))
  go_ret
  exact ⟨eh_, bh_⟩
 rw [if_neg c5] at H
 have c5b0 : (t324 == 0) = false := beq_eq_false_iff_ne.mpr c5
 have c5b1 : (t324 != 0) = true := bne_iff_ne.mpr c5
 by_cases c8 : t324 = 1
 case pos =>
  rw [if_pos c8] at H
  have c8b0 : (t324 == 1) = true := beq_iff_eq.mpr c8
  have c8b1 : (t324 != 1) = false := bne_eq_false_iff_eq.mpr c8
  clear c8
  replace H := Option.bind_eq_some_iff.mp H
  obtain ⟨⟨t327, t328⟩, A90, H⟩ := H
  replace H : (some t327) = some r := H
  have A9 := Aside0.mk A90
  clear A90
  obtain rfl := Option.some.inj H
  go_enter Try.func30, Try.ntmps30
  go_wp2_with (first | ((with_reducible refine gc_ 51 rfl ?_); refine gM_ (some 8) Try.func51 [.int .u64 a0] ?_; (with_reducible refine (pattern_Split.calls k a0 t321 t322 _ A2.out).mono ?_); rintro e w' ⟨rfl, ⟨nd, rfl⟩⟩; refine ⟨_, rfl, ?_⟩) | ((with_reducible refine gc_ 32 rfl ?_); refine gM_ (some 11) Try.func32 [] ?_; (with_reducible refine (pattern_Quiet.calls  t323 _ A3.out).mono ?_); rintro e w' ⟨rfl, ⟨nd, rfl⟩⟩; refine ⟨_, rfl, ?_⟩) | ((with_reducible refine gc_ 50 rfl ?_); refine gM_ (some 13) Try.func50 [.int .u64 a0] ?_; (with_reducible refine (pattern_Class.calls k a0 t324 _ A4.out).mono ?_); rintro e w' ⟨rfl, ⟨nd, rfl⟩⟩; refine ⟨_, rfl, ?_⟩) | ((with_reducible refine gc_ 23 rfl ?_); refine gM_ (some 22) Try.func23 [.bool false, .agg #[.int .u64 0, .int .u64 1], .int .i64 t322, .bool false, .int .u8 0] ?_; (with_reducible refine (round_Round.calls k false 0 1 t322 false 0 t327 t328 _ A9.out).mono ?_); rintro e w10 ⟨rfl, hb⟩; refine ⟨_, rfl, ?_⟩; replace HB := bq_ hb))
  go_ret
  exact ⟨eh_, bh_⟩
 rw [if_neg c8] at H
 have c8b0 : (t324 == 1) = false := beq_eq_false_iff_ne.mpr c8
 have c8b1 : (t324 != 1) = true := bne_iff_ne.mpr c8
 by_cases c11 : t324 = 2
 case neg =>
  rw [if_neg c11] at H
  have c11b0 : (t324 == 2) = false := beq_eq_false_iff_ne.mpr c11
  have c11b1 : (t324 != 2) = true := bne_iff_ne.mpr c11
  obtain rfl := Option.some.inj H
  go_enter Try.func30, Try.ntmps30
  go_wp2_with (first | ((with_reducible refine gc_ 51 rfl ?_); refine gM_ (some 8) Try.func51 [.int .u64 a0] ?_; (with_reducible refine (pattern_Split.calls k a0 t321 t322 _ A2.out).mono ?_); rintro e w' ⟨rfl, ⟨nd, rfl⟩⟩; refine ⟨_, rfl, ?_⟩) | ((with_reducible refine gc_ 32 rfl ?_); refine gM_ (some 11) Try.func32 [] ?_; (with_reducible refine (pattern_Quiet.calls  t323 _ A3.out).mono ?_); rintro e w' ⟨rfl, ⟨nd, rfl⟩⟩; refine ⟨_, rfl, ?_⟩) | ((with_reducible refine gc_ 50 rfl ?_); refine gM_ (some 13) Try.func50 [.int .u64 a0] ?_; (with_reducible refine (pattern_Class.calls k a0 t324 _ A4.out).mono ?_); rintro e w' ⟨rfl, ⟨nd, rfl⟩⟩; refine ⟨_, rfl, ?_⟩))
  go_ret
  exact ⟨eh_, bh_⟩
 rw [if_pos c11] at H
 have c11b0 : (t324 == 2) = true := beq_iff_eq.mpr c11
 have c11b1 : (t324 != 2) = false := bne_eq_false_iff_eq.mpr c11
 clear c11
 replace H := Option.bind_eq_some_iff.mp H
 obtain ⟨⟨t329, t330⟩, A120, H⟩ := H
 replace H : (some t329) = some r := H
 have A12 := Aside0.mk A120
 clear A120
 obtain rfl := Option.some.inj H
 go_enter Try.func30, Try.ntmps30
 go_wp2_with (first | ((with_reducible refine gc_ 51 rfl ?_); refine gM_ (some 8) Try.func51 [.int .u64 a0] ?_; (with_reducible refine (pattern_Split.calls k a0 t321 t322 _ A2.out).mono ?_); rintro e w' ⟨rfl, ⟨nd, rfl⟩⟩; refine ⟨_, rfl, ?_⟩) | ((with_reducible refine gc_ 32 rfl ?_); refine gM_ (some 11) Try.func32 [] ?_; (with_reducible refine (pattern_Quiet.calls  t323 _ A3.out).mono ?_); rintro e w' ⟨rfl, ⟨nd, rfl⟩⟩; refine ⟨_, rfl, ?_⟩) | ((with_reducible refine gc_ 50 rfl ?_); refine gM_ (some 13) Try.func50 [.int .u64 a0] ?_; (with_reducible refine (pattern_Class.calls k a0 t324 _ A4.out).mono ?_); rintro e w' ⟨rfl, ⟨nd, rfl⟩⟩; refine ⟨_, rfl, ?_⟩) | ((with_reducible refine gc_ 23 rfl ?_); refine gM_ (some 22) Try.func23 [.bool false, .agg #[.int .u64 0, .int .u64 1], .int .i64 t322, .bool false, .int .u8 0] ?_; (with_reducible refine (round_Round.calls k false 0 1 t322 false 0 t329 t330 _ A12.out).mono ?_); rintro e w13 ⟨rfl, hb⟩; refine ⟨_, rfl, ?_⟩; replace HB := bq_ hb))
 go_ret
 exact ⟨eh_, bh_⟩

end Go.Proofs.Ytfglpaaeipblcaa.P
