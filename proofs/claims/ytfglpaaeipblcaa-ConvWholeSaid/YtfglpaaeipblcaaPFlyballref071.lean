/- Walks of one package: what each function returns, wherever the Lean function beside it has an answer. -/
import Derived.Test.YtfglpaaeipblcaaP0
import Derived.Test.YtfglpaaeipblcaaPFlyballref011
import Derived.Test.YtfglpaaeipblcaaPFlyballref041
import Derived.Test.YtfglpaaeipblcaaPFlyballref051
namespace Go.Proofs.Ytfglpaaeipblcaa.P
open Go.RowKit Go.Proofs.YtfglpaaeipblcaaW.PrintWords Go.Proofs.YtfglpaaeipblcaaW.PrintLast Go.Proofs.YtfglpaaeipblcaaW.PrintMore
attribute [local go_sem] max2_int min2_int max_two min_two max_three min_three max_four min_four   -- for this text's walks alone
set_option linter.unusedVariables false
set_option linter.unusedSimpArgs false

/-! ### flyballref07_FromInt: function 16 -/
def flyballref07_FromInt.f (k : Nat) (a0 : Int) (a1 : Int) : Option (Int × Int) := if a0 < 0 then ((flyballref01_Of.f k (([IntKind.u64.wrap (-(IntKind.u64.wrap (a0)))] : List Int))).bind fun t330 => ((flyballref05_Round.f k (decide (a0 < 0)) t330 0 false a1).bind fun bt333 => (some (bt333.1, bt333.2)))) else ((flyballref01_Of.f k (([IntKind.u64.wrap (a0)] : List Int))).bind fun t338 => ((flyballref05_Round.f k (decide (a0 < 0)) t338 0 false a1).bind fun bt341 => (some (bt341.1, bt341.2))))
theorem flyballref07_FromInt.mono : ∀ a0 a1 k, LeO (flyballref07_FromInt.f k a0 a1) (flyballref07_FromInt.f (k + 1) a0 a1) := by
  intro a0 a1 k
  unfold flyballref07_FromInt.f
  repeat' first
      | (with_reducible exact flyballref01_Of.mono _ _)
      | (with_reducible exact flyballref05_Round.mono _ _ _ _ _ _)
      | (with_reducible exact LeO.refl _)
      | (with_reducible exact LeO.none _)
      | (with_reducible refine LeO.ite ?_ ?_)
      | (with_reducible refine LeO.bind ?_ (fun _ => ?_))
      | exact flyballref01_Of.mono _ _
      | exact flyballref05_Round.mono _ _ _ _ _ _
      | exact LeO.none _
      | refine LeO.ite ?_ ?_
      | refine LeO.bind ?_ (fun _ => ?_)
-- GIVENTEXT
set_option maxHeartbeats 8000000 in
set_option maxRecDepth 100000 in
theorem flyballref07_FromInt.calls (k : Nat) (a0 : Int) (a1 : Int) (r1 : Int) (r2 : Int) (w : World) (h : flyballref07_FromInt.f k a0 a1 = some (r1, r2)) :
    Calls Try.prog 16 #[.int .i64 a0, .int .u8 a1] w fun e w' => e = .returned (.tuple #[.int .u64 r1, .int .u8 r2]) ∧ Below w.heap.size w w' := by
 have HB := Aside0.mk (Below.refl w.heap.size w)
 have H : (if a0 < 0 then ((flyballref01_Of.f k (([IntKind.u64.wrap (-(IntKind.u64.wrap (a0)))] : List Int))).bind fun t330 => ((flyballref05_Round.f k (decide (a0 < 0)) t330 0 false a1).bind fun bt333 => (some (bt333.1, bt333.2)))) else ((flyballref01_Of.f k (([IntKind.u64.wrap (a0)] : List Int))).bind fun t338 => ((flyballref05_Round.f k (decide (a0 < 0)) t338 0 false a1).bind fun bt341 => (some (bt341.1, bt341.2))))) = some (r1, r2) := h
 clear h
 by_cases c3 : a0 < 0
 ·
  rw [if_pos c3] at H
  have c3b0 : decide (a0 < 0) = true := decide_eq_true c3
  rw [c3b0] at H
  clear c3
  obtain ⟨y327, hy327⟩ : ∃ y_ : List Int, y_ = (([IntKind.u64.wrap (-(IntKind.u64.wrap (a0)))] : List Int)) := ⟨_, rfl⟩
  replace H : ((flyballref01_Of.f k y327).bind fun t330 => ((flyballref05_Round.f k true t330 0 false a1).bind fun bt333 => (some (bt333.1, bt333.2)))) = some (r1, r2) := by first | (rw [hy327]; with_reducible exact H) | (have H2_ := (Option.bind_some _ _).symm.trans H; rw [hy327]; with_reducible exact H2_) | (have H2_ := (Option.bind_some _ _).symm.trans H; with_reducible exact H2_) | with_reducible exact H | (rw [hy327]; exact H) | exact H
  have Ny327 := Aside0.mk hy327
  clear hy327
  replace H := Option.bind_eq_some_iff.mp H
  obtain ⟨t330, A40, H⟩ := H
  replace H : ((flyballref05_Round.f k true t330 0 false a1).bind fun bt333 => (some (bt333.1, bt333.2))) = some (r1, r2) := H
  have A4 := Aside0.mk A40
  clear A40
  replace H := Option.bind_eq_some_iff.mp H
  obtain ⟨⟨t333, t334⟩, A50, H⟩ := H
  replace H : (some (t333, t334)) = some (r1, r2) := H
  have A5 := Aside0.mk A50
  clear A50
  simp only [Option.some.injEq, Prod.mk.injEq] at H
  obtain ⟨rfl, rfl⟩ := H
  go_enter Try.func16, Try.ntmps16
  go_wp2_with (first | ((with_reducible refine gate_dst (N := 16) rfl ?_); refine Kd.R_lit (Kd.int .u64) _ 24 ?hg (N := 16) ?hd (xs := ([IntKind.u64.wrap (-(IntKind.u64.wrap (a0)))] : List Int)) (inner := [.int .u64 (IntKind.u64.wrap (-(IntKind.u64.wrap (a0))))]) (ok := fun _ => True) (okp := fun _ => True) ?hr ?hp (fun _ hk => hk) trivial (Below.refl _ _) (Nat.le_refl _) (by simp) ?_; (case hd => rfl); (case hg => rfl); (case hr => first | (go_simp; done) | (go_simp; rfl)); (case hp => exact (Reps.one (show Kd.M (Kd.int .u64) _ _ _ (IntKind.u64.wrap (-(IntKind.u64.wrap (a0)))) [.int .u64 (IntKind.u64.wrap (-(IntKind.u64.wrap (a0))))] from rfl) (Reps.none _ _))); intro v328 w6 ho7 hb hg_ hnew_; clear hg_ hnew_; (first | rw [← Ny327.out] at ho7 | (simp only [Int.reduceToNat] at ho7; rw [← Ny327.out] at ho7)); have n0_ := Aside0.mk (Kd.R_lower ho7 (below_size (by repeat (first | (with_reducible first | exact HB.out | apply below_alloc | apply pw_below_drewN | apply below_drew1) | exact HB.out)))); have n1_ := Aside0.mk (below_step (by repeat (first | (with_reducible first | exact HB.out | apply below_alloc | apply pw_below_drewN | apply below_drew1) | exact HB.out)) hb); clear HB; have HO329 := n0_; have HB := n1_; clear n0_ n1_; clear hb ho7; obtain ⟨Ao8, co8, eo8⟩ := Kd.R_slice HO329.out; subst eo8) | ((with_reducible refine gate_callee (f := 25) rfl ?_); refine goesL_ (some 17) rfl rfl Try.func25 (by kernel_rfl) rfl #[.slice Ao8 y327.length co8] rfl (by (try simp only [List.map_toArray, List.map_cons, List.map_nil]); first | done | rfl | (simp only [List.length_drop, List.length_take]; rfl)) ?_; (with_reducible refine (flyballref01_Of.calls k _ _ y327 t330 _ ?side1 ?side2 A4.out).mono ?_); (case side1 => repeat (first | exact (Kd.R_reads' HO329.out).2.2 | (with_reducible refine Kd.C_alloc ?_ _) | (with_reducible refine Kd.C_drewN ?_ _) | (with_reducible refine Kd.C_drew ?_))); (case side2 => exact (Kd.R_reads' HO329.out).2.1); rintro e w9 ⟨v331, rfl, ho0, hb⟩; refine ⟨_, rfl, ?_⟩; have n0_ := Aside0.mk (Kd.R_below (by (with_reducible repeat (first | apply Kd.R_alloc | apply Kd.R_drewN | apply Kd.R_drew)); exact HO329.out) hb); have n1_ := Aside0.mk (Kd.R_lower ho0 (below_size (by repeat (first | (with_reducible first | exact HB.out | apply below_alloc | apply pw_below_drewN | apply below_drew1) | exact HB.out)))); have n2_ := Aside0.mk (below_step (by repeat (first | (with_reducible first | exact HB.out | apply below_alloc | apply pw_below_drewN | apply below_drew1) | exact HB.out)) hb); clear HO329; clear HB; have HO329 := n0_; have HO332 := n1_; have HB := n2_; clear n0_ n1_ n2_; (try clear hb); (try clear hb2); (try clear hk); (try clear hi); (try clear ho0); obtain ⟨Ao10, co10, eo10⟩ := Kd.R_slice HO332.out; subst eo10) | ((with_reducible refine gate_callee (f := 24) rfl ?_); refine goesL_ (some 19) rfl rfl Try.func24 (by kernel_rfl) rfl #[.bool true, .slice Ao10 t330.length co10, .int .i64 0, .bool false, .int .u8 a1] rfl (by (try simp only [List.map_toArray, List.map_cons, List.map_nil]); first | done | rfl | (simp only [List.length_drop, List.length_take]; rfl)) ?_; (with_reducible refine (flyballref05_Round.calls k true _ _ t330 0 false a1 t333 t334 _ ?side1 ?side2 A5.out).mono ?_); (case side1 => repeat (first | exact (Kd.R_reads' HO332.out).2.2 | (with_reducible refine Kd.C_alloc ?_ _) | (with_reducible refine Kd.C_drewN ?_ _) | (with_reducible refine Kd.C_drew ?_))); (case side2 => exact (Kd.R_reads' HO332.out).2.1); rintro e w11 ⟨rfl, hb⟩; refine ⟨_, rfl, ?_⟩; have n0_ := Aside0.mk (Kd.R_below (by (with_reducible repeat (first | apply Kd.R_alloc | apply Kd.R_drewN | apply Kd.R_drew)); exact HO329.out) hb); have n1_ := Aside0.mk (Kd.R_below (by (with_reducible repeat (first | apply Kd.R_alloc | apply Kd.R_drewN | apply Kd.R_drew)); exact HO332.out) hb); have n2_ := Aside0.mk (below_step (by repeat (first | (with_reducible first | exact HB.out | apply below_alloc | apply pw_below_drewN | apply below_drew1) | exact HB.out)) hb); clear HO329; clear HO332; clear HB; have HO329 := n0_; have HO332 := n1_; have HB := n2_; clear n0_ n1_ n2_; (try clear hb); (try clear hb2); (try clear hk); (try clear hi)))
  go_ret2
  exact ⟨by first | rfl | (simp [errW_none, errW_some] <;> rfl) | (simp [*, errW_none, errW_some] <;> rfl), by repeat (first | (with_reducible first | exact HB.out | apply below_alloc | apply pw_below_drewN | apply below_drew1) | exact HB.out)⟩
 ·
  rw [if_neg c3] at H
  have c3b0 : decide (a0 < 0) = false := decide_eq_false c3
  rw [c3b0] at H
  clear c3
  obtain ⟨y335, hy335⟩ : ∃ y_ : List Int, y_ = (([IntKind.u64.wrap (a0)] : List Int)) := ⟨_, rfl⟩
  replace H : ((flyballref01_Of.f k y335).bind fun t338 => ((flyballref05_Round.f k false t338 0 false a1).bind fun bt341 => (some (bt341.1, bt341.2)))) = some (r1, r2) := by first | (rw [hy335]; with_reducible exact H) | (have H2_ := (Option.bind_some _ _).symm.trans H; rw [hy335]; with_reducible exact H2_) | (have H2_ := (Option.bind_some _ _).symm.trans H; with_reducible exact H2_) | with_reducible exact H | (rw [hy335]; exact H) | exact H
  have Ny335 := Aside0.mk hy335
  clear hy335
  replace H := Option.bind_eq_some_iff.mp H
  obtain ⟨t338, A120, H⟩ := H
  replace H : ((flyballref05_Round.f k false t338 0 false a1).bind fun bt341 => (some (bt341.1, bt341.2))) = some (r1, r2) := H
  have A12 := Aside0.mk A120
  clear A120
  replace H := Option.bind_eq_some_iff.mp H
  obtain ⟨⟨t341, t342⟩, A130, H⟩ := H
  replace H : (some (t341, t342)) = some (r1, r2) := H
  have A13 := Aside0.mk A130
  clear A130
  simp only [Option.some.injEq, Prod.mk.injEq] at H
  obtain ⟨rfl, rfl⟩ := H
  go_enter Try.func16, Try.ntmps16
  go_wp2_with (first | ((with_reducible refine gate_dst (N := 16) rfl ?_); refine Kd.R_lit (Kd.int .u64) _ 24 ?hg (N := 16) ?hd (xs := ([IntKind.u64.wrap (a0)] : List Int)) (inner := [.int .u64 (IntKind.u64.wrap (a0))]) (ok := fun _ => True) (okp := fun _ => True) ?hr ?hp (fun _ hk => hk) trivial (Below.refl _ _) (Nat.le_refl _) (by simp) ?_; (case hd => rfl); (case hg => rfl); (case hr => first | (go_simp; done) | (go_simp; rfl)); (case hp => exact (Reps.one (show Kd.M (Kd.int .u64) _ _ _ (IntKind.u64.wrap (a0)) [.int .u64 (IntKind.u64.wrap (a0))] from rfl) (Reps.none _ _))); intro v336 w14 ho15 hb hg_ hnew_; clear hg_ hnew_; (first | rw [← Ny335.out] at ho15 | (simp only [Int.reduceToNat] at ho15; rw [← Ny335.out] at ho15)); have n0_ := Aside0.mk (Kd.R_lower ho15 (below_size (by repeat (first | (with_reducible first | exact HB.out | apply below_alloc | apply pw_below_drewN | apply below_drew1) | exact HB.out)))); have n1_ := Aside0.mk (below_step (by repeat (first | (with_reducible first | exact HB.out | apply below_alloc | apply pw_below_drewN | apply below_drew1) | exact HB.out)) hb); clear HB; have HO337 := n0_; have HB := n1_; clear n0_ n1_; clear hb ho15; obtain ⟨Ao16, co16, eo16⟩ := Kd.R_slice HO337.out; subst eo16) | ((with_reducible refine gate_callee (f := 25) rfl ?_); refine goesL_ (some 17) rfl rfl Try.func25 (by kernel_rfl) rfl #[.slice Ao16 y335.length co16] rfl (by (try simp only [List.map_toArray, List.map_cons, List.map_nil]); first | done | rfl | (simp only [List.length_drop, List.length_take]; rfl)) ?_; (with_reducible refine (flyballref01_Of.calls k _ _ y335 t338 _ ?side1 ?side2 A12.out).mono ?_); (case side1 => repeat (first | exact (Kd.R_reads' HO337.out).2.2 | (with_reducible refine Kd.C_alloc ?_ _) | (with_reducible refine Kd.C_drewN ?_ _) | (with_reducible refine Kd.C_drew ?_))); (case side2 => exact (Kd.R_reads' HO337.out).2.1); rintro e w17 ⟨v339, rfl, ho0, hb⟩; refine ⟨_, rfl, ?_⟩; have n0_ := Aside0.mk (Kd.R_below (by (with_reducible repeat (first | apply Kd.R_alloc | apply Kd.R_drewN | apply Kd.R_drew)); exact HO337.out) hb); have n1_ := Aside0.mk (Kd.R_lower ho0 (below_size (by repeat (first | (with_reducible first | exact HB.out | apply below_alloc | apply pw_below_drewN | apply below_drew1) | exact HB.out)))); have n2_ := Aside0.mk (below_step (by repeat (first | (with_reducible first | exact HB.out | apply below_alloc | apply pw_below_drewN | apply below_drew1) | exact HB.out)) hb); clear HO337; clear HB; have HO337 := n0_; have HO340 := n1_; have HB := n2_; clear n0_ n1_ n2_; (try clear hb); (try clear hb2); (try clear hk); (try clear hi); (try clear ho0); obtain ⟨Ao18, co18, eo18⟩ := Kd.R_slice HO340.out; subst eo18) | ((with_reducible refine gate_callee (f := 24) rfl ?_); refine goesL_ (some 19) rfl rfl Try.func24 (by kernel_rfl) rfl #[.bool false, .slice Ao18 t338.length co18, .int .i64 0, .bool false, .int .u8 a1] rfl (by (try simp only [List.map_toArray, List.map_cons, List.map_nil]); first | done | rfl | (simp only [List.length_drop, List.length_take]; rfl)) ?_; (with_reducible refine (flyballref05_Round.calls k false _ _ t338 0 false a1 t341 t342 _ ?side1 ?side2 A13.out).mono ?_); (case side1 => repeat (first | exact (Kd.R_reads' HO340.out).2.2 | (with_reducible refine Kd.C_alloc ?_ _) | (with_reducible refine Kd.C_drewN ?_ _) | (with_reducible refine Kd.C_drew ?_))); (case side2 => exact (Kd.R_reads' HO340.out).2.1); rintro e w19 ⟨rfl, hb⟩; refine ⟨_, rfl, ?_⟩; have n0_ := Aside0.mk (Kd.R_below (by (with_reducible repeat (first | apply Kd.R_alloc | apply Kd.R_drewN | apply Kd.R_drew)); exact HO337.out) hb); have n1_ := Aside0.mk (Kd.R_below (by (with_reducible repeat (first | apply Kd.R_alloc | apply Kd.R_drewN | apply Kd.R_drew)); exact HO340.out) hb); have n2_ := Aside0.mk (below_step (by repeat (first | (with_reducible first | exact HB.out | apply below_alloc | apply pw_below_drewN | apply below_drew1) | exact HB.out)) hb); clear HO337; clear HO340; clear HB; have HO337 := n0_; have HO340 := n1_; have HB := n2_; clear n0_ n1_ n2_; (try clear hb); (try clear hb2); (try clear hk); (try clear hi)))
  go_ret2
  exact ⟨by first | rfl | (simp [errW_none, errW_some] <;> rfl) | (simp [*, errW_none, errW_some] <;> rfl), by repeat (first | (with_reducible first | exact HB.out | apply below_alloc | apply pw_below_drewN | apply below_drew1) | exact HB.out)⟩

-- NOT PRINTED: function 46 (flyballref07_parts)

-- NOT PRINTED: function 18 (flyballref07_To)

-- NOT PRINTED: function 21 (flyballref07_Whole)

/-! ### flyballref07_parts: function 46 -/
-- GIVENTEXT
def flyballref07_parts.e (k : Nat) (x5 : List Bool) : Option (List Bool × Bool × Int) := ((flyballref01_Shl.f k (([true] : List Bool)) 1073).bind fun t380 => (if 1074 ≤ (x5.length : Int) then ((flyballref01_Len.f k (x5.take (1074 : Int).toNat)).bind fun t386 => ((flyballref01_Cmp.f k (x5.take (1074 : Int).toNat) t380).bind fun t387 => (some ((x5.drop (1074 : Int).toNat), decide (t386 > 0), t387)))) else (none)))
def flyballref07_parts.l0 : Nat → Bool → Int → List Bool → Option (List Bool × Bool × Int)
 | 0, _, _, _ => none
 | k + 1, x3, x4, x5 => if (x5.length : Int) < 1074 then (if x5.length < 140737488355328 then (flyballref07_parts.l0 k x3 x4 (x5 ++ [false])) else (none)) else (flyballref07_parts.e k x5)
def flyballref07_parts.f (k : Nat) (a0 : Int) : Option (List Bool × Bool × Int) := (flyballref04_Scaled.f k a0).bind fun t371 => (flyballref07_parts.l0 k false 0 t371)
theorem flyballref07_parts.mono_e : ∀ k x5, LeO (flyballref07_parts.e k x5) (flyballref07_parts.e (k + 1) x5) := by
 intro k x5
 unfold flyballref07_parts.e
 refine LeO.bind (flyballref01_Shl.mono _ _ _) (fun _ => LeO.ite (LeO.bind (flyballref01_Len.mono _ _) (fun _ => LeO.bind (flyballref01_Cmp.mono _ _ _) (fun _ => LeO.refl _))) (LeO.none _))
theorem flyballref07_parts.mono_l : ∀ k, (∀ y0 y1 y2, LeO (flyballref07_parts.l0 k y0 y1 y2) (flyballref07_parts.l0 (k + 1) y0 y1 y2))
 | 0 => fun _ _ _ r h => by unfold flyballref07_parts.l0 at h; cases h
 | k + 1 => by
  have ih0 := flyballref07_parts.mono_l k
  ·
   intro y0 y1 y2
   unfold flyballref07_parts.l0
   repeat' first
   | (with_reducible exact ih0 _ _ _)
   | (with_reducible exact flyballref07_parts.mono_e _ _)
   | (with_reducible exact flyballref04_Scaled.mono _ _)
   | (with_reducible exact LeO.refl _)
   | (with_reducible exact LeO.none _)
   | (with_reducible refine LeO.ite ?_ ?_)
   | (with_reducible refine LeO.bind ?_ (fun _ => ?_))
   | exact ih0 _ _ _
   | exact flyballref07_parts.mono_e _ _
   | exact flyballref04_Scaled.mono _ _
   | exact LeO.none _
   | refine LeO.ite ?_ ?_
   | refine LeO.bind ?_ (fun _ => ?_)
theorem flyballref07_parts.mono : ∀ a0 k, LeO (flyballref07_parts.f k a0) (flyballref07_parts.f (k + 1) a0) := by
 intro a0 k
 have ih0 := flyballref07_parts.mono_l k
 unfold flyballref07_parts.f
 repeat' first
   | (with_reducible exact ih0 _ _ _)
   | (with_reducible exact flyballref07_parts.mono_e _ _)
   | (with_reducible exact flyballref04_Scaled.mono _ _)
   | (with_reducible exact LeO.refl _)
   | (with_reducible exact LeO.none _)
   | (with_reducible refine LeO.ite ?_ ?_)
   | (with_reducible refine LeO.bind ?_ (fun _ => ?_))
   | exact ih0 _ _ _
   | exact flyballref07_parts.mono_e _ _
   | exact flyballref04_Scaled.mono _ _
   | exact LeO.none _
   | refine LeO.ite ?_ ?_
   | refine LeO.bind ?_ (fun _ => ?_)
set_option maxHeartbeats 8000000 in
set_option maxRecDepth 100000 in
theorem flyballref07_parts.calls (k : Nat) (a0 : Int) (r1 : List Bool) (r2 : Bool) (r3 : Int) (w : World) (h : flyballref07_parts.f k a0 = some (r1, r2, r3)) :
  Calls Try.prog 46 #[.int .u64 a0] w fun e w' => ∃ v0_ : Value, e = .returned (.tuple #[v0_, .bool r2, .int .i64 r3]) ∧ Kd.Q Kd.bool 4 w' w.heap.size (fun _ => True) v0_ r1 ∧ Below w.heap.size w w' := by
 have HB := Aside0.mk (Below.refl w.heap.size w)
 have H : ((flyballref04_Scaled.f k a0).bind fun t371 => (flyballref07_parts.l0 k false 0 t371)) = some (r1, r2, r3) := h
 clear h
 replace H := Option.bind_eq_some_iff.mp H
 obtain ⟨t371, A20, H⟩ := H
 replace H : (flyballref07_parts.l0 k false 0 t371) = some (r1, r2, r3) := H
 have A2 := Aside0.mk A20
 clear A20
 have H' := Aside0.mk H
 clear H
 go_enter Try.func46, Try.ntmps46
 go_wp2_with (first | ((with_reducible refine gate_callee (f := 80) rfl ?_); refine goesL_ (some 8) rfl rfl Try.func80 (by kernel_rfl) rfl #[.int .u64 a0] rfl (by (try simp only [List.map_toArray, List.map_cons, List.map_nil]); first | done | rfl | (simp only [List.length_drop, List.length_take]; rfl)) ?_; (with_reducible refine (flyballref04_Scaled.calls k a0 t371 _ A2.out).mono ?_); rintro e w3 ⟨v372, rfl, ho0, hb⟩; refine ⟨_, rfl, ?_⟩; have n0_ := Aside0.mk (Kd.R_lower ho0 (below_size (by repeat (first | (with_reducible first | exact HB.out | apply below_alloc | apply pw_below_drewN | apply below_drew1) | exact HB.out)))); have n1_ := Aside0.mk (below_step (by repeat (first | (with_reducible first | exact HB.out | apply below_alloc | apply pw_below_drewN | apply below_drew1) | exact HB.out)) hb); clear HB; have HO373 := n0_; have HB := n1_; clear n0_ n1_; (try clear hb); (try clear hb2); (try clear hk); (try clear hi); (try clear ho0)))
 (try simp only [Act.put, List.setIfInBounds_toArray, List.set_cons_zero, List.set_cons_succ])
 go_loopg [5] k (fun kq v5 w' => ∃ (x5_1 : List Bool), Aside0 (flyballref07_parts.l0 kq false 0 x5_1 = some (r1, r2, r3)) ∧ Aside0 (kq ≤ k) ∧ Aside0 (Kd.R Kd.bool 4 w' w.heap.size (fun _ => True) v5 x5_1) ∧ Aside0 (Below w.heap.size w w'))
 case atStart => exact ⟨(t371), H', ⟨Nat.le_refl _⟩, ⟨by (with_reducible repeat (first | apply Kd.R_alloc | apply Kd.R_drewN | apply Kd.R_drew)); exact HO373.out⟩, ⟨by repeat (first | (with_reducible first | exact HB.out | apply below_alloc | apply pw_below_drewN | apply below_drew1) | exact HB.out)⟩⟩
 case round =>
  clear H'
  try clear p2
  obtain ⟨x5_1, HA, HK1, HO_5, HB⟩ := hrel
  cases gk with
  | zero => have h0_ := HA.out; unfold flyballref07_parts.l0 at h0_; cases h0_
  | succ k1 =>
   have H := HA.out
   clear HA
   unfold flyballref07_parts.l0 at H
   by_cases c4 : (x5_1.length : Int) < 1074
   ·
    rw [if_pos c4] at H
    have c4b0 : decide ((x5_1.length : Int) < 1074) = true := decide_eq_true c4
    have c4b1 : decide (x5_1.length < 1074) = true := decide_eq_true (by omega)
    clear c4
    by_cases c5 : x5_1.length < 140737488355328
    ·
     rw [if_pos c5] at H
     have LMc5 := Aside0.mk c5
     clear c5
     obtain ⟨y374, hy374⟩ : ∃ y_ : List Bool, y_ = (x5_1 ++ [false]) := ⟨_, rfl⟩
     replace H : (flyballref07_parts.l0 k1 false 0 y374) = some (r1, r2, r3) := by first | (rw [hy374]; with_reducible exact H) | (have H2_ := (Option.bind_some _ _).symm.trans H; rw [hy374]; with_reducible exact H2_) | (have H2_ := (Option.bind_some _ _).symm.trans H; with_reducible exact H2_) | with_reducible exact H | (rw [hy374]; exact H) | exact H
     have Ny374 := Aside0.mk hy374
     clear hy374
     have H' := Aside0.mk H
     clear H
     obtain ⟨Ao6, co6, eo6⟩ := Kd.R_slice HO_5.out
     subst eo6
     go_wp2_with (first | ((with_reducible refine gate_builtin (b := .append) (xs := #[.tmp 12, .tmp 13]) rfl ?_); at_builtin; refine Kd.R_append Kd.bool (w0 := w) w.heap.size rfl (.tmp 12) (.tmp 13) 43 4 (.bool false) 1 rfl Try.underlying43 info4 rfl (by decide) (by omega) (.slice Ao6 x5_1.length co6) x5_1 false [.bool false] (fun _ => True) (fun _ => False) rfl rfl ?aP (fun _ hk => hk.elim) ?aF ?aO ?aB ?aS ?aL ?_; (case aP => exact rfl); (case aB => exact (by repeat (first | (with_reducible first | exact HB.out | apply below_alloc | apply pw_below_drewN | apply below_drew1) | exact HB.out))); (case aF => exact (fun _ _ => trivial)); (case aO => exact (by (with_reducible repeat (first | apply Kd.R_alloc | apply Kd.R_drewN | apply Kd.R_drew)); exact HO_5.out)); (case aS => exact (below_size (by repeat (first | (with_reducible first | exact HB.out | apply below_alloc | apply pw_below_drewN | apply below_drew1) | exact HB.out)))); (case aL => have := LMc5.out; omega); intro v375 w7 ho hb hg hat; rw [← Ny374.out] at ho; have n0_ := Aside0.mk (hb); have n1_ := Aside0.mk (ho); clear HB; clear HO_5; have HB := n0_; have HO376 := n1_; clear n0_ n1_; clear ho hb hg hat))
     go_roundg k1
     case measure => have := HK1.out; omega
     case rel => exact ⟨(y374), H', ⟨by have := HK1.out; omega⟩, ⟨by (with_reducible repeat (first | apply Kd.R_alloc | apply Kd.R_drewN | apply Kd.R_drew)); exact HO376.out⟩, ⟨by repeat (first | (with_reducible first | exact HB.out | apply below_alloc | apply pw_below_drewN | apply below_drew1) | exact HB.out)⟩⟩
    ·
     rw [if_neg c5] at H
     exact absurd H (by simp)
   ·
    rw [if_neg c4] at H
    have c4b0 : decide ((x5_1.length : Int) < 1074) = false := decide_eq_false c4
    have c4b1 : decide (x5_1.length < 1074) = false := decide_eq_false (by omega)
    clear c4
    unfold flyballref07_parts.e at H
    obtain ⟨y377, hy377⟩ : ∃ y_ : List Bool, y_ = (([true] : List Bool)) := ⟨_, rfl⟩
    replace H : ((flyballref01_Shl.f k1 y377 1073).bind fun t380 => (if 1074 ≤ (x5_1.length : Int) then ((flyballref01_Len.f k1 (x5_1.take (1074 : Int).toNat)).bind fun t386 => ((flyballref01_Cmp.f k1 (x5_1.take (1074 : Int).toNat) t380).bind fun t387 => (some ((x5_1.drop (1074 : Int).toNat), decide (t386 > 0), t387)))) else (none))) = some (r1, r2, r3) := by first | (rw [hy377]; with_reducible exact H) | (have H2_ := (Option.bind_some _ _).symm.trans H; rw [hy377]; with_reducible exact H2_) | (have H2_ := (Option.bind_some _ _).symm.trans H; with_reducible exact H2_) | with_reducible exact H | (rw [hy377]; exact H) | exact H
    have Ny377 := Aside0.mk hy377
    clear hy377
    replace H := Option.bind_eq_some_iff.mp H
    obtain ⟨t380, A80, H⟩ := H
    replace H : (if 1074 ≤ (x5_1.length : Int) then ((flyballref01_Len.f k1 (x5_1.take (1074 : Int).toNat)).bind fun t386 => ((flyballref01_Cmp.f k1 (x5_1.take (1074 : Int).toNat) t380).bind fun t387 => (some ((x5_1.drop (1074 : Int).toNat), decide (t386 > 0), t387)))) else (none)) = some (r1, r2, r3) := H
    have A8 := Aside0.mk A80
    clear A80
    by_cases c9 : 1074 ≤ (x5_1.length : Int)
    ·
     rw [if_pos c9] at H
     have c9b0 := eq_true c9
     have c9b1 : decide (1074 ≤ (x5_1.length : Int)) = true := decide_eq_true c9
     clear c9
     replace H := Option.bind_eq_some_iff.mp H
     obtain ⟨t386, A90, H⟩ := H
     have A9 := Aside0.mk A90
     clear A90
     replace H := Option.bind_eq_some_iff.mp H
     obtain ⟨t387, A100, H⟩ := H
     have A10 := Aside0.mk A100
     clear A100
     obtain ⟨y383, hy383⟩ : ∃ y_ : List Bool, y_ = (x5_1.drop (1074 : Int).toNat) := ⟨_, rfl⟩
     replace H : (some (y383, decide (t386 > 0), t387)) = some (r1, r2, r3) := by rw [hy383]; exact H
     have Ny383 := Aside0.mk hy383
     clear hy383
     obtain ⟨y388, hy388⟩ : ∃ y_ : List Bool, y_ = (x5_1.take (1074 : Int).toNat) := ⟨_, rfl⟩
     rw [← hy388] at A9 A10
     have Ny388 := Aside0.mk hy388
     clear hy388
     simp only [Option.some.injEq, Prod.mk.injEq] at H
     obtain ⟨rfl, rfl, rfl⟩ := H
     obtain ⟨Ao10, co10, eo10⟩ := Kd.R_slice HO_5.out
     subst eo10
     go_wp2_with (first | ((with_reducible refine gate_dst (N := 15) rfl ?_); refine Kd.R_lit Kd.bool _ 4 ?hg (N := 15) ?hd (xs := ([true] : List Bool)) (inner := [.bool true]) (ok := fun _ => True) (okp := fun _ => True) ?hr ?hp (fun _ hk => hk) trivial (Below.refl _ _) (Nat.le_refl _) (by simp) ?_; (case hd => rfl); (case hg => rfl); (case hr => first | (go_simp; done) | (go_simp; rfl)); (case hp => exact (Reps.one (show Kd.M Kd.bool _ _ _ true [.bool true] from rfl) (Reps.none _ _))); intro v378 w11 ho12 hb hg_ hnew_; clear hg_ hnew_; (first | rw [← Ny377.out] at ho12 | (simp only [Int.reduceToNat] at ho12; rw [← Ny377.out] at ho12)); have n0_ := Aside0.mk (Kd.R_elder' (by (with_reducible repeat (first | apply Kd.R_alloc | apply Kd.R_drewN | apply Kd.R_drew)); exact HO_5.out) (Kd.R_base ho12) hb); have n1_ := Aside0.mk (Kd.R_lower (Kd.R_new' ho12 (Kd.R_lt (by (with_reducible repeat (first | apply Kd.R_alloc | apply Kd.R_drewN | apply Kd.R_drew)); exact HO_5.out))) (below_size (by repeat (first | (with_reducible first | exact HB.out | apply below_alloc | apply pw_below_drewN | apply below_drew1) | exact HB.out)))); have n2_ := Aside0.mk (below_step (by repeat (first | (with_reducible first | exact HB.out | apply below_alloc | apply pw_below_drewN | apply below_drew1) | exact HB.out)) hb); clear HO_5; clear HB; have HO_5 := n0_; have HO379 := n1_; have HB := n2_; clear n0_ n1_ n2_; clear hb ho12; obtain ⟨Ao13, co13, eo13⟩ := Kd.R_slice HO379.out; subst eo13) | ((with_reducible refine gate_callee (f := 47) rfl ?_); refine goesL_ (some 16) rfl rfl Try.func47 (by kernel_rfl) rfl #[.slice Ao13 y377.length co13, .int .i64 1073] rfl (by (try simp only [List.map_toArray, List.map_cons, List.map_nil]); first | done | rfl | (simp only [List.length_drop, List.length_take]; rfl)) ?_; (with_reducible refine (flyballref01_Shl.calls k1 _ _ y377 1073 t380 _ ?side1 ?side2 A8.out).mono ?_); (case side1 => repeat (first | exact (Kd.R_reads' HO379.out).2.2 | (with_reducible refine Kd.C_alloc ?_ _) | (with_reducible refine Kd.C_drewN ?_ _) | (with_reducible refine Kd.C_drew ?_))); (case side2 => exact (Kd.R_reads' HO379.out).2.1); rintro e w14 ⟨v381, rfl, ho0, hb⟩; refine ⟨_, rfl, ?_⟩; have n0_ := Aside0.mk (Kd.R_elder' (by (with_reducible repeat (first | apply Kd.R_alloc | apply Kd.R_drewN | apply Kd.R_drew)); exact HO_5.out) (Kd.R_base ho0) hb); have n1_ := Aside0.mk (Kd.R_elder' (by (with_reducible repeat (first | apply Kd.R_alloc | apply Kd.R_drewN | apply Kd.R_drew)); exact HO379.out) (Kd.R_base ho0) hb); have n2_ := Aside0.mk (Kd.R_lower (Kd.R_new' (Kd.R_new' ho0 (Kd.R_lt (by (with_reducible repeat (first | apply Kd.R_alloc | apply Kd.R_drewN | apply Kd.R_drew)); exact HO_5.out))) (Kd.R_lt (by (with_reducible repeat (first | apply Kd.R_alloc | apply Kd.R_drewN | apply Kd.R_drew)); exact HO379.out))) (below_size (by repeat (first | (with_reducible first | exact HB.out | apply below_alloc | apply pw_below_drewN | apply below_drew1) | exact HB.out)))); have n3_ := Aside0.mk (below_step (by repeat (first | (with_reducible first | exact HB.out | apply below_alloc | apply pw_below_drewN | apply below_drew1) | exact HB.out)) hb); clear HO_5; clear HO379; clear HB; have HO_5 := n0_; have HO379 := n1_; have HO382 := n2_; have HB := n3_; clear n0_ n1_ n2_ n3_; (try clear hb); (try clear hb2); (try clear hk); (try clear hi); (try clear ho0)))
     have n_ := Aside0.mk (Kd.R_mono (ok' := (fun k_ => some k_ ≠ (.slice Ao13 y377.length co13 : Value).ownBlock ∧ some k_ ≠ (v381 : Value).ownBlock)) HO_5.out (fun k_ hk => ⟨hk.1.2, hk.2⟩))
     clear HO_5
     have HO_5 := n_
     clear n_
     have q15 : (1074 : Int) ≤ ((x5_1.length : Int) : Int) := of_decide_eq_true (by first | (with_reducible assumption) | assumption)
     obtain ⟨i015, hi015, _, hsz15, _⟩ := info_parts info4
     have hcut15 := cut_from (P := Try.prog) 43 4 .i64 Try.underlying43 hi015 1 hsz15 Ao10 x5_1.length co10 1074 (by omega) q15
     have hcut16 := cut_to (P := Try.prog) 43 4 .i64 Try.underlying43 hi015 Ao10 x5_1.length co10 1074 (by omega) q15 (Kd.R_reads' HO_5.out).2.1
     have hc16 : Kd.C Kd.bool w14 Ao10 y388.length y388 := (by have h_ := (Kd.R_reads' (Kd.R_take (m := (1074 : Int).toNat) HO_5.out (by omega))).2.2; rw [Ny388.out]; exact h_)
     have hk16 : y388.length ≤ co10 := (by have h_ := (Kd.R_reads' HO_5.out).2.1; rw [Ny388.out, List.length_take]; omega)
     have hy16 : y388.length = (1074 : Int).toNat := (by rw [Ny388.out, List.length_take]; omega)
     rw [← hy16] at hcut16
     clear hy16
     have HC16 := Aside0.mk hc16
     have HK16 := Aside0.mk hk16
     obtain ⟨Ao17, co17, eo17⟩ := Kd.R_slice HO382.out
     subst eo17
     have HC17 := Aside0.mk (Kd.R_reads' HO382.out).2.2
     have HK17 := Aside0.mk (Kd.R_reads' HO382.out).2.1
     clear hc16 hk16
     have hr15 := Kd.Q_drop (k := (1074 : Int).toNat) (Kd.Q_of_R HO_5.out) (by omega)
     obtain ⟨A15, hA15⟩ : ∃ A1, A1 = (if co10 = (1074 : Int).toNat then Ao10 else (Ao10 : Option Addr).map (·.add ((1074 : Int).toNat * 1))) := ⟨_, rfl⟩
     obtain ⟨c15, hc15⟩ : ∃ c1, c1 = co10 - (1074 : Int).toNat := ⟨_, rfl⟩
     have hy15 : y383.length = x5_1.length - (1074 : Int).toNat := (by rw [Ny383.out, List.length_drop])
     rw [← Ny383.out] at hr15
     rw [← hy15, ← hA15, ← hc15] at hcut15
     replace hr15 : Kd.Q Kd.bool 4 w14 w.heap.size (fun k_ => some k_ ≠ (.slice Ao13 y377.length co13 : Value).ownBlock ∧ some k_ ≠ (.slice Ao17 t380.length co17 : Value).ownBlock) (.slice A15 y383.length c15) y383 := (by rw [hA15, hc15, hy15]; exact hr15)
     have HE15 : Aside0 ((Value.slice A15 y383.length c15).ownBlock = (.slice Ao10 x5_1.length co10 : Value).ownBlock) := ⟨by rw [hA15]; split <;> (cases (Ao10 : Option Addr) <;> rfl)⟩
     clear hy15 hi015 hsz15 HO_5 hA15 hc15
     have HO385 := Aside0.mk hr15
     clear hr15
     replace q15 := eq_true q15
     have n_ := Aside0.mk (Kd.R_mono (ok' := fun k_ => ((True ∧ some k_ ≠ (.slice A15 y383.length c15 : Value).ownBlock) ∧ some k_ ≠ (.slice Ao17 t380.length co17 : Value).ownBlock)) HO379.out (fun k_ hk => ⟨⟨trivial, (by rw [HE15.out]; exact hk.1.2)⟩, hk.2⟩))
     clear HO379
     have HO379 := n_
     clear n_
     have n_ := Aside0.mk (Kd.R_mono (ok' := fun k_ => ((True ∧ some k_ ≠ (.slice A15 y383.length c15 : Value).ownBlock) ∧ some k_ ≠ (.slice Ao13 y377.length co13 : Value).ownBlock)) HO382.out (fun k_ hk => ⟨⟨trivial, (by rw [HE15.out]; exact hk.1.2)⟩, hk.2⟩))
     clear HO382
     have HO382 := n_
     clear n_
     go_quiet (first | ((go_at_call 60; exact Calls.quiet_of ((flyballref01_Len.calls k1 Ao10 co10 y388 t386 _ (Kd.C_drewN HC16.out _) HK16.out A9.out).mono fun _ _ h_ => ⟨h_.1, h_.2.out⟩))) | ((go_at_call 48; exact Calls.quiet_of ((flyballref01_Cmp.calls k1 Ao10 co10 y388 Ao17 co17 t380 t387 _ (Kd.C_drewN HC16.out _) HK16.out (Kd.C_drewN HC17.out _) HK17.out A10.out).mono fun _ _ h_ => ⟨h_.1, h_.2.out⟩))))
     go_wp2
     go_ret3
     exact ⟨_, by first | rfl | (simp [errW_none, errW_some] <;> rfl) | (simp [*, errW_none, errW_some] <;> rfl), by (with_reducible repeat (first | apply Kd.Q_alloc | apply Kd.Q_drewN | apply Kd.Q_drew)); exact Kd.Q_mono HO385.out (fun _ hk => trivial), by repeat (first | (with_reducible first | exact HB.out | apply below_alloc | apply pw_below_drewN | apply below_drew1) | exact HB.out)⟩
    ·
     rw [if_neg c9] at H
     exact absurd H (by simp)



/-! ### flyballref07_To: function 18 -/
def flyballref07_To.j0 : Nat → List Bool → Bool → Bool → Bool → Option (Int × Int)
 | 0, _, _, _, _ => none
 | k + 1, x7, x8, x10, x43 => if x43 = true then (some (0, 16)) else ((flyballref01_Words.f k x7 1).bind fun t390 => (if 0 < (t390.length : Int) then (if x10 = true then (if x8 = true then (some (wrap64 (-(wrap64 (rd t390 0))), 1)) else (some (wrap64 (-(wrap64 (rd t390 0))), 0))) else (if x8 = true then (some (wrap64 (rd t390 0), 1)) else (some (wrap64 (rd t390 0), 0)))) else (none)))
def flyballref07_To.f (k : Nat) (a0 : Int) (a1 : Int) : Option (Int × Int) := (flyballref04_Finite.f k a0).bind fun t377 => (if t377 = true then ((flyballref07_parts.f k a0).bind fun bt378 => ((flyballref01_Shl.f k (([true] : List Bool)) (wrap64 (a1 - 1))).bind fun t386 => ((flyballref01_Cmp.f k bt378.1 t386).bind fun t389 => (if t389 > 0 then (flyballref07_To.j0 k bt378.1 bt378.2.1 ((a0 / 9223372036854775808) == 1) true) else (if t389 = 0 then (flyballref07_To.j0 k bt378.1 bt378.2.1 ((a0 / 9223372036854775808) == 1) (!((a0 / 9223372036854775808) == 1))) else (flyballref07_To.j0 k bt378.1 bt378.2.1 ((a0 / 9223372036854775808) == 1) false)))))) else (some (0, 16)))
theorem flyballref07_To.mono_l : ∀ k, (∀ y0 y1 y2 y3, LeO (flyballref07_To.j0 k y0 y1 y2 y3) (flyballref07_To.j0 (k + 1) y0 y1 y2 y3))
 | 0 => fun _ _ _ _ r h => by simp [flyballref07_To.j0] at h
 | k + 1 => by
  have ih0 := flyballref07_To.mono_l k
  ·
   intro y0 y1 y2 y3
   unfold flyballref07_To.j0
   repeat' first
   | (with_reducible exact ih0 _ _ _ _)
   | (with_reducible exact flyballref01_Cmp.mono _ _ _)
   | (with_reducible exact flyballref01_Shl.mono _ _ _)
   | (with_reducible exact flyballref01_Words.mono _ _ _)
   | (with_reducible exact flyballref04_Finite.mono _ _)
   | (with_reducible exact flyballref07_parts.mono _ _)
   | (with_reducible exact LeO.refl _)
   | (with_reducible exact LeO.none _)
   | (with_reducible refine LeO.ite ?_ ?_)
   | (with_reducible refine LeO.bind ?_ (fun _ => ?_))
   | exact ih0 _ _ _ _
   | exact flyballref01_Cmp.mono _ _ _
   | exact flyballref01_Shl.mono _ _ _
   | exact flyballref01_Words.mono _ _ _
   | exact flyballref04_Finite.mono _ _
   | exact flyballref07_parts.mono _ _
   | exact LeO.none _
   | refine LeO.ite ?_ ?_
   | refine LeO.bind ?_ (fun _ => ?_)
theorem flyballref07_To.mono : ∀ a0 a1 k, LeO (flyballref07_To.f k a0 a1) (flyballref07_To.f (k + 1) a0 a1) := by
 intro a0 a1 k
 have ih0 := flyballref07_To.mono_l k
 unfold flyballref07_To.f
 repeat' first
   | (with_reducible exact ih0 _ _ _ _)
   | (with_reducible exact flyballref01_Cmp.mono _ _ _)
   | (with_reducible exact flyballref01_Shl.mono _ _ _)
   | (with_reducible exact flyballref01_Words.mono _ _ _)
   | (with_reducible exact flyballref04_Finite.mono _ _)
   | (with_reducible exact flyballref07_parts.mono _ _)
   | (with_reducible exact LeO.refl _)
   | (with_reducible exact LeO.none _)
   | (with_reducible refine LeO.ite ?_ ?_)
   | (with_reducible refine LeO.bind ?_ (fun _ => ?_))
   | exact ih0 _ _ _ _
   | exact flyballref01_Cmp.mono _ _ _
   | exact flyballref01_Shl.mono _ _ _
   | exact flyballref01_Words.mono _ _ _
   | exact flyballref04_Finite.mono _ _
   | exact flyballref07_parts.mono _ _
   | exact LeO.none _
   | refine LeO.ite ?_ ?_
   | refine LeO.bind ?_ (fun _ => ?_)
set_option maxHeartbeats 8000000 in
set_option maxRecDepth 100000 in
theorem flyballref07_To.calls (k : Nat) (a0 : Int) (a1 : Int) (r1 : Int) (r2 : Int) (w : World) (h : flyballref07_To.f k a0 a1 = some (r1, r2)) :
  Calls Try.prog 18 #[.int .u64 a0, .int .i64 a1] w fun e w' => e = .returned (.tuple #[.int .i64 r1, .int .u8 r2]) ∧ Below w.heap.size w w' := by
 have HB := Aside0.mk (Below.refl w.heap.size w)
 have H : ((flyballref04_Finite.f k a0).bind fun t377 => (if t377 = true then ((flyballref07_parts.f k a0).bind fun bt378 => ((flyballref01_Shl.f k (([true] : List Bool)) (wrap64 (a1 - 1))).bind fun t386 => ((flyballref01_Cmp.f k bt378.1 t386).bind fun t389 => (if t389 > 0 then (flyballref07_To.j0 k bt378.1 bt378.2.1 ((a0 / 9223372036854775808) == 1) true) else (if t389 = 0 then (flyballref07_To.j0 k bt378.1 bt378.2.1 ((a0 / 9223372036854775808) == 1) (!((a0 / 9223372036854775808) == 1))) else (flyballref07_To.j0 k bt378.1 bt378.2.1 ((a0 / 9223372036854775808) == 1) false)))))) else (some (0, 16)))) = some (r1, r2) := h
 clear h
 replace H := Option.bind_eq_some_iff.mp H
 obtain ⟨t377, A30, H⟩ := H
 replace H : (if t377 = true then ((flyballref07_parts.f k a0).bind fun bt378 => ((flyballref01_Shl.f k (([true] : List Bool)) (wrap64 (a1 - 1))).bind fun t386 => ((flyballref01_Cmp.f k bt378.1 t386).bind fun t389 => (if t389 > 0 then (flyballref07_To.j0 k bt378.1 bt378.2.1 ((a0 / 9223372036854775808) == 1) true) else (if t389 = 0 then (flyballref07_To.j0 k bt378.1 bt378.2.1 ((a0 / 9223372036854775808) == 1) (!((a0 / 9223372036854775808) == 1))) else (flyballref07_To.j0 k bt378.1 bt378.2.1 ((a0 / 9223372036854775808) == 1) false)))))) else (some (0, 16))) = some (r1, r2) := H
 have A3 := Aside0.mk A30
 clear A30
 by_cases c4 : t377 = true
 ·
  subst c4
  have H1 : ((flyballref07_parts.f k a0).bind fun bt378 => ((flyballref01_Shl.f k (([true] : List Bool)) (wrap64 (a1 - 1))).bind fun t386 => ((flyballref01_Cmp.f k bt378.1 t386).bind fun t389 => (if t389 > 0 then (flyballref07_To.j0 k bt378.1 bt378.2.1 ((a0 / 9223372036854775808) == 1) true) else (if t389 = 0 then (flyballref07_To.j0 k bt378.1 bt378.2.1 ((a0 / 9223372036854775808) == 1) (!((a0 / 9223372036854775808) == 1))) else (flyballref07_To.j0 k bt378.1 bt378.2.1 ((a0 / 9223372036854775808) == 1) false)))))) = some (r1, r2) := by rw [if_pos rfl] at H; exact H
  clear H
  have H := H1
  clear H1
  replace H := Option.bind_eq_some_iff.mp H
  obtain ⟨⟨t378, t379, t380⟩, A50, H⟩ := H
  replace H : ((flyballref01_Shl.f k (([true] : List Bool)) (wrap64 (a1 - 1))).bind fun t386 => ((flyballref01_Cmp.f k t378 t386).bind fun t389 => (if t389 > 0 then (flyballref07_To.j0 k t378 t379 ((a0 / 9223372036854775808) == 1) true) else (if t389 = 0 then (flyballref07_To.j0 k t378 t379 ((a0 / 9223372036854775808) == 1) (!((a0 / 9223372036854775808) == 1))) else (flyballref07_To.j0 k t378 t379 ((a0 / 9223372036854775808) == 1) false))))) = some (r1, r2) := H
  have A5 := Aside0.mk A50
  clear A50
  obtain ⟨y383, hy383⟩ : ∃ y_ : List Bool, y_ = (([true] : List Bool)) := ⟨_, rfl⟩
  replace H : ((flyballref01_Shl.f k y383 (wrap64 (a1 - 1))).bind fun t386 => ((flyballref01_Cmp.f k t378 t386).bind fun t389 => (if t389 > 0 then (flyballref07_To.j0 k t378 t379 ((a0 / 9223372036854775808) == 1) true) else (if t389 = 0 then (flyballref07_To.j0 k t378 t379 ((a0 / 9223372036854775808) == 1) (!((a0 / 9223372036854775808) == 1))) else (flyballref07_To.j0 k t378 t379 ((a0 / 9223372036854775808) == 1) false))))) = some (r1, r2) := by first | (rw [hy383]; with_reducible exact H) | (have H2_ := (Option.bind_some _ _).symm.trans H; rw [hy383]; with_reducible exact H2_) | (have H2_ := (Option.bind_some _ _).symm.trans H; with_reducible exact H2_) | with_reducible exact H | (rw [hy383]; exact H) | exact H
  have Ny383 := Aside0.mk hy383
  clear hy383
  replace H := Option.bind_eq_some_iff.mp H
  obtain ⟨t386, A60, H⟩ := H
  replace H : ((flyballref01_Cmp.f k t378 t386).bind fun t389 => (if t389 > 0 then (flyballref07_To.j0 k t378 t379 ((a0 / 9223372036854775808) == 1) true) else (if t389 = 0 then (flyballref07_To.j0 k t378 t379 ((a0 / 9223372036854775808) == 1) (!((a0 / 9223372036854775808) == 1))) else (flyballref07_To.j0 k t378 t379 ((a0 / 9223372036854775808) == 1) false)))) = some (r1, r2) := H
  have A6 := Aside0.mk A60
  clear A60
  replace H := Option.bind_eq_some_iff.mp H
  obtain ⟨t389, A70, H⟩ := H
  replace H : (if t389 > 0 then (flyballref07_To.j0 k t378 t379 ((a0 / 9223372036854775808) == 1) true) else (if t389 = 0 then (flyballref07_To.j0 k t378 t379 ((a0 / 9223372036854775808) == 1) (!((a0 / 9223372036854775808) == 1))) else (flyballref07_To.j0 k t378 t379 ((a0 / 9223372036854775808) == 1) false))) = some (r1, r2) := H
  have A7 := Aside0.mk A70
  clear A70
  have HC8 := Aside0.mk H
  clear H
  go_enter Try.func18, Try.ntmps18
  go_upto_region 8 with (first | ((with_reducible refine gate_callee (f := 31) rfl ?_); refine goesL_ (some 15) rfl rfl Try.func31 (by kernel_rfl) rfl #[.int .u64 a0] rfl (by (try simp only [List.map_toArray, List.map_cons, List.map_nil]); first | done | rfl | (simp only [List.length_drop, List.length_take]; rfl)) ?_; (with_reducible refine (flyballref04_Finite.calls k a0 true _ A3.out).mono ?_); rintro e w' ⟨rfl, ⟨nd, rfl⟩⟩; refine ⟨_, rfl, ?_⟩) | ((with_reducible refine gate_callee (f := 46) rfl ?_); refine goesL_ (some 20) rfl rfl Try.func46 (by kernel_rfl) rfl #[.int .u64 a0] rfl (by (try simp only [List.map_toArray, List.map_cons, List.map_nil]); first | done | rfl | (simp only [List.length_drop, List.length_take]; rfl)) ?_; (with_reducible refine (flyballref07_parts.calls k a0 t378 t379 t380 _ A5.out).mono ?_); rintro e w9 ⟨v381, rfl, ho0, hb⟩; refine ⟨_, rfl, ?_⟩; have n0_ := Aside0.mk (Kd.Q_lower ho0 (below_size (by repeat (first | (with_reducible first | exact HB.out | apply below_alloc | apply pw_below_drewN | apply below_drew1) | exact HB.out)))); have n1_ := Aside0.mk (below_step (by repeat (first | (with_reducible first | exact HB.out | apply below_alloc | apply pw_below_drewN | apply below_drew1) | exact HB.out)) hb); clear HB; have HO382 := n0_; have HB := n1_; clear n0_ n1_; (try clear hb); (try clear hb2); (try clear hk); (try clear hi); (try clear ho0)) | ((with_reducible refine gate_dst (N := 27) rfl ?_); refine Kd.R_lit Kd.bool _ 4 ?hg (N := 27) ?hd (xs := ([true] : List Bool)) (inner := [.bool true]) (ok := fun _ => True) (okp := fun _ => True) ?hr ?hp (fun _ hk => hk) trivial (Below.refl _ _) (Nat.le_refl _) (by simp) ?_; (case hd => rfl); (case hg => rfl); (case hr => first | (go_simp; done) | (go_simp; rfl)); (case hp => exact (Reps.one (show Kd.M Kd.bool _ _ _ true [.bool true] from rfl) (Reps.none _ _))); intro v384 w10 ho11 hb hg_ hnew_; clear hg_ hnew_; (first | rw [← Ny383.out] at ho11 | (simp only [Int.reduceToNat] at ho11; rw [← Ny383.out] at ho11)); have n0_ := Aside0.mk (Kd.Q_elder' (by (with_reducible repeat (first | apply Kd.Q_alloc | apply Kd.Q_drewN | apply Kd.Q_drew)); exact HO382.out) (Kd.R_base ho11) hb); have n1_ := Aside0.mk (Kd.R_lower (Kd.R_new' ho11 (Kd.Q_lt (by (with_reducible repeat (first | apply Kd.Q_alloc | apply Kd.Q_drewN | apply Kd.Q_drew)); exact HO382.out))) (below_size (by repeat (first | (with_reducible first | exact HB.out | apply below_alloc | apply pw_below_drewN | apply below_drew1) | exact HB.out)))); have n2_ := Aside0.mk (below_step (by repeat (first | (with_reducible first | exact HB.out | apply below_alloc | apply pw_below_drewN | apply below_drew1) | exact HB.out)) hb); clear HO382; clear HB; have HO382 := n0_; have HO385 := n1_; have HB := n2_; clear n0_ n1_ n2_; clear hb ho11; obtain ⟨Ao12, co12, eo12⟩ := Kd.R_slice HO385.out; subst eo12) | ((with_reducible refine gate_callee (f := 47) rfl ?_); refine goesL_ (some 30) rfl rfl Try.func47 (by kernel_rfl) rfl #[.slice Ao12 y383.length co12, .int .i64 (wrap64 (a1 - 1))] rfl (by (try simp only [List.map_toArray, List.map_cons, List.map_nil]); first | done | rfl | (simp only [List.length_drop, List.length_take]; rfl)) ?_; (with_reducible refine (flyballref01_Shl.calls k _ _ y383 (wrap64 (a1 - 1)) t386 _ ?side1 ?side2 A6.out).mono ?_); (case side1 => repeat (first | exact (Kd.R_reads' HO385.out).2.2 | (with_reducible refine Kd.C_alloc ?_ _) | (with_reducible refine Kd.C_drewN ?_ _) | (with_reducible refine Kd.C_drew ?_))); (case side2 => exact (Kd.R_reads' HO385.out).2.1); rintro e w13 ⟨v387, rfl, ho0, hb⟩; refine ⟨_, rfl, ?_⟩; have n0_ := Aside0.mk (Kd.Q_elder' (by (with_reducible repeat (first | apply Kd.Q_alloc | apply Kd.Q_drewN | apply Kd.Q_drew)); exact HO382.out) (Kd.R_base ho0) hb); have n1_ := Aside0.mk (Kd.R_elder' (by (with_reducible repeat (first | apply Kd.R_alloc | apply Kd.R_drewN | apply Kd.R_drew)); exact HO385.out) (Kd.R_base ho0) hb); have n2_ := Aside0.mk (Kd.R_lower (Kd.R_new' (Kd.R_new' ho0 (Kd.Q_lt (by (with_reducible repeat (first | apply Kd.Q_alloc | apply Kd.Q_drewN | apply Kd.Q_drew)); exact HO382.out))) (Kd.R_lt (by (with_reducible repeat (first | apply Kd.R_alloc | apply Kd.R_drewN | apply Kd.R_drew)); exact HO385.out))) (below_size (by repeat (first | (with_reducible first | exact HB.out | apply below_alloc | apply pw_below_drewN | apply below_drew1) | exact HB.out)))); have n3_ := Aside0.mk (below_step (by repeat (first | (with_reducible first | exact HB.out | apply below_alloc | apply pw_below_drewN | apply below_drew1) | exact HB.out)) hb); clear HO382; clear HO385; clear HB; have HO382 := n0_; have HO385 := n1_; have HO388 := n2_; have HB := n3_; clear n0_ n1_ n2_ n3_; (try clear hb); (try clear hb2); (try clear hk); (try clear hi); (try clear ho0); obtain ⟨Ao14, co14, eo14, _⟩ := Kd.Q_slice HO382.out; subst eo14; obtain ⟨Ao15, co15, eo15⟩ := Kd.R_slice HO388.out; subst eo15) | ((with_reducible refine gate_callee (f := 48) rfl ?_); refine goesL_ (some 33) rfl rfl Try.func48 (by kernel_rfl) rfl #[.slice Ao14 t378.length co14, .slice Ao15 t386.length co15] rfl (by (try simp only [List.map_toArray, List.map_cons, List.map_nil]); first | done | rfl | (simp only [List.length_drop, List.length_take]; rfl)) ?_; (with_reducible refine (flyballref01_Cmp.calls k _ _ t378 _ _ t386 t389 _ ?side1 ?side2 ?side3 ?side4 A7.out).mono ?_); (case side1 => repeat (first | exact (Kd.Q_reads' HO382.out).2.2 | (with_reducible refine Kd.C_alloc ?_ _) | (with_reducible refine Kd.C_drewN ?_ _) | (with_reducible refine Kd.C_drew ?_))); (case side2 => exact (Kd.Q_reads' HO382.out).2.1); (case side3 => repeat (first | exact (Kd.R_reads' HO388.out).2.2 | (with_reducible refine Kd.C_alloc ?_ _) | (with_reducible refine Kd.C_drewN ?_ _) | (with_reducible refine Kd.C_drew ?_))); (case side4 => exact (Kd.R_reads' HO388.out).2.1); rintro e w' ⟨rfl, ⟨nd, rfl⟩⟩; refine ⟨_, rfl, ?_⟩))
  (try simp only [Act.put, List.setIfInBounds_toArray, List.set_cons_zero, List.set_cons_succ])
  go_cut [43] (fun v43 wc => ∃ (kq : Nat) (x43_7 : Bool), v43 = .bool x43_7 ∧ Aside0 (flyballref07_To.j0 kq t378 t379 ((a0 / 9223372036854775808) == 1) x43_7 = some (r1, r2)) ∧ Aside0 (kq ≤ k) ∧ Aside0 (Kd.Q Kd.bool 4 wc w.heap.size (fun _ => True) (.slice Ao14 t378.length co14) t378) ∧ Aside0 (Below w.heap.size w wc))
  case first =>
   have H := HC8.out
   clear HC8
   by_cases c16 : t389 > 0
   ·
    rw [if_pos c16] at H
    have c16b0 : decide (0 < t389) = true := decide_eq_true c16
    clear c16
    (first | rw [c16b0] | (simp only [i64_w, i32_w]; rw [c16b0]) | skip)
    have H' := Aside0.mk H
    clear H
    go_wp2
    go_meet
    case rel => exact ⟨_, (true), (by first | rfl | (simp; done) | (simp [*]; done)), H', ⟨by first | omega | exact Nat.le_refl _⟩, ⟨by (with_reducible repeat (first | apply Kd.Q_alloc | apply Kd.Q_drewN | apply Kd.Q_drew)); exact Kd.Q_mono HO382.out (fun _ hk => trivial)⟩, ⟨by repeat (first | (with_reducible first | exact HB.out | apply below_alloc | apply pw_below_drewN | apply below_drew1) | exact HB.out)⟩⟩
   ·
    rw [if_neg c16] at H
    have c16b0 : decide (0 < t389) = false := decide_eq_false c16
    clear c16
    (first | rw [c16b0] | (simp only [i64_w, i32_w]; rw [c16b0]) | skip)
    by_cases c17 : t389 = 0
    ·
     rw [if_pos c17] at H
     have c17b0 : (t389 == 0) = true := beq_iff_eq.mpr c17
     have c17b1 : (t389 != 0) = false := bne_eq_false_iff_eq.mpr c17
     clear c17
     have H' := Aside0.mk H
     clear H
     go_wp2
     go_meet
     case rel => exact ⟨_, (!((a0 / 9223372036854775808) == 1)), (by first | rfl | (simp; done) | (simp [*]; done)), H', ⟨by first | omega | exact Nat.le_refl _⟩, ⟨by (with_reducible repeat (first | apply Kd.Q_alloc | apply Kd.Q_drewN | apply Kd.Q_drew)); exact Kd.Q_mono HO382.out (fun _ hk => trivial)⟩, ⟨by repeat (first | (with_reducible first | exact HB.out | apply below_alloc | apply pw_below_drewN | apply below_drew1) | exact HB.out)⟩⟩
    ·
     rw [if_neg c17] at H
     have c17b0 : (t389 == 0) = false := beq_eq_false_iff_ne.mpr c17
     have c17b1 : (t389 != 0) = true := bne_iff_ne.mpr c17
     have H' := Aside0.mk H
     clear H
     go_wp2
     go_meet
     case rel => exact ⟨_, (false), (by first | rfl | (simp; done) | (simp [*]; done)), H', ⟨by first | omega | exact Nat.le_refl _⟩, ⟨by (with_reducible repeat (first | apply Kd.Q_alloc | apply Kd.Q_drewN | apply Kd.Q_drew)); exact Kd.Q_mono HO382.out (fun _ hk => trivial)⟩, ⟨by repeat (first | (with_reducible first | exact HB.out | apply below_alloc | apply pw_below_drewN | apply below_drew1) | exact HB.out)⟩⟩
  case rest =>
   clear HC8
   try clear c1
   try clear p2
   try clear c3
   try clear c4
   try clear p6
   try clear c16
   try clear c16b0
   try clear c17
   try clear c17b0
   try clear c17b1
   obtain ⟨kq, x43_7, rfl, HA, HJ7, HO_7, HB⟩ := hcut
   cases kq with
   | zero => exact absurd HA.out (by simp [flyballref07_To.j0])
   | succ kj7 =>
    have H := HA.out
    clear HA
    simp only [flyballref07_To.j0] at H
    by_cases c18 : x43_7 = true
    ·
     subst c18
     have H1 : (some (0, 16)) = some (r1, r2) := by rw [if_pos rfl] at H; exact H
     clear H
     have H := H1
     clear H1
     simp only [Option.some.injEq, Prod.mk.injEq] at H
     obtain ⟨rfl, rfl⟩ := H
     go_wp2
     go_ret2
     exact ⟨by first | rfl | (simp [errW_none, errW_some] <;> rfl) | (simp [*, errW_none, errW_some] <;> rfl), by repeat (first | (with_reducible first | exact HB.out | apply below_alloc | apply pw_below_drewN | apply below_drew1) | exact HB.out)⟩
    ·
     replace c18 := Bool.eq_false_iff.mpr c18
     subst c18
     have H1 : ((flyballref01_Words.f kj7 t378 1).bind fun t390 => (if 0 < (t390.length : Int) then (if ((a0 / 9223372036854775808) == 1) = true then (if t379 = true then (some (wrap64 (-(wrap64 (rd t390 0))), 1)) else (some (wrap64 (-(wrap64 (rd t390 0))), 0))) else (if t379 = true then (some (wrap64 (rd t390 0), 1)) else (some (wrap64 (rd t390 0), 0)))) else (none))) = some (r1, r2) := by rw [if_neg (show ¬ (false = true) by decide)] at H; exact H
     clear H
     have H := H1
     clear H1
     replace H := Option.bind_eq_some_iff.mp H
     obtain ⟨t390, A190, H⟩ := H
     replace H : (if 0 < (t390.length : Int) then (if ((a0 / 9223372036854775808) == 1) = true then (if t379 = true then (some (wrap64 (-(wrap64 (rd t390 0))), 1)) else (some (wrap64 (-(wrap64 (rd t390 0))), 0))) else (if t379 = true then (some (wrap64 (rd t390 0), 1)) else (some (wrap64 (rd t390 0), 0)))) else (none)) = some (r1, r2) := H
     have A19 := Aside0.mk A190
     clear A190
     by_cases c20 : 0 < (t390.length : Int)
     ·
      rw [if_pos c20] at H
      have c20b0 : decide (0 < (t390.length : Int)) = true := decide_eq_true c20
      have c20b1 : decide (0 < t390.length) = true := decide_eq_true (by omega)
      clear c20
      by_cases c21 : ((a0 / 9223372036854775808) == 1) = true
      ·
       rw [if_pos c21] at H
       have c21b0 : ((a0 / 9223372036854775808) == 1) = true := c21
       (try (have c21b1 : decide ((a0 / 9223372036854775808) = 1) = true := by simpa using c21))
       (try (have c21b2 : ((a0 / 9223372036854775808) == 1) = true := by simpa using c21))
       clear c21
       by_cases c22 : t379 = true
       ·
        subst c22
        have H1 : (some (wrap64 (-(wrap64 (rd t390 0))), 1)) = some (r1, r2) := by rw [if_pos rfl] at H; exact H
        clear H
        have H := H1
        clear H1
        simp only [Option.some.injEq, Prod.mk.injEq] at H
        obtain ⟨rfl, rfl⟩ := H
        go_wp2_with (first | ((with_reducible refine gate_callee (f := 49) rfl ?_); refine goesL_ (some 45) rfl rfl Try.func49 (by kernel_rfl) rfl #[.slice Ao14 t378.length co14, .int .i64 1] rfl (by (try simp only [List.map_toArray, List.map_cons, List.map_nil]); first | done | rfl | (simp only [List.length_drop, List.length_take]; rfl)) ?_; (with_reducible refine (flyballref01_Words.calls kj7 _ _ t378 1 t390 _ ?side1 ?side2 A19.out).mono ?_); (case side1 => repeat (first | exact (Kd.Q_reads' HO_7.out).2.2 | (with_reducible refine Kd.C_alloc ?_ _) | (with_reducible refine Kd.C_drewN ?_ _) | (with_reducible refine Kd.C_drew ?_))); (case side2 => exact (Kd.Q_reads' HO_7.out).2.1); rintro e w23 ⟨v391, rfl, ho0, hb⟩; refine ⟨_, rfl, ?_⟩; have n0_ := Aside0.mk (Kd.Q_below (by (with_reducible repeat (first | apply Kd.Q_alloc | apply Kd.Q_drewN | apply Kd.Q_drew)); exact HO_7.out) hb); have n1_ := Aside0.mk (Kd.R_lower ho0 (below_size (by repeat (first | (with_reducible first | exact HB.out | apply below_alloc | apply pw_below_drewN | apply below_drew1) | exact HB.out)))); have n2_ := Aside0.mk (below_step (by repeat (first | (with_reducible first | exact HB.out | apply below_alloc | apply pw_below_drewN | apply below_drew1) | exact HB.out)) hb); clear HO_7; clear HB; have HO_7 := n0_; have HO392 := n1_; have HB := n2_; clear n0_ n1_ n2_; (try clear hb); (try clear hb2); (try clear hk); (try clear hi); (try clear ho0); obtain ⟨Ao24, co24, eo24⟩ := Kd.R_slice HO392.out; subst eo24; have p393 : 0 ≤ (0 : Int) := (by omega); have q393 : 0 < (t390.length : Int) := of_decide_eq_true (by first | (with_reducible assumption) | assumption); obtain ⟨ad393, e393, hx393_0⟩ := Kd.at_int (Kd.R_reads' HO392.out).2.2 0 p393 q393; cases e393; have qi393 : (0 < t390.length) = True := eq_true (by omega); (try rw [show ((0 : Int)).toNat = 0 from rfl] at hx393_0); (try rw [Addr.add_zero'] at hx393_0); replace p393 := eq_true p393; replace q393 := eq_true q393))
        go_ret2
        exact ⟨by first | rfl | (simp [errW_none, errW_some] <;> rfl) | (simp [*, errW_none, errW_some] <;> rfl), by repeat (first | (with_reducible first | exact HB.out | apply below_alloc | apply pw_below_drewN | apply below_drew1) | exact HB.out)⟩
       ·
        replace c22 := Bool.eq_false_iff.mpr c22
        subst c22
        have H1 : (some (wrap64 (-(wrap64 (rd t390 0))), 0)) = some (r1, r2) := by rw [if_neg (show ¬ (false = true) by decide)] at H; exact H
        clear H
        have H := H1
        clear H1
        simp only [Option.some.injEq, Prod.mk.injEq] at H
        obtain ⟨rfl, rfl⟩ := H
        go_wp2_with (first | ((with_reducible refine gate_callee (f := 49) rfl ?_); refine goesL_ (some 45) rfl rfl Try.func49 (by kernel_rfl) rfl #[.slice Ao14 t378.length co14, .int .i64 1] rfl (by (try simp only [List.map_toArray, List.map_cons, List.map_nil]); first | done | rfl | (simp only [List.length_drop, List.length_take]; rfl)) ?_; (with_reducible refine (flyballref01_Words.calls kj7 _ _ t378 1 t390 _ ?side1 ?side2 A19.out).mono ?_); (case side1 => repeat (first | exact (Kd.Q_reads' HO_7.out).2.2 | (with_reducible refine Kd.C_alloc ?_ _) | (with_reducible refine Kd.C_drewN ?_ _) | (with_reducible refine Kd.C_drew ?_))); (case side2 => exact (Kd.Q_reads' HO_7.out).2.1); rintro e w25 ⟨v391, rfl, ho0, hb⟩; refine ⟨_, rfl, ?_⟩; have n0_ := Aside0.mk (Kd.Q_below (by (with_reducible repeat (first | apply Kd.Q_alloc | apply Kd.Q_drewN | apply Kd.Q_drew)); exact HO_7.out) hb); have n1_ := Aside0.mk (Kd.R_lower ho0 (below_size (by repeat (first | (with_reducible first | exact HB.out | apply below_alloc | apply pw_below_drewN | apply below_drew1) | exact HB.out)))); have n2_ := Aside0.mk (below_step (by repeat (first | (with_reducible first | exact HB.out | apply below_alloc | apply pw_below_drewN | apply below_drew1) | exact HB.out)) hb); clear HO_7; clear HB; have HO_7 := n0_; have HO392 := n1_; have HB := n2_; clear n0_ n1_ n2_; (try clear hb); (try clear hb2); (try clear hk); (try clear hi); (try clear ho0); obtain ⟨Ao26, co26, eo26⟩ := Kd.R_slice HO392.out; subst eo26; have p393 : 0 ≤ (0 : Int) := (by omega); have q393 : 0 < (t390.length : Int) := of_decide_eq_true (by first | (with_reducible assumption) | assumption); obtain ⟨ad393, e393, hx393_0⟩ := Kd.at_int (Kd.R_reads' HO392.out).2.2 0 p393 q393; cases e393; have qi393 : (0 < t390.length) = True := eq_true (by omega); (try rw [show ((0 : Int)).toNat = 0 from rfl] at hx393_0); (try rw [Addr.add_zero'] at hx393_0); replace p393 := eq_true p393; replace q393 := eq_true q393))
        go_ret2
        exact ⟨by first | rfl | (simp [errW_none, errW_some] <;> rfl) | (simp [*, errW_none, errW_some] <;> rfl), by repeat (first | (with_reducible first | exact HB.out | apply below_alloc | apply pw_below_drewN | apply below_drew1) | exact HB.out)⟩
      ·
       rw [if_neg c21] at H
       have c21b0 : ((a0 / 9223372036854775808) == 1) = false := by simpa using c21
       (try (have c21b1 : decide ((a0 / 9223372036854775808) = 1) = false := by simpa using c21))
       (try (have c21b2 : ((a0 / 9223372036854775808) == 1) = false := by simpa using c21))
       (try (have c21b3 : ¬ ((a0 / 9223372036854775808) = 1) := by simpa using c21))
       clear c21
       by_cases c27 : t379 = true
       ·
        subst c27
        have H1 : (some (wrap64 (rd t390 0), 1)) = some (r1, r2) := by rw [if_pos rfl] at H; exact H
        clear H
        have H := H1
        clear H1
        simp only [Option.some.injEq, Prod.mk.injEq] at H
        obtain ⟨rfl, rfl⟩ := H
        go_wp2_with (first | ((with_reducible refine gate_callee (f := 49) rfl ?_); refine goesL_ (some 45) rfl rfl Try.func49 (by kernel_rfl) rfl #[.slice Ao14 t378.length co14, .int .i64 1] rfl (by (try simp only [List.map_toArray, List.map_cons, List.map_nil]); first | done | rfl | (simp only [List.length_drop, List.length_take]; rfl)) ?_; (with_reducible refine (flyballref01_Words.calls kj7 _ _ t378 1 t390 _ ?side1 ?side2 A19.out).mono ?_); (case side1 => repeat (first | exact (Kd.Q_reads' HO_7.out).2.2 | (with_reducible refine Kd.C_alloc ?_ _) | (with_reducible refine Kd.C_drewN ?_ _) | (with_reducible refine Kd.C_drew ?_))); (case side2 => exact (Kd.Q_reads' HO_7.out).2.1); rintro e w28 ⟨v391, rfl, ho0, hb⟩; refine ⟨_, rfl, ?_⟩; have n0_ := Aside0.mk (Kd.Q_below (by (with_reducible repeat (first | apply Kd.Q_alloc | apply Kd.Q_drewN | apply Kd.Q_drew)); exact HO_7.out) hb); have n1_ := Aside0.mk (Kd.R_lower ho0 (below_size (by repeat (first | (with_reducible first | exact HB.out | apply below_alloc | apply pw_below_drewN | apply below_drew1) | exact HB.out)))); have n2_ := Aside0.mk (below_step (by repeat (first | (with_reducible first | exact HB.out | apply below_alloc | apply pw_below_drewN | apply below_drew1) | exact HB.out)) hb); clear HO_7; clear HB; have HO_7 := n0_; have HO392 := n1_; have HB := n2_; clear n0_ n1_ n2_; (try clear hb); (try clear hb2); (try clear hk); (try clear hi); (try clear ho0); obtain ⟨Ao29, co29, eo29⟩ := Kd.R_slice HO392.out; subst eo29; have p393 : 0 ≤ (0 : Int) := (by omega); have q393 : 0 < (t390.length : Int) := of_decide_eq_true (by first | (with_reducible assumption) | assumption); obtain ⟨ad393, e393, hx393_0⟩ := Kd.at_int (Kd.R_reads' HO392.out).2.2 0 p393 q393; cases e393; have qi393 : (0 < t390.length) = True := eq_true (by omega); (try rw [show ((0 : Int)).toNat = 0 from rfl] at hx393_0); (try rw [Addr.add_zero'] at hx393_0); replace p393 := eq_true p393; replace q393 := eq_true q393))
        go_ret2
        exact ⟨by first | rfl | (simp [errW_none, errW_some] <;> rfl) | (simp [*, errW_none, errW_some] <;> rfl), by repeat (first | (with_reducible first | exact HB.out | apply below_alloc | apply pw_below_drewN | apply below_drew1) | exact HB.out)⟩
       ·
        replace c27 := Bool.eq_false_iff.mpr c27
        subst c27
        have H1 : (some (wrap64 (rd t390 0), 0)) = some (r1, r2) := by rw [if_neg (show ¬ (false = true) by decide)] at H; exact H
        clear H
        have H := H1
        clear H1
        simp only [Option.some.injEq, Prod.mk.injEq] at H
        obtain ⟨rfl, rfl⟩ := H
        go_wp2_with (first | ((with_reducible refine gate_callee (f := 49) rfl ?_); refine goesL_ (some 45) rfl rfl Try.func49 (by kernel_rfl) rfl #[.slice Ao14 t378.length co14, .int .i64 1] rfl (by (try simp only [List.map_toArray, List.map_cons, List.map_nil]); first | done | rfl | (simp only [List.length_drop, List.length_take]; rfl)) ?_; (with_reducible refine (flyballref01_Words.calls kj7 _ _ t378 1 t390 _ ?side1 ?side2 A19.out).mono ?_); (case side1 => repeat (first | exact (Kd.Q_reads' HO_7.out).2.2 | (with_reducible refine Kd.C_alloc ?_ _) | (with_reducible refine Kd.C_drewN ?_ _) | (with_reducible refine Kd.C_drew ?_))); (case side2 => exact (Kd.Q_reads' HO_7.out).2.1); rintro e w30 ⟨v391, rfl, ho0, hb⟩; refine ⟨_, rfl, ?_⟩; have n0_ := Aside0.mk (Kd.Q_below (by (with_reducible repeat (first | apply Kd.Q_alloc | apply Kd.Q_drewN | apply Kd.Q_drew)); exact HO_7.out) hb); have n1_ := Aside0.mk (Kd.R_lower ho0 (below_size (by repeat (first | (with_reducible first | exact HB.out | apply below_alloc | apply pw_below_drewN | apply below_drew1) | exact HB.out)))); have n2_ := Aside0.mk (below_step (by repeat (first | (with_reducible first | exact HB.out | apply below_alloc | apply pw_below_drewN | apply below_drew1) | exact HB.out)) hb); clear HO_7; clear HB; have HO_7 := n0_; have HO392 := n1_; have HB := n2_; clear n0_ n1_ n2_; (try clear hb); (try clear hb2); (try clear hk); (try clear hi); (try clear ho0); obtain ⟨Ao31, co31, eo31⟩ := Kd.R_slice HO392.out; subst eo31; have p393 : 0 ≤ (0 : Int) := (by omega); have q393 : 0 < (t390.length : Int) := of_decide_eq_true (by first | (with_reducible assumption) | assumption); obtain ⟨ad393, e393, hx393_0⟩ := Kd.at_int (Kd.R_reads' HO392.out).2.2 0 p393 q393; cases e393; have qi393 : (0 < t390.length) = True := eq_true (by omega); (try rw [show ((0 : Int)).toNat = 0 from rfl] at hx393_0); (try rw [Addr.add_zero'] at hx393_0); replace p393 := eq_true p393; replace q393 := eq_true q393))
        go_ret2
        exact ⟨by first | rfl | (simp [errW_none, errW_some] <;> rfl) | (simp [*, errW_none, errW_some] <;> rfl), by repeat (first | (with_reducible first | exact HB.out | apply below_alloc | apply pw_below_drewN | apply below_drew1) | exact HB.out)⟩
     ·
      rw [if_neg c20] at H
      exact absurd H (by simp)
 ·
  replace c4 := Bool.eq_false_iff.mpr c4
  subst c4
  have H1 : (some (0, 16)) = some (r1, r2) := by rw [if_neg (show ¬ (false = true) by decide)] at H; exact H
  clear H
  have H := H1
  clear H1
  simp only [Option.some.injEq, Prod.mk.injEq] at H
  obtain ⟨rfl, rfl⟩ := H
  go_enter Try.func18, Try.ntmps18
  go_wp2_with (first | ((with_reducible refine gate_callee (f := 31) rfl ?_); refine goesL_ (some 15) rfl rfl Try.func31 (by kernel_rfl) rfl #[.int .u64 a0] rfl (by (try simp only [List.map_toArray, List.map_cons, List.map_nil]); first | done | rfl | (simp only [List.length_drop, List.length_take]; rfl)) ?_; (with_reducible refine (flyballref04_Finite.calls k a0 false _ A3.out).mono ?_); rintro e w' ⟨rfl, ⟨nd, rfl⟩⟩; refine ⟨_, rfl, ?_⟩))
  go_ret2
  exact ⟨by first | rfl | (simp [errW_none, errW_some] <;> rfl) | (simp [*, errW_none, errW_some] <;> rfl), by repeat (first | (with_reducible first | exact HB.out | apply below_alloc | apply pw_below_drewN | apply below_drew1) | exact HB.out)⟩

/-! ### flyballref07_Whole: function 21 -/
mutual
def flyballref07_Whole.j0 : Nat → Int → List Bool → Bool → Int → Bool → Bool → Option (Int × Int)
 | 0, _, _, _, _, _, _ => none
 | k + 1, x1, x7, x8, x9, x10, x11 => if x9 > 0 then (flyballref07_Whole.j1 k x1 x7 x8 x10 true) else (if x9 = 0 then (flyballref07_Whole.j1 k x1 x7 x8 x10 x11) else (flyballref07_Whole.j1 k x1 x7 x8 x10 false))
def flyballref07_Whole.j1 : Nat → Int → List Bool → Bool → Bool → Bool → Option (Int × Int)
 | 0, _, _, _, _, _ => none
 | k + 1, x1, x7, x8, x10, x12 => if x1 = 1 then (if x8 = true then (flyballref07_Whole.j2 k x7 x8 x10 (!x10)) else (flyballref07_Whole.j2 k x7 x8 x10 false)) else (if x1 = 2 then (if x8 = true then (flyballref07_Whole.j2 k x7 x8 x10 x10) else (flyballref07_Whole.j2 k x7 x8 x10 false)) else (flyballref07_Whole.j2 k x7 x8 x10 x12))
def flyballref07_Whole.j2 : Nat → List Bool → Bool → Bool → Bool → Option (Int × Int)
 | 0, _, _, _, _ => none
 | k + 1, x7, x8, x10, x12 => if x12 = true then ((flyballref01_Add.f k x7 (([true] : List Bool))).bind fun t413 => ((flyballref05_Round.f k x10 t413 0 false 0).bind fun bt416 => (if x8 = true then (some (bt416.1, 1)) else (some (bt416.1, 0))))) else ((flyballref05_Round.f k x10 x7 0 false 0).bind fun bt418 => (if x8 = true then (some (bt418.1, 1)) else (some (bt418.1, 0))))
end
def flyballref07_Whole.f (k : Nat) (a0 : Int) (a1 : Int) : Option (Int × Int) := (flyballref04_Class.f k a0).bind fun t403 => (if t403 = 4 then (some (9221120237041090560, 0)) else (if t403 = 3 then (some (a0, 0)) else ((flyballref07_parts.f k a0).bind fun bt404 => (if (bt404.1.length : Int) > 0 then (if 0 < (bt404.1.length : Int) then (flyballref07_Whole.j0 k a1 bt404.1 bt404.2.1 bt404.2.2 ((a0 / 9223372036854775808) == 1) (rdOf false bt404.1 0)) else (none)) else (flyballref07_Whole.j0 k a1 bt404.1 bt404.2.1 bt404.2.2 ((a0 / 9223372036854775808) == 1) false)))))
theorem flyballref07_Whole.mono_l : ∀ k, (∀ y0 y1 y2 y3 y4 y5, LeO (flyballref07_Whole.j0 k y0 y1 y2 y3 y4 y5) (flyballref07_Whole.j0 (k + 1) y0 y1 y2 y3 y4 y5)) ∧ (∀ y0 y1 y2 y3 y4, LeO (flyballref07_Whole.j1 k y0 y1 y2 y3 y4) (flyballref07_Whole.j1 (k + 1) y0 y1 y2 y3 y4)) ∧ (∀ y0 y1 y2 y3, LeO (flyballref07_Whole.j2 k y0 y1 y2 y3) (flyballref07_Whole.j2 (k + 1) y0 y1 y2 y3))
 | 0 => ⟨fun _ _ _ _ _ _ r h => by simp [flyballref07_Whole.j0] at h, fun _ _ _ _ _ r h => by simp [flyballref07_Whole.j1] at h, fun _ _ _ _ r h => by simp [flyballref07_Whole.j2] at h⟩
 | k + 1 => by
  obtain ⟨ih0, ih1, ih2⟩ := flyballref07_Whole.mono_l k
  refine ⟨?_, ?_, ?_⟩
  ·
   intro y0 y1 y2 y3 y4 y5
   unfold flyballref07_Whole.j0
   repeat' first
   | (with_reducible exact ih0 _ _ _ _ _ _)
   | (with_reducible exact ih1 _ _ _ _ _)
   | (with_reducible exact ih2 _ _ _ _)
   | (with_reducible exact flyballref01_Add.mono _ _ _)
   | (with_reducible exact flyballref04_Class.mono _ _)
   | (with_reducible exact flyballref05_Round.mono _ _ _ _ _ _)
   | (with_reducible exact flyballref07_parts.mono _ _)
   | (with_reducible exact LeO.refl _)
   | (with_reducible exact LeO.none _)
   | (with_reducible refine LeO.ite ?_ ?_)
   | (with_reducible refine LeO.bind ?_ (fun _ => ?_))
   | exact ih0 _ _ _ _ _ _
   | exact ih1 _ _ _ _ _
   | exact ih2 _ _ _ _
   | exact flyballref01_Add.mono _ _ _
   | exact flyballref04_Class.mono _ _
   | exact flyballref05_Round.mono _ _ _ _ _ _
   | exact flyballref07_parts.mono _ _
   | exact LeO.none _
   | refine LeO.ite ?_ ?_
   | refine LeO.bind ?_ (fun _ => ?_)
  ·
   intro y0 y1 y2 y3 y4
   unfold flyballref07_Whole.j1
   repeat' first
   | (with_reducible exact ih0 _ _ _ _ _ _)
   | (with_reducible exact ih1 _ _ _ _ _)
   | (with_reducible exact ih2 _ _ _ _)
   | (with_reducible exact flyballref01_Add.mono _ _ _)
   | (with_reducible exact flyballref04_Class.mono _ _)
   | (with_reducible exact flyballref05_Round.mono _ _ _ _ _ _)
   | (with_reducible exact flyballref07_parts.mono _ _)
   | (with_reducible exact LeO.refl _)
   | (with_reducible exact LeO.none _)
   | (with_reducible refine LeO.ite ?_ ?_)
   | (with_reducible refine LeO.bind ?_ (fun _ => ?_))
   | exact ih0 _ _ _ _ _ _
   | exact ih1 _ _ _ _ _
   | exact ih2 _ _ _ _
   | exact flyballref01_Add.mono _ _ _
   | exact flyballref04_Class.mono _ _
   | exact flyballref05_Round.mono _ _ _ _ _ _
   | exact flyballref07_parts.mono _ _
   | exact LeO.none _
   | refine LeO.ite ?_ ?_
   | refine LeO.bind ?_ (fun _ => ?_)
  ·
   intro y0 y1 y2 y3
   unfold flyballref07_Whole.j2
   repeat' first
   | (with_reducible exact ih0 _ _ _ _ _ _)
   | (with_reducible exact ih1 _ _ _ _ _)
   | (with_reducible exact ih2 _ _ _ _)
   | (with_reducible exact flyballref01_Add.mono _ _ _)
   | (with_reducible exact flyballref04_Class.mono _ _)
   | (with_reducible exact flyballref05_Round.mono _ _ _ _ _ _)
   | (with_reducible exact flyballref07_parts.mono _ _)
   | (with_reducible exact LeO.refl _)
   | (with_reducible exact LeO.none _)
   | (with_reducible refine LeO.ite ?_ ?_)
   | (with_reducible refine LeO.bind ?_ (fun _ => ?_))
   | exact ih0 _ _ _ _ _ _
   | exact ih1 _ _ _ _ _
   | exact ih2 _ _ _ _
   | exact flyballref01_Add.mono _ _ _
   | exact flyballref04_Class.mono _ _
   | exact flyballref05_Round.mono _ _ _ _ _ _
   | exact flyballref07_parts.mono _ _
   | exact LeO.none _
   | refine LeO.ite ?_ ?_
   | refine LeO.bind ?_ (fun _ => ?_)
theorem flyballref07_Whole.mono : ∀ a0 a1 k, LeO (flyballref07_Whole.f k a0 a1) (flyballref07_Whole.f (k + 1) a0 a1) := by
 intro a0 a1 k
 obtain ⟨ih0, ih1, ih2⟩ := flyballref07_Whole.mono_l k
 unfold flyballref07_Whole.f
 repeat' first
   | (with_reducible exact ih0 _ _ _ _ _ _)
   | (with_reducible exact ih1 _ _ _ _ _)
   | (with_reducible exact ih2 _ _ _ _)
   | (with_reducible exact flyballref01_Add.mono _ _ _)
   | (with_reducible exact flyballref04_Class.mono _ _)
   | (with_reducible exact flyballref05_Round.mono _ _ _ _ _ _)
   | (with_reducible exact flyballref07_parts.mono _ _)
   | (with_reducible exact LeO.refl _)
   | (with_reducible exact LeO.none _)
   | (with_reducible refine LeO.ite ?_ ?_)
   | (with_reducible refine LeO.bind ?_ (fun _ => ?_))
   | exact ih0 _ _ _ _ _ _
   | exact ih1 _ _ _ _ _
   | exact ih2 _ _ _ _
   | exact flyballref01_Add.mono _ _ _
   | exact flyballref04_Class.mono _ _
   | exact flyballref05_Round.mono _ _ _ _ _ _
   | exact flyballref07_parts.mono _ _
   | exact LeO.none _
   | refine LeO.ite ?_ ?_
   | refine LeO.bind ?_ (fun _ => ?_)
set_option maxHeartbeats 8000000 in
set_option maxRecDepth 100000 in
theorem flyballref07_Whole.calls (k : Nat) (a0 : Int) (a1 : Int) (r1 : Int) (r2 : Int) (w : World) (h : flyballref07_Whole.f k a0 a1 = some (r1, r2)) :
  Calls Try.prog 21 #[.int .u64 a0, .int .u8 a1] w fun e w' => e = .returned (.tuple #[.int .u64 r1, .int .u8 r2]) ∧ Below w.heap.size w w' := by
 have HB := Aside0.mk (Below.refl w.heap.size w)
 have H : ((flyballref04_Class.f k a0).bind fun t403 => (if t403 = 4 then (some (9221120237041090560, 0)) else (if t403 = 3 then (some (a0, 0)) else ((flyballref07_parts.f k a0).bind fun bt404 => (if (bt404.1.length : Int) > 0 then (if 0 < (bt404.1.length : Int) then (flyballref07_Whole.j0 k a1 bt404.1 bt404.2.1 bt404.2.2 ((a0 / 9223372036854775808) == 1) (rdOf false bt404.1 0)) else (none)) else (flyballref07_Whole.j0 k a1 bt404.1 bt404.2.1 bt404.2.2 ((a0 / 9223372036854775808) == 1) false)))))) = some (r1, r2) := h
 clear h
 replace H := Option.bind_eq_some_iff.mp H
 obtain ⟨t403, A30, H⟩ := H
 replace H : (if t403 = 4 then (some (9221120237041090560, 0)) else (if t403 = 3 then (some (a0, 0)) else ((flyballref07_parts.f k a0).bind fun bt404 => (if (bt404.1.length : Int) > 0 then (if 0 < (bt404.1.length : Int) then (flyballref07_Whole.j0 k a1 bt404.1 bt404.2.1 bt404.2.2 ((a0 / 9223372036854775808) == 1) (rdOf false bt404.1 0)) else (none)) else (flyballref07_Whole.j0 k a1 bt404.1 bt404.2.1 bt404.2.2 ((a0 / 9223372036854775808) == 1) false))))) = some (r1, r2) := H
 have A3 := Aside0.mk A30
 clear A30
 by_cases c4 : t403 = 4
 ·
  rw [if_pos c4] at H
  have c4b0 : (t403 == 4) = true := beq_iff_eq.mpr c4
  have c4b1 : (t403 != 4) = false := bne_eq_false_iff_eq.mpr c4
  clear c4
  simp only [Option.some.injEq, Prod.mk.injEq] at H
  obtain ⟨rfl, rfl⟩ := H
  go_enter Try.func21, Try.ntmps21
  go_wp2_with (first | ((with_reducible refine gate_callee (f := 53) rfl ?_); refine goesL_ (some 16) rfl rfl Try.func53 (by kernel_rfl) rfl #[.int .u64 a0] rfl (by (try simp only [List.map_toArray, List.map_cons, List.map_nil]); first | done | rfl | (simp only [List.length_drop, List.length_take]; rfl)) ?_; (with_reducible refine (flyballref04_Class.calls k a0 t403 _ A3.out).mono ?_); rintro e w' ⟨rfl, ⟨nd, rfl⟩⟩; refine ⟨_, rfl, ?_⟩))
  go_ret2
  exact ⟨by first | rfl | (simp [errW_none, errW_some] <;> rfl) | (simp [*, errW_none, errW_some] <;> rfl), by repeat (first | (with_reducible first | exact HB.out | apply below_alloc | apply pw_below_drewN | apply below_drew1) | exact HB.out)⟩
 ·
  rw [if_neg c4] at H
  have c4b0 : (t403 == 4) = false := beq_eq_false_iff_ne.mpr c4
  have c4b1 : (t403 != 4) = true := bne_iff_ne.mpr c4
  by_cases c5 : t403 = 3
  ·
   rw [if_pos c5] at H
   have c5b0 : (t403 == 3) = true := beq_iff_eq.mpr c5
   have c5b1 : (t403 != 3) = false := bne_eq_false_iff_eq.mpr c5
   clear c5
   simp only [Option.some.injEq, Prod.mk.injEq] at H
   obtain ⟨rfl, rfl⟩ := H
   go_enter Try.func21, Try.ntmps21
   go_wp2_with (first | ((with_reducible refine gate_callee (f := 53) rfl ?_); refine goesL_ (some 16) rfl rfl Try.func53 (by kernel_rfl) rfl #[.int .u64 a0] rfl (by (try simp only [List.map_toArray, List.map_cons, List.map_nil]); first | done | rfl | (simp only [List.length_drop, List.length_take]; rfl)) ?_; (with_reducible refine (flyballref04_Class.calls k a0 t403 _ A3.out).mono ?_); rintro e w' ⟨rfl, ⟨nd, rfl⟩⟩; refine ⟨_, rfl, ?_⟩))
   go_ret2
   exact ⟨by first | rfl | (simp [errW_none, errW_some] <;> rfl) | (simp [*, errW_none, errW_some] <;> rfl), by repeat (first | (with_reducible first | exact HB.out | apply below_alloc | apply pw_below_drewN | apply below_drew1) | exact HB.out)⟩
  ·
   rw [if_neg c5] at H
   have c5b0 : (t403 == 3) = false := beq_eq_false_iff_ne.mpr c5
   have c5b1 : (t403 != 3) = true := bne_iff_ne.mpr c5
   replace H := Option.bind_eq_some_iff.mp H
   obtain ⟨⟨t404, t405, t406⟩, A60, H⟩ := H
   replace H : (if (t404.length : Int) > 0 then (if 0 < (t404.length : Int) then (flyballref07_Whole.j0 k a1 t404 t405 t406 ((a0 / 9223372036854775808) == 1) (rdOf false t404 0)) else (none)) else (flyballref07_Whole.j0 k a1 t404 t405 t406 ((a0 / 9223372036854775808) == 1) false)) = some (r1, r2) := H
   have A6 := Aside0.mk A60
   clear A60
   have HC7 := Aside0.mk H
   clear H
   go_enter Try.func21, Try.ntmps21
   go_upto_region 8 with (first | ((with_reducible refine gate_callee (f := 53) rfl ?_); refine goesL_ (some 16) rfl rfl Try.func53 (by kernel_rfl) rfl #[.int .u64 a0] rfl (by (try simp only [List.map_toArray, List.map_cons, List.map_nil]); first | done | rfl | (simp only [List.length_drop, List.length_take]; rfl)) ?_; (with_reducible refine (flyballref04_Class.calls k a0 t403 _ A3.out).mono ?_); rintro e w' ⟨rfl, ⟨nd, rfl⟩⟩; refine ⟨_, rfl, ?_⟩) | ((with_reducible refine gate_callee (f := 46) rfl ?_); refine goesL_ (some 24) rfl rfl Try.func46 (by kernel_rfl) rfl #[.int .u64 a0] rfl (by (try simp only [List.map_toArray, List.map_cons, List.map_nil]); first | done | rfl | (simp only [List.length_drop, List.length_take]; rfl)) ?_; (with_reducible refine (flyballref07_parts.calls k a0 t404 t405 t406 _ A6.out).mono ?_); rintro e w8 ⟨v407, rfl, ho0, hb⟩; refine ⟨_, rfl, ?_⟩; have n0_ := Aside0.mk (Kd.Q_lower ho0 (below_size (by repeat (first | (with_reducible first | exact HB.out | apply below_alloc | apply pw_below_drewN | apply below_drew1) | exact HB.out)))); have n1_ := Aside0.mk (below_step (by repeat (first | (with_reducible first | exact HB.out | apply below_alloc | apply pw_below_drewN | apply below_drew1) | exact HB.out)) hb); clear HB; have HO408 := n0_; have HB := n1_; clear n0_ n1_; (try clear hb); (try clear hb2); (try clear hk); (try clear hi); (try clear ho0)))
   (try simp only [Act.put, List.setIfInBounds_toArray, List.set_cons_zero, List.set_cons_succ])
   go_cut [11] (fun v11 wc => ∃ (kq : Nat) (x11_6 : Bool), v11 = .bool x11_6 ∧ Aside0 (flyballref07_Whole.j0 kq a1 t404 t405 t406 ((a0 / 9223372036854775808) == 1) x11_6 = some (r1, r2)) ∧ Aside0 (kq ≤ k) ∧ Aside0 (Kd.Q Kd.bool 4 wc w.heap.size (fun _ => True) v407 t404) ∧ Aside0 (Below w.heap.size w wc))
   case first =>
    have H := HC7.out
    clear HC7
    by_cases c9 : (t404.length : Int) > 0
    ·
     rw [if_pos c9] at H
     have c9b0 : decide (0 < (t404.length : Int)) = true := decide_eq_true c9
     have c9b1 : decide (0 < t404.length) = true := decide_eq_true (by omega)
     clear c9
     (first | rw [c9b0] | (simp only [i64_w, i32_w]; rw [c9b0]) | skip)
     by_cases c10 : 0 < (t404.length : Int)
     ·
      rw [if_pos c10] at H
      have c10b0 : decide (0 < (t404.length : Int)) = true := decide_eq_true c10
      have c10b1 : decide (0 < t404.length) = true := decide_eq_true (by omega)
      clear c10
      have H' := Aside0.mk H
      clear H
      obtain ⟨Ao11, co11, eo11, _⟩ := Kd.Q_slice HO408.out
      subst eo11
      have p409 : 0 ≤ (0 : Int) := (by omega)
      have q409 : 0 < (t404.length : Int) := of_decide_eq_true (by first | (with_reducible assumption) | assumption)
      obtain ⟨ad409, e409, hx409_0⟩ := Kd.at_bool (Kd.Q_reads' HO408.out).2.2 0 p409 q409
      cases e409
      have qi409 : (0 < t404.length) = True := eq_true (by omega)
      (try rw [show ((0 : Int)).toNat = 0 from rfl] at hx409_0)
      (try rw [Addr.add_zero'] at hx409_0)
      replace p409 := eq_true p409
      replace q409 := eq_true q409
      go_wp2
      go_meet
      case rel => exact ⟨_, (rdOf false t404 0), (by first | rfl | (simp; done) | (simp [*]; done)), H', ⟨by first | omega | exact Nat.le_refl _⟩, ⟨by (with_reducible repeat (first | apply Kd.Q_alloc | apply Kd.Q_drewN | apply Kd.Q_drew)); exact HO408.out⟩, ⟨by repeat (first | (with_reducible first | exact HB.out | apply below_alloc | apply pw_below_drewN | apply below_drew1) | exact HB.out)⟩⟩
     ·
      rw [if_neg c10] at H
      exact absurd H (by simp)
    ·
     rw [if_neg c9] at H
     have c9b0 : decide (0 < (t404.length : Int)) = false := decide_eq_false c9
     have c9b1 : decide (0 < t404.length) = false := decide_eq_false (by omega)
     clear c9
     (first | rw [c9b0] | (simp only [i64_w, i32_w]; rw [c9b0]) | skip)
     have H' := Aside0.mk H
     clear H
     obtain ⟨Ao12, co12, eo12, _⟩ := Kd.Q_slice HO408.out
     subst eo12
     go_wp2
     go_meet
     case rel => exact ⟨_, (false), (by first | rfl | (simp; done) | (simp [*]; done)), H', ⟨by first | omega | exact Nat.le_refl _⟩, ⟨by (with_reducible repeat (first | apply Kd.Q_alloc | apply Kd.Q_drewN | apply Kd.Q_drew)); exact HO408.out⟩, ⟨by repeat (first | (with_reducible first | exact HB.out | apply below_alloc | apply pw_below_drewN | apply below_drew1) | exact HB.out)⟩⟩
   case rest =>
    clear HC7
    try clear c1
    try clear c2
    try clear p2
    try clear c4
    try clear c4b0
    try clear c4b1
    try clear p4
    try clear q4
    try clear hx4
    try clear qi4
    try clear c5
    try clear c5b0
    try clear c5b1
    try clear c9
    try clear c9b0
    try clear c9b1
    try clear c10
    try clear c10b0
    try clear c10b1
    try clear hx409_0
    try clear p409
    try clear q409
    obtain ⟨kq, x11_6, rfl, HA, HJ6, HO_7, HB⟩ := hcut
    cases kq with
    | zero => exact absurd HA.out (by simp [flyballref07_Whole.j0])
    | succ kj6 =>
     have H := HA.out
     clear HA
     simp only [flyballref07_Whole.j0] at H
     have HC13 := Aside0.mk H
     clear H
     go_upto_region 9 with (fail)
     go_cut [12] (fun v12 wc => ∃ (kq : Nat) (x12_12 : Bool), v12 = .bool x12_12 ∧ Aside0 (flyballref07_Whole.j1 kq a1 t404 t405 ((a0 / 9223372036854775808) == 1) x12_12 = some (r1, r2)) ∧ Aside0 (kq ≤ kj6) ∧ Aside0 (Kd.Q Kd.bool 4 wc w.heap.size (fun _ => True) v407 t404) ∧ Aside0 (Below w.heap.size w wc))
     case first =>
      have H := HC13.out
      clear HC13
      by_cases c14 : t406 > 0
      ·
       rw [if_pos c14] at H
       have c14b0 : decide (0 < t406) = true := decide_eq_true c14
       clear c14
       (first | rw [c14b0] | (simp only [i64_w, i32_w]; rw [c14b0]) | skip)
       have H' := Aside0.mk H
       clear H
       go_wp2
       go_meet
       case rel => exact ⟨_, (true), (by first | rfl | (simp; done) | (simp [*]; done)), H', ⟨by have := HJ6.out; first | omega | exact Nat.le_refl _⟩, ⟨by (with_reducible repeat (first | apply Kd.Q_alloc | apply Kd.Q_drewN | apply Kd.Q_drew)); exact HO_7.out⟩, ⟨by repeat (first | (with_reducible first | exact HB.out | apply below_alloc | apply pw_below_drewN | apply below_drew1) | exact HB.out)⟩⟩
      ·
       rw [if_neg c14] at H
       have c14b0 : decide (0 < t406) = false := decide_eq_false c14
       clear c14
       (first | rw [c14b0] | (simp only [i64_w, i32_w]; rw [c14b0]) | skip)
       by_cases c15 : t406 = 0
       ·
        rw [if_pos c15] at H
        have c15b0 : (t406 == 0) = true := beq_iff_eq.mpr c15
        have c15b1 : (t406 != 0) = false := bne_eq_false_iff_eq.mpr c15
        clear c15
        have H' := Aside0.mk H
        clear H
        go_wp2
        go_meet
        case rel => exact ⟨_, (x11_6), (by first | rfl | (simp; done) | (simp [*]; done)), H', ⟨by have := HJ6.out; first | omega | exact Nat.le_refl _⟩, ⟨by (with_reducible repeat (first | apply Kd.Q_alloc | apply Kd.Q_drewN | apply Kd.Q_drew)); exact HO_7.out⟩, ⟨by repeat (first | (with_reducible first | exact HB.out | apply below_alloc | apply pw_below_drewN | apply below_drew1) | exact HB.out)⟩⟩
       ·
        rw [if_neg c15] at H
        have c15b0 : (t406 == 0) = false := beq_eq_false_iff_ne.mpr c15
        have c15b1 : (t406 != 0) = true := bne_iff_ne.mpr c15
        have H' := Aside0.mk H
        clear H
        go_wp2
        go_meet
        case rel => exact ⟨_, (false), (by first | rfl | (simp; done) | (simp [*]; done)), H', ⟨by have := HJ6.out; first | omega | exact Nat.le_refl _⟩, ⟨by (with_reducible repeat (first | apply Kd.Q_alloc | apply Kd.Q_drewN | apply Kd.Q_drew)); exact HO_7.out⟩, ⟨by repeat (first | (with_reducible first | exact HB.out | apply below_alloc | apply pw_below_drewN | apply below_drew1) | exact HB.out)⟩⟩
     case rest =>
      clear HC13
      try clear c1
      try clear c2
      try clear p2
      try clear c4
      try clear c4b0
      try clear c4b1
      try clear p4
      try clear q4
      try clear hx4
      try clear qi4
      try clear c5
      try clear c5b0
      try clear c5b1
      try clear c9
      try clear c9b0
      try clear c9b1
      try clear c10
      try clear c10b0
      try clear c10b1
      try clear c14
      try clear c14b0
      try clear c15
      try clear c15b0
      try clear c15b1
      try clear hx409_0
      try clear p2
      try clear p4
      try clear p409
      try clear q4
      try clear q409
      obtain ⟨kq, x12_12, rfl, HA, HJ12, HO_7, HB⟩ := hcut
      cases kq with
      | zero => exact absurd HA.out (by simp [flyballref07_Whole.j1])
      | succ kj12 =>
       have H := HA.out
       clear HA
       simp only [flyballref07_Whole.j1] at H
       have HC16 := Aside0.mk H
       clear H
       go_upto_if 49 with (fail)
       go_cut [12] (fun v12 wc => ∃ (kq : Nat) (x12_15 : Bool), v12 = .bool x12_15 ∧ Aside0 (flyballref07_Whole.j2 kq t404 t405 ((a0 / 9223372036854775808) == 1) x12_15 = some (r1, r2)) ∧ Aside0 (kq ≤ kj12) ∧ Aside0 (Kd.Q Kd.bool 4 wc w.heap.size (fun _ => True) v407 t404) ∧ Aside0 (Below w.heap.size w wc))
       case first =>
        have H := HC16.out
        clear HC16
        by_cases c17 : a1 = 1
        ·
         rw [if_pos c17] at H
         have c17b0 : (a1 == 1) = true := beq_iff_eq.mpr c17
         have c17b1 : (a1 != 1) = false := bne_eq_false_iff_eq.mpr c17
         clear c17
         (first | rw [c17b0] | (simp only [i64_w, i32_w]; rw [c17b0]) | skip)
         by_cases c18 : t405 = true
         ·
          subst c18
          have H1 : (flyballref07_Whole.j2 kj12 t404 true ((a0 / 9223372036854775808) == 1) (!((a0 / 9223372036854775808) == 1))) = some (r1, r2) := by rw [if_pos rfl] at H; exact H
          clear H
          have H := H1
          clear H1
          have H' := Aside0.mk H
          clear H
          go_wp2
          go_meet
          case rel => exact ⟨_, (!((a0 / 9223372036854775808) == 1)), (by first | rfl | (simp; done) | (simp [*]; done)), H', ⟨by have := HJ6.out; have := HJ12.out; first | omega | exact Nat.le_refl _⟩, ⟨by (with_reducible repeat (first | apply Kd.Q_alloc | apply Kd.Q_drewN | apply Kd.Q_drew)); exact HO_7.out⟩, ⟨by repeat (first | (with_reducible first | exact HB.out | apply below_alloc | apply pw_below_drewN | apply below_drew1) | exact HB.out)⟩⟩
         ·
          replace c18 := Bool.eq_false_iff.mpr c18
          subst c18
          have H1 : (flyballref07_Whole.j2 kj12 t404 false ((a0 / 9223372036854775808) == 1) false) = some (r1, r2) := by rw [if_neg (show ¬ (false = true) by decide)] at H; exact H
          clear H
          have H := H1
          clear H1
          have H' := Aside0.mk H
          clear H
          go_wp2
          go_meet
          case rel => exact ⟨_, (false), (by first | rfl | (simp; done) | (simp [*]; done)), H', ⟨by have := HJ6.out; have := HJ12.out; first | omega | exact Nat.le_refl _⟩, ⟨by (with_reducible repeat (first | apply Kd.Q_alloc | apply Kd.Q_drewN | apply Kd.Q_drew)); exact HO_7.out⟩, ⟨by repeat (first | (with_reducible first | exact HB.out | apply below_alloc | apply pw_below_drewN | apply below_drew1) | exact HB.out)⟩⟩
        ·
         rw [if_neg c17] at H
         have c17b0 : (a1 == 1) = false := beq_eq_false_iff_ne.mpr c17
         have c17b1 : (a1 != 1) = true := bne_iff_ne.mpr c17
         (first | rw [c17b0] | (simp only [i64_w, i32_w]; rw [c17b0]) | skip)
         by_cases c19 : a1 = 2
         ·
          rw [if_pos c19] at H
          have c19b0 : (a1 == 2) = true := beq_iff_eq.mpr c19
          have c19b1 : (a1 != 2) = false := bne_eq_false_iff_eq.mpr c19
          clear c19
          by_cases c20 : t405 = true
          ·
           subst c20
           have H1 : (flyballref07_Whole.j2 kj12 t404 true ((a0 / 9223372036854775808) == 1) ((a0 / 9223372036854775808) == 1)) = some (r1, r2) := by rw [if_pos rfl] at H; exact H
           clear H
           have H := H1
           clear H1
           have H' := Aside0.mk H
           clear H
           go_wp2
           go_meet
           case rel => exact ⟨_, (((a0 / 9223372036854775808) == 1)), (by first | rfl | (simp; done) | (simp [*]; done)), H', ⟨by have := HJ6.out; have := HJ12.out; first | omega | exact Nat.le_refl _⟩, ⟨by (with_reducible repeat (first | apply Kd.Q_alloc | apply Kd.Q_drewN | apply Kd.Q_drew)); exact HO_7.out⟩, ⟨by repeat (first | (with_reducible first | exact HB.out | apply below_alloc | apply pw_below_drewN | apply below_drew1) | exact HB.out)⟩⟩
          ·
           replace c20 := Bool.eq_false_iff.mpr c20
           subst c20
           have H1 : (flyballref07_Whole.j2 kj12 t404 false ((a0 / 9223372036854775808) == 1) false) = some (r1, r2) := by rw [if_neg (show ¬ (false = true) by decide)] at H; exact H
           clear H
           have H := H1
           clear H1
           have H' := Aside0.mk H
           clear H
           go_wp2
           go_meet
           case rel => exact ⟨_, (false), (by first | rfl | (simp; done) | (simp [*]; done)), H', ⟨by have := HJ6.out; have := HJ12.out; first | omega | exact Nat.le_refl _⟩, ⟨by (with_reducible repeat (first | apply Kd.Q_alloc | apply Kd.Q_drewN | apply Kd.Q_drew)); exact HO_7.out⟩, ⟨by repeat (first | (with_reducible first | exact HB.out | apply below_alloc | apply pw_below_drewN | apply below_drew1) | exact HB.out)⟩⟩
         ·
          rw [if_neg c19] at H
          have c19b0 : (a1 == 2) = false := beq_eq_false_iff_ne.mpr c19
          have c19b1 : (a1 != 2) = true := bne_iff_ne.mpr c19
          have H' := Aside0.mk H
          clear H
          go_wp2
          go_meet
          case rel => exact ⟨_, (x12_12), (by first | rfl | (simp; done) | (simp [*]; done)), H', ⟨by have := HJ6.out; have := HJ12.out; first | omega | exact Nat.le_refl _⟩, ⟨by (with_reducible repeat (first | apply Kd.Q_alloc | apply Kd.Q_drewN | apply Kd.Q_drew)); exact HO_7.out⟩, ⟨by repeat (first | (with_reducible first | exact HB.out | apply below_alloc | apply pw_below_drewN | apply below_drew1) | exact HB.out)⟩⟩
       case rest =>
        clear HC16
        try clear c1
        try clear c2
        try clear p2
        try clear c4
        try clear c4b0
        try clear c4b1
        try clear p4
        try clear q4
        try clear hx4
        try clear qi4
        try clear c5
        try clear c5b0
        try clear c5b1
        try clear c9
        try clear c9b0
        try clear c9b1
        try clear c10
        try clear c10b0
        try clear c10b1
        try clear c14
        try clear c14b0
        try clear c15
        try clear c15b0
        try clear c15b1
        try clear c17
        try clear c17b0
        try clear c17b1
        try clear c18
        try clear c19
        try clear c19b0
        try clear c19b1
        try clear c20
        try clear hx409_0
        try clear p2
        try clear p4
        try clear p409
        try clear q4
        try clear q409
        obtain ⟨kq, x12_15, rfl, HA, HJ15, HO_7, HB⟩ := hcut
        cases kq with
        | zero => exact absurd HA.out (by simp [flyballref07_Whole.j2])
        | succ kj15 =>
         have H := HA.out
         clear HA
         simp only [flyballref07_Whole.j2] at H
         by_cases c21 : x12_15 = true
         ·
          subst c21
          have H1 : ((flyballref01_Add.f kj15 t404 (([true] : List Bool))).bind fun t413 => ((flyballref05_Round.f kj15 ((a0 / 9223372036854775808) == 1) t413 0 false 0).bind fun bt416 => (if t405 = true then (some (bt416.1, 1)) else (some (bt416.1, 0))))) = some (r1, r2) := by rw [if_pos rfl] at H; exact H
          clear H
          have H := H1
          clear H1
          obtain ⟨y410, hy410⟩ : ∃ y_ : List Bool, y_ = (([true] : List Bool)) := ⟨_, rfl⟩
          replace H : ((flyballref01_Add.f kj15 t404 y410).bind fun t413 => ((flyballref05_Round.f kj15 ((a0 / 9223372036854775808) == 1) t413 0 false 0).bind fun bt416 => (if t405 = true then (some (bt416.1, 1)) else (some (bt416.1, 0))))) = some (r1, r2) := by first | (rw [hy410]; with_reducible exact H) | (have H2_ := (Option.bind_some _ _).symm.trans H; rw [hy410]; with_reducible exact H2_) | (have H2_ := (Option.bind_some _ _).symm.trans H; with_reducible exact H2_) | with_reducible exact H | (rw [hy410]; exact H) | exact H
          have Ny410 := Aside0.mk hy410
          clear hy410
          replace H := Option.bind_eq_some_iff.mp H
          obtain ⟨t413, A220, H⟩ := H
          replace H : ((flyballref05_Round.f kj15 ((a0 / 9223372036854775808) == 1) t413 0 false 0).bind fun bt416 => (if t405 = true then (some (bt416.1, 1)) else (some (bt416.1, 0)))) = some (r1, r2) := H
          have A22 := Aside0.mk A220
          clear A220
          replace H := Option.bind_eq_some_iff.mp H
          obtain ⟨⟨t416, t417⟩, A230, H⟩ := H
          replace H : (if t405 = true then (some (t416, 1)) else (some (t416, 0))) = some (r1, r2) := H
          have A23 := Aside0.mk A230
          clear A230
          by_cases c24 : t405 = true
          ·
           subst c24
           have H1 : (some (t416, 1)) = some (r1, r2) := by rw [if_pos rfl] at H; exact H
           clear H
           have H := H1
           clear H1
           simp only [Option.some.injEq, Prod.mk.injEq] at H
           obtain ⟨rfl, rfl⟩ := H
           go_wp2_with (first | ((with_reducible refine gate_dst (N := 63) rfl ?_); refine Kd.R_lit Kd.bool _ 4 ?hg (N := 63) ?hd (xs := ([true] : List Bool)) (inner := [.bool true]) (ok := fun _ => True) (okp := fun _ => True) ?hr ?hp (fun _ hk => hk) trivial (Below.refl _ _) (Nat.le_refl _) (by simp) ?_; (case hd => rfl); (case hg => rfl); (case hr => first | (go_simp; done) | (go_simp; rfl)); (case hp => exact (Reps.one (show Kd.M Kd.bool _ _ _ true [.bool true] from rfl) (Reps.none _ _))); intro v411 w25 ho26 hb hg_ hnew_; clear hg_ hnew_; (first | rw [← Ny410.out] at ho26 | (simp only [Int.reduceToNat] at ho26; rw [← Ny410.out] at ho26)); have n0_ := Aside0.mk (Kd.Q_elder' (by (with_reducible repeat (first | apply Kd.Q_alloc | apply Kd.Q_drewN | apply Kd.Q_drew)); exact HO_7.out) (Kd.R_base ho26) hb); have n1_ := Aside0.mk (Kd.R_lower (Kd.R_new' ho26 (Kd.Q_lt (by (with_reducible repeat (first | apply Kd.Q_alloc | apply Kd.Q_drewN | apply Kd.Q_drew)); exact HO_7.out))) (below_size (by repeat (first | (with_reducible first | exact HB.out | apply below_alloc | apply pw_below_drewN | apply below_drew1) | exact HB.out)))); have n2_ := Aside0.mk (below_step (by repeat (first | (with_reducible first | exact HB.out | apply below_alloc | apply pw_below_drewN | apply below_drew1) | exact HB.out)) hb); clear HO_7; clear HB; have HO_7 := n0_; have HO412 := n1_; have HB := n2_; clear n0_ n1_ n2_; clear hb ho26; obtain ⟨Ao27, co27, eo27, _⟩ := Kd.Q_slice HO_7.out; subst eo27; obtain ⟨Ao28, co28, eo28⟩ := Kd.R_slice HO412.out; subst eo28) | ((with_reducible refine gate_callee (f := 54) rfl ?_); refine goesL_ (some 64) rfl rfl Try.func54 (by kernel_rfl) rfl #[.slice Ao27 t404.length co27, .slice Ao28 y410.length co28] rfl (by (try simp only [List.map_toArray, List.map_cons, List.map_nil]); first | done | rfl | (simp only [List.length_drop, List.length_take]; rfl)) ?_; (with_reducible refine (flyballref01_Add.calls kj15 _ _ t404 _ _ y410 t413 _ ?side1 ?side2 ?side3 ?side4 A22.out).mono ?_); (case side1 => repeat (first | exact (Kd.Q_reads' HO_7.out).2.2 | (with_reducible refine Kd.C_alloc ?_ _) | (with_reducible refine Kd.C_drewN ?_ _) | (with_reducible refine Kd.C_drew ?_))); (case side2 => exact (Kd.Q_reads' HO_7.out).2.1); (case side3 => repeat (first | exact (Kd.R_reads' HO412.out).2.2 | (with_reducible refine Kd.C_alloc ?_ _) | (with_reducible refine Kd.C_drewN ?_ _) | (with_reducible refine Kd.C_drew ?_))); (case side4 => exact (Kd.R_reads' HO412.out).2.1); rintro e w29 ⟨v414, rfl, ho0, hb⟩; refine ⟨_, rfl, ?_⟩; have n0_ := Aside0.mk (Kd.Q_elder' (by (with_reducible repeat (first | apply Kd.Q_alloc | apply Kd.Q_drewN | apply Kd.Q_drew)); exact HO_7.out) (Kd.R_base ho0) hb); have n1_ := Aside0.mk (Kd.R_elder' (by (with_reducible repeat (first | apply Kd.R_alloc | apply Kd.R_drewN | apply Kd.R_drew)); exact HO412.out) (Kd.R_base ho0) hb); have n2_ := Aside0.mk (Kd.R_lower (Kd.R_new' (Kd.R_new' ho0 (Kd.Q_lt (by (with_reducible repeat (first | apply Kd.Q_alloc | apply Kd.Q_drewN | apply Kd.Q_drew)); exact HO_7.out))) (Kd.R_lt (by (with_reducible repeat (first | apply Kd.R_alloc | apply Kd.R_drewN | apply Kd.R_drew)); exact HO412.out))) (below_size (by repeat (first | (with_reducible first | exact HB.out | apply below_alloc | apply pw_below_drewN | apply below_drew1) | exact HB.out)))); have n3_ := Aside0.mk (below_step (by repeat (first | (with_reducible first | exact HB.out | apply below_alloc | apply pw_below_drewN | apply below_drew1) | exact HB.out)) hb); clear HO_7; clear HO412; clear HB; have HO_7 := n0_; have HO412 := n1_; have HO415 := n2_; have HB := n3_; clear n0_ n1_ n2_ n3_; (try clear hb); (try clear hb2); (try clear hk); (try clear hi); (try clear ho0); obtain ⟨Ao30, co30, eo30⟩ := Kd.R_slice HO415.out; subst eo30) | ((with_reducible refine gate_callee (f := 24) rfl ?_); refine goesL_ (some 68) rfl rfl Try.func24 (by kernel_rfl) rfl #[.bool ((a0 / 9223372036854775808) == 1), .slice Ao30 t413.length co30, .int .i64 0, .bool false, .int .u8 0] rfl (by (try simp only [List.map_toArray, List.map_cons, List.map_nil]); first | done | rfl | (simp only [List.length_drop, List.length_take]; rfl)) ?_; (with_reducible refine (flyballref05_Round.calls kj15 ((a0 / 9223372036854775808) == 1) _ _ t413 0 false 0 t416 t417 _ ?side1 ?side2 A23.out).mono ?_); (case side1 => repeat (first | exact (Kd.R_reads' HO415.out).2.2 | (with_reducible refine Kd.C_alloc ?_ _) | (with_reducible refine Kd.C_drewN ?_ _) | (with_reducible refine Kd.C_drew ?_))); (case side2 => exact (Kd.R_reads' HO415.out).2.1); rintro e w31 ⟨rfl, hb⟩; refine ⟨_, rfl, ?_⟩; have n0_ := Aside0.mk (Kd.Q_below (by (with_reducible repeat (first | apply Kd.Q_alloc | apply Kd.Q_drewN | apply Kd.Q_drew)); exact HO_7.out) hb); have n1_ := Aside0.mk (Kd.R_below (by (with_reducible repeat (first | apply Kd.R_alloc | apply Kd.R_drewN | apply Kd.R_drew)); exact HO412.out) hb); have n2_ := Aside0.mk (Kd.R_below (by (with_reducible repeat (first | apply Kd.R_alloc | apply Kd.R_drewN | apply Kd.R_drew)); exact HO415.out) hb); have n3_ := Aside0.mk (below_step (by repeat (first | (with_reducible first | exact HB.out | apply below_alloc | apply pw_below_drewN | apply below_drew1) | exact HB.out)) hb); clear HO_7; clear HO412; clear HO415; clear HB; have HO_7 := n0_; have HO412 := n1_; have HO415 := n2_; have HB := n3_; clear n0_ n1_ n2_ n3_; (try clear hb); (try clear hb2); (try clear hk); (try clear hi)))
           go_ret2
           exact ⟨by first | rfl | (simp [errW_none, errW_some] <;> rfl) | (simp [*, errW_none, errW_some] <;> rfl), by repeat (first | (with_reducible first | exact HB.out | apply below_alloc | apply pw_below_drewN | apply below_drew1) | exact HB.out)⟩
          ·
           replace c24 := Bool.eq_false_iff.mpr c24
           subst c24
           have H1 : (some (t416, 0)) = some (r1, r2) := by rw [if_neg (show ¬ (false = true) by decide)] at H; exact H
           clear H
           have H := H1
           clear H1
           simp only [Option.some.injEq, Prod.mk.injEq] at H
           obtain ⟨rfl, rfl⟩ := H
           go_wp2_with (first | ((with_reducible refine gate_dst (N := 63) rfl ?_); refine Kd.R_lit Kd.bool _ 4 ?hg (N := 63) ?hd (xs := ([true] : List Bool)) (inner := [.bool true]) (ok := fun _ => True) (okp := fun _ => True) ?hr ?hp (fun _ hk => hk) trivial (Below.refl _ _) (Nat.le_refl _) (by simp) ?_; (case hd => rfl); (case hg => rfl); (case hr => first | (go_simp; done) | (go_simp; rfl)); (case hp => exact (Reps.one (show Kd.M Kd.bool _ _ _ true [.bool true] from rfl) (Reps.none _ _))); intro v411 w32 ho33 hb hg_ hnew_; clear hg_ hnew_; (first | rw [← Ny410.out] at ho33 | (simp only [Int.reduceToNat] at ho33; rw [← Ny410.out] at ho33)); have n0_ := Aside0.mk (Kd.Q_elder' (by (with_reducible repeat (first | apply Kd.Q_alloc | apply Kd.Q_drewN | apply Kd.Q_drew)); exact HO_7.out) (Kd.R_base ho33) hb); have n1_ := Aside0.mk (Kd.R_lower (Kd.R_new' ho33 (Kd.Q_lt (by (with_reducible repeat (first | apply Kd.Q_alloc | apply Kd.Q_drewN | apply Kd.Q_drew)); exact HO_7.out))) (below_size (by repeat (first | (with_reducible first | exact HB.out | apply below_alloc | apply pw_below_drewN | apply below_drew1) | exact HB.out)))); have n2_ := Aside0.mk (below_step (by repeat (first | (with_reducible first | exact HB.out | apply below_alloc | apply pw_below_drewN | apply below_drew1) | exact HB.out)) hb); clear HO_7; clear HB; have HO_7 := n0_; have HO412 := n1_; have HB := n2_; clear n0_ n1_ n2_; clear hb ho33; obtain ⟨Ao34, co34, eo34, _⟩ := Kd.Q_slice HO_7.out; subst eo34; obtain ⟨Ao35, co35, eo35⟩ := Kd.R_slice HO412.out; subst eo35) | ((with_reducible refine gate_callee (f := 54) rfl ?_); refine goesL_ (some 64) rfl rfl Try.func54 (by kernel_rfl) rfl #[.slice Ao34 t404.length co34, .slice Ao35 y410.length co35] rfl (by (try simp only [List.map_toArray, List.map_cons, List.map_nil]); first | done | rfl | (simp only [List.length_drop, List.length_take]; rfl)) ?_; (with_reducible refine (flyballref01_Add.calls kj15 _ _ t404 _ _ y410 t413 _ ?side1 ?side2 ?side3 ?side4 A22.out).mono ?_); (case side1 => repeat (first | exact (Kd.Q_reads' HO_7.out).2.2 | (with_reducible refine Kd.C_alloc ?_ _) | (with_reducible refine Kd.C_drewN ?_ _) | (with_reducible refine Kd.C_drew ?_))); (case side2 => exact (Kd.Q_reads' HO_7.out).2.1); (case side3 => repeat (first | exact (Kd.R_reads' HO412.out).2.2 | (with_reducible refine Kd.C_alloc ?_ _) | (with_reducible refine Kd.C_drewN ?_ _) | (with_reducible refine Kd.C_drew ?_))); (case side4 => exact (Kd.R_reads' HO412.out).2.1); rintro e w36 ⟨v414, rfl, ho0, hb⟩; refine ⟨_, rfl, ?_⟩; have n0_ := Aside0.mk (Kd.Q_elder' (by (with_reducible repeat (first | apply Kd.Q_alloc | apply Kd.Q_drewN | apply Kd.Q_drew)); exact HO_7.out) (Kd.R_base ho0) hb); have n1_ := Aside0.mk (Kd.R_elder' (by (with_reducible repeat (first | apply Kd.R_alloc | apply Kd.R_drewN | apply Kd.R_drew)); exact HO412.out) (Kd.R_base ho0) hb); have n2_ := Aside0.mk (Kd.R_lower (Kd.R_new' (Kd.R_new' ho0 (Kd.Q_lt (by (with_reducible repeat (first | apply Kd.Q_alloc | apply Kd.Q_drewN | apply Kd.Q_drew)); exact HO_7.out))) (Kd.R_lt (by (with_reducible repeat (first | apply Kd.R_alloc | apply Kd.R_drewN | apply Kd.R_drew)); exact HO412.out))) (below_size (by repeat (first | (with_reducible first | exact HB.out | apply below_alloc | apply pw_below_drewN | apply below_drew1) | exact HB.out)))); have n3_ := Aside0.mk (below_step (by repeat (first | (with_reducible first | exact HB.out | apply below_alloc | apply pw_below_drewN | apply below_drew1) | exact HB.out)) hb); clear HO_7; clear HO412; clear HB; have HO_7 := n0_; have HO412 := n1_; have HO415 := n2_; have HB := n3_; clear n0_ n1_ n2_ n3_; (try clear hb); (try clear hb2); (try clear hk); (try clear hi); (try clear ho0); obtain ⟨Ao37, co37, eo37⟩ := Kd.R_slice HO415.out; subst eo37) | ((with_reducible refine gate_callee (f := 24) rfl ?_); refine goesL_ (some 68) rfl rfl Try.func24 (by kernel_rfl) rfl #[.bool ((a0 / 9223372036854775808) == 1), .slice Ao37 t413.length co37, .int .i64 0, .bool false, .int .u8 0] rfl (by (try simp only [List.map_toArray, List.map_cons, List.map_nil]); first | done | rfl | (simp only [List.length_drop, List.length_take]; rfl)) ?_; (with_reducible refine (flyballref05_Round.calls kj15 ((a0 / 9223372036854775808) == 1) _ _ t413 0 false 0 t416 t417 _ ?side1 ?side2 A23.out).mono ?_); (case side1 => repeat (first | exact (Kd.R_reads' HO415.out).2.2 | (with_reducible refine Kd.C_alloc ?_ _) | (with_reducible refine Kd.C_drewN ?_ _) | (with_reducible refine Kd.C_drew ?_))); (case side2 => exact (Kd.R_reads' HO415.out).2.1); rintro e w38 ⟨rfl, hb⟩; refine ⟨_, rfl, ?_⟩; have n0_ := Aside0.mk (Kd.Q_below (by (with_reducible repeat (first | apply Kd.Q_alloc | apply Kd.Q_drewN | apply Kd.Q_drew)); exact HO_7.out) hb); have n1_ := Aside0.mk (Kd.R_below (by (with_reducible repeat (first | apply Kd.R_alloc | apply Kd.R_drewN | apply Kd.R_drew)); exact HO412.out) hb); have n2_ := Aside0.mk (Kd.R_below (by (with_reducible repeat (first | apply Kd.R_alloc | apply Kd.R_drewN | apply Kd.R_drew)); exact HO415.out) hb); have n3_ := Aside0.mk (below_step (by repeat (first | (with_reducible first | exact HB.out | apply below_alloc | apply pw_below_drewN | apply below_drew1) | exact HB.out)) hb); clear HO_7; clear HO412; clear HO415; clear HB; have HO_7 := n0_; have HO412 := n1_; have HO415 := n2_; have HB := n3_; clear n0_ n1_ n2_ n3_; (try clear hb); (try clear hb2); (try clear hk); (try clear hi)))
           go_ret2
           exact ⟨by first | rfl | (simp [errW_none, errW_some] <;> rfl) | (simp [*, errW_none, errW_some] <;> rfl), by repeat (first | (with_reducible first | exact HB.out | apply below_alloc | apply pw_below_drewN | apply below_drew1) | exact HB.out)⟩
         ·
          replace c21 := Bool.eq_false_iff.mpr c21
          subst c21
          have H1 : ((flyballref05_Round.f kj15 ((a0 / 9223372036854775808) == 1) t404 0 false 0).bind fun bt418 => (if t405 = true then (some (bt418.1, 1)) else (some (bt418.1, 0)))) = some (r1, r2) := by rw [if_neg (show ¬ (false = true) by decide)] at H; exact H
          clear H
          have H := H1
          clear H1
          replace H := Option.bind_eq_some_iff.mp H
          obtain ⟨⟨t418, t419⟩, A390, H⟩ := H
          replace H : (if t405 = true then (some (t418, 1)) else (some (t418, 0))) = some (r1, r2) := H
          have A39 := Aside0.mk A390
          clear A390
          by_cases c40 : t405 = true
          ·
           subst c40
           have H1 : (some (t418, 1)) = some (r1, r2) := by rw [if_pos rfl] at H; exact H
           clear H
           have H := H1
           clear H1
           simp only [Option.some.injEq, Prod.mk.injEq] at H
           obtain ⟨rfl, rfl⟩ := H
           obtain ⟨Ao41, co41, eo41, _⟩ := Kd.Q_slice HO_7.out
           subst eo41
           go_wp2_with (first | ((with_reducible refine gate_callee (f := 24) rfl ?_); refine goesL_ (some 68) rfl rfl Try.func24 (by kernel_rfl) rfl #[.bool ((a0 / 9223372036854775808) == 1), .slice Ao41 t404.length co41, .int .i64 0, .bool false, .int .u8 0] rfl (by (try simp only [List.map_toArray, List.map_cons, List.map_nil]); first | done | rfl | (simp only [List.length_drop, List.length_take]; rfl)) ?_; (with_reducible refine (flyballref05_Round.calls kj15 ((a0 / 9223372036854775808) == 1) _ _ t404 0 false 0 t418 t419 _ ?side1 ?side2 A39.out).mono ?_); (case side1 => repeat (first | exact (Kd.Q_reads' HO_7.out).2.2 | (with_reducible refine Kd.C_alloc ?_ _) | (with_reducible refine Kd.C_drewN ?_ _) | (with_reducible refine Kd.C_drew ?_))); (case side2 => exact (Kd.Q_reads' HO_7.out).2.1); rintro e w42 ⟨rfl, hb⟩; refine ⟨_, rfl, ?_⟩; have n0_ := Aside0.mk (Kd.Q_below (by (with_reducible repeat (first | apply Kd.Q_alloc | apply Kd.Q_drewN | apply Kd.Q_drew)); exact HO_7.out) hb); have n1_ := Aside0.mk (below_step (by repeat (first | (with_reducible first | exact HB.out | apply below_alloc | apply pw_below_drewN | apply below_drew1) | exact HB.out)) hb); clear HO_7; clear HB; have HO_7 := n0_; have HB := n1_; clear n0_ n1_; (try clear hb); (try clear hb2); (try clear hk); (try clear hi)))
           go_ret2
           exact ⟨by first | rfl | (simp [errW_none, errW_some] <;> rfl) | (simp [*, errW_none, errW_some] <;> rfl), by repeat (first | (with_reducible first | exact HB.out | apply below_alloc | apply pw_below_drewN | apply below_drew1) | exact HB.out)⟩
          ·
           replace c40 := Bool.eq_false_iff.mpr c40
           subst c40
           have H1 : (some (t418, 0)) = some (r1, r2) := by rw [if_neg (show ¬ (false = true) by decide)] at H; exact H
           clear H
           have H := H1
           clear H1
           simp only [Option.some.injEq, Prod.mk.injEq] at H
           obtain ⟨rfl, rfl⟩ := H
           obtain ⟨Ao43, co43, eo43, _⟩ := Kd.Q_slice HO_7.out
           subst eo43
           go_wp2_with (first | ((with_reducible refine gate_callee (f := 24) rfl ?_); refine goesL_ (some 68) rfl rfl Try.func24 (by kernel_rfl) rfl #[.bool ((a0 / 9223372036854775808) == 1), .slice Ao43 t404.length co43, .int .i64 0, .bool false, .int .u8 0] rfl (by (try simp only [List.map_toArray, List.map_cons, List.map_nil]); first | done | rfl | (simp only [List.length_drop, List.length_take]; rfl)) ?_; (with_reducible refine (flyballref05_Round.calls kj15 ((a0 / 9223372036854775808) == 1) _ _ t404 0 false 0 t418 t419 _ ?side1 ?side2 A39.out).mono ?_); (case side1 => repeat (first | exact (Kd.Q_reads' HO_7.out).2.2 | (with_reducible refine Kd.C_alloc ?_ _) | (with_reducible refine Kd.C_drewN ?_ _) | (with_reducible refine Kd.C_drew ?_))); (case side2 => exact (Kd.Q_reads' HO_7.out).2.1); rintro e w44 ⟨rfl, hb⟩; refine ⟨_, rfl, ?_⟩; have n0_ := Aside0.mk (Kd.Q_below (by (with_reducible repeat (first | apply Kd.Q_alloc | apply Kd.Q_drewN | apply Kd.Q_drew)); exact HO_7.out) hb); have n1_ := Aside0.mk (below_step (by repeat (first | (with_reducible first | exact HB.out | apply below_alloc | apply pw_below_drewN | apply below_drew1) | exact HB.out)) hb); clear HO_7; clear HB; have HO_7 := n0_; have HB := n1_; clear n0_ n1_; (try clear hb); (try clear hb2); (try clear hk); (try clear hi)))
           go_ret2
           exact ⟨by first | rfl | (simp [errW_none, errW_some] <;> rfl) | (simp [*, errW_none, errW_some] <;> rfl), by repeat (first | (with_reducible first | exact HB.out | apply below_alloc | apply pw_below_drewN | apply below_drew1) | exact HB.out)⟩

end Go.Proofs.Ytfglpaaeipblcaa.P
