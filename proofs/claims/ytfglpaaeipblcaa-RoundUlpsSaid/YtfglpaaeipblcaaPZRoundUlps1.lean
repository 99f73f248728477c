/- Walks of one package: what each function returns, wherever the Lean function beside it has an answer. -/
import Derived.Test.YtfglpaaeipblcaaP0
import Derived.Test.YtfglpaaeipblcaaPPattern1
import Derived.Test.YtfglpaaeipblcaaPRound3
import Derived.Test.YtfglpaaeipblcaaPRatio1
import Derived.Test.YtfglpaaeipblcaaPFlyballlaw051
import Derived.Test.YtfglpaaeipblcaaPFlyballref042
import Derived.Test.YtfglpaaeipblcaaPPattern2
import Derived.Test.YtfglpaaeipblcaaPRatio2
namespace Go.Proofs.Ytfglpaaeipblcaa.P
open Go.RowKit Go.Proofs.YtfglpaaeipblcaaW.PrintWords Go.Proofs.YtfglpaaeipblcaaW.PrintLast Go.Proofs.YtfglpaaeipblcaaW.PrintMore
attribute [local go_sem] max2_int min2_int max_two min_two max_three min_three max_four min_four   -- for this text's walks alone
set_option linter.unusedVariables false
set_option linter.unusedSimpArgs false

/-! ### flyballlaw05_RoundUlps: function 9 -/
def flyballlaw05_RoundUlps.f (k : Nat) (a0 : Int) : Option (Bool) := (flyballlaw05_works.f k).bind fun t620 => (if t620 = true then ((round_Ulp.f k a0).bind fun t621 => ((flyballref04_Finite.f k a0).bind fun t622 => (if t622 = true then ((flyballref04_Split.f k a0).bind fun bt624 => (if bt624.1 = 0 then (some (t621 == 1)) else ((pattern_Value.f k t621).bind fun bt626 => ((ratio_Dyad.f k false 1 bt624.2).bind fun bt635 => ((ratio_R_Cmp.f k bt626.1 bt626.2.1 bt626.2.2.1 bt635.1 bt635.2.1 bt635.2.2.1).bind fun t644 => (some (t644 == 0))))))) else ((pattern_Quiet.f).bind fun t623 => (some (t621 == t623)))))) else (some false))
theorem flyballlaw05_RoundUlps.mono : ∀ a0 k, LeO (flyballlaw05_RoundUlps.f k a0) (flyballlaw05_RoundUlps.f (k + 1) a0) := by
 intro a0 k
 unfold flyballlaw05_RoundUlps.f
 repeat' first
   | (with_reducible exact flyballlaw05_works.mono _)
   | (with_reducible exact flyballref04_Finite.mono _ _)
   | (with_reducible exact flyballref04_Split.mono _ _)
   | (with_reducible exact pattern_Value.mono _ _)
   | (with_reducible exact ratio_Dyad.mono _ _ _ _)
   | (with_reducible exact ratio_R_Cmp.mono _ _ _ _ _ _ _)
   | (with_reducible exact round_Ulp.mono _ _)
   | (with_reducible exact LeO.refl _)
   | (with_reducible exact LeO.none _)
   | (with_reducible refine LeO.ite ?_ ?_)
   | (with_reducible refine LeO.bind ?_ (fun _ => ?_))
   | exact flyballlaw05_works.mono _
   | exact flyballref04_Finite.mono _ _
   | exact flyballref04_Split.mono _ _
   | exact pattern_Value.mono _ _
   | exact ratio_Dyad.mono _ _ _ _
   | exact ratio_R_Cmp.mono _ _ _ _ _ _ _
   | exact round_Ulp.mono _ _
   | exact LeO.none _
   | refine LeO.ite ?_ ?_
   | refine LeO.bind ?_ (fun _ => ?_)
set_option maxHeartbeats 8000000 in
set_option maxRecDepth 100000 in
theorem flyballlaw05_RoundUlps.calls (k : Nat) (a0 : Int) (r : Bool) (w : World) (h : flyballlaw05_RoundUlps.f k a0 = some r) :
  Calls Try.prog 9 #[.int .u64 a0] w fun e w' => e = .returned (.bool r) ∧ Below w.heap.size w w' := by
 have hu50 := Try.underlying50
 have HB := Aside0.mk (Below.refl w.heap.size w)
 have H : ((flyballlaw05_works.f k).bind fun t620 => (if t620 = true then ((round_Ulp.f k a0).bind fun t621 => ((flyballref04_Finite.f k a0).bind fun t622 => (if t622 = true then ((flyballref04_Split.f k a0).bind fun bt624 => (if bt624.1 = 0 then (some (t621 == 1)) else ((pattern_Value.f k t621).bind fun bt626 => ((ratio_Dyad.f k false 1 bt624.2).bind fun bt635 => ((ratio_R_Cmp.f k bt626.1 bt626.2.1 bt626.2.2.1 bt635.1 bt635.2.1 bt635.2.2.1).bind fun t644 => (some (t644 == 0))))))) else ((pattern_Quiet.f).bind fun t623 => (some (t621 == t623)))))) else (some false))) = some r := h
 clear h
 replace H := Option.bind_eq_some_iff.mp H
 obtain ⟨t620, A20, H⟩ := H
 replace H : (if t620 = true then ((round_Ulp.f k a0).bind fun t621 => ((flyballref04_Finite.f k a0).bind fun t622 => (if t622 = true then ((flyballref04_Split.f k a0).bind fun bt624 => (if bt624.1 = 0 then (some (t621 == 1)) else ((pattern_Value.f k t621).bind fun bt626 => ((ratio_Dyad.f k false 1 bt624.2).bind fun bt635 => ((ratio_R_Cmp.f k bt626.1 bt626.2.1 bt626.2.2.1 bt635.1 bt635.2.1 bt635.2.2.1).bind fun t644 => (some (t644 == 0))))))) else ((pattern_Quiet.f).bind fun t623 => (some (t621 == t623)))))) else (some false)) = some r := H
 have A2 := Aside0.mk A20
 clear A20
 by_cases c3 : t620 = true
 case neg =>
  replace c3 := Bool.eq_false_iff.mpr c3
  subst c3
  have H1 : (some false) = some r := by rw [if_neg (show ¬ (false = true) by decide)] at H; exact H
  clear H
  have H := H1
  clear H1
  obtain rfl := Option.some.inj H
  go_enter Try.func9, Try.ntmps9
  go_wp2_with (first | ((with_reducible refine gate_callee (f := 22) rfl ?_); refine goesM_ (some 12) rfl rfl Try.func22 (by kernel_rfl) rfl [] rfl (by rfl) ?_; (with_reducible refine (flyballlaw05_works.calls k  false _ A2.out).mono ?_); rintro e w32 ⟨rfl, hb⟩; refine ⟨_, rfl, ?_⟩; replace HB := Aside0.mk (below_step (by with_reducible repeat (first | exact HB.out | apply ba_ | apply bn_ | apply bd_)) hb)))
  go_ret
  exact ⟨by first | rfl | (simp [errW_none, errW_some] <;> rfl) | (simp [*, errW_none, errW_some] <;> rfl), by repeat (first | (with_reducible first | exact HB.out | apply below_alloc | apply pw_below_drewN | apply below_drew1) | exact HB.out)⟩
 subst c3
 have H1 : ((round_Ulp.f k a0).bind fun t621 => ((flyballref04_Finite.f k a0).bind fun t622 => (if t622 = true then ((flyballref04_Split.f k a0).bind fun bt624 => (if bt624.1 = 0 then (some (t621 == 1)) else ((pattern_Value.f k t621).bind fun bt626 => ((ratio_Dyad.f k false 1 bt624.2).bind fun bt635 => ((ratio_R_Cmp.f k bt626.1 bt626.2.1 bt626.2.2.1 bt635.1 bt635.2.1 bt635.2.2.1).bind fun t644 => (some (t644 == 0))))))) else ((pattern_Quiet.f).bind fun t623 => (some (t621 == t623)))))) = some r := by rw [if_pos rfl] at H; exact H
 clear H
 have H := H1
 clear H1
 replace H := Option.bind_eq_some_iff.mp H
 obtain ⟨t621, A40, H⟩ := H
 replace H : ((flyballref04_Finite.f k a0).bind fun t622 => (if t622 = true then ((flyballref04_Split.f k a0).bind fun bt624 => (if bt624.1 = 0 then (some (t621 == 1)) else ((pattern_Value.f k t621).bind fun bt626 => ((ratio_Dyad.f k false 1 bt624.2).bind fun bt635 => ((ratio_R_Cmp.f k bt626.1 bt626.2.1 bt626.2.2.1 bt635.1 bt635.2.1 bt635.2.2.1).bind fun t644 => (some (t644 == 0))))))) else ((pattern_Quiet.f).bind fun t623 => (some (t621 == t623))))) = some r := H
 have A4 := Aside0.mk A40
 clear A40
 replace H := Option.bind_eq_some_iff.mp H
 obtain ⟨t622, A50, H⟩ := H
 replace H : (if t622 = true then ((flyballref04_Split.f k a0).bind fun bt624 => (if bt624.1 = 0 then (some (t621 == 1)) else ((pattern_Value.f k t621).bind fun bt626 => ((ratio_Dyad.f k false 1 bt624.2).bind fun bt635 => ((ratio_R_Cmp.f k bt626.1 bt626.2.1 bt626.2.2.1 bt635.1 bt635.2.1 bt635.2.2.1).bind fun t644 => (some (t644 == 0))))))) else ((pattern_Quiet.f).bind fun t623 => (some (t621 == t623)))) = some r := H
 have A5 := Aside0.mk A50
 clear A50
 by_cases c6 : t622 = true
 case neg =>
  replace c6 := Bool.eq_false_iff.mpr c6
  subst c6
  have H1 : ((pattern_Quiet.f).bind fun t623 => (some (t621 == t623))) = some r := by rw [if_neg (show ¬ (false = true) by decide)] at H; exact H
  clear H
  have H := H1
  clear H1
  replace H := Option.bind_eq_some_iff.mp H
  obtain ⟨t623, A290, H⟩ := H
  replace H : (some (t621 == t623)) = some r := H
  have A29 := Aside0.mk A290
  clear A290
  obtain rfl := Option.some.inj H
  go_enter Try.func9, Try.ntmps9
  go_wp2_with (first | ((with_reducible refine gate_callee (f := 22) rfl ?_); refine goesM_ (some 12) rfl rfl Try.func22 (by kernel_rfl) rfl [] rfl (by rfl) ?_; (with_reducible refine (flyballlaw05_works.calls k  true _ A2.out).mono ?_); rintro e w30 ⟨rfl, hb⟩; refine ⟨_, rfl, ?_⟩; replace HB := Aside0.mk (below_step (by with_reducible repeat (first | exact HB.out | apply ba_ | apply bn_ | apply bd_)) hb)) | ((with_reducible refine gate_callee (f := 30) rfl ?_); refine goesM_ (some 16) rfl rfl Try.func30 (by kernel_rfl) rfl [.int .u64 a0] rfl (by rfl) ?_; (with_reducible refine (round_Ulp.calls k a0 t621 _ A4.out).mono ?_); rintro e w31 ⟨rfl, hb⟩; refine ⟨_, rfl, ?_⟩; replace HB := Aside0.mk (below_step (by with_reducible repeat (first | exact HB.out | apply ba_ | apply bn_ | apply bd_)) hb)) | ((with_reducible refine gate_callee (f := 31) rfl ?_); refine goesM_ (some 18) rfl rfl Try.func31 (by kernel_rfl) rfl [.int .u64 a0] rfl (by rfl) ?_; (with_reducible refine (flyballref04_Finite.calls k a0 false _ A5.out).mono ?_); rintro e w' ⟨rfl, ⟨nd, rfl⟩⟩; refine ⟨_, rfl, ?_⟩) | (go_at_call 32; (with_reducible refine (pattern_Quiet.calls  t623 _ A29.out).mono ?_); rintro e w' ⟨rfl, ⟨nd, rfl⟩⟩))
  go_ret
  exact ⟨by first | rfl | (simp [errW_none, errW_some] <;> rfl) | (simp [*, errW_none, errW_some] <;> rfl), by repeat (first | (with_reducible first | exact HB.out | apply below_alloc | apply pw_below_drewN | apply below_drew1) | exact HB.out)⟩
 subst c6
 have H1 : ((flyballref04_Split.f k a0).bind fun bt624 => (if bt624.1 = 0 then (some (t621 == 1)) else ((pattern_Value.f k t621).bind fun bt626 => ((ratio_Dyad.f k false 1 bt624.2).bind fun bt635 => ((ratio_R_Cmp.f k bt626.1 bt626.2.1 bt626.2.2.1 bt635.1 bt635.2.1 bt635.2.2.1).bind fun t644 => (some (t644 == 0))))))) = some r := by rw [if_pos rfl] at H; exact H
 clear H
 have H := H1
 clear H1
 replace H := Option.bind_eq_some_iff.mp H
 obtain ⟨⟨t624, t625⟩, A70, H⟩ := H
 replace H : (if t624 = 0 then (some (t621 == 1)) else ((pattern_Value.f k t621).bind fun bt626 => ((ratio_Dyad.f k false 1 t625).bind fun bt635 => ((ratio_R_Cmp.f k bt626.1 bt626.2.1 bt626.2.2.1 bt635.1 bt635.2.1 bt635.2.2.1).bind fun t644 => (some (t644 == 0)))))) = some r := H
 have A7 := Aside0.mk A70
 clear A70
 by_cases c8 : t624 = 0
 case pos =>
  rw [if_pos c8] at H
  have c8b0 : (t624 == 0) = true := beq_iff_eq.mpr c8
  have c8b1 : (t624 != 0) = false := bne_eq_false_iff_eq.mpr c8
  clear c8
  obtain rfl := Option.some.inj H
  go_enter Try.func9, Try.ntmps9
  go_wp2_with (first | ((with_reducible refine gate_callee (f := 22) rfl ?_); refine goesM_ (some 12) rfl rfl Try.func22 (by kernel_rfl) rfl [] rfl (by rfl) ?_; (with_reducible refine (flyballlaw05_works.calls k  true _ A2.out).mono ?_); rintro e w9 ⟨rfl, hb⟩; refine ⟨_, rfl, ?_⟩; replace HB := Aside0.mk (below_step (by with_reducible repeat (first | exact HB.out | apply ba_ | apply bn_ | apply bd_)) hb)) | ((with_reducible refine gate_callee (f := 30) rfl ?_); refine goesM_ (some 16) rfl rfl Try.func30 (by kernel_rfl) rfl [.int .u64 a0] rfl (by rfl) ?_; (with_reducible refine (round_Ulp.calls k a0 t621 _ A4.out).mono ?_); rintro e w10 ⟨rfl, hb⟩; refine ⟨_, rfl, ?_⟩; replace HB := Aside0.mk (below_step (by with_reducible repeat (first | exact HB.out | apply ba_ | apply bn_ | apply bd_)) hb)) | ((with_reducible refine gate_callee (f := 31) rfl ?_); refine goesM_ (some 18) rfl rfl Try.func31 (by kernel_rfl) rfl [.int .u64 a0] rfl (by rfl) ?_; (with_reducible refine (flyballref04_Finite.calls k a0 true _ A5.out).mono ?_); rintro e w' ⟨rfl, ⟨nd, rfl⟩⟩; refine ⟨_, rfl, ?_⟩) | ((with_reducible refine gate_callee (f := 33) rfl ?_); refine goesM_ (some 29) rfl rfl Try.func33 (by kernel_rfl) rfl [.int .u64 a0] rfl (by rfl) ?_; (with_reducible refine (flyballref04_Split.calls k a0 t624 t625 _ A7.out).mono ?_); rintro e w' ⟨rfl, ⟨nd, rfl⟩⟩; refine ⟨_, rfl, ?_⟩))
  go_ret
  exact ⟨by first | rfl | (simp [errW_none, errW_some] <;> rfl) | (simp [*, errW_none, errW_some] <;> rfl), by repeat (first | (with_reducible first | exact HB.out | apply below_alloc | apply pw_below_drewN | apply below_drew1) | exact HB.out)⟩
 rw [if_neg c8] at H
 have c8b0 : (t624 == 0) = false := beq_eq_false_iff_ne.mpr c8
 have c8b1 : (t624 != 0) = true := bne_iff_ne.mpr c8
 replace H := Option.bind_eq_some_iff.mp H
 obtain ⟨⟨t626, t627, t630, t633⟩, A110, H⟩ := H
 replace H : ((ratio_Dyad.f k false 1 t625).bind fun bt635 => ((ratio_R_Cmp.f k t626 t627 t630 bt635.1 bt635.2.1 bt635.2.2.1).bind fun t644 => (some (t644 == 0)))) = some r := H
 have A11 := Aside0.mk A110
 clear A110
 replace H := Option.bind_eq_some_iff.mp H
 obtain ⟨⟨t635, t636, t639, t642⟩, A120, H⟩ := H
 replace H : ((ratio_R_Cmp.f k t626 t627 t630 t635 t636 t639).bind fun t644 => (some (t644 == 0))) = some r := H
 have A12 := Aside0.mk A120
 clear A120
 replace H := Option.bind_eq_some_iff.mp H
 obtain ⟨t644, A130, H⟩ := H
 replace H : (some (t644 == 0)) = some r := H
 have A13 := Aside0.mk A130
 clear A130
 obtain rfl := Option.some.inj H
 go_enter Try.func9, Try.ntmps9
 go_wp2_with (first | ((with_reducible refine gate_callee (f := 22) rfl ?_); refine goesM_ (some 12) rfl rfl Try.func22 (by kernel_rfl) rfl [] rfl (by rfl) ?_; (with_reducible refine (flyballlaw05_works.calls k  true _ A2.out).mono ?_); rintro e w14 ⟨rfl, hb⟩; refine ⟨_, rfl, ?_⟩; replace HB := Aside0.mk (below_step (by with_reducible repeat (first | exact HB.out | apply ba_ | apply bn_ | apply bd_)) hb)) | ((with_reducible refine gate_callee (f := 30) rfl ?_); refine goesM_ (some 16) rfl rfl Try.func30 (by kernel_rfl) rfl [.int .u64 a0] rfl (by rfl) ?_; (with_reducible refine (round_Ulp.calls k a0 t621 _ A4.out).mono ?_); rintro e w15 ⟨rfl, hb⟩; refine ⟨_, rfl, ?_⟩; replace HB := Aside0.mk (below_step (by with_reducible repeat (first | exact HB.out | apply ba_ | apply bn_ | apply bd_)) hb)) | ((with_reducible refine gate_callee (f := 31) rfl ?_); refine goesM_ (some 18) rfl rfl Try.func31 (by kernel_rfl) rfl [.int .u64 a0] rfl (by rfl) ?_; (with_reducible refine (flyballref04_Finite.calls k a0 true _ A5.out).mono ?_); rintro e w' ⟨rfl, ⟨nd, rfl⟩⟩; refine ⟨_, rfl, ?_⟩; (try (rw [drewN_self w15]; generalize hq_ : World.drewN w15 _ = w15; have n0_ : Aside0 (Below w.heap.size w w15) := ⟨by rw [← hq_]; exact (by with_reducible repeat (first | exact HB.out | apply ba_ | apply bn_ | apply bd_))⟩; clear HB hq_; have HB := n0_; clear n0_))) | ((with_reducible refine gate_callee (f := 33) rfl ?_); refine goesM_ (some 29) rfl rfl Try.func33 (by kernel_rfl) rfl [.int .u64 a0] rfl (by rfl) ?_; (with_reducible refine (flyballref04_Split.calls k a0 t624 t625 _ A7.out).mono ?_); rintro e w' ⟨rfl, ⟨nd, rfl⟩⟩; refine ⟨_, rfl, ?_⟩; (try (rw [drewN_self w15]; generalize hq_ : World.drewN w15 _ = w15; have n0_ : Aside0 (Below w.heap.size w w15) := ⟨by rw [← hq_]; exact (by with_reducible repeat (first | exact HB.out | apply ba_ | apply bn_ | apply bd_))⟩; clear HB hq_; have HB := n0_; clear n0_))) | ((with_reducible refine gate_callee (f := 34) rfl ?_); refine goesM_ (some 41) rfl rfl Try.func34 (by kernel_rfl) rfl [.int .u64 t621] rfl (by rfl) ?_; (with_reducible refine (pattern_Value.calls k t621 t626 t627 t630 t633 _ A11.out).mono ?_); rintro e w16 ⟨v628, v631, rfl, ho0, ho1, hb⟩; refine ⟨_, rfl, ?_⟩; have HO629 := Aside0.mk (Kd.V_lower (Kd.V_mono (ok' := fun k_ => True) ho0 (fun k_ hk_ => trivial)) (below_size (by with_reducible repeat (first | exact HB.out | apply ba_ | apply bn_ | apply bd_)))); have HO632 := Aside0.mk (Kd.V_lower (Kd.V_mono (ok' := fun k_ => True) ho1 (fun k_ hk_ => trivial)) (below_size (by with_reducible repeat (first | exact HB.out | apply ba_ | apply bn_ | apply bd_)))); replace HB := Aside0.mk (below_step (by with_reducible repeat (first | exact HB.out | apply ba_ | apply bn_ | apply bd_)) hb)) | ((with_reducible refine gate_dst (N := 8) rfl ?_); refine box_event ?hg (N := 8) ?hd (cs := #[.bool false, .slice none 0 0, .slice none 0 0]) (t := 50) ?hr ?_; (case hd => rfl); (case hg => rfl); (case hr => first | (go_simp; done) | (go_simp; rfl)); intro gb634 hg w17 hbox hb; have n0_ := Aside0.mk (Kd.V_below (Kd.V_elderB (by (with_reducible repeat (first | apply va_ | apply vn_ | apply vd_)); exact HO629.out) gb634 (Nat.le_of_eq hg.symm)) hb); have n1_ := Aside0.mk (Kd.V_below (Kd.V_elderB (by (with_reducible repeat (first | apply va_ | apply vn_ | apply vd_)); exact HO632.out) gb634 (Nat.le_of_eq hg.symm)) hb); have n2_ := Aside0.mk (below_step (by with_reducible repeat (first | exact HB.out | apply ba_ | apply bn_ | apply bd_)) hb); have n3_ := Aside0.mk (hbox); have n5_ := Aside0.mk ((by rw [hg]; exact (below_size (by with_reducible repeat (first | exact HB.out | apply ba_ | apply bn_ | apply bd_))) : w.heap.size ≤ gb634)); clear HO629 HO632 HB; have HO629 := n0_; have HO632 := n1_; have HB := n2_; have BK634 := n3_; have GE634 := n5_; clear n0_ n1_ n2_ n3_ n5_; clear hb hbox hg; have hcz18_0 : w17.cell? ⟨gb634, 0, none⟩ = some (.bool false) := (blk_cell BK634.out 0).trans rfl; have hcz18_1 : w17.cell? ⟨gb634, 1, none⟩ = some (.slice none 0 0) := (blk_cell BK634.out 1).trans rfl; have hcz18_2 : w17.cell? ⟨gb634, 2, none⟩ = some (.slice none 0 0) := (blk_cell BK634.out 2).trans rfl; have hfz18_0 := blk_frozen BK634.out 0; have hfz18_1 := blk_frozen BK634.out 1; have hfz18_2 := blk_frozen BK634.out 2; obtain ⟨Ao19, co19, eo19⟩ := Kd.V_slice HO629.out; subst eo19; obtain ⟨Ao20, co20, eo20⟩ := Kd.V_slice HO632.out; subst eo20) | ((with_reducible refine gate_callee (f := 35) rfl ?_); refine goesM_ (some 46) rfl rfl Try.func35 (by kernel_rfl) rfl [.bool false, .int .u64 1, .int .i64 t625] rfl (by rfl) ?_; (with_reducible refine (ratio_Dyad.calls k false 1 t625 t635 t636 t639 t642 _ A12.out).mono ?_); rintro e w21 ⟨v637, v640, rfl, ho0, ho1, hb⟩; refine ⟨_, rfl, ?_⟩; replace HO629 := Aside0.mk (Kd.V_below (by (with_reducible repeat (first | apply va_ | apply vn_ | apply vd_)); exact (Kd.V_mono (Kd.V_far (p := ⟨gb634, 2, none⟩) (Kd.V_far (p := ⟨gb634, 1, none⟩) (Kd.V_far (p := ⟨gb634, 0, none⟩) (Kd.V_mono HO629.out (fun k_ hk => (⟨hk, hk.2⟩ : _ ∧ k_ ≠ gb634))) (fun _ hk => hk.2) (.bool t626)) (fun _ hk => hk.2) (.slice Ao19 t627.length co19)) (fun _ hk => hk.2) (.slice Ao20 t630.length co20)) (fun _ h_ => h_.1))) hb); replace HO632 := Aside0.mk (Kd.V_below (by (with_reducible repeat (first | apply va_ | apply vn_ | apply vd_)); exact (Kd.V_mono (Kd.V_far (p := ⟨gb634, 2, none⟩) (Kd.V_far (p := ⟨gb634, 1, none⟩) (Kd.V_far (p := ⟨gb634, 0, none⟩) (Kd.V_mono HO632.out (fun k_ hk => (⟨hk, hk.2⟩ : _ ∧ k_ ≠ gb634))) (fun _ hk => hk.2) (.bool t626)) (fun _ hk => hk.2) (.slice Ao19 t627.length co19)) (fun _ hk => hk.2) (.slice Ao20 t630.length co20)) (fun _ h_ => h_.1))) hb); have HO638 := Aside0.mk (Kd.V_lower (Kd.V_mono (ok' := fun k_ => k_ ≠ gb634) ho0 (fun k_ hk_ => (Kd.freshB (g := gb634) (o := .cells #[.bool t626, .slice Ao19 t627.length co19, .slice Ao20 t630.length co20] 50 (0, 0)) (by (with_reducible repeat (first | apply kn_ | apply kd_ | apply ka_)); refine blk_put (cs := #[.bool t626, .slice Ao19 t627.length co19, .slice none 0 0]) ?_ 2 _ rfl; (with_reducible repeat (first | apply kn_ | apply kd_ | apply ka_)); refine blk_put (cs := #[.bool t626, .slice none 0 0, .slice none 0 0]) ?_ 1 _ rfl; (with_reducible repeat (first | apply kn_ | apply kd_ | apply ka_)); refine blk_put (cs := #[.bool false, .slice none 0 0, .slice none 0 0]) ?_ 0 _ rfl; (with_reducible repeat (first | apply kn_ | apply kd_ | apply ka_)); exact BK634.out) k_ hk_))) (below_size (by with_reducible repeat (first | exact HB.out | apply ba_ | apply bn_ | apply bd_ | refine bs_ ?_ GE634.out)))); have HO641 := Aside0.mk (Kd.V_lower (Kd.V_mono (ok' := fun k_ => k_ ≠ gb634) ho1 (fun k_ hk_ => (Kd.freshB (g := gb634) (o := .cells #[.bool t626, .slice Ao19 t627.length co19, .slice Ao20 t630.length co20] 50 (0, 0)) (by (with_reducible repeat (first | apply kn_ | apply kd_ | apply ka_)); refine blk_put (cs := #[.bool t626, .slice Ao19 t627.length co19, .slice none 0 0]) ?_ 2 _ rfl; (with_reducible repeat (first | apply kn_ | apply kd_ | apply ka_)); refine blk_put (cs := #[.bool t626, .slice none 0 0, .slice none 0 0]) ?_ 1 _ rfl; (with_reducible repeat (first | apply kn_ | apply kd_ | apply ka_)); refine blk_put (cs := #[.bool false, .slice none 0 0, .slice none 0 0]) ?_ 0 _ rfl; (with_reducible repeat (first | apply kn_ | apply kd_ | apply ka_)); exact BK634.out) k_ hk_))) (below_size (by with_reducible repeat (first | exact HB.out | apply ba_ | apply bn_ | apply bd_ | refine bs_ ?_ GE634.out)))); replace BK634 := Aside0.mk (blk_below (g := gb634) (o := .cells #[.bool t626, .slice Ao19 t627.length co19, .slice Ao20 t630.length co20] 50 (0, 0)) (by (with_reducible repeat (first | apply kn_ | apply kd_ | apply ka_)); refine blk_put (cs := #[.bool t626, .slice Ao19 t627.length co19, .slice none 0 0]) ?_ 2 _ rfl; (with_reducible repeat (first | apply kn_ | apply kd_ | apply ka_)); refine blk_put (cs := #[.bool t626, .slice none 0 0, .slice none 0 0]) ?_ 1 _ rfl; (with_reducible repeat (first | apply kn_ | apply kd_ | apply ka_)); refine blk_put (cs := #[.bool false, .slice none 0 0, .slice none 0 0]) ?_ 0 _ rfl; (with_reducible repeat (first | apply kn_ | apply kd_ | apply ka_)); exact BK634.out) hb); replace HB := Aside0.mk (below_step (by with_reducible repeat (first | exact HB.out | apply ba_ | apply bn_ | apply bd_ | refine bs_ ?_ GE634.out)) hb)) | ((with_reducible refine gate_dst (N := 10) rfl ?_); refine box_event ?hg (N := 10) ?hd (cs := #[.bool false, .slice none 0 0, .slice none 0 0]) (t := 50) ?hr ?_; (case hd => rfl); (case hg => rfl); (case hr => first | (go_simp; done) | (go_simp; rfl)); intro gb643 hg w22 hbox hb; have n0_ := Aside0.mk (Kd.V_below (Kd.V_elderB (by (with_reducible repeat (first | apply va_ | apply vn_ | apply vd_)); exact HO629.out) gb643 (Nat.le_of_eq hg.symm)) hb); have n1_ := Aside0.mk (Kd.V_below (Kd.V_elderB (by (with_reducible repeat (first | apply va_ | apply vn_ | apply vd_)); exact HO632.out) gb643 (Nat.le_of_eq hg.symm)) hb); have n2_ := Aside0.mk (Kd.V_below (Kd.V_elderB (by (with_reducible repeat (first | apply va_ | apply vn_ | apply vd_)); exact HO638.out) gb643 (Nat.le_of_eq hg.symm)) hb); have n3_ := Aside0.mk (Kd.V_below (Kd.V_elderB (by (with_reducible repeat (first | apply va_ | apply vn_ | apply vd_)); exact HO641.out) gb643 (Nat.le_of_eq hg.symm)) hb); have n4_ := Aside0.mk (blk_below (g := gb634) (o := .cells #[.bool t626, .slice Ao19 t627.length co19, .slice Ao20 t630.length co20] 50 (0, 0)) (by (with_reducible repeat (first | apply kn_ | apply kd_ | apply ka_)); exact BK634.out) hb); have n5_ := Aside0.mk (below_step (by with_reducible repeat (first | exact HB.out | apply ba_ | apply bn_ | apply bd_ | refine bs_ ?_ GE634.out)) hb); have n6_ := Aside0.mk (hbox); have n8_ := Aside0.mk ((by rw [hg]; exact (below_size (by with_reducible repeat (first | exact HB.out | apply ba_ | apply bn_ | apply bd_ | refine bs_ ?_ GE634.out))) : w.heap.size ≤ gb643)); have n9_ := Aside0.mk ((by rw [hg]; exact Nat.ne_of_lt (blk_lt (g := gb634) (o := .cells #[.bool t626, .slice Ao19 t627.length co19, .slice Ao20 t630.length co20] 50 (0, 0)) (by (with_reducible repeat (first | apply kn_ | apply kd_ | apply ka_)); exact BK634.out)) : gb634 ≠ gb643)); have n10_ := Aside0.mk ((by rw [hg]; exact Nat.ne_of_gt (blk_lt (g := gb634) (o := .cells #[.bool t626, .slice Ao19 t627.length co19, .slice Ao20 t630.length co20] 50 (0, 0)) (by (with_reducible repeat (first | apply kn_ | apply kd_ | apply ka_)); exact BK634.out)) : gb643 ≠ gb634)); clear HO629 HO632 HO638 HO641 BK634 HB; have HO629 := n0_; have HO632 := n1_; have HO638 := n2_; have HO641 := n3_; have BK634 := n4_; have HB := n5_; have BK643 := n6_; have GE643 := n8_; have NB634_643 := n9_; have NB643_634 := n10_; clear n0_ n1_ n2_ n3_ n4_ n5_ n6_ n8_ n9_ n10_; clear hb hbox hg; have hnb23 := NB643_634.out; have hnc23 := NB634_643.out; have hcz24_0 : w22.cell? ⟨gb643, 0, none⟩ = some (.bool false) := (blk_cell BK643.out 0).trans rfl; have hcz24_1 : w22.cell? ⟨gb643, 1, none⟩ = some (.slice none 0 0) := (blk_cell BK643.out 1).trans rfl; have hcz24_2 : w22.cell? ⟨gb643, 2, none⟩ = some (.slice none 0 0) := (blk_cell BK643.out 2).trans rfl; have hfz24_0 := blk_frozen BK643.out 0; have hfz24_1 := blk_frozen BK643.out 1; have hfz24_2 := blk_frozen BK643.out 2; obtain ⟨Ao25, co25, eo25⟩ := Kd.V_slice HO638.out; subst eo25; obtain ⟨Ao26, co26, eo26⟩ := Kd.V_slice HO641.out; subst eo26; have hcz27_0 : w22.cell? ⟨gb634, 0, none⟩ = some (.bool t626) := (blk_cell BK634.out 0).trans rfl; have hcz27_1 : w22.cell? ⟨gb634, 1, none⟩ = some (.slice Ao19 t627.length co19) := (blk_cell BK634.out 1).trans rfl; have hcz27_2 : w22.cell? ⟨gb634, 2, none⟩ = some (.slice Ao20 t630.length co20) := (blk_cell BK634.out 2).trans rfl; have hfz27_0 := blk_frozen BK634.out 0; have hfz27_1 := blk_frozen BK634.out 1; have hfz27_2 := blk_frozen BK634.out 2) | (go_at_call 36; (with_reducible refine (ratio_R_Cmp.calls k t626 _ _ t627 _ _ t630 t635 _ _ t636 _ _ t639 t644 _ ?side1 ?side2 ?side3 ?side4 ?side5 ?side6 ?side7 ?side8 A13.out).mono ?_); (case side1 => refine (Kd.V_reads' (e := 123) (base := w.heap.size) (ok := fun k_ => ((True ∧ k_ ≠ gb634) ∧ k_ ≠ gb643)) (n := t627.length) (c := co19) ?_).2.2; exact (by (with_reducible repeat (first | apply va_ | apply vn_ | apply vd_)); exact (Kd.V_mono (Kd.V_far (p := ⟨gb643, 2, none⟩) (Kd.V_far (p := ⟨gb643, 1, none⟩) (Kd.V_far (p := ⟨gb643, 0, none⟩) (Kd.V_mono HO629.out (fun k_ hk => (⟨hk, hk.2⟩ : _ ∧ k_ ≠ gb643))) (fun _ hk => hk.2) (.bool t635)) (fun _ hk => hk.2) (.slice Ao25 t636.length co25)) (fun _ hk => hk.2) (.slice Ao26 t639.length co26)) (fun _ h_ => h_.1)))); (case side2 => exact (Kd.V_reads' HO629.out).2.1); (case side3 => refine (Kd.V_reads' (e := 123) (base := w.heap.size) (ok := fun k_ => ((True ∧ k_ ≠ gb634) ∧ k_ ≠ gb643)) (n := t630.length) (c := co20) ?_).2.2; exact (by (with_reducible repeat (first | apply va_ | apply vn_ | apply vd_)); exact (Kd.V_mono (Kd.V_far (p := ⟨gb643, 2, none⟩) (Kd.V_far (p := ⟨gb643, 1, none⟩) (Kd.V_far (p := ⟨gb643, 0, none⟩) (Kd.V_mono HO632.out (fun k_ hk => (⟨hk, hk.2⟩ : _ ∧ k_ ≠ gb643))) (fun _ hk => hk.2) (.bool t635)) (fun _ hk => hk.2) (.slice Ao25 t636.length co25)) (fun _ hk => hk.2) (.slice Ao26 t639.length co26)) (fun _ h_ => h_.1)))); (case side4 => exact (Kd.V_reads' HO632.out).2.1); (case side5 => refine (Kd.V_reads' (e := 123) (base := w.heap.size) (ok := fun k_ => (k_ ≠ gb634 ∧ k_ ≠ gb643)) (n := t636.length) (c := co25) ?_).2.2; exact (by (with_reducible repeat (first | apply va_ | apply vn_ | apply vd_)); exact (Kd.V_mono (Kd.V_far (p := ⟨gb643, 2, none⟩) (Kd.V_far (p := ⟨gb643, 1, none⟩) (Kd.V_far (p := ⟨gb643, 0, none⟩) (Kd.V_mono HO638.out (fun k_ hk => (⟨hk, hk.2⟩ : _ ∧ k_ ≠ gb643))) (fun _ hk => hk.2) (.bool t635)) (fun _ hk => hk.2) (.slice Ao25 t636.length co25)) (fun _ hk => hk.2) (.slice Ao26 t639.length co26)) (fun _ h_ => h_.1)))); (case side6 => exact (Kd.V_reads' HO638.out).2.1); (case side7 => refine (Kd.V_reads' (e := 123) (base := w.heap.size) (ok := fun k_ => (k_ ≠ gb634 ∧ k_ ≠ gb643)) (n := t639.length) (c := co26) ?_).2.2; exact (by (with_reducible repeat (first | apply va_ | apply vn_ | apply vd_)); exact (Kd.V_mono (Kd.V_far (p := ⟨gb643, 2, none⟩) (Kd.V_far (p := ⟨gb643, 1, none⟩) (Kd.V_far (p := ⟨gb643, 0, none⟩) (Kd.V_mono HO641.out (fun k_ hk => (⟨hk, hk.2⟩ : _ ∧ k_ ≠ gb643))) (fun _ hk => hk.2) (.bool t635)) (fun _ hk => hk.2) (.slice Ao25 t636.length co25)) (fun _ hk => hk.2) (.slice Ao26 t639.length co26)) (fun _ h_ => h_.1)))); (case side8 => exact (Kd.V_reads' HO641.out).2.1); rintro e w28 ⟨rfl, hb⟩; replace HB := Aside0.mk (below_step (by with_reducible repeat (first | exact HB.out | apply ba_ | apply bn_ | apply bd_ | refine bs_ ?_ GE634.out | refine bs_ ?_ GE643.out)) hb)))
 go_ret
 exact ⟨by first | rfl | (simp [errW_none, errW_some] <;> rfl) | (simp [*, errW_none, errW_some] <;> rfl), by repeat (first | (with_reducible first | exact HB.out | apply below_alloc | apply pw_below_drewN | apply below_drew1 | refine below_set ?_ GE634.out | refine below_set ?_ GE643.out) | exact HB.out)⟩
/-- THE ONE PURE STATEMENT of flyballlaw05_RoundUlps: yours. -/
def flyballlaw05_RoundUlps.Pure : Prop := ∀ (a0 : Int), (Lit.int .u64 a0).wf = true → ∃ k, flyballlaw05_RoundUlps.f k a0 = some true
theorem flyballlaw05_RoundUlps.walk (P : flyballlaw05_RoundUlps.Pure) (a0 : Int) (w : World) (w0 : (Lit.int .u64 a0).wf = true) :
  Calls Try.prog 9 #[.int .u64 a0] w fun e w' => e = .returned (.bool true) ∧ Below w.heap.size w w' := by
 obtain ⟨k, h⟩ := P a0 w0
 refine (flyballlaw05_RoundUlps.calls k a0 true w h).mono ?_
 rintro e w' ⟨rfl, hd⟩
 exact ⟨rfl, hd⟩

end Go.Proofs.Ytfglpaaeipblcaa.P
