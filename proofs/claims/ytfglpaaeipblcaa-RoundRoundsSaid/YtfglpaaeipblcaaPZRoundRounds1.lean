/- Walks of one package: what each function returns, wherever the Lean function beside it has an answer. -/
import Derived.Test.YtfglpaaeipblcaaP0
import Derived.Test.YtfglpaaeipblcaaPRound1
import Derived.Test.YtfglpaaeipblcaaPFlyballlaw051
import Derived.Test.YtfglpaaeipblcaaPFlyballref011
import Derived.Test.YtfglpaaeipblcaaPFlyballref051
namespace Go.Proofs.Ytfglpaaeipblcaa.P
open Go.RowKit Go.Proofs.YtfglpaaeipblcaaW.PrintWords Go.Proofs.YtfglpaaeipblcaaW.PrintLast Go.Proofs.YtfglpaaeipblcaaW.PrintMore
attribute [local go_sem] max2_int min2_int max_two min_two max_three min_three max_four min_four   -- for this text's walks alone
set_option linter.unusedVariables false
set_option linter.unusedSimpArgs false

/-! ### flyballlaw05_RoundRounds: function 7 -/
def flyballlaw05_RoundRounds.f (k : Nat) (a0 : Bool) (a1_0 : Int) (a1_1 : Int) (a2 : Int) (a3 : Bool) (a4 : Int) : Option (Bool) := (flyballlaw05_works.f k).bind fun t556 => (if t556 = true then ((round_Round.f k a0 a1_0 a1_1 a2 a3 a4).bind fun bt557 => ((flyballref01_Of.f k (([a1_1, a1_0] : List Int))).bind fun t562 => ((flyballref05_Round.f k a0 t562 a2 a3 a4).bind fun bt565 => (if bt557.1 = bt565.1 then (some (bt557.2 == bt565.2)) else (some false))))) else (some false))
theorem flyballlaw05_RoundRounds.mono : ∀ a0 a1 a2 a3 a4 a5 k, LeO (flyballlaw05_RoundRounds.f k a0 a1 a2 a3 a4 a5) (flyballlaw05_RoundRounds.f (k + 1) a0 a1 a2 a3 a4 a5) := by
 intro a0 a1 a2 a3 a4 a5 k
 unfold flyballlaw05_RoundRounds.f
 repeat' first
   | (with_reducible exact flyballlaw05_works.mono _)
   | (with_reducible exact flyballref01_Of.mono _ _)
   | (with_reducible exact flyballref05_Round.mono _ _ _ _ _ _)
   | (with_reducible exact round_Round.mono _ _ _ _ _ _ _)
   | (with_reducible exact LeO.refl _)
   | (with_reducible exact LeO.none _)
   | (with_reducible refine LeO.ite ?_ ?_)
   | (with_reducible refine LeO.bind ?_ (fun _ => ?_))
   | exact flyballlaw05_works.mono _
   | exact flyballref01_Of.mono _ _
   | exact flyballref05_Round.mono _ _ _ _ _ _
   | exact round_Round.mono _ _ _ _ _ _ _
   | exact LeO.none _
   | refine LeO.ite ?_ ?_
   | refine LeO.bind ?_ (fun _ => ?_)
set_option maxHeartbeats 8000000 in
set_option maxRecDepth 100000 in
theorem flyballlaw05_RoundRounds.calls (k : Nat) (a0 : Bool) (a1_0 : Int) (a1_1 : Int) (a2 : Int) (a3 : Bool) (a4 : Int) (r : Bool) (w : World) (h : flyballlaw05_RoundRounds.f k a0 a1_0 a1_1 a2 a3 a4 = some r) :
  Calls Try.prog 7 #[.bool a0, .agg #[.int .u64 a1_0, .int .u64 a1_1], .int .i64 a2, .bool a3, .int .u8 a4] w fun e w' => e = .returned (.bool r) ∧ Below w.heap.size w w' := by
 have hu40 := Try.underlying40
 have HB := Aside0.mk (Below.refl w.heap.size w)
 have H : ((flyballlaw05_works.f k).bind fun t556 => (if t556 = true then ((round_Round.f k a0 a1_0 a1_1 a2 a3 a4).bind fun bt557 => ((flyballref01_Of.f k (([a1_1, a1_0] : List Int))).bind fun t562 => ((flyballref05_Round.f k a0 t562 a2 a3 a4).bind fun bt565 => (if bt557.1 = bt565.1 then (some (bt557.2 == bt565.2)) else (some false))))) else (some false))) = some r := h
 clear h
 replace H := Option.bind_eq_some_iff.mp H
 obtain ⟨t556, A60, H⟩ := H
 replace H : (if t556 = true then ((round_Round.f k a0 a1_0 a1_1 a2 a3 a4).bind fun bt557 => ((flyballref01_Of.f k (([a1_1, a1_0] : List Int))).bind fun t562 => ((flyballref05_Round.f k a0 t562 a2 a3 a4).bind fun bt565 => (if bt557.1 = bt565.1 then (some (bt557.2 == bt565.2)) else (some false))))) else (some false)) = some r := H
 have A6 := Aside0.mk A60
 clear A60
 by_cases c7 : t556 = true
 case neg =>
  replace c7 := Bool.eq_false_iff.mpr c7
  subst c7
  have H1 : (some false) = some r := by rw [if_neg (show ¬ (false = true) by decide)] at H; exact H
  clear H
  have H := H1
  clear H1
  obtain rfl := Option.some.inj H
  go_enter Try.func7, Try.ntmps7
  go_wp2_with (first | ((with_reducible refine gate_dst (N := 6) rfl ?_); refine box_event ?hg (N := 6) ?hd (cs := #[.int .u64 a1_0, .int .u64 a1_1]) (t := 40) ?hr ?_; (case hd => rfl); (case hg => rfl); (case hr => first | (go_simp; done) | (go_simp; rfl)); intro gb555 hg w34 hbox hb; have n0_ := Aside0.mk (below_step (by with_reducible repeat (first | exact HB.out | apply ba_ | apply bn_ | apply bd_)) hb); have n3_ := Aside0.mk ((by rw [hg]; exact (below_size (by with_reducible repeat (first | exact HB.out | apply ba_ | apply bn_ | apply bd_))) : w.heap.size ≤ gb555)); clear HB; have HB := n0_; have GE555 := n3_; clear n0_ n3_; clear hb hbox hg) | ((with_reducible refine gate_callee (f := 22) rfl ?_); refine goesM_ (some 16) rfl rfl Try.func22 (by kernel_rfl) rfl [] rfl (by rfl) ?_; (with_reducible refine (flyballlaw05_works.calls k  false _ A6.out).mono ?_); rintro e w35 ⟨rfl, hb⟩; refine ⟨_, rfl, ?_⟩; replace HB := Aside0.mk (below_step (by with_reducible repeat (first | exact HB.out | apply ba_ | apply bn_ | apply bd_ | refine bs_ ?_ GE555.out)) hb)))
  go_ret
  exact ⟨by first | rfl | (simp [errW_none, errW_some] <;> rfl) | (simp [*, errW_none, errW_some] <;> rfl), by repeat (first | (with_reducible first | exact HB.out | apply below_alloc | apply pw_below_drewN | apply below_drew1 | refine below_set ?_ GE555.out) | exact HB.out)⟩
 subst c7
 have H1 : ((round_Round.f k a0 a1_0 a1_1 a2 a3 a4).bind fun bt557 => ((flyballref01_Of.f k (([a1_1, a1_0] : List Int))).bind fun t562 => ((flyballref05_Round.f k a0 t562 a2 a3 a4).bind fun bt565 => (if bt557.1 = bt565.1 then (some (bt557.2 == bt565.2)) else (some false))))) = some r := by rw [if_pos rfl] at H; exact H
 clear H
 have H := H1
 clear H1
 replace H := Option.bind_eq_some_iff.mp H
 obtain ⟨⟨t557, t558⟩, A80, H⟩ := H
 replace H : ((flyballref01_Of.f k (([a1_1, a1_0] : List Int))).bind fun t562 => ((flyballref05_Round.f k a0 t562 a2 a3 a4).bind fun bt565 => (if t557 = bt565.1 then (some (t558 == bt565.2)) else (some false)))) = some r := H
 have A8 := Aside0.mk A80
 clear A80
 obtain ⟨y559, hy559⟩ : ∃ y_ : List Int, y_ = (([a1_1, a1_0] : List Int)) := ⟨_, rfl⟩
 replace H : ((flyballref01_Of.f k y559).bind fun t562 => ((flyballref05_Round.f k a0 t562 a2 a3 a4).bind fun bt565 => (if t557 = bt565.1 then (some (t558 == bt565.2)) else (some false)))) = some r := by first | (rw [hy559]; with_reducible exact H) | (have H2_ := (Option.bind_some _ _).symm.trans H; rw [hy559]; with_reducible exact H2_) | (have H2_ := (Option.bind_some _ _).symm.trans H; with_reducible exact H2_) | with_reducible exact H | (rw [hy559]; exact H) | exact H
 have Ny559 := Aside0.mk hy559
 clear hy559
 replace H := Option.bind_eq_some_iff.mp H
 obtain ⟨t562, A90, H⟩ := H
 replace H : ((flyballref05_Round.f k a0 t562 a2 a3 a4).bind fun bt565 => (if t557 = bt565.1 then (some (t558 == bt565.2)) else (some false))) = some r := H
 have A9 := Aside0.mk A90
 clear A90
 replace H := Option.bind_eq_some_iff.mp H
 obtain ⟨⟨t565, t566⟩, A100, H⟩ := H
 replace H : (if t557 = t565 then (some (t558 == t566)) else (some false)) = some r := H
 have A10 := Aside0.mk A100
 clear A100
 by_cases c11 : t557 = t565
 case neg =>
  rw [if_neg c11] at H
  have c11b0 : (t557 == t565) = false := beq_eq_false_iff_ne.mpr c11
  have c11b1 : (t557 != t565) = true := bne_iff_ne.mpr c11
  obtain rfl := Option.some.inj H
  go_enter Try.func7, Try.ntmps7
  go_wp2_with (first | ((with_reducible refine gate_dst (N := 6) rfl ?_); refine box_event ?hg (N := 6) ?hd (cs := #[.int .u64 a1_0, .int .u64 a1_1]) (t := 40) ?hr ?_; (case hd => rfl); (case hg => rfl); (case hr => first | (go_simp; done) | (go_simp; rfl)); intro gb555 hg w23 hbox hb; have n0_ := Aside0.mk (below_step (by with_reducible repeat (first | exact HB.out | apply ba_ | apply bn_ | apply bd_)) hb); have n1_ := Aside0.mk (hbox); have n3_ := Aside0.mk ((by rw [hg]; exact (below_size (by with_reducible repeat (first | exact HB.out | apply ba_ | apply bn_ | apply bd_))) : w.heap.size ≤ gb555)); clear HB; have HB := n0_; have BK555 := n1_; have GE555 := n3_; clear n0_ n1_ n3_; clear hb hbox hg) | ((with_reducible refine gate_callee (f := 22) rfl ?_); refine goesM_ (some 16) rfl rfl Try.func22 (by kernel_rfl) rfl [] rfl (by rfl) ?_; (with_reducible refine (flyballlaw05_works.calls k  true _ A6.out).mono ?_); rintro e w24 ⟨rfl, hb⟩; refine ⟨_, rfl, ?_⟩; replace BK555 := Aside0.mk (blk_below (g := gb555) (o := .cells #[.int .u64 a1_0, .int .u64 a1_1] 40 (0, 0)) (by (with_reducible repeat (first | apply kn_ | apply kd_ | apply ka_)); exact BK555.out) hb); replace HB := Aside0.mk (below_step (by with_reducible repeat (first | exact HB.out | apply ba_ | apply bn_ | apply bd_ | refine bs_ ?_ GE555.out)) hb); skip; have hcz25_0 : w24.cell? ⟨gb555, 0, none⟩ = some (.int .u64 a1_0) := (blk_cell BK555.out 0).trans rfl; have hcz25_1 : w24.cell? ⟨gb555, 1, none⟩ = some (.int .u64 a1_1) := (blk_cell BK555.out 1).trans rfl; have hfz25_0 := blk_frozen BK555.out 0; have hfz25_1 := blk_frozen BK555.out 1) | ((with_reducible refine gate_callee (f := 23) rfl ?_); refine goesM_ (some 25) rfl rfl Try.func23 (by kernel_rfl) rfl [.bool a0, .agg #[.int .u64 a1_0, .int .u64 a1_1], .int .i64 a2, .bool a3, .int .u8 a4] rfl (by rfl) ?_; (with_reducible refine (round_Round.calls k a0 a1_0 a1_1 a2 a3 a4 t557 t558 _ A8.out).mono ?_); rintro e w26 ⟨rfl, hb⟩; refine ⟨_, rfl, ?_⟩; replace BK555 := Aside0.mk (blk_below (g := gb555) (o := .cells #[.int .u64 a1_0, .int .u64 a1_1] 40 (0, 0)) (by (with_reducible repeat (first | apply kn_ | apply kd_ | apply ka_)); exact BK555.out) hb); replace HB := Aside0.mk (below_step (by with_reducible repeat (first | exact HB.out | apply ba_ | apply bn_ | apply bd_ | refine bs_ ?_ GE555.out)) hb); skip; have hcz27_0 : w26.cell? ⟨gb555, 0, none⟩ = some (.int .u64 a1_0) := (blk_cell BK555.out 0).trans rfl; have hcz27_1 : w26.cell? ⟨gb555, 1, none⟩ = some (.int .u64 a1_1) := (blk_cell BK555.out 1).trans rfl; have hfz27_0 := blk_frozen BK555.out 0; have hfz27_1 := blk_frozen BK555.out 1) | ((with_reducible refine gate_dst (N := 34) rfl ?_); refine Kd.R_lit (Kd.int .u64) _ 24 ?hg (N := 34) ?hd (xs := ([a1_1, a1_0] : List Int)) (inner := [.int .u64 a1_1, .int .u64 a1_0]) (ok := fun _ => True) (okp := fun _ => True) ?hr ?hp (fun _ hk => hk) trivial (Below.refl _ _) (Nat.le_refl _) (by simp) ?_; (case hd => rfl); (case hg => rfl); (case hr => first | (go_simp; done) | (go_simp; rfl)); (case hp => exact (Reps.one (show Kd.M (Kd.int .u64) _ _ _ a1_1 [.int .u64 a1_1] from rfl) (Reps.one (show Kd.M (Kd.int .u64) _ _ _ a1_0 [.int .u64 a1_0] from rfl) (Reps.none _ _)))); intro v560 w28 ho29 hb hg_ hnew_; clear hg_ hnew_; (first | rw [← Ny559.out] at ho29 | (simp only [Int.reduceToNat] at ho29; rw [← Ny559.out] at ho29)); have HO561 := Aside0.mk (Kd.R_lower ho29 (below_size (by with_reducible repeat (first | exact HB.out | apply ba_ | apply bn_ | apply bd_ | refine bs_ ?_ GE555.out)))); replace HB := Aside0.mk (below_step (by with_reducible repeat (first | exact HB.out | apply ba_ | apply bn_ | apply bd_ | refine bs_ ?_ GE555.out)) hb); clear hb ho29; obtain ⟨Ao30, co30, eo30⟩ := Kd.R_slice HO561.out; subst eo30) | ((with_reducible refine gate_callee (f := 25) rfl ?_); refine goesM_ (some 35) rfl rfl Try.func25 (by kernel_rfl) rfl [.slice Ao30 y559.length co30] rfl (by rfl) ?_; (with_reducible refine (flyballref01_Of.calls k _ _ y559 t562 _ ?side1 ?side2 A9.out).mono ?_); (case side1 => repeat (first | exact (Kd.R_reads' HO561.out).2.2 | (with_reducible refine Kd.C_alloc ?_ _) | (with_reducible refine Kd.C_drewN ?_ _) | (with_reducible refine Kd.C_drew ?_))); (case side2 => exact (Kd.R_reads' HO561.out).2.1); rintro e w31 ⟨v563, rfl, ho0, hb⟩; refine ⟨_, rfl, ?_⟩; have HO564 := Aside0.mk (Kd.R_lower ho0 (below_size (by with_reducible repeat (first | exact HB.out | apply ba_ | apply bn_ | apply bd_ | refine bs_ ?_ GE555.out)))); replace HB := Aside0.mk (below_step (by with_reducible repeat (first | exact HB.out | apply ba_ | apply bn_ | apply bd_ | refine bs_ ?_ GE555.out)) hb); skip; obtain ⟨Ao32, co32, eo32⟩ := Kd.R_slice HO564.out; subst eo32) | ((with_reducible refine gate_callee (f := 24) rfl ?_); refine goesM_ (some 39) rfl rfl Try.func24 (by kernel_rfl) rfl [.bool a0, .slice Ao32 t562.length co32, .int .i64 a2, .bool a3, .int .u8 a4] rfl (by rfl) ?_; (with_reducible refine (flyballref05_Round.calls k a0 _ _ t562 a2 a3 a4 t565 t566 _ ?side1 ?side2 A10.out).mono ?_); (case side1 => repeat (first | exact (Kd.R_reads' HO564.out).2.2 | (with_reducible refine Kd.C_alloc ?_ _) | (with_reducible refine Kd.C_drewN ?_ _) | (with_reducible refine Kd.C_drew ?_))); (case side2 => exact (Kd.R_reads' HO564.out).2.1); rintro e w33 ⟨rfl, hb⟩; refine ⟨_, rfl, ?_⟩; replace HB := Aside0.mk (below_step (by with_reducible repeat (first | exact HB.out | apply ba_ | apply bn_ | apply bd_ | refine bs_ ?_ GE555.out)) hb)))
  go_ret
  exact ⟨by first | rfl | (simp [errW_none, errW_some] <;> rfl) | (simp [*, errW_none, errW_some] <;> rfl), by repeat (first | (with_reducible first | exact HB.out | apply below_alloc | apply pw_below_drewN | apply below_drew1 | refine below_set ?_ GE555.out) | exact HB.out)⟩
 rw [if_pos c11] at H
 have c11b0 : (t557 == t565) = true := beq_iff_eq.mpr c11
 have c11b1 : (t557 != t565) = false := bne_eq_false_iff_eq.mpr c11
 clear c11
 obtain rfl := Option.some.inj H
 go_enter Try.func7, Try.ntmps7
 go_wp2_with (first | ((with_reducible refine gate_dst (N := 6) rfl ?_); refine box_event ?hg (N := 6) ?hd (cs := #[.int .u64 a1_0, .int .u64 a1_1]) (t := 40) ?hr ?_; (case hd => rfl); (case hg => rfl); (case hr => first | (go_simp; done) | (go_simp; rfl)); intro gb555 hg w12 hbox hb; have n0_ := Aside0.mk (below_step (by with_reducible repeat (first | exact HB.out | apply ba_ | apply bn_ | apply bd_)) hb); have n1_ := Aside0.mk (hbox); have n3_ := Aside0.mk ((by rw [hg]; exact (below_size (by with_reducible repeat (first | exact HB.out | apply ba_ | apply bn_ | apply bd_))) : w.heap.size ≤ gb555)); clear HB; have HB := n0_; have BK555 := n1_; have GE555 := n3_; clear n0_ n1_ n3_; clear hb hbox hg) | ((with_reducible refine gate_callee (f := 22) rfl ?_); refine goesM_ (some 16) rfl rfl Try.func22 (by kernel_rfl) rfl [] rfl (by rfl) ?_; (with_reducible refine (flyballlaw05_works.calls k  true _ A6.out).mono ?_); rintro e w13 ⟨rfl, hb⟩; refine ⟨_, rfl, ?_⟩; replace BK555 := Aside0.mk (blk_below (g := gb555) (o := .cells #[.int .u64 a1_0, .int .u64 a1_1] 40 (0, 0)) (by (with_reducible repeat (first | apply kn_ | apply kd_ | apply ka_)); exact BK555.out) hb); replace HB := Aside0.mk (below_step (by with_reducible repeat (first | exact HB.out | apply ba_ | apply bn_ | apply bd_ | refine bs_ ?_ GE555.out)) hb); skip; have hcz14_0 : w13.cell? ⟨gb555, 0, none⟩ = some (.int .u64 a1_0) := (blk_cell BK555.out 0).trans rfl; have hcz14_1 : w13.cell? ⟨gb555, 1, none⟩ = some (.int .u64 a1_1) := (blk_cell BK555.out 1).trans rfl; have hfz14_0 := blk_frozen BK555.out 0; have hfz14_1 := blk_frozen BK555.out 1) | ((with_reducible refine gate_callee (f := 23) rfl ?_); refine goesM_ (some 25) rfl rfl Try.func23 (by kernel_rfl) rfl [.bool a0, .agg #[.int .u64 a1_0, .int .u64 a1_1], .int .i64 a2, .bool a3, .int .u8 a4] rfl (by rfl) ?_; (with_reducible refine (round_Round.calls k a0 a1_0 a1_1 a2 a3 a4 t557 t558 _ A8.out).mono ?_); rintro e w15 ⟨rfl, hb⟩; refine ⟨_, rfl, ?_⟩; replace BK555 := Aside0.mk (blk_below (g := gb555) (o := .cells #[.int .u64 a1_0, .int .u64 a1_1] 40 (0, 0)) (by (with_reducible repeat (first | apply kn_ | apply kd_ | apply ka_)); exact BK555.out) hb); replace HB := Aside0.mk (below_step (by with_reducible repeat (first | exact HB.out | apply ba_ | apply bn_ | apply bd_ | refine bs_ ?_ GE555.out)) hb); skip; have hcz16_0 : w15.cell? ⟨gb555, 0, none⟩ = some (.int .u64 a1_0) := (blk_cell BK555.out 0).trans rfl; have hcz16_1 : w15.cell? ⟨gb555, 1, none⟩ = some (.int .u64 a1_1) := (blk_cell BK555.out 1).trans rfl; have hfz16_0 := blk_frozen BK555.out 0; have hfz16_1 := blk_frozen BK555.out 1) | ((with_reducible refine gate_dst (N := 34) rfl ?_); refine Kd.R_lit (Kd.int .u64) _ 24 ?hg (N := 34) ?hd (xs := ([a1_1, a1_0] : List Int)) (inner := [.int .u64 a1_1, .int .u64 a1_0]) (ok := fun _ => True) (okp := fun _ => True) ?hr ?hp (fun _ hk => hk) trivial (Below.refl _ _) (Nat.le_refl _) (by simp) ?_; (case hd => rfl); (case hg => rfl); (case hr => first | (go_simp; done) | (go_simp; rfl)); (case hp => exact (Reps.one (show Kd.M (Kd.int .u64) _ _ _ a1_1 [.int .u64 a1_1] from rfl) (Reps.one (show Kd.M (Kd.int .u64) _ _ _ a1_0 [.int .u64 a1_0] from rfl) (Reps.none _ _)))); intro v560 w17 ho18 hb hg_ hnew_; clear hg_ hnew_; (first | rw [← Ny559.out] at ho18 | (simp only [Int.reduceToNat] at ho18; rw [← Ny559.out] at ho18)); have HO561 := Aside0.mk (Kd.R_lower ho18 (below_size (by with_reducible repeat (first | exact HB.out | apply ba_ | apply bn_ | apply bd_ | refine bs_ ?_ GE555.out)))); replace HB := Aside0.mk (below_step (by with_reducible repeat (first | exact HB.out | apply ba_ | apply bn_ | apply bd_ | refine bs_ ?_ GE555.out)) hb); clear hb ho18; obtain ⟨Ao19, co19, eo19⟩ := Kd.R_slice HO561.out; subst eo19) | ((with_reducible refine gate_callee (f := 25) rfl ?_); refine goesM_ (some 35) rfl rfl Try.func25 (by kernel_rfl) rfl [.slice Ao19 y559.length co19] rfl (by rfl) ?_; (with_reducible refine (flyballref01_Of.calls k _ _ y559 t562 _ ?side1 ?side2 A9.out).mono ?_); (case side1 => repeat (first | exact (Kd.R_reads' HO561.out).2.2 | (with_reducible refine Kd.C_alloc ?_ _) | (with_reducible refine Kd.C_drewN ?_ _) | (with_reducible refine Kd.C_drew ?_))); (case side2 => exact (Kd.R_reads' HO561.out).2.1); rintro e w20 ⟨v563, rfl, ho0, hb⟩; refine ⟨_, rfl, ?_⟩; have HO564 := Aside0.mk (Kd.R_lower ho0 (below_size (by with_reducible repeat (first | exact HB.out | apply ba_ | apply bn_ | apply bd_ | refine bs_ ?_ GE555.out)))); replace HB := Aside0.mk (below_step (by with_reducible repeat (first | exact HB.out | apply ba_ | apply bn_ | apply bd_ | refine bs_ ?_ GE555.out)) hb); skip; obtain ⟨Ao21, co21, eo21⟩ := Kd.R_slice HO564.out; subst eo21) | ((with_reducible refine gate_callee (f := 24) rfl ?_); refine goesM_ (some 39) rfl rfl Try.func24 (by kernel_rfl) rfl [.bool a0, .slice Ao21 t562.length co21, .int .i64 a2, .bool a3, .int .u8 a4] rfl (by rfl) ?_; (with_reducible refine (flyballref05_Round.calls k a0 _ _ t562 a2 a3 a4 t565 t566 _ ?side1 ?side2 A10.out).mono ?_); (case side1 => repeat (first | exact (Kd.R_reads' HO564.out).2.2 | (with_reducible refine Kd.C_alloc ?_ _) | (with_reducible refine Kd.C_drewN ?_ _) | (with_reducible refine Kd.C_drew ?_))); (case side2 => exact (Kd.R_reads' HO564.out).2.1); rintro e w22 ⟨rfl, hb⟩; refine ⟨_, rfl, ?_⟩; replace HB := Aside0.mk (below_step (by with_reducible repeat (first | exact HB.out | apply ba_ | apply bn_ | apply bd_ | refine bs_ ?_ GE555.out)) hb)))
 go_ret
 exact ⟨by first | rfl | (simp [errW_none, errW_some] <;> rfl) | (simp [*, errW_none, errW_some] <;> rfl), by repeat (first | (with_reducible first | exact HB.out | apply below_alloc | apply pw_below_drewN | apply below_drew1 | refine below_set ?_ GE555.out) | exact HB.out)⟩

end Go.Proofs.Ytfglpaaeipblcaa.P
