/- Walks of one package: what each function returns, wherever the Lean function beside it has an answer. -/
import Derived.Test.YtfglpaaeipblcaaP0
import Derived.Test.YtfglpaaeipblcaaPNat1
import Derived.Test.YtfglpaaeipblcaaPRatio1
namespace Go.Proofs.Ytfglpaaeipblcaa.P
open Go.RowKit Go.Proofs.YtfglpaaeipblcaaW.PrintWords Go.Proofs.YtfglpaaeipblcaaW.PrintLast Go.Proofs.YtfglpaaeipblcaaW.PrintMore
attribute [local go_sem] max2_int min2_int max_two min_two max_three min_three max_four min_four   -- for this text's walks alone
set_option linter.unusedVariables false
set_option linter.unusedSimpArgs false

/-! ### ratio_R_low: function 74 -/
def ratio_R_low.f (k : Nat) (a0_0 : Bool) (l0_1 : List Int) (l0_2 : List Int) : Option (Bool × List Int × List Int) := (ratio_low.f k a0_0 l0_1 l0_2).bind fun bt590 => (some (bt590.1, bt590.2.1, bt590.2.2))
theorem ratio_R_low.mono : ∀ a0 a1 a2 k, LeO (ratio_R_low.f k a0 a1 a2) (ratio_R_low.f (k + 1) a0 a1 a2) := by
 intro a0 a1 a2 k
 unfold ratio_R_low.f
 repeat' first
   | (with_reducible exact ratio_low.mono _ _ _ _)
   | (with_reducible exact LeO.refl _)
   | (with_reducible exact LeO.none _)
   | (with_reducible refine LeO.ite ?_ ?_)
   | (with_reducible refine LeO.bind ?_ (fun _ => ?_))
   | exact ratio_low.mono _ _ _ _
   | exact LeO.none _
   | refine LeO.ite ?_ ?_
   | refine LeO.bind ?_ (fun _ => ?_)
set_option maxHeartbeats 8000000 in
set_option maxRecDepth 100000 in
theorem ratio_R_low.calls (k : Nat) (a0_0 : Bool) (P0_1_ : Nat → Prop) (A0_1 : Option Addr) (c0_1 : Nat) (l0_1 : List Int) (P0_2_ : Nat → Prop) (A0_2 : Option Addr) (c0_2 : Nat) (l0_2 : List Int) (r1 : Bool) (r2 : List Int) (r3 : List Int) (w : World) (hs0_1 : Kd.V (Kd.int .u32) 123 w w.heap.size (fun k_ => P0_1_ k_) (.slice A0_1 l0_1.length c0_1) l0_1) (hs0_2 : Kd.V (Kd.int .u32) 123 w w.heap.size (fun k_ => P0_2_ k_) (.slice A0_2 l0_2.length c0_2) l0_2) (h : ratio_R_low.f k a0_0 l0_1 l0_2 = some (r1, r2, r3)) :
  Calls Try.prog 74 #[.agg #[.bool a0_0, .slice A0_1 l0_1.length c0_1, .slice A0_2 l0_2.length c0_2]] w fun e w' => ∃ v1_ v2_ : Value, e = .returned (.agg #[.bool r1, v1_, v2_]) ∧ Kd.V (Kd.int .u32) 123 w' w.heap.size (fun k_ => ((P0_1_ k_ ∨ P0_2_ k_) ∨ w.heap.size ≤ k_)) v1_ r2 ∧ Kd.V (Kd.int .u32) 123 w' w.heap.size (fun k_ => ((P0_1_ k_ ∨ P0_2_ k_) ∨ w.heap.size ≤ k_)) v2_ r3 ∧ Below w.heap.size w w' := by
 have hu50 := Try.underlying50
 have HO0_1 := Aside0.mk (show Kd.V (Kd.int .u32) 123 w w.heap.size (fun k_ => ((P0_1_ k_ ∨ P0_2_ k_) ∨ w.heap.size ≤ k_)) (.slice A0_1 l0_1.length c0_1) l0_1 from Kd.V_mono hs0_1 (fun k_ hk => .inl (.inl hk)))
 have HO0_2 := Aside0.mk (show Kd.V (Kd.int .u32) 123 w w.heap.size (fun k_ => ((P0_1_ k_ ∨ P0_2_ k_) ∨ w.heap.size ≤ k_)) (.slice A0_2 l0_2.length c0_2) l0_2 from Kd.V_mono hs0_2 (fun k_ hk => .inl (.inr hk)))
 have HB := Aside0.mk (Below.refl w.heap.size w)
 have H : ((ratio_low.f k a0_0 l0_1 l0_2).bind fun bt590 => (some (bt590.1, bt590.2.1, bt590.2.2))) = some (r1, r2, r3) := h
 clear h
 replace H := Option.bind_eq_some_iff.mp H
 obtain ⟨⟨t590, t591, t594⟩, A20, H⟩ := H
 replace H : (some (t590, t591, t594)) = some (r1, r2, r3) := H
 have A2 := Aside0.mk A20
 clear A20
 simp only [Option.some.injEq, Prod.mk.injEq] at H
 obtain ⟨rfl, rfl, rfl⟩ := H
 go_enter Try.func74, Try.ntmps74
 go_wp2_with (first | ((with_reducible refine gate_dst (N := 1) rfl ?_); refine box_event ?hg (N := 1) ?hd (cs := #[.bool a0_0, .slice A0_1 l0_1.length c0_1, .slice A0_2 l0_2.length c0_2]) (t := 50) ?hr ?_; (case hd => rfl); (case hg => rfl); (case hr => first | (go_simp; done) | (go_simp; rfl)); intro gb588 hg w3 hbox hb; have n0_ := Aside0.mk (Kd.V_below (Kd.V_elderB (by (with_reducible repeat (first | apply va_ | apply vn_ | apply vd_)); exact HO0_1.out) gb588 (Nat.le_of_eq hg.symm)) hb); have n1_ := Aside0.mk (Kd.V_below (Kd.V_elderB (by (with_reducible repeat (first | apply va_ | apply vn_ | apply vd_)); exact HO0_2.out) gb588 (Nat.le_of_eq hg.symm)) hb); have n2_ := Aside0.mk (below_step (by with_reducible repeat (first | exact HB.out | apply ba_ | apply bn_ | apply bd_)) hb); have n3_ := Aside0.mk (hbox); have n5_ := Aside0.mk ((by rw [hg]; exact (below_size (by with_reducible repeat (first | exact HB.out | apply ba_ | apply bn_ | apply bd_))) : w.heap.size ≤ gb588)); clear HO0_1 HO0_2 HB; have HO0_1 := n0_; have HO0_2 := n1_; have HB := n2_; have BK588 := n3_; have GE588 := n5_; clear n0_ n1_ n2_ n3_ n5_; clear hb hbox hg) | ((with_reducible refine gate_dst (N := 2) rfl ?_); refine box_event ?hg (N := 2) ?hd (cs := #[.bool false, .slice none 0 0, .slice none 0 0]) (t := 50) ?hr ?_; (case hd => rfl); (case hg => rfl); (case hr => first | (go_simp; done) | (go_simp; rfl)); intro gb589 hg w4 hbox hb; have n0_ := Aside0.mk (Kd.V_below (Kd.V_elderB (by (with_reducible repeat (first | apply va_ | apply vn_ | apply vd_)); exact HO0_1.out) gb589 (Nat.le_of_eq hg.symm)) hb); have n1_ := Aside0.mk (Kd.V_below (Kd.V_elderB (by (with_reducible repeat (first | apply va_ | apply vn_ | apply vd_)); exact HO0_2.out) gb589 (Nat.le_of_eq hg.symm)) hb); have n2_ := Aside0.mk (blk_below (g := gb588) (o := .cells #[.bool a0_0, .slice A0_1 l0_1.length c0_1, .slice A0_2 l0_2.length c0_2] 50 (0, 0)) (by (with_reducible repeat (first | apply kn_ | apply kd_ | apply ka_)); exact BK588.out) hb); have n3_ := Aside0.mk (below_step (by with_reducible repeat (first | exact HB.out | apply ba_ | apply bn_ | apply bd_ | refine bs_ ?_ GE588.out)) hb); have n4_ := Aside0.mk (hbox); have n6_ := Aside0.mk ((by rw [hg]; exact (below_size (by with_reducible repeat (first | exact HB.out | apply ba_ | apply bn_ | apply bd_ | refine bs_ ?_ GE588.out))) : w.heap.size ≤ gb589)); have n7_ := Aside0.mk ((by rw [hg]; exact Nat.ne_of_lt (blk_lt (g := gb588) (o := .cells #[.bool a0_0, .slice A0_1 l0_1.length c0_1, .slice A0_2 l0_2.length c0_2] 50 (0, 0)) (by (with_reducible repeat (first | apply kn_ | apply kd_ | apply ka_)); exact BK588.out)) : gb588 ≠ gb589)); have n8_ := Aside0.mk ((by rw [hg]; exact Nat.ne_of_gt (blk_lt (g := gb588) (o := .cells #[.bool a0_0, .slice A0_1 l0_1.length c0_1, .slice A0_2 l0_2.length c0_2] 50 (0, 0)) (by (with_reducible repeat (first | apply kn_ | apply kd_ | apply ka_)); exact BK588.out)) : gb589 ≠ gb588)); clear HO0_1 HO0_2 BK588 HB; have HO0_1 := n0_; have HO0_2 := n1_; have BK588 := n2_; have HB := n3_; have BK589 := n4_; have GE589 := n6_; have NB588_589 := n7_; have NB589_588 := n8_; clear n0_ n1_ n2_ n3_ n4_ n6_ n7_ n8_; clear hb hbox hg; have hnb5 := NB588_589.out; have hnc5 := NB589_588.out; have hcz6_0 : w4.cell? ⟨gb588, 0, none⟩ = some (.bool a0_0) := (blk_cell BK588.out 0).trans rfl; have hcz6_1 : w4.cell? ⟨gb588, 1, none⟩ = some (.slice A0_1 l0_1.length c0_1) := (blk_cell BK588.out 1).trans rfl; have hcz6_2 : w4.cell? ⟨gb588, 2, none⟩ = some (.slice A0_2 l0_2.length c0_2) := (blk_cell BK588.out 2).trans rfl; have hfz6_0 := blk_frozen BK588.out 0; have hfz6_1 := blk_frozen BK588.out 1; have hfz6_2 := blk_frozen BK588.out 2) | ((with_reducible refine gate_callee (f := 73) rfl ?_); refine goesM_ (some 9) rfl rfl Try.func73 (by kernel_rfl) rfl [.bool a0_0, .slice A0_1 l0_1.length c0_1, .slice A0_2 l0_2.length c0_2] rfl (by rfl) ?_; (with_reducible refine (ratio_low.calls k a0_0 (fun k_ => ((((P0_1_ k_ ∨ P0_2_ k_) ∨ w.heap.size ≤ k_) ∧ k_ ≠ gb588) ∧ k_ ≠ gb589)) _ _ l0_1 (fun k_ => ((((P0_1_ k_ ∨ P0_2_ k_) ∨ w.heap.size ≤ k_) ∧ k_ ≠ gb588) ∧ k_ ≠ gb589)) _ _ l0_2 t590 t591 t594 _ ?side1 ?side2 A2.out).mono ?_); (case side1 => exact HO0_1.out); (case side2 => exact HO0_2.out); rintro e w7 ⟨v592, v595, rfl, ho0, ho1, hb⟩; refine ⟨_, rfl, ?_⟩; have HO593 := Aside0.mk (Kd.V_lower (Kd.V_mono (ok' := fun k_ => ((P0_1_ k_ ∨ P0_2_ k_) ∨ w.heap.size ≤ k_) ∧ k_ ≠ gb588 ∧ k_ ≠ gb589) ho0 (fun k_ hk_ => ⟨Or.elim hk_ (fun hs_ => Or.elim hs_ (fun hs_ => hs_.1.1) (fun hs_ => hs_.1.1)) (fun hn_ => (.inr (Nat.le_trans (below_size (by with_reducible repeat (first | exact HB.out | apply ba_ | apply bn_ | apply bd_ | refine bs_ ?_ GE588.out | refine bs_ ?_ GE589.out))) hn_))), Or.elim hk_ (fun hs_ => Or.elim hs_ (fun hs_ => hs_.1.2) (fun hs_ => hs_.1.2)) (fun hn_ => (Kd.freshB (g := gb588) (o := .cells #[.bool a0_0, .slice A0_1 l0_1.length c0_1, .slice A0_2 l0_2.length c0_2] 50 (0, 0)) (by (with_reducible repeat (first | apply kn_ | apply kd_ | apply ka_)); exact BK588.out) k_ hn_)), Or.elim hk_ (fun hs_ => Or.elim hs_ (fun hs_ => hs_.2) (fun hs_ => hs_.2)) (fun hn_ => (Kd.freshB (g := gb589) (o := .cells #[.bool false, .slice none 0 0, .slice none 0 0] 50 (0, 0)) (by (with_reducible repeat (first | apply kn_ | apply kd_ | apply ka_)); exact BK589.out) k_ hn_))⟩)) (below_size (by with_reducible repeat (first | exact HB.out | apply ba_ | apply bn_ | apply bd_ | refine bs_ ?_ GE588.out | refine bs_ ?_ GE589.out)))); have HO596 := Aside0.mk (Kd.V_lower (Kd.V_mono (ok' := fun k_ => ((P0_1_ k_ ∨ P0_2_ k_) ∨ w.heap.size ≤ k_) ∧ k_ ≠ gb588 ∧ k_ ≠ gb589) ho1 (fun k_ hk_ => ⟨Or.elim hk_ (fun hs_ => Or.elim hs_ (fun hs_ => hs_.1.1) (fun hs_ => hs_.1.1)) (fun hn_ => (.inr (Nat.le_trans (below_size (by with_reducible repeat (first | exact HB.out | apply ba_ | apply bn_ | apply bd_ | refine bs_ ?_ GE588.out | refine bs_ ?_ GE589.out))) hn_))), Or.elim hk_ (fun hs_ => Or.elim hs_ (fun hs_ => hs_.1.2) (fun hs_ => hs_.1.2)) (fun hn_ => (Kd.freshB (g := gb588) (o := .cells #[.bool a0_0, .slice A0_1 l0_1.length c0_1, .slice A0_2 l0_2.length c0_2] 50 (0, 0)) (by (with_reducible repeat (first | apply kn_ | apply kd_ | apply ka_)); exact BK588.out) k_ hn_)), Or.elim hk_ (fun hs_ => Or.elim hs_ (fun hs_ => hs_.2) (fun hs_ => hs_.2)) (fun hn_ => (Kd.freshB (g := gb589) (o := .cells #[.bool false, .slice none 0 0, .slice none 0 0] 50 (0, 0)) (by (with_reducible repeat (first | apply kn_ | apply kd_ | apply ka_)); exact BK589.out) k_ hn_))⟩)) (below_size (by with_reducible repeat (first | exact HB.out | apply ba_ | apply bn_ | apply bd_ | refine bs_ ?_ GE588.out | refine bs_ ?_ GE589.out)))); replace BK589 := Aside0.mk (blk_below (g := gb589) (o := .cells #[.bool false, .slice none 0 0, .slice none 0 0] 50 (0, 0)) (by (with_reducible repeat (first | apply kn_ | apply kd_ | apply ka_)); exact BK589.out) hb); replace HB := Aside0.mk (below_step (by with_reducible repeat (first | exact HB.out | apply ba_ | apply bn_ | apply bd_ | refine bs_ ?_ GE588.out | refine bs_ ?_ GE589.out)) hb); skip; have hcz8_0 : w7.cell? ⟨gb589, 0, none⟩ = some (.bool false) := (blk_cell BK589.out 0).trans rfl; have hcz8_1 : w7.cell? ⟨gb589, 1, none⟩ = some (.slice none 0 0) := (blk_cell BK589.out 1).trans rfl; have hcz8_2 : w7.cell? ⟨gb589, 2, none⟩ = some (.slice none 0 0) := (blk_cell BK589.out 2).trans rfl; have hfz8_0 := blk_frozen BK589.out 0; have hfz8_1 := blk_frozen BK589.out 1; have hfz8_2 := blk_frozen BK589.out 2; obtain ⟨Ao9, co9, eo9⟩ := Kd.V_slice HO593.out; subst eo9; obtain ⟨Ao10, co10, eo10⟩ := Kd.V_slice HO596.out; subst eo10))
 refine bodyPost_ret (results_cell_row rfl _ _ gb589 50 #[.bool t590, .slice Ao9 t591.length co9, .slice Ao10 t594.length co10] (0, 0) _ rfl (by (with_reducible repeat (first | apply kn_ | apply kd_ | apply ka_)); refine blk_put (cs := #[.bool t590, .slice Ao9 t591.length co9, .slice none 0 0]) ?_ 2 _ rfl; (with_reducible repeat (first | apply kn_ | apply kd_ | apply ka_)); refine blk_put (cs := #[.bool t590, .slice none 0 0, .slice none 0 0]) ?_ 1 _ rfl; (with_reducible repeat (first | apply kn_ | apply kd_ | apply ka_)); refine blk_put (cs := #[.bool false, .slice none 0 0, .slice none 0 0]) ?_ 0 _ rfl; (with_reducible repeat (first | apply kn_ | apply kd_ | apply ka_)); exact BK589.out) Try.underlying50 rfl (by kernel_rfl)) rfl ?_
 exact ⟨_, _, by first | rfl | (simp [errW_none, errW_some] <;> rfl) | (simp [*, errW_none, errW_some] <;> rfl), by (with_reducible repeat (first | apply va_ | apply vn_ | apply vd_)); exact Kd.V_mono (Kd.V_far (p := ⟨gb589, 2, none⟩) (Kd.V_far (p := ⟨gb589, 1, none⟩) (Kd.V_far (p := ⟨gb589, 0, none⟩) (Kd.V_mono HO593.out (fun k_ hk => (⟨hk, hk.2.2⟩ : _ ∧ k_ ≠ gb589))) (fun _ hk => hk.2) (.bool t590)) (fun _ hk => hk.2) (.slice Ao9 t591.length co9)) (fun _ hk => hk.2) (.slice Ao10 t594.length co10)) (fun _ hk => hk.1.1), by (with_reducible repeat (first | apply va_ | apply vn_ | apply vd_)); exact Kd.V_mono (Kd.V_far (p := ⟨gb589, 2, none⟩) (Kd.V_far (p := ⟨gb589, 1, none⟩) (Kd.V_far (p := ⟨gb589, 0, none⟩) (Kd.V_mono HO596.out (fun k_ hk => (⟨hk, hk.2.2⟩ : _ ∧ k_ ≠ gb589))) (fun _ hk => hk.2) (.bool t590)) (fun _ hk => hk.2) (.slice Ao9 t591.length co9)) (fun _ hk => hk.2) (.slice Ao10 t594.length co10)) (fun _ hk => hk.1.1), by repeat (first | (with_reducible first | exact HB.out | apply below_alloc | apply pw_below_drewN | apply below_drew1 | refine below_set ?_ GE588.out | refine below_set ?_ GE589.out) | exact HB.out)⟩

/-! ### ratio_R_Cmp: function 36 -/
def ratio_R_Cmp.f (k : Nat) (a0_0 : Bool) (l0_1 : List Int) (l0_2 : List Int) (a1_0 : Bool) (l1_1 : List Int) (l1_2 : List Int) : Option (Int) := (ratio_R_low.f k a0_0 l0_1 l0_2).bind fun bt599 => ((ratio_R_low.f k a1_0 l1_1 l1_2).bind fun bt606 => (if (bt599.1 != bt606.1) = true then (if bt599.1 = true then (some (-1)) else (some 1)) else ((nat_Nat_Mul.f k bt599.2.1 bt606.2.2).bind fun t613 => ((nat_Nat_Mul.f k bt606.2.1 bt599.2.2).bind fun t616 => ((nat_Nat_Cmp.f k t613 t616).bind fun t619 => (if bt599.1 = true then (some (wrap64 (-t619))) else (some t619)))))))
theorem ratio_R_Cmp.mono : ∀ a0 a1 a2 a3 a4 a5 k, LeO (ratio_R_Cmp.f k a0 a1 a2 a3 a4 a5) (ratio_R_Cmp.f (k + 1) a0 a1 a2 a3 a4 a5) := by
 intro a0 a1 a2 a3 a4 a5 k
 unfold ratio_R_Cmp.f
 repeat' first
   | (with_reducible exact nat_Nat_Cmp.mono _ _ _)
   | (with_reducible exact nat_Nat_Mul.mono _ _ _)
   | (with_reducible exact ratio_R_low.mono _ _ _ _)
   | (with_reducible exact LeO.refl _)
   | (with_reducible exact LeO.none _)
   | (with_reducible refine LeO.ite ?_ ?_)
   | (with_reducible refine LeO.bind ?_ (fun _ => ?_))
   | exact nat_Nat_Cmp.mono _ _ _
   | exact nat_Nat_Mul.mono _ _ _
   | exact ratio_R_low.mono _ _ _ _
   | exact LeO.none _
   | refine LeO.ite ?_ ?_
   | refine LeO.bind ?_ (fun _ => ?_)
def ratio_R_Cmp.T6 : Bool × List (List Nat × List Nat) := (true, [([], []), ([0], [0]), ([], []), ([2], [2]), ([1, 3], [1, 3]), ([], []), ([5], [5]), ([], []), ([7], [7]), ([6, 8, 4], [6, 8]), ([4, 9, 9], [4, 9]), ([10, 10, 0, 1, 2, 3, 4, 5, 6, 7, 8, 9, 10], [10])])
def ratio_R_Cmp.B6 : List Nat := [0, 1, 0, 4, 15, 0, 32, 0, 128, 511, 1023, 2047]
theorem ratio_R_Cmp.tab6 : rtab .any (opsOf Try.f36 6) = ratio_R_Cmp.T6 := by kernel_rfl
theorem ratio_R_Cmp.bits6 : waitsOk ratio_R_Cmp.T6.2 ratio_R_Cmp.B6 = true := by kernel_rfl
set_option maxHeartbeats 8000000 in
set_option maxRecDepth 100000 in
theorem ratio_R_Cmp.calls (k : Nat) (a0_0 : Bool) (A0_1 : Option Addr) (c0_1 : Nat) (l0_1 : List Int) (A0_2 : Option Addr) (c0_2 : Nat) (l0_2 : List Int) (a1_0 : Bool) (A1_1 : Option Addr) (c1_1 : Nat) (l1_1 : List Int) (A1_2 : Option Addr) (c1_2 : Nat) (l1_2 : List Int) (r : Int) (w : World) (hr0_1 : Kd.C (Kd.int .u32) w A0_1 l0_1.length l0_1) (hc0_1 : l0_1.length ≤ c0_1) (hr0_2 : Kd.C (Kd.int .u32) w A0_2 l0_2.length l0_2) (hc0_2 : l0_2.length ≤ c0_2) (hr1_1 : Kd.C (Kd.int .u32) w A1_1 l1_1.length l1_1) (hc1_1 : l1_1.length ≤ c1_1) (hr1_2 : Kd.C (Kd.int .u32) w A1_2 l1_2.length l1_2) (hc1_2 : l1_2.length ≤ c1_2) (h : ratio_R_Cmp.f k a0_0 l0_1 l0_2 a1_0 l1_1 l1_2 = some r) :
  Calls Try.prog 36 #[.agg #[.bool a0_0, .slice A0_1 l0_1.length c0_1, .slice A0_2 l0_2.length c0_2], .agg #[.bool a1_0, .slice A1_1 l1_1.length c1_1, .slice A1_2 l1_2.length c1_2]] w fun e w' => e = .returned (.int .i64 r) ∧ Below w.heap.size w w' := by
 have hu50 := Try.underlying50
 have HR0_1 := Aside0.mk hr0_1
 have HC0_1 := Aside0.mk hc0_1
 clear hr0_1 hc0_1
 have HR0_2 := Aside0.mk hr0_2
 have HC0_2 := Aside0.mk hc0_2
 clear hr0_2 hc0_2
 have HR1_1 := Aside0.mk hr1_1
 have HC1_1 := Aside0.mk hc1_1
 clear hr1_1 hc1_1
 have HR1_2 := Aside0.mk hr1_2
 have HC1_2 := Aside0.mk hc1_2
 clear hr1_2 hc1_2
 have HB := Aside0.mk (Below.refl w.heap.size w)
 have H : ((ratio_R_low.f k a0_0 l0_1 l0_2).bind fun bt599 => ((ratio_R_low.f k a1_0 l1_1 l1_2).bind fun bt606 => (if (bt599.1 != bt606.1) = true then (if bt599.1 = true then (some (-1)) else (some 1)) else ((nat_Nat_Mul.f k bt599.2.1 bt606.2.2).bind fun t613 => ((nat_Nat_Mul.f k bt606.2.1 bt599.2.2).bind fun t616 => ((nat_Nat_Cmp.f k t613 t616).bind fun t619 => (if bt599.1 = true then (some (wrap64 (-t619))) else (some t619)))))))) = some r := h
 clear h
 replace H := Option.bind_eq_some_iff.mp H
 obtain ⟨⟨t599, t600, t603⟩, A30, H⟩ := H
 replace H : ((ratio_R_low.f k a1_0 l1_1 l1_2).bind fun bt606 => (if (t599 != bt606.1) = true then (if t599 = true then (some (-1)) else (some 1)) else ((nat_Nat_Mul.f k t600 bt606.2.2).bind fun t613 => ((nat_Nat_Mul.f k bt606.2.1 t603).bind fun t616 => ((nat_Nat_Cmp.f k t613 t616).bind fun t619 => (if t599 = true then (some (wrap64 (-t619))) else (some t619))))))) = some r := H
 have A3 := Aside0.mk A30
 clear A30
 replace H := Option.bind_eq_some_iff.mp H
 obtain ⟨⟨t606, t607, t610⟩, A40, H⟩ := H
 replace H : (if (t599 != t606) = true then (if t599 = true then (some (-1)) else (some 1)) else ((nat_Nat_Mul.f k t600 t610).bind fun t613 => ((nat_Nat_Mul.f k t607 t603).bind fun t616 => ((nat_Nat_Cmp.f k t613 t616).bind fun t619 => (if t599 = true then (some (wrap64 (-t619))) else (some t619)))))) = some r := H
 have A4 := Aside0.mk A40
 clear A40
 have HH1_ := Aside0.mk H
 clear H
 go_enter Try.func36, Try.ntmps36
 try go_wp2_with (first | ((with_reducible refine gate_dst (N := 2) rfl ?_); refine box_event ?hg (N := 2) ?hd (cs := #[.bool a0_0, .slice A0_1 l0_1.length c0_1, .slice A0_2 l0_2.length c0_2]) (t := 50) ?hr ?_; (case hd => rfl); (case hg => rfl); (case hr => first | (go_simp; done) | (go_simp; rfl)); intro gb597 hg w7 hbox hb; have n0_ := Aside0.mk (below_step (by with_reducible repeat (first | exact HB.out | apply ba_ | apply bn_ | apply bd_)) hb); have n1_ := Aside0.mk (hbox); have n2_ := Aside0.mk ((by rw [hg]; exact (below_size (by with_reducible repeat (first | exact HB.out | apply ba_ | apply bn_ | apply bd_))) : w.heap.size ≤ gb597)); have n3_ := Aside0.mk ((by rw [hg]; exact (below_size (by with_reducible repeat (first | exact HB.out | apply ba_ | apply bn_ | apply bd_))) : w.heap.size ≤ gb597)); clear HB; have HB := n0_; have BK597 := n1_; have GW597 := n2_; have GE597 := n3_; clear n0_ n1_ n2_ n3_; clear hb hbox hg) | ((with_reducible refine gate_dst (N := 3) rfl ?_); refine box_event ?hg (N := 3) ?hd (cs := #[.bool a1_0, .slice A1_1 l1_1.length c1_1, .slice A1_2 l1_2.length c1_2]) (t := 50) ?hr ?_; (case hd => rfl); (case hg => rfl); (case hr => first | (go_simp; done) | (go_simp; rfl)); intro gb598 hg w8 hbox hb; have n0_ := Aside0.mk (blk_below (g := gb597) (o := .cells #[.bool a0_0, .slice A0_1 l0_1.length c0_1, .slice A0_2 l0_2.length c0_2] 50 (0, 0)) (by (with_reducible repeat (first | apply kn_ | apply kd_ | apply ka_)); exact BK597.out) hb); have n1_ := Aside0.mk (below_step (by with_reducible repeat (first | exact HB.out | apply ba_ | apply bn_ | apply bd_ | refine bs_ ?_ GE597.out)) hb); have n2_ := Aside0.mk (hbox); have n3_ := Aside0.mk ((by rw [hg]; exact (below_size (by with_reducible repeat (first | exact HB.out | apply ba_ | apply bn_ | apply bd_ | refine bs_ ?_ GE597.out))) : w.heap.size ≤ gb598)); have n4_ := Aside0.mk ((by rw [hg]; exact (below_size (by with_reducible repeat (first | exact HB.out | apply ba_ | apply bn_ | apply bd_ | refine bs_ ?_ GE597.out))) : w.heap.size ≤ gb598)); have n5_ := Aside0.mk ((by rw [hg]; exact Nat.ne_of_lt (blk_lt (g := gb597) (o := .cells #[.bool a0_0, .slice A0_1 l0_1.length c0_1, .slice A0_2 l0_2.length c0_2] 50 (0, 0)) (by (with_reducible repeat (first | apply kn_ | apply kd_ | apply ka_)); exact BK597.out)) : gb597 ≠ gb598)); have n6_ := Aside0.mk ((by rw [hg]; exact Nat.ne_of_gt (blk_lt (g := gb597) (o := .cells #[.bool a0_0, .slice A0_1 l0_1.length c0_1, .slice A0_2 l0_2.length c0_2] 50 (0, 0)) (by (with_reducible repeat (first | apply kn_ | apply kd_ | apply ka_)); exact BK597.out)) : gb598 ≠ gb597)); clear BK597 HB; have BK597 := n0_; have HB := n1_; have BK598 := n2_; have GW598 := n3_; have GE598 := n4_; have NB597_598 := n5_; have NB598_597 := n6_; clear n0_ n1_ n2_ n3_ n4_ n5_ n6_; clear hb hbox hg))
 have n0_ := Aside0.mk (blk_drew BK597.out)
 have n1_ := Aside0.mk (blk_drew BK598.out)
 have n2_ := Aside0.mk (below_drew1 HB.out)
 clear BK597
 clear BK598
 clear HB
 have BK597 := n0_
 have BK598 := n1_
 have HB := n2_
 clear n0_ n1_ n2_
 refine start_ (n := 6) (S := fun w' => w'.cell? ⟨gb597, 0, none⟩ = some (.bool a0_0) ∧ w'.cell? ⟨gb597, 1, none⟩ = some (.slice A0_1 l0_1.length c0_1) ∧ w'.cell? ⟨gb597, 2, none⟩ = some (.slice A0_2 l0_2.length c0_2) ∧ w'.cell? ⟨gb598, 0, none⟩ = some (.bool a1_0) ∧ w'.cell? ⟨gb598, 1, none⟩ = some (.slice A1_1 l1_1.length c1_1) ∧ w'.cell? ⟨gb598, 2, none⟩ = some (.slice A1_2 l1_2.length c1_2)) (ds := [4, 5]) #[false, false, false, false, false, false] (by kernel_rfl) rfl rfl ⟨(blk_cell BK597.out 0).trans rfl, (blk_cell BK597.out 1).trans rfl, (blk_cell BK597.out 2).trans rfl, (blk_cell BK598.out 0).trans rfl, (blk_cell BK598.out 1).trans rfl, (blk_cell BK598.out 2).trans rfl⟩ (fun hHeld => ?_)
 generalize w8.drew = w9 at BK597 BK598 HB hHeld ⊢
 refine take_ (i := 0) (N := some 6) (v := ?_) (a' := ?_) #[true, false, false, false, false, false] rfl rfl (by kernel_rfl) (fun _ _ _ h => h) (Or.inl ⟨by rfl, ?_⟩) hHeld ?_ ?_
 rotate_left
 ·
  rintro w' ⟨s0, s1, s2, s3, s4, s5⟩
  go_simp
  with_reducible rfl
 rotate_left
 ·
  simp only [Act.put, List.setIfInBounds_toArray, List.set_cons_zero, List.set_cons_succ, i64_w, i32_w]
  rfl
 refine take_ (i := 2) (N := some 8) (v := ?_) (a' := ?_) #[true, false, true, false, false, false] rfl rfl (by kernel_rfl) (fun _ _ _ h => h) (Or.inl ⟨by rfl, ?_⟩) hHeld ?_ ?_
 rotate_left
 ·
  rintro w' ⟨s0, s1, s2, s3, s4, s5⟩
  go_simp
  with_reducible rfl
 rotate_left
 ·
  simp only [Act.put, List.setIfInBounds_toArray, List.set_cons_zero, List.set_cons_succ, i64_w, i32_w]
  rfl
 refine one_ (i := 1) (N := some 7) #[true, true, true, false, false, false] rfl rfl (by kernel_rfl) (by decide) (fun K hK => ?_)
 refine goesN_ Try.func74 (by kernel_rfl) rfl [.agg #[.bool a0_0, .slice A0_1 l0_1.length c0_1, .slice A0_2 l0_2.length c0_2]] (by rfl) rfl rfl (by rfl) ?_
 have H := HH1_.out
 clear HH1_
 by_cases c5 : (t599 != t606) = true
 case pos =>
  rw [if_pos c5] at H
  have c5b0 : (t599 != t606) = true := c5
  (try (have c5b1 : decide (t599 = t606) = false := by simpa using c5))
  (try (have c5b2 : (t599 == t606) = false := by simpa using c5))
  (try (have c5b3 : ¬ (t599 = t606) := by simpa using c5))
  clear c5
  by_cases c6 : t599 = true
  case pos =>
   subst c6
   have H1 : (some (-1)) = some r := by rw [if_pos rfl] at H; exact H
   clear H
   have H := H1
   clear H1
   obtain rfl := Option.some.inj H
   (try simp only [c5b0])
   with_reducible refine (ratio_R_low.calls k a0_0 (fun k_ => k_ < w.heap.size) _ _ l0_1 (fun k_ => k_ < w.heap.size) _ _ l0_2 true t600 t603 _ ?side1 ?side2 A3.out).mono ?_
   (case side1 => exact Kd.V_mk HC0_1.out (Kd.F_below (Kd.C_F (Kd.heap_int .u32) HR0_1.out) (by with_reducible repeat (first | exact HB.out | apply ba_ | apply bn_ | apply bd_ | refine bs_ ?_ GE597.out | refine bs_ ?_ GE598.out))))
   (case side2 => exact Kd.V_mk HC0_2.out (Kd.F_below (Kd.C_F (Kd.heap_int .u32) HR0_2.out) (by with_reducible repeat (first | exact HB.out | apply ba_ | apply bn_ | apply bd_ | refine bs_ ?_ GE597.out | refine bs_ ?_ GE598.out))))
   rintro e w10 ⟨v601, v604, rfl, ho0, ho1, hb⟩
   refine ⟨_, rfl, ?_⟩
   have n0_ := Aside0.mk (Kd.V_lower (Kd.V_mono (ok' := fun k_ => k_ ≠ gb597 ∧ k_ ≠ gb598) ho0 (fun k_ hk_ => ⟨Or.elim hk_ (fun hs_ => Or.elim hs_ (fun hs_ => fun e_ => Nat.not_le.2 hs_ (by rw [e_]; exact GW597.out)) (fun hs_ => fun e_ => Nat.not_le.2 hs_ (by rw [e_]; exact GW597.out))) (fun hn_ => (Kd.freshB (g := gb597) (o := .cells #[.bool a0_0, .slice A0_1 l0_1.length c0_1, .slice A0_2 l0_2.length c0_2] 50 (0, 0)) (by (with_reducible repeat (first | apply kn_ | apply kd_ | apply ka_)); exact BK597.out) k_ hn_)), Or.elim hk_ (fun hs_ => Or.elim hs_ (fun hs_ => fun e_ => Nat.not_le.2 hs_ (by rw [e_]; exact GW598.out)) (fun hs_ => fun e_ => Nat.not_le.2 hs_ (by rw [e_]; exact GW598.out))) (fun hn_ => (Kd.freshB (g := gb598) (o := .cells #[.bool a1_0, .slice A1_1 l1_1.length c1_1, .slice A1_2 l1_2.length c1_2] 50 (0, 0)) (by (with_reducible repeat (first | apply kn_ | apply kd_ | apply ka_)); exact BK598.out) k_ hn_))⟩)) (below_size (by with_reducible repeat (first | exact HB.out | apply ba_ | apply bn_ | apply bd_ | refine bs_ ?_ GE597.out | refine bs_ ?_ GE598.out))))
   have n1_ := Aside0.mk (Kd.V_lower (Kd.V_mono (ok' := fun k_ => k_ ≠ gb597 ∧ k_ ≠ gb598) ho1 (fun k_ hk_ => ⟨Or.elim hk_ (fun hs_ => Or.elim hs_ (fun hs_ => fun e_ => Nat.not_le.2 hs_ (by rw [e_]; exact GW597.out)) (fun hs_ => fun e_ => Nat.not_le.2 hs_ (by rw [e_]; exact GW597.out))) (fun hn_ => (Kd.freshB (g := gb597) (o := .cells #[.bool a0_0, .slice A0_1 l0_1.length c0_1, .slice A0_2 l0_2.length c0_2] 50 (0, 0)) (by (with_reducible repeat (first | apply kn_ | apply kd_ | apply ka_)); exact BK597.out) k_ hn_)), Or.elim hk_ (fun hs_ => Or.elim hs_ (fun hs_ => fun e_ => Nat.not_le.2 hs_ (by rw [e_]; exact GW598.out)) (fun hs_ => fun e_ => Nat.not_le.2 hs_ (by rw [e_]; exact GW598.out))) (fun hn_ => (Kd.freshB (g := gb598) (o := .cells #[.bool a1_0, .slice A1_1 l1_1.length c1_1, .slice A1_2 l1_2.length c1_2] 50 (0, 0)) (by (with_reducible repeat (first | apply kn_ | apply kd_ | apply ka_)); exact BK598.out) k_ hn_))⟩)) (below_size (by with_reducible repeat (first | exact HB.out | apply ba_ | apply bn_ | apply bd_ | refine bs_ ?_ GE597.out | refine bs_ ?_ GE598.out))))
   have n2_ := Aside0.mk (blk_below (g := gb597) (o := .cells #[.bool a0_0, .slice A0_1 l0_1.length c0_1, .slice A0_2 l0_2.length c0_2] 50 (0, 0)) (by (with_reducible repeat (first | apply kn_ | apply kd_ | apply ka_)); exact BK597.out) hb)
   have n3_ := Aside0.mk (blk_below (g := gb598) (o := .cells #[.bool a1_0, .slice A1_1 l1_1.length c1_1, .slice A1_2 l1_2.length c1_2] 50 (0, 0)) (by (with_reducible repeat (first | apply kn_ | apply kd_ | apply ka_)); exact BK598.out) hb)
   have n4_ := Aside0.mk (below_step (by with_reducible repeat (first | exact HB.out | apply ba_ | apply bn_ | apply bd_ | refine bs_ ?_ GE597.out | refine bs_ ?_ GE598.out)) hb)
   clear BK597
   clear BK598
   clear HB
   have HO602 := n0_
   have HO605 := n1_
   have BK597 := n2_
   have BK598 := n3_
   have HB := n4_
   clear n0_ n1_ n2_ n3_ n4_
   (try clear hb)
   (try clear hb2)
   (try clear hk)
   (try clear hi)
   (try clear ho0)
   (try clear ho1)
   refine hK.out _ _ ⟨(blk_cell BK597.out 0).trans rfl, (blk_cell BK597.out 1).trans rfl, (blk_cell BK597.out 2).trans rfl, (blk_cell BK598.out 0).trans rfl, (blk_cell BK598.out 1).trans rfl, (blk_cell BK598.out 2).trans rfl⟩ (fun hHeld => ?_)
   clear hK K
   refine norm_ (a' := ?_) ?_ ?_
   rotate_left
   ·
    show Act.put _ (some 7) _ = _
    simp only [Act.put, List.setIfInBounds_toArray, List.set_cons_zero, List.set_cons_succ, i64_w, i32_w]
    rfl
   refine one_ (i := 3) (N := some 9) #[true, true, true, true, false, false] rfl rfl (by kernel_rfl) (by decide) (fun K hK => ?_)
   refine goesN_ Try.func74 (by kernel_rfl) rfl [.agg #[.bool a1_0, .slice A1_1 l1_1.length c1_1, .slice A1_2 l1_2.length c1_2]] (by rfl) rfl rfl (by rfl) ?_
   with_reducible refine (ratio_R_low.calls k a1_0 (fun k_ => k_ < w.heap.size) _ _ l1_1 (fun k_ => k_ < w.heap.size) _ _ l1_2 t606 t607 t610 _ ?side1 ?side2 A4.out).mono ?_
   (case side1 => exact Kd.V_mk HC1_1.out (Kd.F_below (Kd.C_F (Kd.heap_int .u32) HR1_1.out) (by with_reducible repeat (first | exact HB.out | apply ba_ | apply bn_ | apply bd_ | refine bs_ ?_ GE597.out | refine bs_ ?_ GE598.out))))
   (case side2 => exact Kd.V_mk HC1_2.out (Kd.F_below (Kd.C_F (Kd.heap_int .u32) HR1_2.out) (by with_reducible repeat (first | exact HB.out | apply ba_ | apply bn_ | apply bd_ | refine bs_ ?_ GE597.out | refine bs_ ?_ GE598.out))))
   rintro e w11 ⟨v608, v611, rfl, ho0, ho1, hb⟩
   refine ⟨_, rfl, ?_⟩
   have n0_ := Aside0.mk (Kd.V_below (by (with_reducible repeat (first | apply va_ | apply vn_ | apply vd_)); exact HO602.out) hb)
   have n1_ := Aside0.mk (Kd.V_below (by (with_reducible repeat (first | apply va_ | apply vn_ | apply vd_)); exact HO605.out) hb)
   have n2_ := Aside0.mk (Kd.V_lower (Kd.V_mono (ok' := fun k_ => k_ ≠ gb597 ∧ k_ ≠ gb598) ho0 (fun k_ hk_ => ⟨Or.elim hk_ (fun hs_ => Or.elim hs_ (fun hs_ => fun e_ => Nat.not_le.2 hs_ (by rw [e_]; exact GW597.out)) (fun hs_ => fun e_ => Nat.not_le.2 hs_ (by rw [e_]; exact GW597.out))) (fun hn_ => (Kd.freshB (g := gb597) (o := .cells #[.bool a0_0, .slice A0_1 l0_1.length c0_1, .slice A0_2 l0_2.length c0_2] 50 (0, 0)) (by (with_reducible repeat (first | apply kn_ | apply kd_ | apply ka_)); exact BK597.out) k_ hn_)), Or.elim hk_ (fun hs_ => Or.elim hs_ (fun hs_ => fun e_ => Nat.not_le.2 hs_ (by rw [e_]; exact GW598.out)) (fun hs_ => fun e_ => Nat.not_le.2 hs_ (by rw [e_]; exact GW598.out))) (fun hn_ => (Kd.freshB (g := gb598) (o := .cells #[.bool a1_0, .slice A1_1 l1_1.length c1_1, .slice A1_2 l1_2.length c1_2] 50 (0, 0)) (by (with_reducible repeat (first | apply kn_ | apply kd_ | apply ka_)); exact BK598.out) k_ hn_))⟩)) (below_size (by with_reducible repeat (first | exact HB.out | apply ba_ | apply bn_ | apply bd_ | refine bs_ ?_ GE597.out | refine bs_ ?_ GE598.out))))
   have n3_ := Aside0.mk (Kd.V_lower (Kd.V_mono (ok' := fun k_ => k_ ≠ gb597 ∧ k_ ≠ gb598) ho1 (fun k_ hk_ => ⟨Or.elim hk_ (fun hs_ => Or.elim hs_ (fun hs_ => fun e_ => Nat.not_le.2 hs_ (by rw [e_]; exact GW597.out)) (fun hs_ => fun e_ => Nat.not_le.2 hs_ (by rw [e_]; exact GW597.out))) (fun hn_ => (Kd.freshB (g := gb597) (o := .cells #[.bool a0_0, .slice A0_1 l0_1.length c0_1, .slice A0_2 l0_2.length c0_2] 50 (0, 0)) (by (with_reducible repeat (first | apply kn_ | apply kd_ | apply ka_)); exact BK597.out) k_ hn_)), Or.elim hk_ (fun hs_ => Or.elim hs_ (fun hs_ => fun e_ => Nat.not_le.2 hs_ (by rw [e_]; exact GW598.out)) (fun hs_ => fun e_ => Nat.not_le.2 hs_ (by rw [e_]; exact GW598.out))) (fun hn_ => (Kd.freshB (g := gb598) (o := .cells #[.bool a1_0, .slice A1_1 l1_1.length c1_1, .slice A1_2 l1_2.length c1_2] 50 (0, 0)) (by (with_reducible repeat (first | apply kn_ | apply kd_ | apply ka_)); exact BK598.out) k_ hn_))⟩)) (below_size (by with_reducible repeat (first | exact HB.out | apply ba_ | apply bn_ | apply bd_ | refine bs_ ?_ GE597.out | refine bs_ ?_ GE598.out))))
   have n4_ := Aside0.mk (blk_below (g := gb597) (o := .cells #[.bool a0_0, .slice A0_1 l0_1.length c0_1, .slice A0_2 l0_2.length c0_2] 50 (0, 0)) (by (with_reducible repeat (first | apply kn_ | apply kd_ | apply ka_)); exact BK597.out) hb)
   have n5_ := Aside0.mk (blk_below (g := gb598) (o := .cells #[.bool a1_0, .slice A1_1 l1_1.length c1_1, .slice A1_2 l1_2.length c1_2] 50 (0, 0)) (by (with_reducible repeat (first | apply kn_ | apply kd_ | apply ka_)); exact BK598.out) hb)
   have n6_ := Aside0.mk (below_step (by with_reducible repeat (first | exact HB.out | apply ba_ | apply bn_ | apply bd_ | refine bs_ ?_ GE597.out | refine bs_ ?_ GE598.out)) hb)
   clear HO602
   clear HO605
   clear BK597
   clear BK598
   clear HB
   have HO602 := n0_
   have HO605 := n1_
   have HO609 := n2_
   have HO612 := n3_
   have BK597 := n4_
   have BK598 := n5_
   have HB := n6_
   clear n0_ n1_ n2_ n3_ n4_ n5_ n6_
   (try clear hb)
   (try clear hb2)
   (try clear hk)
   (try clear hi)
   (try clear ho0)
   (try clear ho1)
   obtain ⟨Ao13, co13, eo13⟩ := Kd.V_slice HO602.out
   (first | subst eo13 | (injection eo13 with f1_ f2_ f3_; have f4_ := f1_.symm; have f5_ := f3_.symm; clear f1_ f2_ f3_; subst f4_; subst f5_))
   obtain ⟨Ao15, co15, eo15⟩ := Kd.V_slice HO605.out
   (first | subst eo15 | (injection eo15 with f1_ f2_ f3_; have f4_ := f1_.symm; have f5_ := f3_.symm; clear f1_ f2_ f3_; subst f4_; subst f5_))
   obtain ⟨Ao18, co18, eo18⟩ := Kd.V_slice HO609.out
   (first | subst eo18 | (injection eo18 with f1_ f2_ f3_; have f4_ := f1_.symm; have f5_ := f3_.symm; clear f1_ f2_ f3_; subst f4_; subst f5_))
   obtain ⟨Ao20, co20, eo20⟩ := Kd.V_slice HO612.out
   (first | subst eo20 | (injection eo20 with f1_ f2_ f3_; have f4_ := f1_.symm; have f5_ := f3_.symm; clear f1_ f2_ f3_; subst f4_; subst f5_))
   refine hK.out _ _ ⟨(blk_cell BK597.out 0).trans rfl, (blk_cell BK597.out 1).trans rfl, (blk_cell BK597.out 2).trans rfl, (blk_cell BK598.out 0).trans rfl, (blk_cell BK598.out 1).trans rfl, (blk_cell BK598.out 2).trans rfl⟩ (fun hHeld => ?_)
   clear hK K
   refine norm_ (a' := ?_) ?_ ?_
   rotate_left
   ·
    show Act.put _ (some 9) _ = _
    simp only [Act.put, List.setIfInBounds_toArray, List.set_cons_zero, List.set_cons_succ, i64_w, i32_w]
    rfl
   refine last_ (i := 4) (N := none) #[true, true, true, true, true, false] rfl rfl (by kernel_rfl) (by decide) (fun K hK => ?_)
   have hs12 : w11.cell? ⟨gb597, 0, none⟩ = some (.bool a0_0) := (blk_cell BK597.out 0).trans rfl
   have hfs12 := blk_frozen BK597.out 0
   have hns12_1 := NB598_597.out
   have hms12_1 := NB597_598.out
   have hs14 : w11.cell? ⟨gb597, 1, none⟩ = some (.slice A0_1 l0_1.length c0_1) := (blk_cell BK597.out 1).trans rfl
   have hfs14 := blk_frozen BK597.out 1
   have hns14_1 := NB598_597.out
   have hms14_1 := NB597_598.out
   have hs16 : w11.cell? ⟨gb597, 2, none⟩ = some (.slice A0_2 l0_2.length c0_2) := (blk_cell BK597.out 2).trans rfl
   have hfs16 := blk_frozen BK597.out 2
   have hns16_1 := NB598_597.out
   have hms16_1 := NB597_598.out
   refine skip_ (w1 := ?_) (by rfl) rfl ?_ ?_
   rotate_left
   ·
    go_simp
    rfl
   refine hK.out _ _ ?_
   clear hK K
   refine last_ (i := 5) (N := none) #[true, true, true, true, true, true] rfl rfl (by kernel_rfl) (by decide) (fun K hK => ?_)
   have hs17 : w11.cell? ⟨gb598, 0, none⟩ = some (.bool a1_0) := (blk_cell BK598.out 0).trans rfl
   have hfs17 := blk_frozen BK598.out 0
   have hns17_0 := NB597_598.out
   have hms17_0 := NB598_597.out
   have hs19 : w11.cell? ⟨gb598, 1, none⟩ = some (.slice A1_1 l1_1.length c1_1) := (blk_cell BK598.out 1).trans rfl
   have hfs19 := blk_frozen BK598.out 1
   have hns19_0 := NB597_598.out
   have hms19_0 := NB598_597.out
   have hs21 : w11.cell? ⟨gb598, 2, none⟩ = some (.slice A1_2 l1_2.length c1_2) := (blk_cell BK598.out 2).trans rfl
   have hfs21 := blk_frozen BK598.out 2
   have hns21_0 := NB597_598.out
   have hms21_0 := NB598_597.out
   refine skip_ (w1 := ?_) (by rfl) rfl ?_ ?_
   rotate_left
   ·
    go_simp
    rfl
   refine hK.out _ _ ?_
   clear hK K
   refine done_ (by kernel_rfl) ?_
   have hnb22 := NB597_598.out
   have hnc22 := NB598_597.out
   have hcz23_0 : w11.cell? ⟨gb597, 0, none⟩ = some (.bool a0_0) := (blk_cell BK597.out 0).trans rfl
   have hcz23_1 : w11.cell? ⟨gb597, 1, none⟩ = some (.slice A0_1 l0_1.length c0_1) := (blk_cell BK597.out 1).trans rfl
   have hcz23_2 : w11.cell? ⟨gb597, 2, none⟩ = some (.slice A0_2 l0_2.length c0_2) := (blk_cell BK597.out 2).trans rfl
   have hfz23_0 := blk_frozen BK597.out 0
   have hfz23_1 := blk_frozen BK597.out 1
   have hfz23_2 := blk_frozen BK597.out 2
   have hcz24_0 : w11.cell? ⟨gb598, 0, none⟩ = some (.bool a1_0) := (blk_cell BK598.out 0).trans rfl
   have hcz24_1 : w11.cell? ⟨gb598, 1, none⟩ = some (.slice A1_1 l1_1.length c1_1) := (blk_cell BK598.out 1).trans rfl
   have hcz24_2 : w11.cell? ⟨gb598, 2, none⟩ = some (.slice A1_2 l1_2.length c1_2) := (blk_cell BK598.out 2).trans rfl
   have hfz24_0 := blk_frozen BK598.out 0
   have hfz24_1 := blk_frozen BK598.out 1
   have hfz24_2 := blk_frozen BK598.out 2
   try go_wp2
   go_ret
   exact ⟨by first | rfl | (simp [errW_none, errW_some] <;> rfl) | (simp [*, errW_none, errW_some] <;> rfl), by repeat (first | (with_reducible first | exact HB.out | apply below_alloc | apply pw_below_drewN | apply below_drew1 | refine below_set ?_ GE597.out | refine below_set ?_ GE598.out) | exact HB.out)⟩
  replace c6 := Bool.eq_false_iff.mpr c6
  subst c6
  have H1 : (some 1) = some r := by rw [if_neg (show ¬ (false = true) by decide)] at H; exact H
  clear H
  have H := H1
  clear H1
  obtain rfl := Option.some.inj H
  (try simp only [c5b0])
  with_reducible refine (ratio_R_low.calls k a0_0 (fun k_ => k_ < w.heap.size) _ _ l0_1 (fun k_ => k_ < w.heap.size) _ _ l0_2 false t600 t603 _ ?side1 ?side2 A3.out).mono ?_
  (case side1 => exact Kd.V_mk HC0_1.out (Kd.F_below (Kd.C_F (Kd.heap_int .u32) HR0_1.out) (by with_reducible repeat (first | exact HB.out | apply ba_ | apply bn_ | apply bd_ | refine bs_ ?_ GE597.out | refine bs_ ?_ GE598.out))))
  (case side2 => exact Kd.V_mk HC0_2.out (Kd.F_below (Kd.C_F (Kd.heap_int .u32) HR0_2.out) (by with_reducible repeat (first | exact HB.out | apply ba_ | apply bn_ | apply bd_ | refine bs_ ?_ GE597.out | refine bs_ ?_ GE598.out))))
  rintro e w28 ⟨v601, v604, rfl, ho0, ho1, hb⟩
  refine ⟨_, rfl, ?_⟩
  have n0_ := Aside0.mk (Kd.V_lower (Kd.V_mono (ok' := fun k_ => k_ ≠ gb597 ∧ k_ ≠ gb598) ho0 (fun k_ hk_ => ⟨Or.elim hk_ (fun hs_ => Or.elim hs_ (fun hs_ => fun e_ => Nat.not_le.2 hs_ (by rw [e_]; exact GW597.out)) (fun hs_ => fun e_ => Nat.not_le.2 hs_ (by rw [e_]; exact GW597.out))) (fun hn_ => (Kd.freshB (g := gb597) (o := .cells #[.bool a0_0, .slice A0_1 l0_1.length c0_1, .slice A0_2 l0_2.length c0_2] 50 (0, 0)) (by (with_reducible repeat (first | apply kn_ | apply kd_ | apply ka_)); exact BK597.out) k_ hn_)), Or.elim hk_ (fun hs_ => Or.elim hs_ (fun hs_ => fun e_ => Nat.not_le.2 hs_ (by rw [e_]; exact GW598.out)) (fun hs_ => fun e_ => Nat.not_le.2 hs_ (by rw [e_]; exact GW598.out))) (fun hn_ => (Kd.freshB (g := gb598) (o := .cells #[.bool a1_0, .slice A1_1 l1_1.length c1_1, .slice A1_2 l1_2.length c1_2] 50 (0, 0)) (by (with_reducible repeat (first | apply kn_ | apply kd_ | apply ka_)); exact BK598.out) k_ hn_))⟩)) (below_size (by with_reducible repeat (first | exact HB.out | apply ba_ | apply bn_ | apply bd_ | refine bs_ ?_ GE597.out | refine bs_ ?_ GE598.out))))
  have n1_ := Aside0.mk (Kd.V_lower (Kd.V_mono (ok' := fun k_ => k_ ≠ gb597 ∧ k_ ≠ gb598) ho1 (fun k_ hk_ => ⟨Or.elim hk_ (fun hs_ => Or.elim hs_ (fun hs_ => fun e_ => Nat.not_le.2 hs_ (by rw [e_]; exact GW597.out)) (fun hs_ => fun e_ => Nat.not_le.2 hs_ (by rw [e_]; exact GW597.out))) (fun hn_ => (Kd.freshB (g := gb597) (o := .cells #[.bool a0_0, .slice A0_1 l0_1.length c0_1, .slice A0_2 l0_2.length c0_2] 50 (0, 0)) (by (with_reducible repeat (first | apply kn_ | apply kd_ | apply ka_)); exact BK597.out) k_ hn_)), Or.elim hk_ (fun hs_ => Or.elim hs_ (fun hs_ => fun e_ => Nat.not_le.2 hs_ (by rw [e_]; exact GW598.out)) (fun hs_ => fun e_ => Nat.not_le.2 hs_ (by rw [e_]; exact GW598.out))) (fun hn_ => (Kd.freshB (g := gb598) (o := .cells #[.bool a1_0, .slice A1_1 l1_1.length c1_1, .slice A1_2 l1_2.length c1_2] 50 (0, 0)) (by (with_reducible repeat (first | apply kn_ | apply kd_ | apply ka_)); exact BK598.out) k_ hn_))⟩)) (below_size (by with_reducible repeat (first | exact HB.out | apply ba_ | apply bn_ | apply bd_ | refine bs_ ?_ GE597.out | refine bs_ ?_ GE598.out))))
  have n2_ := Aside0.mk (blk_below (g := gb597) (o := .cells #[.bool a0_0, .slice A0_1 l0_1.length c0_1, .slice A0_2 l0_2.length c0_2] 50 (0, 0)) (by (with_reducible repeat (first | apply kn_ | apply kd_ | apply ka_)); exact BK597.out) hb)
  have n3_ := Aside0.mk (blk_below (g := gb598) (o := .cells #[.bool a1_0, .slice A1_1 l1_1.length c1_1, .slice A1_2 l1_2.length c1_2] 50 (0, 0)) (by (with_reducible repeat (first | apply kn_ | apply kd_ | apply ka_)); exact BK598.out) hb)
  have n4_ := Aside0.mk (below_step (by with_reducible repeat (first | exact HB.out | apply ba_ | apply bn_ | apply bd_ | refine bs_ ?_ GE597.out | refine bs_ ?_ GE598.out)) hb)
  clear BK597
  clear BK598
  clear HB
  have HO602 := n0_
  have HO605 := n1_
  have BK597 := n2_
  have BK598 := n3_
  have HB := n4_
  clear n0_ n1_ n2_ n3_ n4_
  (try clear hb)
  (try clear hb2)
  (try clear hk)
  (try clear hi)
  (try clear ho0)
  (try clear ho1)
  refine hK.out _ _ ⟨(blk_cell BK597.out 0).trans rfl, (blk_cell BK597.out 1).trans rfl, (blk_cell BK597.out 2).trans rfl, (blk_cell BK598.out 0).trans rfl, (blk_cell BK598.out 1).trans rfl, (blk_cell BK598.out 2).trans rfl⟩ (fun hHeld => ?_)
  clear hK K
  refine norm_ (a' := ?_) ?_ ?_
  rotate_left
  ·
   show Act.put _ (some 7) _ = _
   simp only [Act.put, List.setIfInBounds_toArray, List.set_cons_zero, List.set_cons_succ, i64_w, i32_w]
   rfl
  refine one_ (i := 3) (N := some 9) #[true, true, true, true, false, false] rfl rfl (by kernel_rfl) (by decide) (fun K hK => ?_)
  refine goesN_ Try.func74 (by kernel_rfl) rfl [.agg #[.bool a1_0, .slice A1_1 l1_1.length c1_1, .slice A1_2 l1_2.length c1_2]] (by rfl) rfl rfl (by rfl) ?_
  with_reducible refine (ratio_R_low.calls k a1_0 (fun k_ => k_ < w.heap.size) _ _ l1_1 (fun k_ => k_ < w.heap.size) _ _ l1_2 t606 t607 t610 _ ?side1 ?side2 A4.out).mono ?_
  (case side1 => exact Kd.V_mk HC1_1.out (Kd.F_below (Kd.C_F (Kd.heap_int .u32) HR1_1.out) (by with_reducible repeat (first | exact HB.out | apply ba_ | apply bn_ | apply bd_ | refine bs_ ?_ GE597.out | refine bs_ ?_ GE598.out))))
  (case side2 => exact Kd.V_mk HC1_2.out (Kd.F_below (Kd.C_F (Kd.heap_int .u32) HR1_2.out) (by with_reducible repeat (first | exact HB.out | apply ba_ | apply bn_ | apply bd_ | refine bs_ ?_ GE597.out | refine bs_ ?_ GE598.out))))
  rintro e w29 ⟨v608, v611, rfl, ho0, ho1, hb⟩
  refine ⟨_, rfl, ?_⟩
  have n0_ := Aside0.mk (Kd.V_below (by (with_reducible repeat (first | apply va_ | apply vn_ | apply vd_)); exact HO602.out) hb)
  have n1_ := Aside0.mk (Kd.V_below (by (with_reducible repeat (first | apply va_ | apply vn_ | apply vd_)); exact HO605.out) hb)
  have n2_ := Aside0.mk (Kd.V_lower (Kd.V_mono (ok' := fun k_ => k_ ≠ gb597 ∧ k_ ≠ gb598) ho0 (fun k_ hk_ => ⟨Or.elim hk_ (fun hs_ => Or.elim hs_ (fun hs_ => fun e_ => Nat.not_le.2 hs_ (by rw [e_]; exact GW597.out)) (fun hs_ => fun e_ => Nat.not_le.2 hs_ (by rw [e_]; exact GW597.out))) (fun hn_ => (Kd.freshB (g := gb597) (o := .cells #[.bool a0_0, .slice A0_1 l0_1.length c0_1, .slice A0_2 l0_2.length c0_2] 50 (0, 0)) (by (with_reducible repeat (first | apply kn_ | apply kd_ | apply ka_)); exact BK597.out) k_ hn_)), Or.elim hk_ (fun hs_ => Or.elim hs_ (fun hs_ => fun e_ => Nat.not_le.2 hs_ (by rw [e_]; exact GW598.out)) (fun hs_ => fun e_ => Nat.not_le.2 hs_ (by rw [e_]; exact GW598.out))) (fun hn_ => (Kd.freshB (g := gb598) (o := .cells #[.bool a1_0, .slice A1_1 l1_1.length c1_1, .slice A1_2 l1_2.length c1_2] 50 (0, 0)) (by (with_reducible repeat (first | apply kn_ | apply kd_ | apply ka_)); exact BK598.out) k_ hn_))⟩)) (below_size (by with_reducible repeat (first | exact HB.out | apply ba_ | apply bn_ | apply bd_ | refine bs_ ?_ GE597.out | refine bs_ ?_ GE598.out))))
  have n3_ := Aside0.mk (Kd.V_lower (Kd.V_mono (ok' := fun k_ => k_ ≠ gb597 ∧ k_ ≠ gb598) ho1 (fun k_ hk_ => ⟨Or.elim hk_ (fun hs_ => Or.elim hs_ (fun hs_ => fun e_ => Nat.not_le.2 hs_ (by rw [e_]; exact GW597.out)) (fun hs_ => fun e_ => Nat.not_le.2 hs_ (by rw [e_]; exact GW597.out))) (fun hn_ => (Kd.freshB (g := gb597) (o := .cells #[.bool a0_0, .slice A0_1 l0_1.length c0_1, .slice A0_2 l0_2.length c0_2] 50 (0, 0)) (by (with_reducible repeat (first | apply kn_ | apply kd_ | apply ka_)); exact BK597.out) k_ hn_)), Or.elim hk_ (fun hs_ => Or.elim hs_ (fun hs_ => fun e_ => Nat.not_le.2 hs_ (by rw [e_]; exact GW598.out)) (fun hs_ => fun e_ => Nat.not_le.2 hs_ (by rw [e_]; exact GW598.out))) (fun hn_ => (Kd.freshB (g := gb598) (o := .cells #[.bool a1_0, .slice A1_1 l1_1.length c1_1, .slice A1_2 l1_2.length c1_2] 50 (0, 0)) (by (with_reducible repeat (first | apply kn_ | apply kd_ | apply ka_)); exact BK598.out) k_ hn_))⟩)) (below_size (by with_reducible repeat (first | exact HB.out | apply ba_ | apply bn_ | apply bd_ | refine bs_ ?_ GE597.out | refine bs_ ?_ GE598.out))))
  have n4_ := Aside0.mk (blk_below (g := gb597) (o := .cells #[.bool a0_0, .slice A0_1 l0_1.length c0_1, .slice A0_2 l0_2.length c0_2] 50 (0, 0)) (by (with_reducible repeat (first | apply kn_ | apply kd_ | apply ka_)); exact BK597.out) hb)
  have n5_ := Aside0.mk (blk_below (g := gb598) (o := .cells #[.bool a1_0, .slice A1_1 l1_1.length c1_1, .slice A1_2 l1_2.length c1_2] 50 (0, 0)) (by (with_reducible repeat (first | apply kn_ | apply kd_ | apply ka_)); exact BK598.out) hb)
  have n6_ := Aside0.mk (below_step (by with_reducible repeat (first | exact HB.out | apply ba_ | apply bn_ | apply bd_ | refine bs_ ?_ GE597.out | refine bs_ ?_ GE598.out)) hb)
  clear HO602
  clear HO605
  clear BK597
  clear BK598
  clear HB
  have HO602 := n0_
  have HO605 := n1_
  have HO609 := n2_
  have HO612 := n3_
  have BK597 := n4_
  have BK598 := n5_
  have HB := n6_
  clear n0_ n1_ n2_ n3_ n4_ n5_ n6_
  (try clear hb)
  (try clear hb2)
  (try clear hk)
  (try clear hi)
  (try clear ho0)
  (try clear ho1)
  obtain ⟨Ao31, co31, eo31⟩ := Kd.V_slice HO602.out
  (first | subst eo31 | (injection eo31 with f1_ f2_ f3_; have f4_ := f1_.symm; have f5_ := f3_.symm; clear f1_ f2_ f3_; subst f4_; subst f5_))
  obtain ⟨Ao33, co33, eo33⟩ := Kd.V_slice HO605.out
  (first | subst eo33 | (injection eo33 with f1_ f2_ f3_; have f4_ := f1_.symm; have f5_ := f3_.symm; clear f1_ f2_ f3_; subst f4_; subst f5_))
  obtain ⟨Ao36, co36, eo36⟩ := Kd.V_slice HO609.out
  (first | subst eo36 | (injection eo36 with f1_ f2_ f3_; have f4_ := f1_.symm; have f5_ := f3_.symm; clear f1_ f2_ f3_; subst f4_; subst f5_))
  obtain ⟨Ao38, co38, eo38⟩ := Kd.V_slice HO612.out
  (first | subst eo38 | (injection eo38 with f1_ f2_ f3_; have f4_ := f1_.symm; have f5_ := f3_.symm; clear f1_ f2_ f3_; subst f4_; subst f5_))
  refine hK.out _ _ ⟨(blk_cell BK597.out 0).trans rfl, (blk_cell BK597.out 1).trans rfl, (blk_cell BK597.out 2).trans rfl, (blk_cell BK598.out 0).trans rfl, (blk_cell BK598.out 1).trans rfl, (blk_cell BK598.out 2).trans rfl⟩ (fun hHeld => ?_)
  clear hK K
  refine norm_ (a' := ?_) ?_ ?_
  rotate_left
  ·
   show Act.put _ (some 9) _ = _
   simp only [Act.put, List.setIfInBounds_toArray, List.set_cons_zero, List.set_cons_succ, i64_w, i32_w]
   rfl
  refine last_ (i := 4) (N := none) #[true, true, true, true, true, false] rfl rfl (by kernel_rfl) (by decide) (fun K hK => ?_)
  have hs30 : w29.cell? ⟨gb597, 0, none⟩ = some (.bool a0_0) := (blk_cell BK597.out 0).trans rfl
  have hfs30 := blk_frozen BK597.out 0
  have hns30_1 := NB598_597.out
  have hms30_1 := NB597_598.out
  have hs32 : w29.cell? ⟨gb597, 1, none⟩ = some (.slice A0_1 l0_1.length c0_1) := (blk_cell BK597.out 1).trans rfl
  have hfs32 := blk_frozen BK597.out 1
  have hns32_1 := NB598_597.out
  have hms32_1 := NB597_598.out
  have hs34 : w29.cell? ⟨gb597, 2, none⟩ = some (.slice A0_2 l0_2.length c0_2) := (blk_cell BK597.out 2).trans rfl
  have hfs34 := blk_frozen BK597.out 2
  have hns34_1 := NB598_597.out
  have hms34_1 := NB597_598.out
  refine skip_ (w1 := ?_) (by rfl) rfl ?_ ?_
  rotate_left
  ·
   go_simp
   rfl
  refine hK.out _ _ ?_
  clear hK K
  refine last_ (i := 5) (N := none) #[true, true, true, true, true, true] rfl rfl (by kernel_rfl) (by decide) (fun K hK => ?_)
  have hs35 : w29.cell? ⟨gb598, 0, none⟩ = some (.bool a1_0) := (blk_cell BK598.out 0).trans rfl
  have hfs35 := blk_frozen BK598.out 0
  have hns35_0 := NB597_598.out
  have hms35_0 := NB598_597.out
  have hs37 : w29.cell? ⟨gb598, 1, none⟩ = some (.slice A1_1 l1_1.length c1_1) := (blk_cell BK598.out 1).trans rfl
  have hfs37 := blk_frozen BK598.out 1
  have hns37_0 := NB597_598.out
  have hms37_0 := NB598_597.out
  have hs39 : w29.cell? ⟨gb598, 2, none⟩ = some (.slice A1_2 l1_2.length c1_2) := (blk_cell BK598.out 2).trans rfl
  have hfs39 := blk_frozen BK598.out 2
  have hns39_0 := NB597_598.out
  have hms39_0 := NB598_597.out
  refine skip_ (w1 := ?_) (by rfl) rfl ?_ ?_
  rotate_left
  ·
   go_simp
   rfl
  refine hK.out _ _ ?_
  clear hK K
  refine done_ (by kernel_rfl) ?_
  have hnb40 := NB597_598.out
  have hnc40 := NB598_597.out
  have hcz41_0 : w29.cell? ⟨gb597, 0, none⟩ = some (.bool a0_0) := (blk_cell BK597.out 0).trans rfl
  have hcz41_1 : w29.cell? ⟨gb597, 1, none⟩ = some (.slice A0_1 l0_1.length c0_1) := (blk_cell BK597.out 1).trans rfl
  have hcz41_2 : w29.cell? ⟨gb597, 2, none⟩ = some (.slice A0_2 l0_2.length c0_2) := (blk_cell BK597.out 2).trans rfl
  have hfz41_0 := blk_frozen BK597.out 0
  have hfz41_1 := blk_frozen BK597.out 1
  have hfz41_2 := blk_frozen BK597.out 2
  have hcz42_0 : w29.cell? ⟨gb598, 0, none⟩ = some (.bool a1_0) := (blk_cell BK598.out 0).trans rfl
  have hcz42_1 : w29.cell? ⟨gb598, 1, none⟩ = some (.slice A1_1 l1_1.length c1_1) := (blk_cell BK598.out 1).trans rfl
  have hcz42_2 : w29.cell? ⟨gb598, 2, none⟩ = some (.slice A1_2 l1_2.length c1_2) := (blk_cell BK598.out 2).trans rfl
  have hfz42_0 := blk_frozen BK598.out 0
  have hfz42_1 := blk_frozen BK598.out 1
  have hfz42_2 := blk_frozen BK598.out 2
  try go_wp2
  go_ret
  exact ⟨by first | rfl | (simp [errW_none, errW_some] <;> rfl) | (simp [*, errW_none, errW_some] <;> rfl), by repeat (first | (with_reducible first | exact HB.out | apply below_alloc | apply pw_below_drewN | apply below_drew1 | refine below_set ?_ GE597.out | refine below_set ?_ GE598.out) | exact HB.out)⟩
 rw [if_neg c5] at H
 have c5b0 : (t599 != t606) = false := by simpa using c5
 (try (have c5b1 : decide (t599 = t606) = true := by simpa using c5))
 (try (have c5b2 : (t599 == t606) = true := by simpa using c5))
 clear c5
 replace H := Option.bind_eq_some_iff.mp H
 obtain ⟨t613, A430, H⟩ := H
 replace H : ((nat_Nat_Mul.f k t607 t603).bind fun t616 => ((nat_Nat_Cmp.f k t613 t616).bind fun t619 => (if t599 = true then (some (wrap64 (-t619))) else (some t619)))) = some r := H
 have A43 := Aside0.mk A430
 clear A430
 replace H := Option.bind_eq_some_iff.mp H
 obtain ⟨t616, A440, H⟩ := H
 replace H : ((nat_Nat_Cmp.f k t613 t616).bind fun t619 => (if t599 = true then (some (wrap64 (-t619))) else (some t619))) = some r := H
 have A44 := Aside0.mk A440
 clear A440
 replace H := Option.bind_eq_some_iff.mp H
 obtain ⟨t619, A450, H⟩ := H
 replace H : (if t599 = true then (some (wrap64 (-t619))) else (some t619)) = some r := H
 have A45 := Aside0.mk A450
 clear A450
 by_cases c46 : t599 = true
 case pos =>
  subst c46
  have H1 : (some (wrap64 (-t619))) = some r := by rw [if_pos rfl] at H; exact H
  clear H
  have H := H1
  clear H1
  obtain rfl := Option.some.inj H
  (try simp only [c5b0])
  with_reducible refine (ratio_R_low.calls k a0_0 (fun k_ => k_ < w.heap.size) _ _ l0_1 (fun k_ => k_ < w.heap.size) _ _ l0_2 true t600 t603 _ ?side1 ?side2 A3.out).mono ?_
  (case side1 => exact Kd.V_mk HC0_1.out (Kd.F_below (Kd.C_F (Kd.heap_int .u32) HR0_1.out) (by with_reducible repeat (first | exact HB.out | apply ba_ | apply bn_ | apply bd_ | refine bs_ ?_ GE597.out | refine bs_ ?_ GE598.out))))
  (case side2 => exact Kd.V_mk HC0_2.out (Kd.F_below (Kd.C_F (Kd.heap_int .u32) HR0_2.out) (by with_reducible repeat (first | exact HB.out | apply ba_ | apply bn_ | apply bd_ | refine bs_ ?_ GE597.out | refine bs_ ?_ GE598.out))))
  rintro e w50 ⟨v601, v604, rfl, ho0, ho1, hb⟩
  refine ⟨_, rfl, ?_⟩
  have n0_ := Aside0.mk (Kd.V_lower (Kd.V_mono (ok' := fun k_ => k_ ≠ gb597 ∧ k_ ≠ gb598) ho0 (fun k_ hk_ => ⟨Or.elim hk_ (fun hs_ => Or.elim hs_ (fun hs_ => fun e_ => Nat.not_le.2 hs_ (by rw [e_]; exact GW597.out)) (fun hs_ => fun e_ => Nat.not_le.2 hs_ (by rw [e_]; exact GW597.out))) (fun hn_ => (Kd.freshB (g := gb597) (o := .cells #[.bool a0_0, .slice A0_1 l0_1.length c0_1, .slice A0_2 l0_2.length c0_2] 50 (0, 0)) (by (with_reducible repeat (first | apply kn_ | apply kd_ | apply ka_)); exact BK597.out) k_ hn_)), Or.elim hk_ (fun hs_ => Or.elim hs_ (fun hs_ => fun e_ => Nat.not_le.2 hs_ (by rw [e_]; exact GW598.out)) (fun hs_ => fun e_ => Nat.not_le.2 hs_ (by rw [e_]; exact GW598.out))) (fun hn_ => (Kd.freshB (g := gb598) (o := .cells #[.bool a1_0, .slice A1_1 l1_1.length c1_1, .slice A1_2 l1_2.length c1_2] 50 (0, 0)) (by (with_reducible repeat (first | apply kn_ | apply kd_ | apply ka_)); exact BK598.out) k_ hn_))⟩)) (below_size (by with_reducible repeat (first | exact HB.out | apply ba_ | apply bn_ | apply bd_ | refine bs_ ?_ GE597.out | refine bs_ ?_ GE598.out))))
  have n1_ := Aside0.mk (Kd.V_lower (Kd.V_mono (ok' := fun k_ => k_ ≠ gb597 ∧ k_ ≠ gb598) ho1 (fun k_ hk_ => ⟨Or.elim hk_ (fun hs_ => Or.elim hs_ (fun hs_ => fun e_ => Nat.not_le.2 hs_ (by rw [e_]; exact GW597.out)) (fun hs_ => fun e_ => Nat.not_le.2 hs_ (by rw [e_]; exact GW597.out))) (fun hn_ => (Kd.freshB (g := gb597) (o := .cells #[.bool a0_0, .slice A0_1 l0_1.length c0_1, .slice A0_2 l0_2.length c0_2] 50 (0, 0)) (by (with_reducible repeat (first | apply kn_ | apply kd_ | apply ka_)); exact BK597.out) k_ hn_)), Or.elim hk_ (fun hs_ => Or.elim hs_ (fun hs_ => fun e_ => Nat.not_le.2 hs_ (by rw [e_]; exact GW598.out)) (fun hs_ => fun e_ => Nat.not_le.2 hs_ (by rw [e_]; exact GW598.out))) (fun hn_ => (Kd.freshB (g := gb598) (o := .cells #[.bool a1_0, .slice A1_1 l1_1.length c1_1, .slice A1_2 l1_2.length c1_2] 50 (0, 0)) (by (with_reducible repeat (first | apply kn_ | apply kd_ | apply ka_)); exact BK598.out) k_ hn_))⟩)) (below_size (by with_reducible repeat (first | exact HB.out | apply ba_ | apply bn_ | apply bd_ | refine bs_ ?_ GE597.out | refine bs_ ?_ GE598.out))))
  have n2_ := Aside0.mk (blk_below (g := gb597) (o := .cells #[.bool a0_0, .slice A0_1 l0_1.length c0_1, .slice A0_2 l0_2.length c0_2] 50 (0, 0)) (by (with_reducible repeat (first | apply kn_ | apply kd_ | apply ka_)); exact BK597.out) hb)
  have n3_ := Aside0.mk (blk_below (g := gb598) (o := .cells #[.bool a1_0, .slice A1_1 l1_1.length c1_1, .slice A1_2 l1_2.length c1_2] 50 (0, 0)) (by (with_reducible repeat (first | apply kn_ | apply kd_ | apply ka_)); exact BK598.out) hb)
  have n4_ := Aside0.mk (below_step (by with_reducible repeat (first | exact HB.out | apply ba_ | apply bn_ | apply bd_ | refine bs_ ?_ GE597.out | refine bs_ ?_ GE598.out)) hb)
  clear BK597
  clear BK598
  clear HB
  have HO602 := n0_
  have HO605 := n1_
  have BK597 := n2_
  have BK598 := n3_
  have HB := n4_
  clear n0_ n1_ n2_ n3_ n4_
  (try clear hb)
  (try clear hb2)
  (try clear hk)
  (try clear hi)
  (try clear ho0)
  (try clear ho1)
  refine hK.out _ _ ⟨(blk_cell BK597.out 0).trans rfl, (blk_cell BK597.out 1).trans rfl, (blk_cell BK597.out 2).trans rfl, (blk_cell BK598.out 0).trans rfl, (blk_cell BK598.out 1).trans rfl, (blk_cell BK598.out 2).trans rfl⟩ (fun hHeld => ?_)
  clear hK K
  refine norm_ (a' := ?_) ?_ ?_
  rotate_left
  ·
   show Act.put _ (some 7) _ = _
   simp only [Act.put, List.setIfInBounds_toArray, List.set_cons_zero, List.set_cons_succ, i64_w, i32_w]
   rfl
  refine one_ (i := 3) (N := some 9) #[true, true, true, true, false, false] rfl rfl (by kernel_rfl) (by decide) (fun K hK => ?_)
  refine goesN_ Try.func74 (by kernel_rfl) rfl [.agg #[.bool a1_0, .slice A1_1 l1_1.length c1_1, .slice A1_2 l1_2.length c1_2]] (by rfl) rfl rfl (by rfl) ?_
  with_reducible refine (ratio_R_low.calls k a1_0 (fun k_ => k_ < w.heap.size) _ _ l1_1 (fun k_ => k_ < w.heap.size) _ _ l1_2 t606 t607 t610 _ ?side1 ?side2 A4.out).mono ?_
  (case side1 => exact Kd.V_mk HC1_1.out (Kd.F_below (Kd.C_F (Kd.heap_int .u32) HR1_1.out) (by with_reducible repeat (first | exact HB.out | apply ba_ | apply bn_ | apply bd_ | refine bs_ ?_ GE597.out | refine bs_ ?_ GE598.out))))
  (case side2 => exact Kd.V_mk HC1_2.out (Kd.F_below (Kd.C_F (Kd.heap_int .u32) HR1_2.out) (by with_reducible repeat (first | exact HB.out | apply ba_ | apply bn_ | apply bd_ | refine bs_ ?_ GE597.out | refine bs_ ?_ GE598.out))))
  rintro e w51 ⟨v608, v611, rfl, ho0, ho1, hb⟩
  refine ⟨_, rfl, ?_⟩
  have n0_ := Aside0.mk (Kd.V_below (by (with_reducible repeat (first | apply va_ | apply vn_ | apply vd_)); exact HO602.out) hb)
  have n1_ := Aside0.mk (Kd.V_below (by (with_reducible repeat (first | apply va_ | apply vn_ | apply vd_)); exact HO605.out) hb)
  have n2_ := Aside0.mk (Kd.V_lower (Kd.V_mono (ok' := fun k_ => k_ ≠ gb597 ∧ k_ ≠ gb598) ho0 (fun k_ hk_ => ⟨Or.elim hk_ (fun hs_ => Or.elim hs_ (fun hs_ => fun e_ => Nat.not_le.2 hs_ (by rw [e_]; exact GW597.out)) (fun hs_ => fun e_ => Nat.not_le.2 hs_ (by rw [e_]; exact GW597.out))) (fun hn_ => (Kd.freshB (g := gb597) (o := .cells #[.bool a0_0, .slice A0_1 l0_1.length c0_1, .slice A0_2 l0_2.length c0_2] 50 (0, 0)) (by (with_reducible repeat (first | apply kn_ | apply kd_ | apply ka_)); exact BK597.out) k_ hn_)), Or.elim hk_ (fun hs_ => Or.elim hs_ (fun hs_ => fun e_ => Nat.not_le.2 hs_ (by rw [e_]; exact GW598.out)) (fun hs_ => fun e_ => Nat.not_le.2 hs_ (by rw [e_]; exact GW598.out))) (fun hn_ => (Kd.freshB (g := gb598) (o := .cells #[.bool a1_0, .slice A1_1 l1_1.length c1_1, .slice A1_2 l1_2.length c1_2] 50 (0, 0)) (by (with_reducible repeat (first | apply kn_ | apply kd_ | apply ka_)); exact BK598.out) k_ hn_))⟩)) (below_size (by with_reducible repeat (first | exact HB.out | apply ba_ | apply bn_ | apply bd_ | refine bs_ ?_ GE597.out | refine bs_ ?_ GE598.out))))
  have n3_ := Aside0.mk (Kd.V_lower (Kd.V_mono (ok' := fun k_ => k_ ≠ gb597 ∧ k_ ≠ gb598) ho1 (fun k_ hk_ => ⟨Or.elim hk_ (fun hs_ => Or.elim hs_ (fun hs_ => fun e_ => Nat.not_le.2 hs_ (by rw [e_]; exact GW597.out)) (fun hs_ => fun e_ => Nat.not_le.2 hs_ (by rw [e_]; exact GW597.out))) (fun hn_ => (Kd.freshB (g := gb597) (o := .cells #[.bool a0_0, .slice A0_1 l0_1.length c0_1, .slice A0_2 l0_2.length c0_2] 50 (0, 0)) (by (with_reducible repeat (first | apply kn_ | apply kd_ | apply ka_)); exact BK597.out) k_ hn_)), Or.elim hk_ (fun hs_ => Or.elim hs_ (fun hs_ => fun e_ => Nat.not_le.2 hs_ (by rw [e_]; exact GW598.out)) (fun hs_ => fun e_ => Nat.not_le.2 hs_ (by rw [e_]; exact GW598.out))) (fun hn_ => (Kd.freshB (g := gb598) (o := .cells #[.bool a1_0, .slice A1_1 l1_1.length c1_1, .slice A1_2 l1_2.length c1_2] 50 (0, 0)) (by (with_reducible repeat (first | apply kn_ | apply kd_ | apply ka_)); exact BK598.out) k_ hn_))⟩)) (below_size (by with_reducible repeat (first | exact HB.out | apply ba_ | apply bn_ | apply bd_ | refine bs_ ?_ GE597.out | refine bs_ ?_ GE598.out))))
  have n4_ := Aside0.mk (blk_below (g := gb597) (o := .cells #[.bool a0_0, .slice A0_1 l0_1.length c0_1, .slice A0_2 l0_2.length c0_2] 50 (0, 0)) (by (with_reducible repeat (first | apply kn_ | apply kd_ | apply ka_)); exact BK597.out) hb)
  have n5_ := Aside0.mk (blk_below (g := gb598) (o := .cells #[.bool a1_0, .slice A1_1 l1_1.length c1_1, .slice A1_2 l1_2.length c1_2] 50 (0, 0)) (by (with_reducible repeat (first | apply kn_ | apply kd_ | apply ka_)); exact BK598.out) hb)
  have n6_ := Aside0.mk (below_step (by with_reducible repeat (first | exact HB.out | apply ba_ | apply bn_ | apply bd_ | refine bs_ ?_ GE597.out | refine bs_ ?_ GE598.out)) hb)
  clear HO602
  clear HO605
  clear BK597
  clear BK598
  clear HB
  have HO602 := n0_
  have HO605 := n1_
  have HO609 := n2_
  have HO612 := n3_
  have BK597 := n4_
  have BK598 := n5_
  have HB := n6_
  clear n0_ n1_ n2_ n3_ n4_ n5_ n6_
  (try clear hb)
  (try clear hb2)
  (try clear hk)
  (try clear hi)
  (try clear ho0)
  (try clear ho1)
  obtain ⟨Ao53, co53, eo53⟩ := Kd.V_slice HO602.out
  (first | subst eo53 | (injection eo53 with f1_ f2_ f3_; have f4_ := f1_.symm; have f5_ := f3_.symm; clear f1_ f2_ f3_; subst f4_; subst f5_))
  obtain ⟨Ao55, co55, eo55⟩ := Kd.V_slice HO605.out
  (first | subst eo55 | (injection eo55 with f1_ f2_ f3_; have f4_ := f1_.symm; have f5_ := f3_.symm; clear f1_ f2_ f3_; subst f4_; subst f5_))
  obtain ⟨Ao58, co58, eo58⟩ := Kd.V_slice HO609.out
  (first | subst eo58 | (injection eo58 with f1_ f2_ f3_; have f4_ := f1_.symm; have f5_ := f3_.symm; clear f1_ f2_ f3_; subst f4_; subst f5_))
  obtain ⟨Ao60, co60, eo60⟩ := Kd.V_slice HO612.out
  (first | subst eo60 | (injection eo60 with f1_ f2_ f3_; have f4_ := f1_.symm; have f5_ := f3_.symm; clear f1_ f2_ f3_; subst f4_; subst f5_))
  refine hK.out _ _ ⟨(blk_cell BK597.out 0).trans rfl, (blk_cell BK597.out 1).trans rfl, (blk_cell BK597.out 2).trans rfl, (blk_cell BK598.out 0).trans rfl, (blk_cell BK598.out 1).trans rfl, (blk_cell BK598.out 2).trans rfl⟩ (fun hHeld => ?_)
  clear hK K
  refine norm_ (a' := ?_) ?_ ?_
  rotate_left
  ·
   show Act.put _ (some 9) _ = _
   simp only [Act.put, List.setIfInBounds_toArray, List.set_cons_zero, List.set_cons_succ, i64_w, i32_w]
   rfl
  refine last_ (i := 4) (N := none) #[true, true, true, true, true, false] rfl rfl (by kernel_rfl) (by decide) (fun K hK => ?_)
  have hs52 : w51.cell? ⟨gb597, 0, none⟩ = some (.bool a0_0) := (blk_cell BK597.out 0).trans rfl
  have hfs52 := blk_frozen BK597.out 0
  have hns52_1 := NB598_597.out
  have hms52_1 := NB597_598.out
  have hs54 : w51.cell? ⟨gb597, 1, none⟩ = some (.slice A0_1 l0_1.length c0_1) := (blk_cell BK597.out 1).trans rfl
  have hfs54 := blk_frozen BK597.out 1
  have hns54_1 := NB598_597.out
  have hms54_1 := NB597_598.out
  have hs56 : w51.cell? ⟨gb597, 2, none⟩ = some (.slice A0_2 l0_2.length c0_2) := (blk_cell BK597.out 2).trans rfl
  have hfs56 := blk_frozen BK597.out 2
  have hns56_1 := NB598_597.out
  have hms56_1 := NB597_598.out
  refine skip_ (w1 := ?_) (by rfl) rfl ?_ ?_
  rotate_left
  ·
   go_simp
   rfl
  refine hK.out _ _ ?_
  clear hK K
  refine last_ (i := 5) (N := none) #[true, true, true, true, true, true] rfl rfl (by kernel_rfl) (by decide) (fun K hK => ?_)
  have hs57 : w51.cell? ⟨gb598, 0, none⟩ = some (.bool a1_0) := (blk_cell BK598.out 0).trans rfl
  have hfs57 := blk_frozen BK598.out 0
  have hns57_0 := NB597_598.out
  have hms57_0 := NB598_597.out
  have hs59 : w51.cell? ⟨gb598, 1, none⟩ = some (.slice A1_1 l1_1.length c1_1) := (blk_cell BK598.out 1).trans rfl
  have hfs59 := blk_frozen BK598.out 1
  have hns59_0 := NB597_598.out
  have hms59_0 := NB598_597.out
  have hs61 : w51.cell? ⟨gb598, 2, none⟩ = some (.slice A1_2 l1_2.length c1_2) := (blk_cell BK598.out 2).trans rfl
  have hfs61 := blk_frozen BK598.out 2
  have hns61_0 := NB597_598.out
  have hms61_0 := NB598_597.out
  refine skip_ (w1 := ?_) (by rfl) rfl ?_ ?_
  rotate_left
  ·
   go_simp
   rfl
  refine hK.out _ _ ?_
  clear hK K
  refine done_ (by kernel_rfl) ?_
  have hnb62 := NB597_598.out
  have hnc62 := NB598_597.out
  have hcz63_0 : w51.cell? ⟨gb597, 0, none⟩ = some (.bool a0_0) := (blk_cell BK597.out 0).trans rfl
  have hcz63_1 : w51.cell? ⟨gb597, 1, none⟩ = some (.slice A0_1 l0_1.length c0_1) := (blk_cell BK597.out 1).trans rfl
  have hcz63_2 : w51.cell? ⟨gb597, 2, none⟩ = some (.slice A0_2 l0_2.length c0_2) := (blk_cell BK597.out 2).trans rfl
  have hfz63_0 := blk_frozen BK597.out 0
  have hfz63_1 := blk_frozen BK597.out 1
  have hfz63_2 := blk_frozen BK597.out 2
  have hcz64_0 : w51.cell? ⟨gb598, 0, none⟩ = some (.bool a1_0) := (blk_cell BK598.out 0).trans rfl
  have hcz64_1 : w51.cell? ⟨gb598, 1, none⟩ = some (.slice A1_1 l1_1.length c1_1) := (blk_cell BK598.out 1).trans rfl
  have hcz64_2 : w51.cell? ⟨gb598, 2, none⟩ = some (.slice A1_2 l1_2.length c1_2) := (blk_cell BK598.out 2).trans rfl
  have hfz64_0 := blk_frozen BK598.out 0
  have hfz64_1 := blk_frozen BK598.out 1
  have hfz64_2 := blk_frozen BK598.out 2
  try go_wp2
  have n0_ : Aside0 (Kd.V (Kd.int .u32) 123 ((((((w51.setCell ⟨gb597, 0, none⟩ (.bool true)).setCell ⟨gb597, 1, none⟩ (.slice Ao53 t600.length co53)).setCell ⟨gb597, 2, none⟩ (.slice Ao55 t603.length co55)).setCell ⟨gb598, 0, none⟩ (.bool t606)).setCell ⟨gb598, 1, none⟩ (.slice Ao58 t607.length co58)).setCell ⟨gb598, 2, none⟩ (.slice Ao60 t610.length co60)) w.heap.size (fun k_ => k_ ≠ gb597 ∧ k_ ≠ gb598) (.slice Ao53 t600.length co53) t600) := ⟨by (with_reducible repeat (first | apply va_ | apply vn_ | apply vd_)); exact Kd.V_mono (Kd.V_far (p := ⟨gb598, 2, none⟩) (Kd.V_far (p := ⟨gb598, 1, none⟩) (Kd.V_far (p := ⟨gb598, 0, none⟩) (Kd.V_far (p := ⟨gb597, 2, none⟩) (Kd.V_far (p := ⟨gb597, 1, none⟩) (Kd.V_far (p := ⟨gb597, 0, none⟩) (Kd.V_mono (Kd.V_mono HO602.out (fun k_ hk => (⟨hk, hk.1⟩ : _ ∧ k_ ≠ gb597))) (fun k_ hk => (⟨hk, hk.1.2⟩ : _ ∧ k_ ≠ gb598))) (fun _ hk => hk.1.2) (.bool true)) (fun _ hk => hk.1.2) (.slice Ao53 t600.length co53)) (fun _ hk => hk.1.2) (.slice Ao55 t603.length co55)) (fun _ hk => hk.2) (.bool t606)) (fun _ hk => hk.2) (.slice Ao58 t607.length co58)) (fun _ hk => hk.2) (.slice Ao60 t610.length co60)) (fun _ hk => ⟨hk.1.1.1, hk.1.1.2⟩)⟩
  have n1_ : Aside0 (Kd.V (Kd.int .u32) 123 ((((((w51.setCell ⟨gb597, 0, none⟩ (.bool true)).setCell ⟨gb597, 1, none⟩ (.slice Ao53 t600.length co53)).setCell ⟨gb597, 2, none⟩ (.slice Ao55 t603.length co55)).setCell ⟨gb598, 0, none⟩ (.bool t606)).setCell ⟨gb598, 1, none⟩ (.slice Ao58 t607.length co58)).setCell ⟨gb598, 2, none⟩ (.slice Ao60 t610.length co60)) w.heap.size (fun k_ => k_ ≠ gb597 ∧ k_ ≠ gb598) (.slice Ao55 t603.length co55) t603) := ⟨by (with_reducible repeat (first | apply va_ | apply vn_ | apply vd_)); exact Kd.V_mono (Kd.V_far (p := ⟨gb598, 2, none⟩) (Kd.V_far (p := ⟨gb598, 1, none⟩) (Kd.V_far (p := ⟨gb598, 0, none⟩) (Kd.V_far (p := ⟨gb597, 2, none⟩) (Kd.V_far (p := ⟨gb597, 1, none⟩) (Kd.V_far (p := ⟨gb597, 0, none⟩) (Kd.V_mono (Kd.V_mono HO605.out (fun k_ hk => (⟨hk, hk.1⟩ : _ ∧ k_ ≠ gb597))) (fun k_ hk => (⟨hk, hk.1.2⟩ : _ ∧ k_ ≠ gb598))) (fun _ hk => hk.1.2) (.bool true)) (fun _ hk => hk.1.2) (.slice Ao53 t600.length co53)) (fun _ hk => hk.1.2) (.slice Ao55 t603.length co55)) (fun _ hk => hk.2) (.bool t606)) (fun _ hk => hk.2) (.slice Ao58 t607.length co58)) (fun _ hk => hk.2) (.slice Ao60 t610.length co60)) (fun _ hk => ⟨hk.1.1.1, hk.1.1.2⟩)⟩
  have n2_ : Aside0 (Kd.V (Kd.int .u32) 123 ((((((w51.setCell ⟨gb597, 0, none⟩ (.bool true)).setCell ⟨gb597, 1, none⟩ (.slice Ao53 t600.length co53)).setCell ⟨gb597, 2, none⟩ (.slice Ao55 t603.length co55)).setCell ⟨gb598, 0, none⟩ (.bool t606)).setCell ⟨gb598, 1, none⟩ (.slice Ao58 t607.length co58)).setCell ⟨gb598, 2, none⟩ (.slice Ao60 t610.length co60)) w.heap.size (fun k_ => k_ ≠ gb597 ∧ k_ ≠ gb598) (.slice Ao58 t607.length co58) t607) := ⟨by (with_reducible repeat (first | apply va_ | apply vn_ | apply vd_)); exact Kd.V_mono (Kd.V_far (p := ⟨gb598, 2, none⟩) (Kd.V_far (p := ⟨gb598, 1, none⟩) (Kd.V_far (p := ⟨gb598, 0, none⟩) (Kd.V_far (p := ⟨gb597, 2, none⟩) (Kd.V_far (p := ⟨gb597, 1, none⟩) (Kd.V_far (p := ⟨gb597, 0, none⟩) (Kd.V_mono (Kd.V_mono HO609.out (fun k_ hk => (⟨hk, hk.1⟩ : _ ∧ k_ ≠ gb597))) (fun k_ hk => (⟨hk, hk.1.2⟩ : _ ∧ k_ ≠ gb598))) (fun _ hk => hk.1.2) (.bool true)) (fun _ hk => hk.1.2) (.slice Ao53 t600.length co53)) (fun _ hk => hk.1.2) (.slice Ao55 t603.length co55)) (fun _ hk => hk.2) (.bool t606)) (fun _ hk => hk.2) (.slice Ao58 t607.length co58)) (fun _ hk => hk.2) (.slice Ao60 t610.length co60)) (fun _ hk => ⟨hk.1.1.1, hk.1.1.2⟩)⟩
  have n3_ : Aside0 (Kd.V (Kd.int .u32) 123 ((((((w51.setCell ⟨gb597, 0, none⟩ (.bool true)).setCell ⟨gb597, 1, none⟩ (.slice Ao53 t600.length co53)).setCell ⟨gb597, 2, none⟩ (.slice Ao55 t603.length co55)).setCell ⟨gb598, 0, none⟩ (.bool t606)).setCell ⟨gb598, 1, none⟩ (.slice Ao58 t607.length co58)).setCell ⟨gb598, 2, none⟩ (.slice Ao60 t610.length co60)) w.heap.size (fun k_ => k_ ≠ gb597 ∧ k_ ≠ gb598) (.slice Ao60 t610.length co60) t610) := ⟨by (with_reducible repeat (first | apply va_ | apply vn_ | apply vd_)); exact Kd.V_mono (Kd.V_far (p := ⟨gb598, 2, none⟩) (Kd.V_far (p := ⟨gb598, 1, none⟩) (Kd.V_far (p := ⟨gb598, 0, none⟩) (Kd.V_far (p := ⟨gb597, 2, none⟩) (Kd.V_far (p := ⟨gb597, 1, none⟩) (Kd.V_far (p := ⟨gb597, 0, none⟩) (Kd.V_mono (Kd.V_mono HO612.out (fun k_ hk => (⟨hk, hk.1⟩ : _ ∧ k_ ≠ gb597))) (fun k_ hk => (⟨hk, hk.1.2⟩ : _ ∧ k_ ≠ gb598))) (fun _ hk => hk.1.2) (.bool true)) (fun _ hk => hk.1.2) (.slice Ao53 t600.length co53)) (fun _ hk => hk.1.2) (.slice Ao55 t603.length co55)) (fun _ hk => hk.2) (.bool t606)) (fun _ hk => hk.2) (.slice Ao58 t607.length co58)) (fun _ hk => hk.2) (.slice Ao60 t610.length co60)) (fun _ hk => ⟨hk.1.1.1, hk.1.1.2⟩)⟩
  have n4_ : Aside0 (((((((w51.setCell ⟨gb597, 0, none⟩ (.bool true)).setCell ⟨gb597, 1, none⟩ (.slice Ao53 t600.length co53)).setCell ⟨gb597, 2, none⟩ (.slice Ao55 t603.length co55)).setCell ⟨gb598, 0, none⟩ (.bool t606)).setCell ⟨gb598, 1, none⟩ (.slice Ao58 t607.length co58)).setCell ⟨gb598, 2, none⟩ (.slice Ao60 t610.length co60)).heap[gb597]? = some (.cells #[.bool true, .slice Ao53 t600.length co53, .slice Ao55 t603.length co55] 50 (0, 0))) := ⟨by (with_reducible repeat (first | apply kn_ | apply kd_ | apply ka_)); refine blk_far ?_ NB597_598.out _; (with_reducible repeat (first | apply kn_ | apply kd_ | apply ka_)); refine blk_far ?_ NB597_598.out _; (with_reducible repeat (first | apply kn_ | apply kd_ | apply ka_)); refine blk_far ?_ NB597_598.out _; (with_reducible repeat (first | apply kn_ | apply kd_ | apply ka_)); refine blk_put (cs := #[.bool true, .slice Ao53 t600.length co53, .slice A0_2 l0_2.length c0_2]) ?_ 2 _ rfl; (with_reducible repeat (first | apply kn_ | apply kd_ | apply ka_)); refine blk_put (cs := #[.bool true, .slice A0_1 l0_1.length c0_1, .slice A0_2 l0_2.length c0_2]) ?_ 1 _ rfl; (with_reducible repeat (first | apply kn_ | apply kd_ | apply ka_)); refine blk_put (cs := #[.bool a0_0, .slice A0_1 l0_1.length c0_1, .slice A0_2 l0_2.length c0_2]) ?_ 0 _ rfl; (with_reducible repeat (first | apply kn_ | apply kd_ | apply ka_)); exact BK597.out⟩
  have n5_ : Aside0 (((((((w51.setCell ⟨gb597, 0, none⟩ (.bool true)).setCell ⟨gb597, 1, none⟩ (.slice Ao53 t600.length co53)).setCell ⟨gb597, 2, none⟩ (.slice Ao55 t603.length co55)).setCell ⟨gb598, 0, none⟩ (.bool t606)).setCell ⟨gb598, 1, none⟩ (.slice Ao58 t607.length co58)).setCell ⟨gb598, 2, none⟩ (.slice Ao60 t610.length co60)).heap[gb598]? = some (.cells #[.bool t606, .slice Ao58 t607.length co58, .slice Ao60 t610.length co60] 50 (0, 0))) := ⟨by (with_reducible repeat (first | apply kn_ | apply kd_ | apply ka_)); refine blk_put (cs := #[.bool t606, .slice Ao58 t607.length co58, .slice A1_2 l1_2.length c1_2]) ?_ 2 _ rfl; (with_reducible repeat (first | apply kn_ | apply kd_ | apply ka_)); refine blk_put (cs := #[.bool t606, .slice A1_1 l1_1.length c1_1, .slice A1_2 l1_2.length c1_2]) ?_ 1 _ rfl; (with_reducible repeat (first | apply kn_ | apply kd_ | apply ka_)); refine blk_put (cs := #[.bool a1_0, .slice A1_1 l1_1.length c1_1, .slice A1_2 l1_2.length c1_2]) ?_ 0 _ rfl; (with_reducible repeat (first | apply kn_ | apply kd_ | apply ka_)); refine blk_far ?_ NB598_597.out _; (with_reducible repeat (first | apply kn_ | apply kd_ | apply ka_)); refine blk_far ?_ NB598_597.out _; (with_reducible repeat (first | apply kn_ | apply kd_ | apply ka_)); refine blk_far ?_ NB598_597.out _; (with_reducible repeat (first | apply kn_ | apply kd_ | apply ka_)); exact BK598.out⟩
  have n6_ : Aside0 (Below w.heap.size w ((((((w51.setCell ⟨gb597, 0, none⟩ (.bool true)).setCell ⟨gb597, 1, none⟩ (.slice Ao53 t600.length co53)).setCell ⟨gb597, 2, none⟩ (.slice Ao55 t603.length co55)).setCell ⟨gb598, 0, none⟩ (.bool t606)).setCell ⟨gb598, 1, none⟩ (.slice Ao58 t607.length co58)).setCell ⟨gb598, 2, none⟩ (.slice Ao60 t610.length co60))) := ⟨by repeat (first | (with_reducible first | exact HB.out | apply below_alloc | apply pw_below_drewN | apply below_drew1 | refine below_set ?_ GE597.out | refine below_set ?_ GE598.out) | exact HB.out)⟩
  (try clear HO602)
  (try clear HO605)
  (try clear HO609)
  (try clear HO612)
  (try clear BK597)
  (try clear BK598)
  (try clear HB)
  generalize ((((((w51.setCell ⟨gb597, 0, none⟩ (.bool true)).setCell ⟨gb597, 1, none⟩ (.slice Ao53 t600.length co53)).setCell ⟨gb597, 2, none⟩ (.slice Ao55 t603.length co55)).setCell ⟨gb598, 0, none⟩ (.bool t606)).setCell ⟨gb598, 1, none⟩ (.slice Ao58 t607.length co58)).setCell ⟨gb598, 2, none⟩ (.slice Ao60 t610.length co60)) = w65 at n0_ n1_ n2_ n3_ n4_ n5_ n6_ ⊢
  have HO602 := n0_
  have HO605 := n1_
  have HO609 := n2_
  have HO612 := n3_
  have BK597 := n4_
  have BK598 := n5_
  have HB := n6_
  clear n0_ n1_ n2_ n3_ n4_ n5_ n6_
  have n0_ := Aside0.mk (Kd.V_drew HO602.out)
  have n1_ := Aside0.mk (Kd.V_drew HO605.out)
  have n2_ := Aside0.mk (Kd.V_drew HO609.out)
  have n3_ := Aside0.mk (Kd.V_drew HO612.out)
  have n4_ := Aside0.mk (blk_drew BK597.out)
  have n5_ := Aside0.mk (blk_drew BK598.out)
  have n6_ := Aside0.mk (below_drew1 HB.out)
  clear HO602
  clear HO605
  clear HO609
  clear HO612
  clear BK597
  clear BK598
  clear HB
  have HO602 := n0_
  have HO605 := n1_
  have HO609 := n2_
  have HO612 := n3_
  have BK597 := n4_
  have BK598 := n5_
  have HB := n6_
  clear n0_ n1_ n2_ n3_ n4_ n5_ n6_
  refine start_ (n := 12) (S := fun w' => w'.cell? ⟨gb597, 0, none⟩ = some (.bool true) ∧ w'.cell? ⟨gb597, 1, none⟩ = some (.slice Ao53 t600.length co53) ∧ w'.cell? ⟨gb597, 2, none⟩ = some (.slice Ao55 t603.length co55) ∧ w'.cell? ⟨gb598, 0, none⟩ = some (.bool t606) ∧ w'.cell? ⟨gb598, 1, none⟩ = some (.slice Ao58 t607.length co58) ∧ w'.cell? ⟨gb598, 2, none⟩ = some (.slice Ao60 t610.length co60)) (ds := []) #[false, false, false, false, false, false, false, false, false, false, false, false] (by kernel_rfl) rfl rfl ⟨(blk_cell BK597.out 0).trans rfl, (blk_cell BK597.out 1).trans rfl, (blk_cell BK597.out 2).trans rfl, (blk_cell BK598.out 0).trans rfl, (blk_cell BK598.out 1).trans rfl, (blk_cell BK598.out 2).trans rfl⟩ (fun hHeld => ?_); refine with_tabW ratio_R_Cmp.tab6 ratio_R_Cmp.bits6 (fun HT_ HW_ => ?_)
  generalize w65.drew = w66 at HO602 HO605 HO609 HO612 BK597 BK598 HB hHeld ⊢
  refine pure_ (i := 0) (N := some 17) (v := ?_) (a' := ?_) #[true, false, false, false, false, false, false, false, false, false, false, false] rfl rfl (any_of HT_.out (by kernel_rfl)) (fun _ _ _ h => h) (Or.inl ⟨by rfl, ?_⟩) ?_ ?_
  rotate_left
  ·
   intro w'
   go_simp
   with_reducible rfl
  rotate_left
  ·
   simp only [Act.put, List.setIfInBounds_toArray, List.set_cons_zero, List.set_cons_succ, i64_w, i32_w]
   rfl
  refine pure_ (i := 2) (N := some 19) (v := ?_) (a' := ?_) #[true, false, true, false, false, false, false, false, false, false, false, false] rfl rfl (any_of HT_.out (by kernel_rfl)) (fun _ _ _ h => h) (Or.inl ⟨by rfl, ?_⟩) ?_ ?_
  rotate_left
  ·
   intro w'
   go_simp
   with_reducible rfl
  rotate_left
  ·
   simp only [Act.put, List.setIfInBounds_toArray, List.set_cons_zero, List.set_cons_succ, i64_w, i32_w]
   rfl
  refine pure_ (i := 5) (N := some 22) (v := ?_) (a' := ?_) #[true, false, true, false, false, true, false, false, false, false, false, false] rfl rfl (any_of HT_.out (by kernel_rfl)) (fun _ _ _ h => h) (Or.inl ⟨by rfl, ?_⟩) ?_ ?_
  rotate_left
  ·
   intro w'
   go_simp
   with_reducible rfl
  rotate_left
  ·
   simp only [Act.put, List.setIfInBounds_toArray, List.set_cons_zero, List.set_cons_succ, i64_w, i32_w]
   rfl
  refine pure_ (i := 7) (N := some 24) (v := ?_) (a' := ?_) #[true, false, true, false, false, true, false, true, false, false, false, false] rfl rfl (any_of HT_.out (by kernel_rfl)) (fun _ _ _ h => h) (Or.inl ⟨by rfl, ?_⟩) ?_ ?_
  rotate_left
  ·
   intro w'
   go_simp
   with_reducible rfl
  rotate_left
  ·
   simp only [Act.put, List.setIfInBounds_toArray, List.set_cons_zero, List.set_cons_succ, i64_w, i32_w]
   rfl
  refine take_ (i := 1) (N := some 18) (v := ?_) (a' := ?_) #[true, true, true, false, false, true, false, true, false, false, false, false] rfl rfl (take_ofW HT_.out HW_.out (by kernel_rfl)) (fun _ _ _ h => h) (Or.inl ⟨by rfl, ?_⟩) hHeld ?_ ?_
  rotate_left
  ·
   rintro w' ⟨s0, s1, s2, s3, s4, s5⟩
   go_simp
   with_reducible rfl
  rotate_left
  ·
   simp only [Act.put, List.setIfInBounds_toArray, List.set_cons_zero, List.set_cons_succ, i64_w, i32_w]
   rfl
  refine take_ (i := 3) (N := some 20) (v := ?_) (a' := ?_) #[true, true, true, true, false, true, false, true, false, false, false, false] rfl rfl (take_ofW HT_.out HW_.out (by kernel_rfl)) (fun _ _ _ h => h) (Or.inl ⟨by rfl, ?_⟩) hHeld ?_ ?_
  rotate_left
  ·
   rintro w' ⟨s0, s1, s2, s3, s4, s5⟩
   go_simp
   with_reducible rfl
  rotate_left
  ·
   simp only [Act.put, List.setIfInBounds_toArray, List.set_cons_zero, List.set_cons_succ, i64_w, i32_w]
   rfl
  refine take_ (i := 6) (N := some 23) (v := ?_) (a' := ?_) #[true, true, true, true, false, true, true, true, false, false, false, false] rfl rfl (take_ofW HT_.out HW_.out (by kernel_rfl)) (fun _ _ _ h => h) (Or.inl ⟨by rfl, ?_⟩) hHeld ?_ ?_
  rotate_left
  ·
   rintro w' ⟨s0, s1, s2, s3, s4, s5⟩
   go_simp
   with_reducible rfl
  rotate_left
  ·
   simp only [Act.put, List.setIfInBounds_toArray, List.set_cons_zero, List.set_cons_succ, i64_w, i32_w]
   rfl
  refine take_ (i := 8) (N := some 25) (v := ?_) (a' := ?_) #[true, true, true, true, false, true, true, true, true, false, false, false] rfl rfl (take_ofW HT_.out HW_.out (by kernel_rfl)) (fun _ _ _ h => h) (Or.inl ⟨by rfl, ?_⟩) hHeld ?_ ?_
  rotate_left
  ·
   rintro w' ⟨s0, s1, s2, s3, s4, s5⟩
   go_simp
   with_reducible rfl
  rotate_left
  ·
   simp only [Act.put, List.setIfInBounds_toArray, List.set_cons_zero, List.set_cons_succ, i64_w, i32_w]
   rfl
  refine one_ (i := 4) (N := some 21) #[true, true, true, true, true, true, true, true, true, false, false, false] rfl rfl (one_of HT_.out (by kernel_rfl)) (by decide) (fun K hK => ?_)
  refine goesN_ Try.func67 (by kernel_rfl) rfl [.slice Ao53 t600.length co53, .slice Ao60 t610.length co60] (by rfl) rfl rfl (by rfl) ?_
  with_reducible refine (nat_Nat_Mul.calls k _ _ t600 _ _ t610 t613 _ ?side1 ?side2 ?side3 ?side4 A43.out).mono ?_
  (case side1 => repeat (first | exact (Kd.V_reads' HO602.out).2.2 | (with_reducible refine Kd.C_alloc ?_ _) | (with_reducible refine Kd.C_drewN ?_ _) | (with_reducible refine Kd.C_drew ?_)))
  (case side2 => exact (Kd.V_reads' HO602.out).2.1)
  (case side3 => repeat (first | exact (Kd.V_reads' HO612.out).2.2 | (with_reducible refine Kd.C_alloc ?_ _) | (with_reducible refine Kd.C_drewN ?_ _) | (with_reducible refine Kd.C_drew ?_)))
  (case side4 => exact (Kd.V_reads' HO612.out).2.1)
  rintro e w67 ⟨v614, rfl, ho0, hb⟩
  refine ⟨_, rfl, ?_⟩
  have n1_ := Aside0.mk (Kd.V_below (by (with_reducible repeat (first | apply va_ | apply vn_ | apply vd_)); exact HO605.out) hb)
  have n2_ := Aside0.mk (Kd.V_below (by (with_reducible repeat (first | apply va_ | apply vn_ | apply vd_)); exact HO609.out) hb)
  have n4_ := Aside0.mk (Kd.V_lower (Kd.V_mono (ok' := fun k_ => k_ ≠ gb597 ∧ k_ ≠ gb598) ho0 (fun k_ hk_ => ⟨(Kd.freshB (g := gb597) (o := .cells #[.bool true, .slice Ao53 t600.length co53, .slice Ao55 t603.length co55] 50 (0, 0)) (by (with_reducible repeat (first | apply kn_ | apply kd_ | apply ka_)); exact BK597.out) k_ hk_), (Kd.freshB (g := gb598) (o := .cells #[.bool t606, .slice Ao58 t607.length co58, .slice Ao60 t610.length co60] 50 (0, 0)) (by (with_reducible repeat (first | apply kn_ | apply kd_ | apply ka_)); exact BK598.out) k_ hk_)⟩)) (below_size (by with_reducible repeat (first | exact HB.out | apply ba_ | apply bn_ | apply bd_ | refine bs_ ?_ GE597.out | refine bs_ ?_ GE598.out))))
  have n5_ := Aside0.mk (blk_below (g := gb597) (o := .cells #[.bool true, .slice Ao53 t600.length co53, .slice Ao55 t603.length co55] 50 (0, 0)) (by (with_reducible repeat (first | apply kn_ | apply kd_ | apply ka_)); exact BK597.out) hb)
  have n6_ := Aside0.mk (blk_below (g := gb598) (o := .cells #[.bool t606, .slice Ao58 t607.length co58, .slice Ao60 t610.length co60] 50 (0, 0)) (by (with_reducible repeat (first | apply kn_ | apply kd_ | apply ka_)); exact BK598.out) hb)
  have n7_ := Aside0.mk (below_step (by with_reducible repeat (first | exact HB.out | apply ba_ | apply bn_ | apply bd_ | refine bs_ ?_ GE597.out | refine bs_ ?_ GE598.out)) hb)
  (try clear BK597)
  (try clear BK598)
  (try clear HB)
  (try clear HO605)
  (try clear HO609)
  have HO605 := n1_
  have HO609 := n2_
  have HO615 := n4_
  have BK597 := n5_
  have BK598 := n6_
  have HB := n7_
  clear n1_ n2_ n4_ n5_ n6_ n7_
  (try clear hb)
  (try clear hb2)
  (try clear hk)
  (try clear hi)
  (try clear ho0)
  refine hK.out _ _ ⟨(blk_cell BK597.out 0).trans rfl, (blk_cell BK597.out 1).trans rfl, (blk_cell BK597.out 2).trans rfl, (blk_cell BK598.out 0).trans rfl, (blk_cell BK598.out 1).trans rfl, (blk_cell BK598.out 2).trans rfl⟩ (fun hHeld => ?_)
  clear hK K
  refine norm_ (a' := ?_) ?_ ?_
  rotate_left
  ·
   show Act.put _ (some 21) _ = _
   simp only [Act.put, List.setIfInBounds_toArray, List.set_cons_zero, List.set_cons_succ, i64_w, i32_w]
   rfl
  refine one_ (i := 9) (N := some 26) #[true, true, true, true, true, true, true, true, true, true, false, false] rfl rfl (one_of HT_.out (by kernel_rfl)) (by decide) (fun K hK => ?_)
  refine goesN_ Try.func67 (by kernel_rfl) rfl [.slice Ao58 t607.length co58, .slice Ao55 t603.length co55] (by rfl) rfl rfl (by rfl) ?_
  with_reducible refine (nat_Nat_Mul.calls k _ _ t607 _ _ t603 t616 _ ?side1 ?side2 ?side3 ?side4 A44.out).mono ?_
  (case side1 => repeat (first | exact (Kd.V_reads' HO609.out).2.2 | (with_reducible refine Kd.C_alloc ?_ _) | (with_reducible refine Kd.C_drewN ?_ _) | (with_reducible refine Kd.C_drew ?_)))
  (case side2 => exact (Kd.V_reads' HO609.out).2.1)
  (case side3 => repeat (first | exact (Kd.V_reads' HO605.out).2.2 | (with_reducible refine Kd.C_alloc ?_ _) | (with_reducible refine Kd.C_drewN ?_ _) | (with_reducible refine Kd.C_drew ?_)))
  (case side4 => exact (Kd.V_reads' HO605.out).2.1)
  rintro e w68 ⟨v617, rfl, ho0, hb⟩
  refine ⟨_, rfl, ?_⟩
  have n4_ := Aside0.mk (Kd.V_below (by (with_reducible repeat (first | apply va_ | apply vn_ | apply vd_)); exact HO615.out) hb)
  have n5_ := Aside0.mk (Kd.V_lower (Kd.V_mono (ok' := fun k_ => k_ ≠ gb597 ∧ k_ ≠ gb598) ho0 (fun k_ hk_ => ⟨(Kd.freshB (g := gb597) (o := .cells #[.bool true, .slice Ao53 t600.length co53, .slice Ao55 t603.length co55] 50 (0, 0)) (by (with_reducible repeat (first | apply kn_ | apply kd_ | apply ka_)); exact BK597.out) k_ hk_), (Kd.freshB (g := gb598) (o := .cells #[.bool t606, .slice Ao58 t607.length co58, .slice Ao60 t610.length co60] 50 (0, 0)) (by (with_reducible repeat (first | apply kn_ | apply kd_ | apply ka_)); exact BK598.out) k_ hk_)⟩)) (below_size (by with_reducible repeat (first | exact HB.out | apply ba_ | apply bn_ | apply bd_ | refine bs_ ?_ GE597.out | refine bs_ ?_ GE598.out))))
  have n6_ := Aside0.mk (blk_below (g := gb597) (o := .cells #[.bool true, .slice Ao53 t600.length co53, .slice Ao55 t603.length co55] 50 (0, 0)) (by (with_reducible repeat (first | apply kn_ | apply kd_ | apply ka_)); exact BK597.out) hb)
  have n7_ := Aside0.mk (blk_below (g := gb598) (o := .cells #[.bool t606, .slice Ao58 t607.length co58, .slice Ao60 t610.length co60] 50 (0, 0)) (by (with_reducible repeat (first | apply kn_ | apply kd_ | apply ka_)); exact BK598.out) hb)
  have n8_ := Aside0.mk (below_step (by with_reducible repeat (first | exact HB.out | apply ba_ | apply bn_ | apply bd_ | refine bs_ ?_ GE597.out | refine bs_ ?_ GE598.out)) hb)
  (try clear BK597)
  (try clear BK598)
  (try clear HB)
  (try clear HO615)
  have HO615 := n4_
  have HO618 := n5_
  have BK597 := n6_
  have BK598 := n7_
  have HB := n8_
  clear n4_ n5_ n6_ n7_ n8_
  (try clear hb)
  (try clear hb2)
  (try clear hk)
  (try clear hi)
  (try clear ho0)
  obtain ⟨Ao69, co69, eo69⟩ := Kd.V_slice HO615.out
  (first | subst eo69 | (injection eo69 with f1_ f2_ f3_; have f4_ := f1_.symm; have f5_ := f3_.symm; clear f1_ f2_ f3_; subst f4_; subst f5_))
  obtain ⟨Ao70, co70, eo70⟩ := Kd.V_slice HO618.out
  (first | subst eo70 | (injection eo70 with f1_ f2_ f3_; have f4_ := f1_.symm; have f5_ := f3_.symm; clear f1_ f2_ f3_; subst f4_; subst f5_))
  refine hK.out _ _ ⟨(blk_cell BK597.out 0).trans rfl, (blk_cell BK597.out 1).trans rfl, (blk_cell BK597.out 2).trans rfl, (blk_cell BK598.out 0).trans rfl, (blk_cell BK598.out 1).trans rfl, (blk_cell BK598.out 2).trans rfl⟩ (fun hHeld => ?_)
  clear hK K
  refine norm_ (a' := ?_) ?_ ?_
  rotate_left
  ·
   show Act.put _ (some 26) _ = _
   simp only [Act.put, List.setIfInBounds_toArray, List.set_cons_zero, List.set_cons_succ, i64_w, i32_w]
   rfl
  refine one_ (i := 10) (N := some 27) #[true, true, true, true, true, true, true, true, true, true, true, false] rfl rfl (one_of HT_.out (by kernel_rfl)) (by decide) (fun K hK => ?_)
  refine goesN_ Try.func75 (by kernel_rfl) rfl [.slice Ao69 t613.length co69, .slice Ao70 t616.length co70] (by rfl) rfl rfl (by rfl) ?_
  with_reducible refine (nat_Nat_Cmp.calls k _ _ t613 _ _ t616 t619 _ ?side1 ?side2 ?side3 ?side4 A45.out).mono ?_
  (case side1 => repeat (first | exact (Kd.V_reads' HO615.out).2.2 | (with_reducible refine Kd.C_alloc ?_ _) | (with_reducible refine Kd.C_drewN ?_ _) | (with_reducible refine Kd.C_drew ?_)))
  (case side2 => exact (Kd.V_reads' HO615.out).2.1)
  (case side3 => repeat (first | exact (Kd.V_reads' HO618.out).2.2 | (with_reducible refine Kd.C_alloc ?_ _) | (with_reducible refine Kd.C_drewN ?_ _) | (with_reducible refine Kd.C_drew ?_)))
  (case side4 => exact (Kd.V_reads' HO618.out).2.1)
  rintro e w' ⟨rfl, ⟨nd, rfl⟩⟩
  refine ⟨_, rfl, ?_⟩
  refine hK.out _ _ ⟨(blk_cell BK597.out 0).trans rfl, (blk_cell BK597.out 1).trans rfl, (blk_cell BK597.out 2).trans rfl, (blk_cell BK598.out 0).trans rfl, (blk_cell BK598.out 1).trans rfl, (blk_cell BK598.out 2).trans rfl⟩ (fun hHeld => ?_)
  clear hK K
  refine norm_ (a' := ?_) ?_ ?_
  rotate_left
  ·
   show Act.put _ (some 27) _ = _
   simp only [Act.put, List.setIfInBounds_toArray, List.set_cons_zero, List.set_cons_succ, i64_w, i32_w]
   rfl
  refine pure_ (i := 11) (N := some 5) (v := ?_) (a' := ?_) #[true, true, true, true, true, true, true, true, true, true, true, true] rfl rfl (any_of HT_.out (by kernel_rfl)) (fun _ _ _ h => h) (Or.inl ⟨by rfl, ?_⟩) ?_ ?_
  rotate_left
  ·
   intro w'
   go_simp
   with_reducible rfl
  rotate_left
  ·
   simp only [Act.put, List.setIfInBounds_toArray, List.set_cons_zero, List.set_cons_succ, i64_w, i32_w]
   rfl
  refine done_ (done_of HT_.out (by kernel_rfl)) ?_
  have hcz71_0 : w68.cell? ⟨gb597, 0, none⟩ = some (.bool true) := (blk_cell BK597.out 0).trans rfl
  have hcz71_1 : w68.cell? ⟨gb597, 1, none⟩ = some (.slice Ao53 t600.length co53) := (blk_cell BK597.out 1).trans rfl
  have hcz71_2 : w68.cell? ⟨gb597, 2, none⟩ = some (.slice Ao55 t603.length co55) := (blk_cell BK597.out 2).trans rfl
  have hfz71_0 := blk_frozen BK597.out 0
  have hfz71_1 := blk_frozen BK597.out 1
  have hfz71_2 := blk_frozen BK597.out 2
  try go_wp2
  go_ret
  exact ⟨by first | rfl | (simp [errW_none, errW_some] <;> rfl) | (simp [*, errW_none, errW_some] <;> rfl), by repeat (first | (with_reducible first | exact HB.out | apply below_alloc | apply pw_below_drewN | apply below_drew1 | refine below_set ?_ GE597.out | refine below_set ?_ GE598.out) | exact HB.out)⟩
 replace c46 := Bool.eq_false_iff.mpr c46
 subst c46
 have H1 : (some t619) = some r := by rw [if_neg (show ¬ (false = true) by decide)] at H; exact H
 clear H
 have H := H1
 clear H1
 obtain rfl := Option.some.inj H
 (try simp only [c5b0])
 with_reducible refine (ratio_R_low.calls k a0_0 (fun k_ => k_ < w.heap.size) _ _ l0_1 (fun k_ => k_ < w.heap.size) _ _ l0_2 false t600 t603 _ ?side1 ?side2 A3.out).mono ?_
 (case side1 => exact Kd.V_mk HC0_1.out (Kd.F_below (Kd.C_F (Kd.heap_int .u32) HR0_1.out) (by with_reducible repeat (first | exact HB.out | apply ba_ | apply bn_ | apply bd_ | refine bs_ ?_ GE597.out | refine bs_ ?_ GE598.out))))
 (case side2 => exact Kd.V_mk HC0_2.out (Kd.F_below (Kd.C_F (Kd.heap_int .u32) HR0_2.out) (by with_reducible repeat (first | exact HB.out | apply ba_ | apply bn_ | apply bd_ | refine bs_ ?_ GE597.out | refine bs_ ?_ GE598.out))))
 rintro e w75 ⟨v601, v604, rfl, ho0, ho1, hb⟩
 refine ⟨_, rfl, ?_⟩
 have n0_ := Aside0.mk (Kd.V_lower (Kd.V_mono (ok' := fun k_ => k_ ≠ gb597 ∧ k_ ≠ gb598) ho0 (fun k_ hk_ => ⟨Or.elim hk_ (fun hs_ => Or.elim hs_ (fun hs_ => fun e_ => Nat.not_le.2 hs_ (by rw [e_]; exact GW597.out)) (fun hs_ => fun e_ => Nat.not_le.2 hs_ (by rw [e_]; exact GW597.out))) (fun hn_ => (Kd.freshB (g := gb597) (o := .cells #[.bool a0_0, .slice A0_1 l0_1.length c0_1, .slice A0_2 l0_2.length c0_2] 50 (0, 0)) (by (with_reducible repeat (first | apply kn_ | apply kd_ | apply ka_)); exact BK597.out) k_ hn_)), Or.elim hk_ (fun hs_ => Or.elim hs_ (fun hs_ => fun e_ => Nat.not_le.2 hs_ (by rw [e_]; exact GW598.out)) (fun hs_ => fun e_ => Nat.not_le.2 hs_ (by rw [e_]; exact GW598.out))) (fun hn_ => (Kd.freshB (g := gb598) (o := .cells #[.bool a1_0, .slice A1_1 l1_1.length c1_1, .slice A1_2 l1_2.length c1_2] 50 (0, 0)) (by (with_reducible repeat (first | apply kn_ | apply kd_ | apply ka_)); exact BK598.out) k_ hn_))⟩)) (below_size (by with_reducible repeat (first | exact HB.out | apply ba_ | apply bn_ | apply bd_ | refine bs_ ?_ GE597.out | refine bs_ ?_ GE598.out))))
 have n1_ := Aside0.mk (Kd.V_lower (Kd.V_mono (ok' := fun k_ => k_ ≠ gb597 ∧ k_ ≠ gb598) ho1 (fun k_ hk_ => ⟨Or.elim hk_ (fun hs_ => Or.elim hs_ (fun hs_ => fun e_ => Nat.not_le.2 hs_ (by rw [e_]; exact GW597.out)) (fun hs_ => fun e_ => Nat.not_le.2 hs_ (by rw [e_]; exact GW597.out))) (fun hn_ => (Kd.freshB (g := gb597) (o := .cells #[.bool a0_0, .slice A0_1 l0_1.length c0_1, .slice A0_2 l0_2.length c0_2] 50 (0, 0)) (by (with_reducible repeat (first | apply kn_ | apply kd_ | apply ka_)); exact BK597.out) k_ hn_)), Or.elim hk_ (fun hs_ => Or.elim hs_ (fun hs_ => fun e_ => Nat.not_le.2 hs_ (by rw [e_]; exact GW598.out)) (fun hs_ => fun e_ => Nat.not_le.2 hs_ (by rw [e_]; exact GW598.out))) (fun hn_ => (Kd.freshB (g := gb598) (o := .cells #[.bool a1_0, .slice A1_1 l1_1.length c1_1, .slice A1_2 l1_2.length c1_2] 50 (0, 0)) (by (with_reducible repeat (first | apply kn_ | apply kd_ | apply ka_)); exact BK598.out) k_ hn_))⟩)) (below_size (by with_reducible repeat (first | exact HB.out | apply ba_ | apply bn_ | apply bd_ | refine bs_ ?_ GE597.out | refine bs_ ?_ GE598.out))))
 have n2_ := Aside0.mk (blk_below (g := gb597) (o := .cells #[.bool a0_0, .slice A0_1 l0_1.length c0_1, .slice A0_2 l0_2.length c0_2] 50 (0, 0)) (by (with_reducible repeat (first | apply kn_ | apply kd_ | apply ka_)); exact BK597.out) hb)
 have n3_ := Aside0.mk (blk_below (g := gb598) (o := .cells #[.bool a1_0, .slice A1_1 l1_1.length c1_1, .slice A1_2 l1_2.length c1_2] 50 (0, 0)) (by (with_reducible repeat (first | apply kn_ | apply kd_ | apply ka_)); exact BK598.out) hb)
 have n4_ := Aside0.mk (below_step (by with_reducible repeat (first | exact HB.out | apply ba_ | apply bn_ | apply bd_ | refine bs_ ?_ GE597.out | refine bs_ ?_ GE598.out)) hb)
 clear BK597
 clear BK598
 clear HB
 have HO602 := n0_
 have HO605 := n1_
 have BK597 := n2_
 have BK598 := n3_
 have HB := n4_
 clear n0_ n1_ n2_ n3_ n4_
 (try clear hb)
 (try clear hb2)
 (try clear hk)
 (try clear hi)
 (try clear ho0)
 (try clear ho1)
 refine hK.out _ _ ⟨(blk_cell BK597.out 0).trans rfl, (blk_cell BK597.out 1).trans rfl, (blk_cell BK597.out 2).trans rfl, (blk_cell BK598.out 0).trans rfl, (blk_cell BK598.out 1).trans rfl, (blk_cell BK598.out 2).trans rfl⟩ (fun hHeld => ?_)
 clear hK K
 refine norm_ (a' := ?_) ?_ ?_
 rotate_left
 ·
  show Act.put _ (some 7) _ = _
  simp only [Act.put, List.setIfInBounds_toArray, List.set_cons_zero, List.set_cons_succ, i64_w, i32_w]
  rfl
 refine one_ (i := 3) (N := some 9) #[true, true, true, true, false, false] rfl rfl (by kernel_rfl) (by decide) (fun K hK => ?_)
 refine goesN_ Try.func74 (by kernel_rfl) rfl [.agg #[.bool a1_0, .slice A1_1 l1_1.length c1_1, .slice A1_2 l1_2.length c1_2]] (by rfl) rfl rfl (by rfl) ?_
 with_reducible refine (ratio_R_low.calls k a1_0 (fun k_ => k_ < w.heap.size) _ _ l1_1 (fun k_ => k_ < w.heap.size) _ _ l1_2 t606 t607 t610 _ ?side1 ?side2 A4.out).mono ?_
 (case side1 => exact Kd.V_mk HC1_1.out (Kd.F_below (Kd.C_F (Kd.heap_int .u32) HR1_1.out) (by with_reducible repeat (first | exact HB.out | apply ba_ | apply bn_ | apply bd_ | refine bs_ ?_ GE597.out | refine bs_ ?_ GE598.out))))
 (case side2 => exact Kd.V_mk HC1_2.out (Kd.F_below (Kd.C_F (Kd.heap_int .u32) HR1_2.out) (by with_reducible repeat (first | exact HB.out | apply ba_ | apply bn_ | apply bd_ | refine bs_ ?_ GE597.out | refine bs_ ?_ GE598.out))))
 rintro e w76 ⟨v608, v611, rfl, ho0, ho1, hb⟩
 refine ⟨_, rfl, ?_⟩
 have n0_ := Aside0.mk (Kd.V_below (by (with_reducible repeat (first | apply va_ | apply vn_ | apply vd_)); exact HO602.out) hb)
 have n1_ := Aside0.mk (Kd.V_below (by (with_reducible repeat (first | apply va_ | apply vn_ | apply vd_)); exact HO605.out) hb)
 have n2_ := Aside0.mk (Kd.V_lower (Kd.V_mono (ok' := fun k_ => k_ ≠ gb597 ∧ k_ ≠ gb598) ho0 (fun k_ hk_ => ⟨Or.elim hk_ (fun hs_ => Or.elim hs_ (fun hs_ => fun e_ => Nat.not_le.2 hs_ (by rw [e_]; exact GW597.out)) (fun hs_ => fun e_ => Nat.not_le.2 hs_ (by rw [e_]; exact GW597.out))) (fun hn_ => (Kd.freshB (g := gb597) (o := .cells #[.bool a0_0, .slice A0_1 l0_1.length c0_1, .slice A0_2 l0_2.length c0_2] 50 (0, 0)) (by (with_reducible repeat (first | apply kn_ | apply kd_ | apply ka_)); exact BK597.out) k_ hn_)), Or.elim hk_ (fun hs_ => Or.elim hs_ (fun hs_ => fun e_ => Nat.not_le.2 hs_ (by rw [e_]; exact GW598.out)) (fun hs_ => fun e_ => Nat.not_le.2 hs_ (by rw [e_]; exact GW598.out))) (fun hn_ => (Kd.freshB (g := gb598) (o := .cells #[.bool a1_0, .slice A1_1 l1_1.length c1_1, .slice A1_2 l1_2.length c1_2] 50 (0, 0)) (by (with_reducible repeat (first | apply kn_ | apply kd_ | apply ka_)); exact BK598.out) k_ hn_))⟩)) (below_size (by with_reducible repeat (first | exact HB.out | apply ba_ | apply bn_ | apply bd_ | refine bs_ ?_ GE597.out | refine bs_ ?_ GE598.out))))
 have n3_ := Aside0.mk (Kd.V_lower (Kd.V_mono (ok' := fun k_ => k_ ≠ gb597 ∧ k_ ≠ gb598) ho1 (fun k_ hk_ => ⟨Or.elim hk_ (fun hs_ => Or.elim hs_ (fun hs_ => fun e_ => Nat.not_le.2 hs_ (by rw [e_]; exact GW597.out)) (fun hs_ => fun e_ => Nat.not_le.2 hs_ (by rw [e_]; exact GW597.out))) (fun hn_ => (Kd.freshB (g := gb597) (o := .cells #[.bool a0_0, .slice A0_1 l0_1.length c0_1, .slice A0_2 l0_2.length c0_2] 50 (0, 0)) (by (with_reducible repeat (first | apply kn_ | apply kd_ | apply ka_)); exact BK597.out) k_ hn_)), Or.elim hk_ (fun hs_ => Or.elim hs_ (fun hs_ => fun e_ => Nat.not_le.2 hs_ (by rw [e_]; exact GW598.out)) (fun hs_ => fun e_ => Nat.not_le.2 hs_ (by rw [e_]; exact GW598.out))) (fun hn_ => (Kd.freshB (g := gb598) (o := .cells #[.bool a1_0, .slice A1_1 l1_1.length c1_1, .slice A1_2 l1_2.length c1_2] 50 (0, 0)) (by (with_reducible repeat (first | apply kn_ | apply kd_ | apply ka_)); exact BK598.out) k_ hn_))⟩)) (below_size (by with_reducible repeat (first | exact HB.out | apply ba_ | apply bn_ | apply bd_ | refine bs_ ?_ GE597.out | refine bs_ ?_ GE598.out))))
 have n4_ := Aside0.mk (blk_below (g := gb597) (o := .cells #[.bool a0_0, .slice A0_1 l0_1.length c0_1, .slice A0_2 l0_2.length c0_2] 50 (0, 0)) (by (with_reducible repeat (first | apply kn_ | apply kd_ | apply ka_)); exact BK597.out) hb)
 have n5_ := Aside0.mk (blk_below (g := gb598) (o := .cells #[.bool a1_0, .slice A1_1 l1_1.length c1_1, .slice A1_2 l1_2.length c1_2] 50 (0, 0)) (by (with_reducible repeat (first | apply kn_ | apply kd_ | apply ka_)); exact BK598.out) hb)
 have n6_ := Aside0.mk (below_step (by with_reducible repeat (first | exact HB.out | apply ba_ | apply bn_ | apply bd_ | refine bs_ ?_ GE597.out | refine bs_ ?_ GE598.out)) hb)
 clear HO602
 clear HO605
 clear BK597
 clear BK598
 clear HB
 have HO602 := n0_
 have HO605 := n1_
 have HO609 := n2_
 have HO612 := n3_
 have BK597 := n4_
 have BK598 := n5_
 have HB := n6_
 clear n0_ n1_ n2_ n3_ n4_ n5_ n6_
 (try clear hb)
 (try clear hb2)
 (try clear hk)
 (try clear hi)
 (try clear ho0)
 (try clear ho1)
 obtain ⟨Ao78, co78, eo78⟩ := Kd.V_slice HO602.out
 (first | subst eo78 | (injection eo78 with f1_ f2_ f3_; have f4_ := f1_.symm; have f5_ := f3_.symm; clear f1_ f2_ f3_; subst f4_; subst f5_))
 obtain ⟨Ao80, co80, eo80⟩ := Kd.V_slice HO605.out
 (first | subst eo80 | (injection eo80 with f1_ f2_ f3_; have f4_ := f1_.symm; have f5_ := f3_.symm; clear f1_ f2_ f3_; subst f4_; subst f5_))
 obtain ⟨Ao83, co83, eo83⟩ := Kd.V_slice HO609.out
 (first | subst eo83 | (injection eo83 with f1_ f2_ f3_; have f4_ := f1_.symm; have f5_ := f3_.symm; clear f1_ f2_ f3_; subst f4_; subst f5_))
 obtain ⟨Ao85, co85, eo85⟩ := Kd.V_slice HO612.out
 (first | subst eo85 | (injection eo85 with f1_ f2_ f3_; have f4_ := f1_.symm; have f5_ := f3_.symm; clear f1_ f2_ f3_; subst f4_; subst f5_))
 refine hK.out _ _ ⟨(blk_cell BK597.out 0).trans rfl, (blk_cell BK597.out 1).trans rfl, (blk_cell BK597.out 2).trans rfl, (blk_cell BK598.out 0).trans rfl, (blk_cell BK598.out 1).trans rfl, (blk_cell BK598.out 2).trans rfl⟩ (fun hHeld => ?_)
 clear hK K
 refine norm_ (a' := ?_) ?_ ?_
 rotate_left
 ·
  show Act.put _ (some 9) _ = _
  simp only [Act.put, List.setIfInBounds_toArray, List.set_cons_zero, List.set_cons_succ, i64_w, i32_w]
  rfl
 refine last_ (i := 4) (N := none) #[true, true, true, true, true, false] rfl rfl (by kernel_rfl) (by decide) (fun K hK => ?_)
 have hs77 : w76.cell? ⟨gb597, 0, none⟩ = some (.bool a0_0) := (blk_cell BK597.out 0).trans rfl
 have hfs77 := blk_frozen BK597.out 0
 have hns77_1 := NB598_597.out
 have hms77_1 := NB597_598.out
 have hs79 : w76.cell? ⟨gb597, 1, none⟩ = some (.slice A0_1 l0_1.length c0_1) := (blk_cell BK597.out 1).trans rfl
 have hfs79 := blk_frozen BK597.out 1
 have hns79_1 := NB598_597.out
 have hms79_1 := NB597_598.out
 have hs81 : w76.cell? ⟨gb597, 2, none⟩ = some (.slice A0_2 l0_2.length c0_2) := (blk_cell BK597.out 2).trans rfl
 have hfs81 := blk_frozen BK597.out 2
 have hns81_1 := NB598_597.out
 have hms81_1 := NB597_598.out
 refine skip_ (w1 := ?_) (by rfl) rfl ?_ ?_
 rotate_left
 ·
  go_simp
  rfl
 refine hK.out _ _ ?_
 clear hK K
 refine last_ (i := 5) (N := none) #[true, true, true, true, true, true] rfl rfl (by kernel_rfl) (by decide) (fun K hK => ?_)
 have hs82 : w76.cell? ⟨gb598, 0, none⟩ = some (.bool a1_0) := (blk_cell BK598.out 0).trans rfl
 have hfs82 := blk_frozen BK598.out 0
 have hns82_0 := NB597_598.out
 have hms82_0 := NB598_597.out
 have hs84 : w76.cell? ⟨gb598, 1, none⟩ = some (.slice A1_1 l1_1.length c1_1) := (blk_cell BK598.out 1).trans rfl
 have hfs84 := blk_frozen BK598.out 1
 have hns84_0 := NB597_598.out
 have hms84_0 := NB598_597.out
 have hs86 : w76.cell? ⟨gb598, 2, none⟩ = some (.slice A1_2 l1_2.length c1_2) := (blk_cell BK598.out 2).trans rfl
 have hfs86 := blk_frozen BK598.out 2
 have hns86_0 := NB597_598.out
 have hms86_0 := NB598_597.out
 refine skip_ (w1 := ?_) (by rfl) rfl ?_ ?_
 rotate_left
 ·
  go_simp
  rfl
 refine hK.out _ _ ?_
 clear hK K
 refine done_ (by kernel_rfl) ?_
 have hnb87 := NB597_598.out
 have hnc87 := NB598_597.out
 have hcz88_0 : w76.cell? ⟨gb597, 0, none⟩ = some (.bool a0_0) := (blk_cell BK597.out 0).trans rfl
 have hcz88_1 : w76.cell? ⟨gb597, 1, none⟩ = some (.slice A0_1 l0_1.length c0_1) := (blk_cell BK597.out 1).trans rfl
 have hcz88_2 : w76.cell? ⟨gb597, 2, none⟩ = some (.slice A0_2 l0_2.length c0_2) := (blk_cell BK597.out 2).trans rfl
 have hfz88_0 := blk_frozen BK597.out 0
 have hfz88_1 := blk_frozen BK597.out 1
 have hfz88_2 := blk_frozen BK597.out 2
 have hcz89_0 : w76.cell? ⟨gb598, 0, none⟩ = some (.bool a1_0) := (blk_cell BK598.out 0).trans rfl
 have hcz89_1 : w76.cell? ⟨gb598, 1, none⟩ = some (.slice A1_1 l1_1.length c1_1) := (blk_cell BK598.out 1).trans rfl
 have hcz89_2 : w76.cell? ⟨gb598, 2, none⟩ = some (.slice A1_2 l1_2.length c1_2) := (blk_cell BK598.out 2).trans rfl
 have hfz89_0 := blk_frozen BK598.out 0
 have hfz89_1 := blk_frozen BK598.out 1
 have hfz89_2 := blk_frozen BK598.out 2
 try go_wp2
 have n0_ : Aside0 (Kd.V (Kd.int .u32) 123 ((((((w76.setCell ⟨gb597, 0, none⟩ (.bool false)).setCell ⟨gb597, 1, none⟩ (.slice Ao78 t600.length co78)).setCell ⟨gb597, 2, none⟩ (.slice Ao80 t603.length co80)).setCell ⟨gb598, 0, none⟩ (.bool t606)).setCell ⟨gb598, 1, none⟩ (.slice Ao83 t607.length co83)).setCell ⟨gb598, 2, none⟩ (.slice Ao85 t610.length co85)) w.heap.size (fun k_ => k_ ≠ gb597 ∧ k_ ≠ gb598) (.slice Ao78 t600.length co78) t600) := ⟨by (with_reducible repeat (first | apply va_ | apply vn_ | apply vd_)); exact Kd.V_mono (Kd.V_far (p := ⟨gb598, 2, none⟩) (Kd.V_far (p := ⟨gb598, 1, none⟩) (Kd.V_far (p := ⟨gb598, 0, none⟩) (Kd.V_far (p := ⟨gb597, 2, none⟩) (Kd.V_far (p := ⟨gb597, 1, none⟩) (Kd.V_far (p := ⟨gb597, 0, none⟩) (Kd.V_mono (Kd.V_mono HO602.out (fun k_ hk => (⟨hk, hk.1⟩ : _ ∧ k_ ≠ gb597))) (fun k_ hk => (⟨hk, hk.1.2⟩ : _ ∧ k_ ≠ gb598))) (fun _ hk => hk.1.2) (.bool false)) (fun _ hk => hk.1.2) (.slice Ao78 t600.length co78)) (fun _ hk => hk.1.2) (.slice Ao80 t603.length co80)) (fun _ hk => hk.2) (.bool t606)) (fun _ hk => hk.2) (.slice Ao83 t607.length co83)) (fun _ hk => hk.2) (.slice Ao85 t610.length co85)) (fun _ hk => ⟨hk.1.1.1, hk.1.1.2⟩)⟩
 have n1_ : Aside0 (Kd.V (Kd.int .u32) 123 ((((((w76.setCell ⟨gb597, 0, none⟩ (.bool false)).setCell ⟨gb597, 1, none⟩ (.slice Ao78 t600.length co78)).setCell ⟨gb597, 2, none⟩ (.slice Ao80 t603.length co80)).setCell ⟨gb598, 0, none⟩ (.bool t606)).setCell ⟨gb598, 1, none⟩ (.slice Ao83 t607.length co83)).setCell ⟨gb598, 2, none⟩ (.slice Ao85 t610.length co85)) w.heap.size (fun k_ => k_ ≠ gb597 ∧ k_ ≠ gb598) (.slice Ao80 t603.length co80) t603) := ⟨by (with_reducible repeat (first | apply va_ | apply vn_ | apply vd_)); exact Kd.V_mono (Kd.V_far (p := ⟨gb598, 2, none⟩) (Kd.V_far (p := ⟨gb598, 1, none⟩) (Kd.V_far (p := ⟨gb598, 0, none⟩) (Kd.V_far (p := ⟨gb597, 2, none⟩) (Kd.V_far (p := ⟨gb597, 1, none⟩) (Kd.V_far (p := ⟨gb597, 0, none⟩) (Kd.V_mono (Kd.V_mono HO605.out (fun k_ hk => (⟨hk, hk.1⟩ : _ ∧ k_ ≠ gb597))) (fun k_ hk => (⟨hk, hk.1.2⟩ : _ ∧ k_ ≠ gb598))) (fun _ hk => hk.1.2) (.bool false)) (fun _ hk => hk.1.2) (.slice Ao78 t600.length co78)) (fun _ hk => hk.1.2) (.slice Ao80 t603.length co80)) (fun _ hk => hk.2) (.bool t606)) (fun _ hk => hk.2) (.slice Ao83 t607.length co83)) (fun _ hk => hk.2) (.slice Ao85 t610.length co85)) (fun _ hk => ⟨hk.1.1.1, hk.1.1.2⟩)⟩
 have n2_ : Aside0 (Kd.V (Kd.int .u32) 123 ((((((w76.setCell ⟨gb597, 0, none⟩ (.bool false)).setCell ⟨gb597, 1, none⟩ (.slice Ao78 t600.length co78)).setCell ⟨gb597, 2, none⟩ (.slice Ao80 t603.length co80)).setCell ⟨gb598, 0, none⟩ (.bool t606)).setCell ⟨gb598, 1, none⟩ (.slice Ao83 t607.length co83)).setCell ⟨gb598, 2, none⟩ (.slice Ao85 t610.length co85)) w.heap.size (fun k_ => k_ ≠ gb597 ∧ k_ ≠ gb598) (.slice Ao83 t607.length co83) t607) := ⟨by (with_reducible repeat (first | apply va_ | apply vn_ | apply vd_)); exact Kd.V_mono (Kd.V_far (p := ⟨gb598, 2, none⟩) (Kd.V_far (p := ⟨gb598, 1, none⟩) (Kd.V_far (p := ⟨gb598, 0, none⟩) (Kd.V_far (p := ⟨gb597, 2, none⟩) (Kd.V_far (p := ⟨gb597, 1, none⟩) (Kd.V_far (p := ⟨gb597, 0, none⟩) (Kd.V_mono (Kd.V_mono HO609.out (fun k_ hk => (⟨hk, hk.1⟩ : _ ∧ k_ ≠ gb597))) (fun k_ hk => (⟨hk, hk.1.2⟩ : _ ∧ k_ ≠ gb598))) (fun _ hk => hk.1.2) (.bool false)) (fun _ hk => hk.1.2) (.slice Ao78 t600.length co78)) (fun _ hk => hk.1.2) (.slice Ao80 t603.length co80)) (fun _ hk => hk.2) (.bool t606)) (fun _ hk => hk.2) (.slice Ao83 t607.length co83)) (fun _ hk => hk.2) (.slice Ao85 t610.length co85)) (fun _ hk => ⟨hk.1.1.1, hk.1.1.2⟩)⟩
 have n3_ : Aside0 (Kd.V (Kd.int .u32) 123 ((((((w76.setCell ⟨gb597, 0, none⟩ (.bool false)).setCell ⟨gb597, 1, none⟩ (.slice Ao78 t600.length co78)).setCell ⟨gb597, 2, none⟩ (.slice Ao80 t603.length co80)).setCell ⟨gb598, 0, none⟩ (.bool t606)).setCell ⟨gb598, 1, none⟩ (.slice Ao83 t607.length co83)).setCell ⟨gb598, 2, none⟩ (.slice Ao85 t610.length co85)) w.heap.size (fun k_ => k_ ≠ gb597 ∧ k_ ≠ gb598) (.slice Ao85 t610.length co85) t610) := ⟨by (with_reducible repeat (first | apply va_ | apply vn_ | apply vd_)); exact Kd.V_mono (Kd.V_far (p := ⟨gb598, 2, none⟩) (Kd.V_far (p := ⟨gb598, 1, none⟩) (Kd.V_far (p := ⟨gb598, 0, none⟩) (Kd.V_far (p := ⟨gb597, 2, none⟩) (Kd.V_far (p := ⟨gb597, 1, none⟩) (Kd.V_far (p := ⟨gb597, 0, none⟩) (Kd.V_mono (Kd.V_mono HO612.out (fun k_ hk => (⟨hk, hk.1⟩ : _ ∧ k_ ≠ gb597))) (fun k_ hk => (⟨hk, hk.1.2⟩ : _ ∧ k_ ≠ gb598))) (fun _ hk => hk.1.2) (.bool false)) (fun _ hk => hk.1.2) (.slice Ao78 t600.length co78)) (fun _ hk => hk.1.2) (.slice Ao80 t603.length co80)) (fun _ hk => hk.2) (.bool t606)) (fun _ hk => hk.2) (.slice Ao83 t607.length co83)) (fun _ hk => hk.2) (.slice Ao85 t610.length co85)) (fun _ hk => ⟨hk.1.1.1, hk.1.1.2⟩)⟩
 have n4_ : Aside0 (((((((w76.setCell ⟨gb597, 0, none⟩ (.bool false)).setCell ⟨gb597, 1, none⟩ (.slice Ao78 t600.length co78)).setCell ⟨gb597, 2, none⟩ (.slice Ao80 t603.length co80)).setCell ⟨gb598, 0, none⟩ (.bool t606)).setCell ⟨gb598, 1, none⟩ (.slice Ao83 t607.length co83)).setCell ⟨gb598, 2, none⟩ (.slice Ao85 t610.length co85)).heap[gb597]? = some (.cells #[.bool false, .slice Ao78 t600.length co78, .slice Ao80 t603.length co80] 50 (0, 0))) := ⟨by (with_reducible repeat (first | apply kn_ | apply kd_ | apply ka_)); refine blk_far ?_ NB597_598.out _; (with_reducible repeat (first | apply kn_ | apply kd_ | apply ka_)); refine blk_far ?_ NB597_598.out _; (with_reducible repeat (first | apply kn_ | apply kd_ | apply ka_)); refine blk_far ?_ NB597_598.out _; (with_reducible repeat (first | apply kn_ | apply kd_ | apply ka_)); refine blk_put (cs := #[.bool false, .slice Ao78 t600.length co78, .slice A0_2 l0_2.length c0_2]) ?_ 2 _ rfl; (with_reducible repeat (first | apply kn_ | apply kd_ | apply ka_)); refine blk_put (cs := #[.bool false, .slice A0_1 l0_1.length c0_1, .slice A0_2 l0_2.length c0_2]) ?_ 1 _ rfl; (with_reducible repeat (first | apply kn_ | apply kd_ | apply ka_)); refine blk_put (cs := #[.bool a0_0, .slice A0_1 l0_1.length c0_1, .slice A0_2 l0_2.length c0_2]) ?_ 0 _ rfl; (with_reducible repeat (first | apply kn_ | apply kd_ | apply ka_)); exact BK597.out⟩
 have n5_ : Aside0 (((((((w76.setCell ⟨gb597, 0, none⟩ (.bool false)).setCell ⟨gb597, 1, none⟩ (.slice Ao78 t600.length co78)).setCell ⟨gb597, 2, none⟩ (.slice Ao80 t603.length co80)).setCell ⟨gb598, 0, none⟩ (.bool t606)).setCell ⟨gb598, 1, none⟩ (.slice Ao83 t607.length co83)).setCell ⟨gb598, 2, none⟩ (.slice Ao85 t610.length co85)).heap[gb598]? = some (.cells #[.bool t606, .slice Ao83 t607.length co83, .slice Ao85 t610.length co85] 50 (0, 0))) := ⟨by (with_reducible repeat (first | apply kn_ | apply kd_ | apply ka_)); refine blk_put (cs := #[.bool t606, .slice Ao83 t607.length co83, .slice A1_2 l1_2.length c1_2]) ?_ 2 _ rfl; (with_reducible repeat (first | apply kn_ | apply kd_ | apply ka_)); refine blk_put (cs := #[.bool t606, .slice A1_1 l1_1.length c1_1, .slice A1_2 l1_2.length c1_2]) ?_ 1 _ rfl; (with_reducible repeat (first | apply kn_ | apply kd_ | apply ka_)); refine blk_put (cs := #[.bool a1_0, .slice A1_1 l1_1.length c1_1, .slice A1_2 l1_2.length c1_2]) ?_ 0 _ rfl; (with_reducible repeat (first | apply kn_ | apply kd_ | apply ka_)); refine blk_far ?_ NB598_597.out _; (with_reducible repeat (first | apply kn_ | apply kd_ | apply ka_)); refine blk_far ?_ NB598_597.out _; (with_reducible repeat (first | apply kn_ | apply kd_ | apply ka_)); refine blk_far ?_ NB598_597.out _; (with_reducible repeat (first | apply kn_ | apply kd_ | apply ka_)); exact BK598.out⟩
 have n6_ : Aside0 (Below w.heap.size w ((((((w76.setCell ⟨gb597, 0, none⟩ (.bool false)).setCell ⟨gb597, 1, none⟩ (.slice Ao78 t600.length co78)).setCell ⟨gb597, 2, none⟩ (.slice Ao80 t603.length co80)).setCell ⟨gb598, 0, none⟩ (.bool t606)).setCell ⟨gb598, 1, none⟩ (.slice Ao83 t607.length co83)).setCell ⟨gb598, 2, none⟩ (.slice Ao85 t610.length co85))) := ⟨by repeat (first | (with_reducible first | exact HB.out | apply below_alloc | apply pw_below_drewN | apply below_drew1 | refine below_set ?_ GE597.out | refine below_set ?_ GE598.out) | exact HB.out)⟩
 (try clear HO602)
 (try clear HO605)
 (try clear HO609)
 (try clear HO612)
 (try clear BK597)
 (try clear BK598)
 (try clear HB)
 generalize ((((((w76.setCell ⟨gb597, 0, none⟩ (.bool false)).setCell ⟨gb597, 1, none⟩ (.slice Ao78 t600.length co78)).setCell ⟨gb597, 2, none⟩ (.slice Ao80 t603.length co80)).setCell ⟨gb598, 0, none⟩ (.bool t606)).setCell ⟨gb598, 1, none⟩ (.slice Ao83 t607.length co83)).setCell ⟨gb598, 2, none⟩ (.slice Ao85 t610.length co85)) = w90 at n0_ n1_ n2_ n3_ n4_ n5_ n6_ ⊢
 have HO602 := n0_
 have HO605 := n1_
 have HO609 := n2_
 have HO612 := n3_
 have BK597 := n4_
 have BK598 := n5_
 have HB := n6_
 clear n0_ n1_ n2_ n3_ n4_ n5_ n6_
 have n0_ := Aside0.mk (Kd.V_drew HO602.out)
 have n1_ := Aside0.mk (Kd.V_drew HO605.out)
 have n2_ := Aside0.mk (Kd.V_drew HO609.out)
 have n3_ := Aside0.mk (Kd.V_drew HO612.out)
 have n4_ := Aside0.mk (blk_drew BK597.out)
 have n5_ := Aside0.mk (blk_drew BK598.out)
 have n6_ := Aside0.mk (below_drew1 HB.out)
 clear HO602
 clear HO605
 clear HO609
 clear HO612
 clear BK597
 clear BK598
 clear HB
 have HO602 := n0_
 have HO605 := n1_
 have HO609 := n2_
 have HO612 := n3_
 have BK597 := n4_
 have BK598 := n5_
 have HB := n6_
 clear n0_ n1_ n2_ n3_ n4_ n5_ n6_
 refine start_ (n := 12) (S := fun w' => w'.cell? ⟨gb597, 0, none⟩ = some (.bool false) ∧ w'.cell? ⟨gb597, 1, none⟩ = some (.slice Ao78 t600.length co78) ∧ w'.cell? ⟨gb597, 2, none⟩ = some (.slice Ao80 t603.length co80) ∧ w'.cell? ⟨gb598, 0, none⟩ = some (.bool t606) ∧ w'.cell? ⟨gb598, 1, none⟩ = some (.slice Ao83 t607.length co83) ∧ w'.cell? ⟨gb598, 2, none⟩ = some (.slice Ao85 t610.length co85)) (ds := []) #[false, false, false, false, false, false, false, false, false, false, false, false] (by kernel_rfl) rfl rfl ⟨(blk_cell BK597.out 0).trans rfl, (blk_cell BK597.out 1).trans rfl, (blk_cell BK597.out 2).trans rfl, (blk_cell BK598.out 0).trans rfl, (blk_cell BK598.out 1).trans rfl, (blk_cell BK598.out 2).trans rfl⟩ (fun hHeld => ?_); refine with_tabW ratio_R_Cmp.tab6 ratio_R_Cmp.bits6 (fun HT_ HW_ => ?_)
 generalize w90.drew = w91 at HO602 HO605 HO609 HO612 BK597 BK598 HB hHeld ⊢
 refine pure_ (i := 0) (N := some 17) (v := ?_) (a' := ?_) #[true, false, false, false, false, false, false, false, false, false, false, false] rfl rfl (any_of HT_.out (by kernel_rfl)) (fun _ _ _ h => h) (Or.inl ⟨by rfl, ?_⟩) ?_ ?_
 rotate_left
 ·
  intro w'
  go_simp
  with_reducible rfl
 rotate_left
 ·
  simp only [Act.put, List.setIfInBounds_toArray, List.set_cons_zero, List.set_cons_succ, i64_w, i32_w]
  rfl
 refine pure_ (i := 2) (N := some 19) (v := ?_) (a' := ?_) #[true, false, true, false, false, false, false, false, false, false, false, false] rfl rfl (any_of HT_.out (by kernel_rfl)) (fun _ _ _ h => h) (Or.inl ⟨by rfl, ?_⟩) ?_ ?_
 rotate_left
 ·
  intro w'
  go_simp
  with_reducible rfl
 rotate_left
 ·
  simp only [Act.put, List.setIfInBounds_toArray, List.set_cons_zero, List.set_cons_succ, i64_w, i32_w]
  rfl
 refine pure_ (i := 5) (N := some 22) (v := ?_) (a' := ?_) #[true, false, true, false, false, true, false, false, false, false, false, false] rfl rfl (any_of HT_.out (by kernel_rfl)) (fun _ _ _ h => h) (Or.inl ⟨by rfl, ?_⟩) ?_ ?_
 rotate_left
 ·
  intro w'
  go_simp
  with_reducible rfl
 rotate_left
 ·
  simp only [Act.put, List.setIfInBounds_toArray, List.set_cons_zero, List.set_cons_succ, i64_w, i32_w]
  rfl
 refine pure_ (i := 7) (N := some 24) (v := ?_) (a' := ?_) #[true, false, true, false, false, true, false, true, false, false, false, false] rfl rfl (any_of HT_.out (by kernel_rfl)) (fun _ _ _ h => h) (Or.inl ⟨by rfl, ?_⟩) ?_ ?_
 rotate_left
 ·
  intro w'
  go_simp
  with_reducible rfl
 rotate_left
 ·
  simp only [Act.put, List.setIfInBounds_toArray, List.set_cons_zero, List.set_cons_succ, i64_w, i32_w]
  rfl
 refine take_ (i := 1) (N := some 18) (v := ?_) (a' := ?_) #[true, true, true, false, false, true, false, true, false, false, false, false] rfl rfl (take_ofW HT_.out HW_.out (by kernel_rfl)) (fun _ _ _ h => h) (Or.inl ⟨by rfl, ?_⟩) hHeld ?_ ?_
 rotate_left
 ·
  rintro w' ⟨s0, s1, s2, s3, s4, s5⟩
  go_simp
  with_reducible rfl
 rotate_left
 ·
  simp only [Act.put, List.setIfInBounds_toArray, List.set_cons_zero, List.set_cons_succ, i64_w, i32_w]
  rfl
 refine take_ (i := 3) (N := some 20) (v := ?_) (a' := ?_) #[true, true, true, true, false, true, false, true, false, false, false, false] rfl rfl (take_ofW HT_.out HW_.out (by kernel_rfl)) (fun _ _ _ h => h) (Or.inl ⟨by rfl, ?_⟩) hHeld ?_ ?_
 rotate_left
 ·
  rintro w' ⟨s0, s1, s2, s3, s4, s5⟩
  go_simp
  with_reducible rfl
 rotate_left
 ·
  simp only [Act.put, List.setIfInBounds_toArray, List.set_cons_zero, List.set_cons_succ, i64_w, i32_w]
  rfl
 refine take_ (i := 6) (N := some 23) (v := ?_) (a' := ?_) #[true, true, true, true, false, true, true, true, false, false, false, false] rfl rfl (take_ofW HT_.out HW_.out (by kernel_rfl)) (fun _ _ _ h => h) (Or.inl ⟨by rfl, ?_⟩) hHeld ?_ ?_
 rotate_left
 ·
  rintro w' ⟨s0, s1, s2, s3, s4, s5⟩
  go_simp
  with_reducible rfl
 rotate_left
 ·
  simp only [Act.put, List.setIfInBounds_toArray, List.set_cons_zero, List.set_cons_succ, i64_w, i32_w]
  rfl
 refine take_ (i := 8) (N := some 25) (v := ?_) (a' := ?_) #[true, true, true, true, false, true, true, true, true, false, false, false] rfl rfl (take_ofW HT_.out HW_.out (by kernel_rfl)) (fun _ _ _ h => h) (Or.inl ⟨by rfl, ?_⟩) hHeld ?_ ?_
 rotate_left
 ·
  rintro w' ⟨s0, s1, s2, s3, s4, s5⟩
  go_simp
  with_reducible rfl
 rotate_left
 ·
  simp only [Act.put, List.setIfInBounds_toArray, List.set_cons_zero, List.set_cons_succ, i64_w, i32_w]
  rfl
 refine one_ (i := 4) (N := some 21) #[true, true, true, true, true, true, true, true, true, false, false, false] rfl rfl (one_of HT_.out (by kernel_rfl)) (by decide) (fun K hK => ?_)
 refine goesN_ Try.func67 (by kernel_rfl) rfl [.slice Ao78 t600.length co78, .slice Ao85 t610.length co85] (by rfl) rfl rfl (by rfl) ?_
 with_reducible refine (nat_Nat_Mul.calls k _ _ t600 _ _ t610 t613 _ ?side1 ?side2 ?side3 ?side4 A43.out).mono ?_
 (case side1 => repeat (first | exact (Kd.V_reads' HO602.out).2.2 | (with_reducible refine Kd.C_alloc ?_ _) | (with_reducible refine Kd.C_drewN ?_ _) | (with_reducible refine Kd.C_drew ?_)))
 (case side2 => exact (Kd.V_reads' HO602.out).2.1)
 (case side3 => repeat (first | exact (Kd.V_reads' HO612.out).2.2 | (with_reducible refine Kd.C_alloc ?_ _) | (with_reducible refine Kd.C_drewN ?_ _) | (with_reducible refine Kd.C_drew ?_)))
 (case side4 => exact (Kd.V_reads' HO612.out).2.1)
 rintro e w92 ⟨v614, rfl, ho0, hb⟩
 refine ⟨_, rfl, ?_⟩
 have n1_ := Aside0.mk (Kd.V_below (by (with_reducible repeat (first | apply va_ | apply vn_ | apply vd_)); exact HO605.out) hb)
 have n2_ := Aside0.mk (Kd.V_below (by (with_reducible repeat (first | apply va_ | apply vn_ | apply vd_)); exact HO609.out) hb)
 have n4_ := Aside0.mk (Kd.V_lower (Kd.V_mono (ok' := fun k_ => k_ ≠ gb597 ∧ k_ ≠ gb598) ho0 (fun k_ hk_ => ⟨(Kd.freshB (g := gb597) (o := .cells #[.bool false, .slice Ao78 t600.length co78, .slice Ao80 t603.length co80] 50 (0, 0)) (by (with_reducible repeat (first | apply kn_ | apply kd_ | apply ka_)); exact BK597.out) k_ hk_), (Kd.freshB (g := gb598) (o := .cells #[.bool t606, .slice Ao83 t607.length co83, .slice Ao85 t610.length co85] 50 (0, 0)) (by (with_reducible repeat (first | apply kn_ | apply kd_ | apply ka_)); exact BK598.out) k_ hk_)⟩)) (below_size (by with_reducible repeat (first | exact HB.out | apply ba_ | apply bn_ | apply bd_ | refine bs_ ?_ GE597.out | refine bs_ ?_ GE598.out))))
 have n5_ := Aside0.mk (blk_below (g := gb597) (o := .cells #[.bool false, .slice Ao78 t600.length co78, .slice Ao80 t603.length co80] 50 (0, 0)) (by (with_reducible repeat (first | apply kn_ | apply kd_ | apply ka_)); exact BK597.out) hb)
 have n6_ := Aside0.mk (blk_below (g := gb598) (o := .cells #[.bool t606, .slice Ao83 t607.length co83, .slice Ao85 t610.length co85] 50 (0, 0)) (by (with_reducible repeat (first | apply kn_ | apply kd_ | apply ka_)); exact BK598.out) hb)
 have n7_ := Aside0.mk (below_step (by with_reducible repeat (first | exact HB.out | apply ba_ | apply bn_ | apply bd_ | refine bs_ ?_ GE597.out | refine bs_ ?_ GE598.out)) hb)
 (try clear BK597)
 (try clear BK598)
 (try clear HB)
 (try clear HO605)
 (try clear HO609)
 have HO605 := n1_
 have HO609 := n2_
 have HO615 := n4_
 have BK597 := n5_
 have BK598 := n6_
 have HB := n7_
 clear n1_ n2_ n4_ n5_ n6_ n7_
 (try clear hb)
 (try clear hb2)
 (try clear hk)
 (try clear hi)
 (try clear ho0)
 refine hK.out _ _ ⟨(blk_cell BK597.out 0).trans rfl, (blk_cell BK597.out 1).trans rfl, (blk_cell BK597.out 2).trans rfl, (blk_cell BK598.out 0).trans rfl, (blk_cell BK598.out 1).trans rfl, (blk_cell BK598.out 2).trans rfl⟩ (fun hHeld => ?_)
 clear hK K
 refine norm_ (a' := ?_) ?_ ?_
 rotate_left
 ·
  show Act.put _ (some 21) _ = _
  simp only [Act.put, List.setIfInBounds_toArray, List.set_cons_zero, List.set_cons_succ, i64_w, i32_w]
  rfl
 refine one_ (i := 9) (N := some 26) #[true, true, true, true, true, true, true, true, true, true, false, false] rfl rfl (one_of HT_.out (by kernel_rfl)) (by decide) (fun K hK => ?_)
 refine goesN_ Try.func67 (by kernel_rfl) rfl [.slice Ao83 t607.length co83, .slice Ao80 t603.length co80] (by rfl) rfl rfl (by rfl) ?_
 with_reducible refine (nat_Nat_Mul.calls k _ _ t607 _ _ t603 t616 _ ?side1 ?side2 ?side3 ?side4 A44.out).mono ?_
 (case side1 => repeat (first | exact (Kd.V_reads' HO609.out).2.2 | (with_reducible refine Kd.C_alloc ?_ _) | (with_reducible refine Kd.C_drewN ?_ _) | (with_reducible refine Kd.C_drew ?_)))
 (case side2 => exact (Kd.V_reads' HO609.out).2.1)
 (case side3 => repeat (first | exact (Kd.V_reads' HO605.out).2.2 | (with_reducible refine Kd.C_alloc ?_ _) | (with_reducible refine Kd.C_drewN ?_ _) | (with_reducible refine Kd.C_drew ?_)))
 (case side4 => exact (Kd.V_reads' HO605.out).2.1)
 rintro e w93 ⟨v617, rfl, ho0, hb⟩
 refine ⟨_, rfl, ?_⟩
 have n4_ := Aside0.mk (Kd.V_below (by (with_reducible repeat (first | apply va_ | apply vn_ | apply vd_)); exact HO615.out) hb)
 have n5_ := Aside0.mk (Kd.V_lower (Kd.V_mono (ok' := fun k_ => k_ ≠ gb597 ∧ k_ ≠ gb598) ho0 (fun k_ hk_ => ⟨(Kd.freshB (g := gb597) (o := .cells #[.bool false, .slice Ao78 t600.length co78, .slice Ao80 t603.length co80] 50 (0, 0)) (by (with_reducible repeat (first | apply kn_ | apply kd_ | apply ka_)); exact BK597.out) k_ hk_), (Kd.freshB (g := gb598) (o := .cells #[.bool t606, .slice Ao83 t607.length co83, .slice Ao85 t610.length co85] 50 (0, 0)) (by (with_reducible repeat (first | apply kn_ | apply kd_ | apply ka_)); exact BK598.out) k_ hk_)⟩)) (below_size (by with_reducible repeat (first | exact HB.out | apply ba_ | apply bn_ | apply bd_ | refine bs_ ?_ GE597.out | refine bs_ ?_ GE598.out))))
 have n6_ := Aside0.mk (blk_below (g := gb597) (o := .cells #[.bool false, .slice Ao78 t600.length co78, .slice Ao80 t603.length co80] 50 (0, 0)) (by (with_reducible repeat (first | apply kn_ | apply kd_ | apply ka_)); exact BK597.out) hb)
 have n7_ := Aside0.mk (blk_below (g := gb598) (o := .cells #[.bool t606, .slice Ao83 t607.length co83, .slice Ao85 t610.length co85] 50 (0, 0)) (by (with_reducible repeat (first | apply kn_ | apply kd_ | apply ka_)); exact BK598.out) hb)
 have n8_ := Aside0.mk (below_step (by with_reducible repeat (first | exact HB.out | apply ba_ | apply bn_ | apply bd_ | refine bs_ ?_ GE597.out | refine bs_ ?_ GE598.out)) hb)
 (try clear BK597)
 (try clear BK598)
 (try clear HB)
 (try clear HO615)
 have HO615 := n4_
 have HO618 := n5_
 have BK597 := n6_
 have BK598 := n7_
 have HB := n8_
 clear n4_ n5_ n6_ n7_ n8_
 (try clear hb)
 (try clear hb2)
 (try clear hk)
 (try clear hi)
 (try clear ho0)
 obtain ⟨Ao94, co94, eo94⟩ := Kd.V_slice HO615.out
 (first | subst eo94 | (injection eo94 with f1_ f2_ f3_; have f4_ := f1_.symm; have f5_ := f3_.symm; clear f1_ f2_ f3_; subst f4_; subst f5_))
 obtain ⟨Ao95, co95, eo95⟩ := Kd.V_slice HO618.out
 (first | subst eo95 | (injection eo95 with f1_ f2_ f3_; have f4_ := f1_.symm; have f5_ := f3_.symm; clear f1_ f2_ f3_; subst f4_; subst f5_))
 refine hK.out _ _ ⟨(blk_cell BK597.out 0).trans rfl, (blk_cell BK597.out 1).trans rfl, (blk_cell BK597.out 2).trans rfl, (blk_cell BK598.out 0).trans rfl, (blk_cell BK598.out 1).trans rfl, (blk_cell BK598.out 2).trans rfl⟩ (fun hHeld => ?_)
 clear hK K
 refine norm_ (a' := ?_) ?_ ?_
 rotate_left
 ·
  show Act.put _ (some 26) _ = _
  simp only [Act.put, List.setIfInBounds_toArray, List.set_cons_zero, List.set_cons_succ, i64_w, i32_w]
  rfl
 refine one_ (i := 10) (N := some 27) #[true, true, true, true, true, true, true, true, true, true, true, false] rfl rfl (one_of HT_.out (by kernel_rfl)) (by decide) (fun K hK => ?_)
 refine goesN_ Try.func75 (by kernel_rfl) rfl [.slice Ao94 t613.length co94, .slice Ao95 t616.length co95] (by rfl) rfl rfl (by rfl) ?_
 with_reducible refine (nat_Nat_Cmp.calls k _ _ t613 _ _ t616 t619 _ ?side1 ?side2 ?side3 ?side4 A45.out).mono ?_
 (case side1 => repeat (first | exact (Kd.V_reads' HO615.out).2.2 | (with_reducible refine Kd.C_alloc ?_ _) | (with_reducible refine Kd.C_drewN ?_ _) | (with_reducible refine Kd.C_drew ?_)))
 (case side2 => exact (Kd.V_reads' HO615.out).2.1)
 (case side3 => repeat (first | exact (Kd.V_reads' HO618.out).2.2 | (with_reducible refine Kd.C_alloc ?_ _) | (with_reducible refine Kd.C_drewN ?_ _) | (with_reducible refine Kd.C_drew ?_)))
 (case side4 => exact (Kd.V_reads' HO618.out).2.1)
 rintro e w' ⟨rfl, ⟨nd, rfl⟩⟩
 refine ⟨_, rfl, ?_⟩
 refine hK.out _ _ ⟨(blk_cell BK597.out 0).trans rfl, (blk_cell BK597.out 1).trans rfl, (blk_cell BK597.out 2).trans rfl, (blk_cell BK598.out 0).trans rfl, (blk_cell BK598.out 1).trans rfl, (blk_cell BK598.out 2).trans rfl⟩ (fun hHeld => ?_)
 clear hK K
 refine norm_ (a' := ?_) ?_ ?_
 rotate_left
 ·
  show Act.put _ (some 27) _ = _
  simp only [Act.put, List.setIfInBounds_toArray, List.set_cons_zero, List.set_cons_succ, i64_w, i32_w]
  rfl
 refine pure_ (i := 11) (N := some 5) (v := ?_) (a' := ?_) #[true, true, true, true, true, true, true, true, true, true, true, true] rfl rfl (any_of HT_.out (by kernel_rfl)) (fun _ _ _ h => h) (Or.inl ⟨by rfl, ?_⟩) ?_ ?_
 rotate_left
 ·
  intro w'
  go_simp
  with_reducible rfl
 rotate_left
 ·
  simp only [Act.put, List.setIfInBounds_toArray, List.set_cons_zero, List.set_cons_succ, i64_w, i32_w]
  rfl
 refine done_ (done_of HT_.out (by kernel_rfl)) ?_
 have hcz96_0 : w93.cell? ⟨gb597, 0, none⟩ = some (.bool false) := (blk_cell BK597.out 0).trans rfl
 have hcz96_1 : w93.cell? ⟨gb597, 1, none⟩ = some (.slice Ao78 t600.length co78) := (blk_cell BK597.out 1).trans rfl
 have hcz96_2 : w93.cell? ⟨gb597, 2, none⟩ = some (.slice Ao80 t603.length co80) := (blk_cell BK597.out 2).trans rfl
 have hfz96_0 := blk_frozen BK597.out 0
 have hfz96_1 := blk_frozen BK597.out 1
 have hfz96_2 := blk_frozen BK597.out 2
 try go_wp2
 go_ret
 exact ⟨by first | rfl | (simp [errW_none, errW_some] <;> rfl) | (simp [*, errW_none, errW_some] <;> rfl), by repeat (first | (with_reducible first | exact HB.out | apply below_alloc | apply pw_below_drewN | apply below_drew1 | refine below_set ?_ GE597.out | refine below_set ?_ GE598.out) | exact HB.out)⟩

end Go.Proofs.Ytfglpaaeipblcaa.P
