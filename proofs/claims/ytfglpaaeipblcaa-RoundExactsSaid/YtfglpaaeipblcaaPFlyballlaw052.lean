/- Walks of one package: what each function returns, wherever the Lean function beside it has an answer. -/
import Derived.Test.YtfglpaaeipblcaaP0
import Derived.Test.YtfglpaaeipblcaaPFlyballref021
import Derived.Test.YtfglpaaeipblcaaPFlyballref032
namespace Go.Proofs.Ytfglpaaeipblcaa.P
open Go.RowKit Go.Proofs.YtfglpaaeipblcaaW.PrintWords Go.Proofs.YtfglpaaeipblcaaW.PrintLast Go.Proofs.YtfglpaaeipblcaaW.PrintMore
attribute [local go_sem] max2_int min2_int max_two min_two max_three min_three max_four min_four   -- for this text's walks alone
set_option linter.unusedVariables false
set_option linter.unusedSimpArgs false

/-! ### flyballlaw05_of: function 28 -/
def flyballlaw05_of.f (k : Nat) (a0_0 : Bool) (l0_1 : List Int) (l0_2 : List Int) : Option (Bool × List Bool × List Bool) := (flyballref02_Bits.f k l0_1).bind fun t635 => ((flyballref02_Bits.f k l0_2).bind fun t638 => ((flyballref03_Low.f k a0_0 t635 t638).bind fun bt641 => (some (bt641.1, bt641.2.1, bt641.2.2))))
theorem flyballlaw05_of.mono : ∀ a0 a1 a2 k, LeO (flyballlaw05_of.f k a0 a1 a2) (flyballlaw05_of.f (k + 1) a0 a1 a2) := by
 intro a0 a1 a2 k
 unfold flyballlaw05_of.f
 repeat' with_reducible first | exact flyballref02_Bits.mono _ _ | exact flyballref03_Low.mono _ _ _ _ | exact LeO.refl _ | exact LeO.none _ | refine LeO.ite ?_ ?_ | refine LeO.bind ?_ (fun _ => ?_)
def flyballlaw05_of.T1 : Bool × List (List Nat × List Nat) := (true, [([], []), ([0], [0]), ([], []), ([2], [2]), ([3], [3]), ([], []), ([5], [5]), ([6, 4], [6]), ([1, 4, 7, 7], [1, 4, 7]), ([8, 8, 0, 1, 2, 3, 4, 5, 6, 7, 8], [8])])
def flyballlaw05_of.B1 : List Nat := [0, 1, 0, 4, 12, 0, 32, 124, 255, 511]
theorem flyballlaw05_of.tab1 : rtab .any (opsOf Try.f28 1) = flyballlaw05_of.T1 := by kernel_rfl
theorem flyballlaw05_of.bits1 : waitsOk flyballlaw05_of.T1.2 flyballlaw05_of.B1 = true := by kernel_rfl
set_option maxHeartbeats 8000000 in
set_option maxRecDepth 100000 in
theorem flyballlaw05_of.calls (k : Nat) (a0_0 : Bool) (A0_1 : Option Addr) (c0_1 : Nat) (l0_1 : List Int) (A0_2 : Option Addr) (c0_2 : Nat) (l0_2 : List Int) (r1 : Bool) (r2 : List Bool) (r3 : List Bool) (w : World) (hr0_1 : Kd.C (Kd.int .u32) w A0_1 l0_1.length l0_1) (hc0_1 : l0_1.length ≤ c0_1) (hr0_2 : Kd.C (Kd.int .u32) w A0_2 l0_2.length l0_2) (hc0_2 : l0_2.length ≤ c0_2) (h : flyballlaw05_of.f k a0_0 l0_1 l0_2 = some (r1, r2, r3)) :
  Calls Try.prog 28 #[.agg #[.bool a0_0, .slice A0_1 l0_1.length c0_1, .slice A0_2 l0_2.length c0_2]] w fun e w' => ∃ v1_ v2_ : Value, e = .returned (.agg #[.bool r1, v1_, v2_]) ∧ Kd.R Kd.bool 4 w' w.heap.size (fun k_ => some k_ ≠ (v2_ : Value).ownBlock) v1_ r2 ∧ Kd.R Kd.bool 4 w' w.heap.size (fun k_ => some k_ ≠ (v1_ : Value).ownBlock) v2_ r3 ∧ Below w.heap.size w w' := by
 have hu50 := Try.underlying50
 have hu54 := Try.underlying54
 have HR0_1 := Aside0.mk hr0_1
 have HC0_1 := Aside0.mk hc0_1
 clear hr0_1 hc0_1
 have HR0_2 := Aside0.mk hr0_2
 have HC0_2 := Aside0.mk hc0_2
 clear hr0_2 hc0_2
 have HB := Aside0.mk (Below.refl w.heap.size w)
 have H : ((flyballref02_Bits.f k l0_1).bind fun t635 => ((flyballref02_Bits.f k l0_2).bind fun t638 => ((flyballref03_Low.f k a0_0 t635 t638).bind fun bt641 => (some (bt641.1, bt641.2.1, bt641.2.2))))) = some (r1, r2, r3) := h
 clear h
 replace H := Option.bind_eq_some_iff.mp H
 obtain ⟨t635, A20, H⟩ := H
 replace H : ((flyballref02_Bits.f k l0_2).bind fun t638 => ((flyballref03_Low.f k a0_0 t635 t638).bind fun bt641 => (some (bt641.1, bt641.2.1, bt641.2.2)))) = some (r1, r2, r3) := H
 have A2 := Aside0.mk A20
 clear A20
 replace H := Option.bind_eq_some_iff.mp H
 obtain ⟨t638, A30, H⟩ := H
 replace H : ((flyballref03_Low.f k a0_0 t635 t638).bind fun bt641 => (some (bt641.1, bt641.2.1, bt641.2.2))) = some (r1, r2, r3) := H
 have A3 := Aside0.mk A30
 clear A30
 replace H := Option.bind_eq_some_iff.mp H
 obtain ⟨⟨t641, t642, t645⟩, A40, H⟩ := H
 replace H : (some (t641, t642, t645)) = some (r1, r2, r3) := H
 have A4 := Aside0.mk A40
 clear A40
 simp only [Option.some.injEq, Prod.mk.injEq] at H
 obtain ⟨rfl, rfl, rfl⟩ := H
 go_enter Try.func28, Try.ntmps28
 try go_wp2_with (first | ((with_reducible refine gate_dst (N := 1) rfl ?_); refine box_event ?hg (N := 1) ?hd (cs := #[.bool a0_0, .slice A0_1 l0_1.length c0_1, .slice A0_2 l0_2.length c0_2]) (t := 50) ?hr ?_; (case hd => rfl); (case hg => rfl); (case hr => first | (go_simp; done) | (go_simp; rfl)); intro gb633 hg w5 hbox hb; have n0_ := bq_ hb; have n1_ := Aside0.mk (hbox); have n3_ := bz_ hg; clear HB; have HB := n0_; have BK633 := n1_; have GE633 := n3_; clear n0_ n1_ n3_; clear hb hbox hg) | ((with_reducible refine gate_dst (N := 2) rfl ?_); refine box_event ?hg (N := 2) ?hd (cs := #[.bool false, .slice none 0 0, .slice none 0 0]) (t := 54) ?hr ?_; (case hd => rfl); (case hg => rfl); (case hr => first | (go_simp; done) | (go_simp; rfl)); intro gb634 hg w6 hbox hb; have n0_ := Aside0.mk (blk_below (g := gb633) (o := .cells #[.bool a0_0, .slice A0_1 l0_1.length c0_1, .slice A0_2 l0_2.length c0_2] 50 (0, 0)) (by (with_reducible repeat (first | apply kn_ | apply kd_ | apply ka_)); exact BK633.out) hb); have n1_ := bq_ hb; have n2_ := Aside0.mk (hbox); have n4_ := bz_ hg; have n5_ := Aside0.mk ((by rw [hg]; exact Nat.ne_of_lt (blk_lt (g := gb633) (o := .cells #[.bool a0_0, .slice A0_1 l0_1.length c0_1, .slice A0_2 l0_2.length c0_2] 50 (0, 0)) (by (with_reducible repeat (first | apply kn_ | apply kd_ | apply ka_)); exact BK633.out)) : gb633 ≠ gb634)); have n6_ := Aside0.mk ((by rw [hg]; exact Nat.ne_of_gt (blk_lt (g := gb633) (o := .cells #[.bool a0_0, .slice A0_1 l0_1.length c0_1, .slice A0_2 l0_2.length c0_2] 50 (0, 0)) (by (with_reducible repeat (first | apply kn_ | apply kd_ | apply ka_)); exact BK633.out)) : gb634 ≠ gb633)); clear BK633 HB; have BK633 := n0_; have HB := n1_; have BK634 := n2_; have GE634 := n4_; have NB633_634 := n5_; have NB634_633 := n6_; clear n0_ n1_ n2_ n4_ n5_ n6_; clear hb hbox hg))
 have n0_ := Aside0.mk (blk_drew BK633.out)
 have n1_ := Aside0.mk (blk_drew BK634.out)
 have n2_ := Aside0.mk (below_drew1 HB.out)
 clear BK633
 clear BK634
 clear HB
 have BK633 := n0_
 have BK634 := n1_
 have HB := n2_
 clear n0_ n1_ n2_
 refine start_ (n := 10) (S := fun w' => w'.cell? ⟨gb633, 0, none⟩ = some (.bool a0_0) ∧ w'.cell? ⟨gb633, 1, none⟩ = some (.slice A0_1 l0_1.length c0_1) ∧ w'.cell? ⟨gb633, 2, none⟩ = some (.slice A0_2 l0_2.length c0_2)) (ds := []) #[false, false, false, false, false, false, false, false, false, false] (by kernel_rfl) rfl rfl ⟨(blk_cell BK633.out 0).trans rfl, (blk_cell BK633.out 1).trans rfl, (blk_cell BK633.out 2).trans rfl⟩ (fun hHeld => ?_); refine with_tabW flyballlaw05_of.tab1 flyballlaw05_of.bits1 (fun HT_ HW_ => ?_)
 generalize w6.drew = w7 at BK633 BK634 HB hHeld ⊢
 refine pure_ (i := 0) (N := some 3) (v := ?_) (a' := ?_) #[true, false, false, false, false, false, false, false, false, false] rfl rfl (any_of HT_.out (by kernel_rfl)) (fun _ _ _ h => h) (Or.inl ⟨by rfl, ?_⟩) ?_ ?_
 rotate_left
 ·
  intro w'
  go_simp
  with_reducible rfl
 rotate_left
 ·
  simp only [Act.put, List.setIfInBounds_toArray, List.set_cons_zero, List.set_cons_succ, i64_w, i32_w]
  rfl
 refine pure_ (i := 2) (N := some 5) (v := ?_) (a' := ?_) #[true, false, true, false, false, false, false, false, false, false] rfl rfl (any_of HT_.out (by kernel_rfl)) (fun _ _ _ h => h) (Or.inl ⟨by rfl, ?_⟩) ?_ ?_
 rotate_left
 ·
  intro w'
  go_simp
  with_reducible rfl
 rotate_left
 ·
  simp only [Act.put, List.setIfInBounds_toArray, List.set_cons_zero, List.set_cons_succ, i64_w, i32_w]
  rfl
 refine pure_ (i := 5) (N := some 8) (v := ?_) (a' := ?_) #[true, false, true, false, false, true, false, false, false, false] rfl rfl (any_of HT_.out (by kernel_rfl)) (fun _ _ _ h => h) (Or.inl ⟨by rfl, ?_⟩) ?_ ?_
 rotate_left
 ·
  intro w'
  go_simp
  with_reducible rfl
 rotate_left
 ·
  simp only [Act.put, List.setIfInBounds_toArray, List.set_cons_zero, List.set_cons_succ, i64_w, i32_w]
  rfl
 refine take_ (i := 1) (N := some 4) (v := ?_) (a' := ?_) #[true, true, true, false, false, true, false, false, false, false] rfl rfl (take_ofW HT_.out HW_.out (by kernel_rfl)) (fun _ _ _ h => h) (Or.inl ⟨by rfl, ?_⟩) hHeld ?_ ?_
 rotate_left
 ·
  rintro w' ⟨s0, s1, s2⟩
  go_simp
  with_reducible rfl
 rotate_left
 ·
  simp only [Act.put, List.setIfInBounds_toArray, List.set_cons_zero, List.set_cons_succ, i64_w, i32_w]
  rfl
 refine take_ (i := 3) (N := some 6) (v := ?_) (a' := ?_) #[true, true, true, true, false, true, false, false, false, false] rfl rfl (take_ofW HT_.out HW_.out (by kernel_rfl)) (fun _ _ _ h => h) (Or.inl ⟨by rfl, ?_⟩) hHeld ?_ ?_
 rotate_left
 ·
  rintro w' ⟨s0, s1, s2⟩
  go_simp
  with_reducible rfl
 rotate_left
 ·
  simp only [Act.put, List.setIfInBounds_toArray, List.set_cons_zero, List.set_cons_succ, i64_w, i32_w]
  rfl
 refine take_ (i := 6) (N := some 9) (v := ?_) (a' := ?_) #[true, true, true, true, false, true, true, false, false, false] rfl rfl (take_ofW HT_.out HW_.out (by kernel_rfl)) (fun _ _ _ h => h) (Or.inl ⟨by rfl, ?_⟩) hHeld ?_ ?_
 rotate_left
 ·
  rintro w' ⟨s0, s1, s2⟩
  go_simp
  with_reducible rfl
 rotate_left
 ·
  simp only [Act.put, List.setIfInBounds_toArray, List.set_cons_zero, List.set_cons_succ, i64_w, i32_w]
  rfl
 refine one_ (i := 4) (N := some 7) #[true, true, true, true, true, true, true, false, false, false] rfl rfl (one_of HT_.out (by kernel_rfl)) (by decide) (fun K hK => ?_)
 refine goesN_ Try.func65 (by kernel_rfl) rfl [.slice A0_1 l0_1.length c0_1] (by rfl) rfl rfl (by rfl) ?_
 with_reducible refine (flyballref02_Bits.calls k _ _ l0_1 t635 _ ?side1 ?side2 A2.out).mono ?_
 (case side1 => exact ch_ HR0_1.out)
 (case side2 => exact HC0_1.out)
 rintro e w8 ⟨v636, rfl, ho0, hb⟩
 refine ⟨_, rfl, ?_⟩
 have n0_ := Aside0.mk (Kd.R_lower ho0 (below_size bh_))
 have n1_ := Aside0.mk (blk_below (g := gb633) (o := .cells #[.bool a0_0, .slice A0_1 l0_1.length c0_1, .slice A0_2 l0_2.length c0_2] 50 (0, 0)) (by (with_reducible repeat (first | apply kn_ | apply kd_ | apply ka_)); exact BK633.out) hb)
 have n2_ := Aside0.mk (blk_below (g := gb634) (o := .cells #[.bool false, .slice none 0 0, .slice none 0 0] 54 (0, 0)) (by (with_reducible repeat (first | apply kn_ | apply kd_ | apply ka_)); exact BK634.out) hb)
 have n3_ := bq_ hb
 clear BK633
 clear BK634
 clear HB
 have HO637 := n0_
 have BK633 := n1_
 have BK634 := n2_
 have HB := n3_
 clear n0_ n1_ n2_ n3_
 (try clear hb)
 (try clear hb2)
 (try clear hk)
 (try clear hi)
 (try clear ho0)
 refine hK.out _ _ ⟨(blk_cell BK633.out 0).trans rfl, (blk_cell BK633.out 1).trans rfl, (blk_cell BK633.out 2).trans rfl⟩ (fun hHeld => ?_)
 clear hK K
 refine norm_ (a' := ?_) ?_ ?_
 rotate_left
 ·
  show Act.put _ (some 7) _ = _
  simp only [Act.put, List.setIfInBounds_toArray, List.set_cons_zero, List.set_cons_succ, i64_w, i32_w]
  rfl
 refine one_ (i := 7) (N := some 10) #[true, true, true, true, true, true, true, true, false, false] rfl rfl (one_of HT_.out (by kernel_rfl)) (by decide) (fun K hK => ?_)
 refine goesN_ Try.func65 (by kernel_rfl) rfl [.slice A0_2 l0_2.length c0_2] (by rfl) rfl rfl (by rfl) ?_
 with_reducible refine (flyballref02_Bits.calls k _ _ l0_2 t638 _ ?side1 ?side2 A3.out).mono ?_
 (case side1 => exact ch_ HR0_2.out)
 (case side2 => exact HC0_2.out)
 rintro e w9 ⟨v639, rfl, ho0, hb⟩
 refine ⟨_, rfl, ?_⟩
 have n0_ := Aside0.mk (Kd.R_elder' (by (with_reducible repeat (first | apply ra_ | apply rn_ | apply rd_)); exact HO637.out) (Kd.R_base ho0) hb)
 have n1_ := Aside0.mk (Kd.R_lower (Kd.R_new' ho0 (Kd.R_lt (by (with_reducible repeat (first | apply ra_ | apply rn_ | apply rd_)); exact HO637.out))) (below_size bh_))
 have n2_ := Aside0.mk (blk_below (g := gb633) (o := .cells #[.bool a0_0, .slice A0_1 l0_1.length c0_1, .slice A0_2 l0_2.length c0_2] 50 (0, 0)) (by (with_reducible repeat (first | apply kn_ | apply kd_ | apply ka_)); exact BK633.out) hb)
 have n3_ := Aside0.mk (blk_below (g := gb634) (o := .cells #[.bool false, .slice none 0 0, .slice none 0 0] 54 (0, 0)) (by (with_reducible repeat (first | apply kn_ | apply kd_ | apply ka_)); exact BK634.out) hb)
 have n4_ := bq_ hb
 clear HO637
 clear BK633
 clear BK634
 clear HB
 have HO637 := n0_
 have HO640 := n1_
 have BK633 := n2_
 have BK634 := n3_
 have HB := n4_
 clear n0_ n1_ n2_ n3_ n4_
 (try clear hb)
 (try clear hb2)
 (try clear hk)
 (try clear hi)
 (try clear ho0)
 obtain ⟨Ao10, co10, eo10⟩ := Kd.R_slice HO637.out
 (first | subst eo10 | (injection eo10 with f1_ f2_ f3_; have f4_ := f1_.symm; have f5_ := f3_.symm; clear f1_ f2_ f3_; subst f4_; subst f5_))
 obtain ⟨Ao11, co11, eo11⟩ := Kd.R_slice HO640.out
 (first | subst eo11 | (injection eo11 with f1_ f2_ f3_; have f4_ := f1_.symm; have f5_ := f3_.symm; clear f1_ f2_ f3_; subst f4_; subst f5_))
 refine hK.out _ _ ⟨(blk_cell BK633.out 0).trans rfl, (blk_cell BK633.out 1).trans rfl, (blk_cell BK633.out 2).trans rfl⟩ (fun hHeld => ?_)
 clear hK K
 refine norm_ (a' := ?_) ?_ ?_
 rotate_left
 ·
  show Act.put _ (some 10) _ = _
  simp only [Act.put, List.setIfInBounds_toArray, List.set_cons_zero, List.set_cons_succ, i64_w, i32_w]
  rfl
 refine one_ (i := 8) (N := some 11) #[true, true, true, true, true, true, true, true, true, false] rfl rfl (one_of HT_.out (by kernel_rfl)) (by decide) (fun K hK => ?_)
 refine goesN_ Try.func64 (by kernel_rfl) rfl [.bool a0_0, .slice Ao10 t635.length co10, .slice Ao11 t638.length co11] (by rfl) rfl rfl (by rfl) ?_
 with_reducible refine (flyballref03_Low.calls k a0_0 (fun k_ => some k_ = (.slice Ao10 t635.length co10 : Value).ownBlock) (.slice Ao10 t635.length co10) t635 (fun k_ => some k_ = (.slice Ao11 t638.length co11 : Value).ownBlock) (.slice Ao11 t638.length co11) t638 t641 t642 t645 w _ ?side1 ?side2 ?side3 ?side4 ?side5 A4.out).mono ?_
 (case side1 => repeat (first | (with_reducible first | exact HB.out | apply below_alloc | apply pw_below_drewN | apply below_drew1 | refine below_set ?_ GE633.out | refine below_set ?_ GE634.out) | exact HB.out))
 (case side2 => exact Kd.R_tight rfl HO637.out)
 (case side3 => exact fun k_ e_ => (HO637.out.1 k_ e_.symm).2)
 (case side4 => exact Kd.R_tight rfl HO640.out)
 (case side5 => exact fun k_ e_ => (HO640.out.1 k_ e_.symm).2)
 rintro e w12 ⟨v643, v646, rfl, ho0, ho1, hb, hkp⟩
 refine ⟨_, rfl, ?_⟩
 have n0_ := Aside0.mk (blk_kept (by (with_reducible repeat (first | apply kn_ | apply kd_ | apply ka_)); exact BK633.out) hkp (fun hs_ => Or.elim hs_ (fun e_ => (fun e_ => (Kd.R_ne HO637.out BK633.out (by decide)) e_) e_) (fun e_ => (fun e_ => (Kd.R_ne HO640.out BK633.out (by decide)) e_) e_)))
 have n1_ := Aside0.mk (blk_kept (by (with_reducible repeat (first | apply kn_ | apply kd_ | apply ka_)); exact BK634.out) hkp (fun hs_ => Or.elim hs_ (fun e_ => (fun e_ => (Kd.R_ne HO637.out BK634.out (by decide)) e_) e_) (fun e_ => (fun e_ => (Kd.R_ne HO640.out BK634.out (by decide)) e_) e_)))
 have n2_ := Aside0.mk (Kd.R_mono (ok' := fun k_ => some k_ ≠ (v646 : Value).ownBlock) ho0 (fun k_ hk_ => hk_.2))
 have n3_ := Aside0.mk (Kd.R_mono (ok' := fun k_ => some k_ ≠ (v643 : Value).ownBlock) ho1 (fun k_ hk_ => hk_.2))
 have n4_ := Aside0.mk (hb)
 clear BK633
 clear BK634
 clear HB
 clear HO637
 clear HO640
 have BK633 := n0_
 have BK634 := n1_
 have HO644 := n2_
 have HO647 := n3_
 have HB := n4_
 clear n0_ n1_ n2_ n3_ n4_
 (try clear hb)
 (try clear hkp)
 (try clear ho0)
 (try clear ho1)
 obtain ⟨Ao14, co14, eo14⟩ := Kd.R_slice HO644.out
 (first | subst eo14 | (injection eo14 with f1_ f2_ f3_; have f4_ := f1_.symm; have f5_ := f3_.symm; clear f1_ f2_ f3_; subst f4_; subst f5_))
 obtain ⟨Ao16, co16, eo16⟩ := Kd.R_slice HO647.out
 (first | subst eo16 | (injection eo16 with f1_ f2_ f3_; have f4_ := f1_.symm; have f5_ := f3_.symm; clear f1_ f2_ f3_; subst f4_; subst f5_))
 refine hK.out _ _ ⟨(blk_cell BK633.out 0).trans rfl, (blk_cell BK633.out 1).trans rfl, (blk_cell BK633.out 2).trans rfl⟩ (fun hHeld => ?_)
 clear hK K
 refine norm_ (a' := ?_) ?_ ?_
 rotate_left
 ·
  show Act.put _ (some 11) _ = _
  simp only [Act.put, List.setIfInBounds_toArray, List.set_cons_zero, List.set_cons_succ, i64_w, i32_w]
  rfl
 refine one_ (i := 9) (N := none) #[true, true, true, true, true, true, true, true, true, true] rfl rfl (one_of HT_.out (by kernel_rfl)) (by decide) (fun K hK => ?_)
 have hs13 : w12.cell? ⟨gb634, 0, none⟩ = some (.bool false) := (blk_cell BK634.out 0).trans rfl
 have hfs13 := blk_frozen BK634.out 0
 have hns13_0 := NB633_634.out
 have hms13_0 := NB634_633.out
 have hs15 : w12.cell? ⟨gb634, 1, none⟩ = some (.slice none 0 0) := (blk_cell BK634.out 1).trans rfl
 have hfs15 := blk_frozen BK634.out 1
 have hns15_0 := NB633_634.out
 have hms15_0 := NB634_633.out
 have hs17 : w12.cell? ⟨gb634, 2, none⟩ = some (.slice none 0 0) := (blk_cell BK634.out 2).trans rfl
 have hfs17 := blk_frozen BK634.out 2
 have hns17_0 := NB633_634.out
 have hms17_0 := NB634_633.out
 refine skip_ (w1 := ?_) (by rfl) rfl ?_ ?_
 rotate_left
 ·
  go_simp
  rfl
 refine hK.out _ _ ⟨((cell_far (p := ⟨gb634, _, none⟩) NB633_634.out _).trans (((cell_far (p := ⟨gb634, _, none⟩) NB633_634.out _).trans (((cell_far (p := ⟨gb634, _, none⟩) NB633_634.out _).trans (hHeld.1)))))), ((cell_far (p := ⟨gb634, _, none⟩) NB633_634.out _).trans (((cell_far (p := ⟨gb634, _, none⟩) NB633_634.out _).trans (((cell_far (p := ⟨gb634, _, none⟩) NB633_634.out _).trans (hHeld.2.1)))))), ((cell_far (p := ⟨gb634, _, none⟩) NB633_634.out _).trans (((cell_far (p := ⟨gb634, _, none⟩) NB633_634.out _).trans (((cell_far (p := ⟨gb634, _, none⟩) NB633_634.out _).trans (hHeld.2.2))))))⟩ (fun hHeld => ?_)
 clear hK K
 refine done_ (done_of HT_.out (by kernel_rfl)) ?_
 try go_wp2
 refine bodyPost_ret (results_cell_row rfl _ _ gb634 54 #[.bool t641, .slice Ao14 t642.length co14, .slice Ao16 t645.length co16] (0, 0) _ rfl (by (with_reducible repeat (first | apply kn_ | apply kd_ | apply ka_)); refine blk_put (cs := #[.bool t641, .slice Ao14 t642.length co14, .slice none 0 0]) ?_ 2 _ rfl; (with_reducible repeat (first | apply kn_ | apply kd_ | apply ka_)); refine blk_put (cs := #[.bool t641, .slice none 0 0, .slice none 0 0]) ?_ 1 _ rfl; (with_reducible repeat (first | apply kn_ | apply kd_ | apply ka_)); refine blk_put (cs := #[.bool false, .slice none 0 0, .slice none 0 0]) ?_ 0 _ rfl; (with_reducible repeat (first | apply kn_ | apply kd_ | apply ka_)); exact BK634.out) Try.underlying54 rfl (by kernel_rfl)) rfl ?_
 exact ⟨_, _, eh_, by (with_reducible repeat (first | apply ra_ | apply rn_ | apply rd_)); exact Kd.R_mono (Kd.R_far (p := ⟨gb634, 2, none⟩) (Kd.R_far (p := ⟨gb634, 1, none⟩) (Kd.R_far (p := ⟨gb634, 0, none⟩) (Kd.R_types HO644.out BK634.out (by decide)) (fun _ hk => hk.2) (.bool t641)) (fun _ hk => hk.2) (.slice Ao14 t642.length co14)) (fun _ hk => hk.2) (.slice Ao16 t645.length co16)) (fun _ hk => hk.1), by (with_reducible repeat (first | apply ra_ | apply rn_ | apply rd_)); exact Kd.R_mono (Kd.R_far (p := ⟨gb634, 2, none⟩) (Kd.R_far (p := ⟨gb634, 1, none⟩) (Kd.R_far (p := ⟨gb634, 0, none⟩) (Kd.R_types HO647.out BK634.out (by decide)) (fun _ hk => hk.2) (.bool t641)) (fun _ hk => hk.2) (.slice Ao14 t642.length co14)) (fun _ hk => hk.2) (.slice Ao16 t645.length co16)) (fun _ hk => hk.1), bh_⟩

end Go.Proofs.Ytfglpaaeipblcaa.P
