/- Walks of one package: what each function returns, wherever the Lean function beside it has an answer. -/
import Derived.Test.YtfglpaaeipblcaaP0
import Derived.Test.YtfglpaaeipblcaaPFlyballref011
namespace Go.Proofs.Ytfglpaaeipblcaa.P
open Go.RowKit Go.Proofs.YtfglpaaeipblcaaW.PrintWords Go.Proofs.YtfglpaaeipblcaaW.PrintLast Go.Proofs.YtfglpaaeipblcaaW.PrintMore
attribute [local go_sem] max2_int min2_int max_two min_two max_three min_three max_four min_four   -- for this text's walks alone
set_option linter.unusedVariables false
set_option linter.unusedSimpArgs false

/-! ### flyballref03_Sign: function 63 -/
def flyballref03_Sign.f (k : Nat) (a0_0 : Bool) (l0_1 : List Bool) (l0_2 : List Bool) : Option (Int) := (flyballref01_Len.f k l0_1).bind fun t546 => (if t546 = 0 then (some 0) else (if a0_0 = true then (some (-1)) else (some 1)))
theorem flyballref03_Sign.mono : ∀ a0 a1 a2 k, LeO (flyballref03_Sign.f k a0 a1 a2) (flyballref03_Sign.f (k + 1) a0 a1 a2) := by
 intro a0 a1 a2 k
 unfold flyballref03_Sign.f
 repeat' with_reducible first | exact flyballref01_Len.mono _ _ | exact LeO.refl _ | exact LeO.none _ | refine LeO.ite ?_ ?_ | refine LeO.bind ?_ (fun _ => ?_)
set_option maxHeartbeats 8000000 in
set_option maxRecDepth 100000 in
theorem flyballref03_Sign.calls (k : Nat) (a0_0 : Bool) (A0_1 : Option Addr) (c0_1 : Nat) (l0_1 : List Bool) (A0_2 : Option Addr) (c0_2 : Nat) (l0_2 : List Bool) (r : Int) (w : World) (hr0_1 : Kd.C Kd.bool w A0_1 l0_1.length l0_1) (hc0_1 : l0_1.length ≤ c0_1) (hr0_2 : Kd.C Kd.bool w A0_2 l0_2.length l0_2) (hc0_2 : l0_2.length ≤ c0_2) (h : flyballref03_Sign.f k a0_0 l0_1 l0_2 = some r) :
  Calls Try.prog 63 #[.agg #[.bool a0_0, .slice A0_1 l0_1.length c0_1, .slice A0_2 l0_2.length c0_2]] w fun e w' => e = .returned (.int .i64 r) ∧ Below w.heap.size w w' := by
 have hu54 := Try.underlying54
 have HR0_1 := Aside0.mk hr0_1
 have HC0_1 := Aside0.mk hc0_1
 clear hr0_1 hc0_1
 have HR0_2 := Aside0.mk hr0_2
 have HC0_2 := Aside0.mk hc0_2
 clear hr0_2 hc0_2
 have HB := Aside0.mk (Below.refl w.heap.size w)
 have H : ((flyballref01_Len.f k l0_1).bind fun t546 => (if t546 = 0 then (some 0) else (if a0_0 = true then (some (-1)) else (some 1)))) = some r := h
 clear h
 replace H := Option.bind_eq_some_iff.mp H
 obtain ⟨t546, A20, H⟩ := H
 replace H : (if t546 = 0 then (some 0) else (if a0_0 = true then (some (-1)) else (some 1))) = some r := H
 have A2 := Aside0.mk A20
 clear A20
 by_cases c3 : t546 = 0
 case pos =>
  rw [if_pos c3] at H
  have c3b0 : (t546 == 0) = true := beq_iff_eq.mpr c3
  have c3b1 : (t546 != 0) = false := bne_eq_false_iff_eq.mpr c3
  clear c3
  obtain rfl := Option.some.inj H
  go_enter Try.func63, Try.ntmps63
  go_wp2_with (first | ((with_reducible refine gate_dst (N := 1) rfl ?_); refine box_event ?hg (N := 1) ?hd (cs := #[.bool a0_0, .slice A0_1 l0_1.length c0_1, .slice A0_2 l0_2.length c0_2]) (t := 54) ?hr ?_; (case hd => rfl); (case hg => rfl); (case hr => first | (go_simp; done) | (go_simp; rfl)); intro gb545 hg w4 hbox hb; have n0_ := bq_ hb; have n1_ := Aside0.mk (hbox); have n3_ := bz_ hg; clear HB; have HB := n0_; have BK545 := n1_; have GE545 := n3_; clear n0_ n1_ n3_; clear hb hbox hg; have hcz5_0 : w4.cell? ⟨gb545, 0, none⟩ = some (.bool a0_0) := (blk_cell BK545.out 0).trans rfl; have hcz5_1 : w4.cell? ⟨gb545, 1, none⟩ = some (.slice A0_1 l0_1.length c0_1) := (blk_cell BK545.out 1).trans rfl; have hcz5_2 : w4.cell? ⟨gb545, 2, none⟩ = some (.slice A0_2 l0_2.length c0_2) := (blk_cell BK545.out 2).trans rfl; have hfz5_0 := blk_frozen BK545.out 0; have hfz5_1 := blk_frozen BK545.out 1; have hfz5_2 := blk_frozen BK545.out 2) | ((with_reducible refine gc_ 60 rfl ?_); refine gM_ (some 5) Try.func60 [.slice A0_1 l0_1.length c0_1] ?_; (with_reducible refine (flyballref01_Len.calls k _ _ l0_1 t546 _ ?side1 ?side2 A2.out).mono ?_); (case side1 => exact ch_ HR0_1.out); (case side2 => exact HC0_1.out); rintro e w' ⟨rfl, ⟨nd, rfl⟩⟩; refine ⟨_, rfl, ?_⟩))
  go_ret
  exact ⟨eh_, bh_⟩
 rw [if_neg c3] at H
 have c3b0 : (t546 == 0) = false := beq_eq_false_iff_ne.mpr c3
 have c3b1 : (t546 != 0) = true := bne_iff_ne.mpr c3
 by_cases c6 : a0_0 = true
 case pos =>
  subst c6
  have H1 : (some (-1)) = some r := by rw [if_pos rfl] at H; exact H
  clear H
  have H := H1
  clear H1
  obtain rfl := Option.some.inj H
  go_enter Try.func63, Try.ntmps63
  go_wp2_with (first | ((with_reducible refine gate_dst (N := 1) rfl ?_); refine box_event ?hg (N := 1) ?hd (cs := #[.bool true, .slice A0_1 l0_1.length c0_1, .slice A0_2 l0_2.length c0_2]) (t := 54) ?hr ?_; (case hd => rfl); (case hg => rfl); (case hr => first | (go_simp; done) | (go_simp; rfl)); intro gb545 hg w7 hbox hb; have n0_ := bq_ hb; have n1_ := Aside0.mk (hbox); have n3_ := bz_ hg; clear HB; have HB := n0_; have BK545 := n1_; have GE545 := n3_; clear n0_ n1_ n3_; clear hb hbox hg; have hcz8_0 : w7.cell? ⟨gb545, 0, none⟩ = some (.bool true) := (blk_cell BK545.out 0).trans rfl; have hcz8_1 : w7.cell? ⟨gb545, 1, none⟩ = some (.slice A0_1 l0_1.length c0_1) := (blk_cell BK545.out 1).trans rfl; have hcz8_2 : w7.cell? ⟨gb545, 2, none⟩ = some (.slice A0_2 l0_2.length c0_2) := (blk_cell BK545.out 2).trans rfl; have hfz8_0 := blk_frozen BK545.out 0; have hfz8_1 := blk_frozen BK545.out 1; have hfz8_2 := blk_frozen BK545.out 2) | ((with_reducible refine gc_ 60 rfl ?_); refine gM_ (some 5) Try.func60 [.slice A0_1 l0_1.length c0_1] ?_; (with_reducible refine (flyballref01_Len.calls k _ _ l0_1 t546 _ ?side1 ?side2 A2.out).mono ?_); (case side1 => exact ch_ HR0_1.out); (case side2 => exact HC0_1.out); rintro e w' ⟨rfl, ⟨nd, rfl⟩⟩; refine ⟨_, rfl, ?_⟩))
  go_ret
  exact ⟨eh_, bh_⟩
 replace c6 := Bool.eq_false_iff.mpr c6
 subst c6
 have H1 : (some 1) = some r := by rw [if_neg (show ¬ (false = true) by decide)] at H; exact H
 clear H
 have H := H1
 clear H1
 obtain rfl := Option.some.inj H
 go_enter Try.func63, Try.ntmps63
 go_wp2_with (first | ((with_reducible refine gate_dst (N := 1) rfl ?_); refine box_event ?hg (N := 1) ?hd (cs := #[.bool false, .slice A0_1 l0_1.length c0_1, .slice A0_2 l0_2.length c0_2]) (t := 54) ?hr ?_; (case hd => rfl); (case hg => rfl); (case hr => first | (go_simp; done) | (go_simp; rfl)); intro gb545 hg w9 hbox hb; have n0_ := bq_ hb; have n1_ := Aside0.mk (hbox); have n3_ := bz_ hg; clear HB; have HB := n0_; have BK545 := n1_; have GE545 := n3_; clear n0_ n1_ n3_; clear hb hbox hg; have hcz10_0 : w9.cell? ⟨gb545, 0, none⟩ = some (.bool false) := (blk_cell BK545.out 0).trans rfl; have hcz10_1 : w9.cell? ⟨gb545, 1, none⟩ = some (.slice A0_1 l0_1.length c0_1) := (blk_cell BK545.out 1).trans rfl; have hcz10_2 : w9.cell? ⟨gb545, 2, none⟩ = some (.slice A0_2 l0_2.length c0_2) := (blk_cell BK545.out 2).trans rfl; have hfz10_0 := blk_frozen BK545.out 0; have hfz10_1 := blk_frozen BK545.out 1; have hfz10_2 := blk_frozen BK545.out 2) | ((with_reducible refine gc_ 60 rfl ?_); refine gM_ (some 5) Try.func60 [.slice A0_1 l0_1.length c0_1] ?_; (with_reducible refine (flyballref01_Len.calls k _ _ l0_1 t546 _ ?side1 ?side2 A2.out).mono ?_); (case side1 => exact ch_ HR0_1.out); (case side2 => exact HC0_1.out); rintro e w' ⟨rfl, ⟨nd, rfl⟩⟩; refine ⟨_, rfl, ?_⟩))
 go_ret
 exact ⟨eh_, bh_⟩

/-! ### flyballref03_trim: function 91 -/
def flyballref03_trim.f (k : Nat) (l0 : List Bool) : Option (List Bool) := (flyballref01_Len.f k l0).bind fun t551 => (if 0 ≤ t551 then (if t551 ≤ (l0.length : Int) then (some (l0.take (t551 : Int).toNat)) else (none)) else (none))
theorem flyballref03_trim.mono : ∀ a0 k, LeO (flyballref03_trim.f k a0) (flyballref03_trim.f (k + 1) a0) := by
 intro a0 k
 unfold flyballref03_trim.f
 repeat' with_reducible first | exact flyballref01_Len.mono _ _ | exact LeO.refl _ | exact LeO.none _ | refine LeO.ite ?_ ?_ | refine LeO.bind ?_ (fun _ => ?_)
set_option maxHeartbeats 8000000 in
set_option maxRecDepth 100000 in
theorem flyballref03_trim.calls (k : Nat) (P0_ : Nat → Prop) (u9000_ : Value) (l0 : List Bool) (r : List Bool) (w0 w : World) (hB : Below w0.heap.size w0 w) (ho0 : Kd.R Kd.bool 4 w w0.heap.size P0_ u9000_ l0) (h : flyballref03_trim.f k l0 = some r) :
  Calls Try.prog 91 #[u9000_] w fun e w' => ∃ v0_ : Value, e = .returned (v0_) ∧ Kd.R Kd.bool 4 w' w0.heap.size (fun k_ => (P0_ k_ ∨ w.heap.size ≤ k_)) v0_ r ∧ Below w0.heap.size w0 w' ∧ Kept w w' (fun k_ => P0_ k_) := by
 have HO0 := Aside0.mk (show Kd.R Kd.bool 4 w w0.heap.size (fun k_ => (P0_ k_ ∨ w.heap.size ≤ k_)) u9000_ l0 from Kd.R_mono ho0 (fun k_ hk => (.inl hk)))
 have HK := Aside0.mk (Kept.refl w (fun k_ => P0_ k_))
 have HW0 := Aside0.mk hB.size
 have HB := Aside0.mk hB
 clear hB
 have H : ((flyballref01_Len.f k l0).bind fun t551 => (if 0 ≤ t551 then (if t551 ≤ (l0.length : Int) then (some (l0.take (t551 : Int).toNat)) else (none)) else (none))) = some r := h
 clear h
 replace H := Option.bind_eq_some_iff.mp H
 obtain ⟨t551, A20, H⟩ := H
 replace H : (if 0 ≤ t551 then (if t551 ≤ (l0.length : Int) then (some (l0.take (t551 : Int).toNat)) else (none)) else (none)) = some r := H
 have A2 := Aside0.mk A20
 clear A20
 by_cases c3 : 0 ≤ t551
 case neg =>
  rw [if_neg c3] at H
  exact absurd H (by simp)
 rw [if_pos c3] at H
 have c3b0 := eq_true c3
 have c3b1 : decide (0 ≤ t551) = true := decide_eq_true c3
 clear c3
 by_cases c4 : t551 ≤ (l0.length : Int)
 case neg =>
  rw [if_neg c4] at H
  exact absurd H (by simp)
 rw [if_pos c4] at H
 have c4b0 := eq_true c4
 have c4b1 : decide (t551 ≤ (l0.length : Int)) = true := decide_eq_true c4
 clear c4
 obtain ⟨y552, hy552⟩ : ∃ y_ : List Bool, y_ = (l0.take (t551 : Int).toNat) := ⟨_, rfl⟩
 replace H : (some y552) = some r := by first | (rw [hy552]; with_reducible exact H) | (have H2_ := (Option.bind_some _ _).symm.trans H; rw [hy552]; with_reducible exact H2_) | (have H2_ := (Option.bind_some _ _).symm.trans H; with_reducible exact H2_) | with_reducible exact H | (rw [hy552]; exact H) | exact H
 have Ny552 := Aside0.mk hy552
 clear hy552
 obtain rfl := Option.some.inj H
 obtain ⟨Ao5, co5, eo5⟩ := Kd.R_slice HO0.out
 subst eo5
 go_enter Try.func91, Try.ntmps91
 go_wp2_with (first | ((with_reducible refine gc_ 60 rfl ?_); refine gM_ (some 5) Try.func60 [.slice Ao5 l0.length co5] ?_; (with_reducible refine (flyballref01_Len.calls k _ _ l0 t551 _ ?side1 ?side2 A2.out).mono ?_); (case side1 => repeat first | exact (Kd.R_reads' HO0.out).2.2 | with_reducible first | apply ca_ | apply cn_ | apply cd_); (case side2 => exact (Kd.R_reads' HO0.out).2.1); rintro e w' ⟨rfl, ⟨nd, rfl⟩⟩; refine ⟨_, rfl, ?_⟩; have q6 : (t551 : Int) ≤ ((l0.length : Int) : Int) := of_decide_eq_true (by first | (with_reducible assumption) | assumption); obtain ⟨i06, hi06, _, hsz6, _⟩ := info_parts info4; have hcut6 := cut_to (P := Try.prog) 43 4 .i64 Try.underlying43 hi06 Ao5 l0.length co5 t551 (of_decide_eq_true (by first | (with_reducible assumption) | assumption)) q6 (Kd.R_reads' HO0.out).2.1; have hr6 := Kd.R_take (m := (t551 : Int).toNat) HO0.out (by omega); have hy6 : y552.length = (t551 : Int).toNat := (by rw [Ny552.out, List.length_take]; omega); rw [← Ny552.out] at hr6; rw [← hy6] at hr6 hcut6; clear hy6 hi06 hsz6 HO0; have HO554 := Aside0.mk hr6; clear hr6; replace q6 := eq_true q6))
 go_ret
 exact ⟨_, eh_, by (with_reducible repeat (first | apply ra_ | apply rn_ | apply rd_)); exact HO554.out, bh_, by repeat (first | (with_reducible first | exact HK.out | apply Kept.alloc | apply Kept.drewN | apply Kept.drew) | exact HK.out)⟩

/-! ### flyballref03_one: function 92 -/
def flyballref03_one.f  : Option (List Bool) := some (([true] : List Bool))
set_option maxHeartbeats 8000000 in
set_option maxRecDepth 100000 in
theorem flyballref03_one.calls  (r : List Bool) (w : World) (h : flyballref03_one.f  = some r) :
  Calls Try.prog 92 #[] w fun e w' => ∃ v0_ : Value, e = .returned (v0_) ∧ Kd.R Kd.bool 4 w' w.heap.size (fun _ => True) v0_ r ∧ Below w.heap.size w w' := by
 have HB := Aside0.mk (Below.refl w.heap.size w)
 have H : (some (([true] : List Bool))) = some r := h
 clear h
 obtain ⟨y555, hy555⟩ : ∃ y_ : List Bool, y_ = (([true] : List Bool)) := ⟨_, rfl⟩
 replace H : (some y555) = some r := by first | (rw [hy555]; with_reducible exact H) | (have H2_ := (Option.bind_some _ _).symm.trans H; rw [hy555]; with_reducible exact H2_) | (have H2_ := (Option.bind_some _ _).symm.trans H; with_reducible exact H2_) | with_reducible exact H | (rw [hy555]; exact H) | exact H
 have Ny555 := Aside0.mk hy555
 clear hy555
 obtain rfl := Option.some.inj H
 go_enter Try.func92, Try.ntmps92
 go_wp2_with (first | ((with_reducible refine gate_dst (N := 1) rfl ?_); refine Kd.R_lit Kd.bool _ 4 ?hg (N := 1) ?hd (xs := ([true] : List Bool)) (inner := [.bool true]) (ok := fun _ => True) (okp := fun _ => True) ?hr ?hp (fun _ hk => hk) trivial (Below.refl _ _) (Nat.le_refl _) (by simp) ?_; (case hd => rfl); (case hg => rfl); (case hr => first | (go_simp; done) | (go_simp; rfl)); (case hp => exact (Reps.one (show Kd.M Kd.bool _ _ _ true [.bool true] from rfl) (Reps.none _ _))); intro v556 w1 ho2 hb hg_ hnew_; clear hg_ hnew_; (first | rw [← Ny555.out] at ho2 | (simp only [Int.reduceToNat] at ho2; rw [← Ny555.out] at ho2)); have HO557 := Aside0.mk (Kd.R_lower ho2 (below_size bh_)); replace HB := bq_ hb; clear hb ho2))
 go_ret
 exact ⟨_, eh_, by (with_reducible repeat (first | apply ra_ | apply rn_ | apply rd_)); exact HO557.out, bh_⟩

end Go.Proofs.Ytfglpaaeipblcaa.P
