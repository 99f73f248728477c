/- Walks of one package: what each function returns, wherever the Lean function beside it has an answer. -/
import Derived.Test.YtfglpaaeipblcaaP0
import Derived.Test.YtfglpaaeipblcaaPFlyballref041
import Derived.Test.YtfglpaaeipblcaaPFlyballref011
namespace Go.Proofs.Ytfglpaaeipblcaa.P
open Go.RowKit Go.Proofs.YtfglpaaeipblcaaW.PrintWords Go.Proofs.YtfglpaaeipblcaaW.PrintLast Go.Proofs.YtfglpaaeipblcaaW.PrintMore
attribute [local go_sem] max2_int min2_int max_two min_two max_three min_three max_four min_four   -- for this text's walks alone
set_option linter.unusedVariables false
set_option linter.unusedSimpArgs false

/-! ### flyballref05_split: function 109 -/
def flyballref05_split.f (k : Nat) (a0 : Int) : Option (List Bool × Int) := if (a0 / 4503599627370496) = 0 then ((flyballref01_Of.f k (([IntKind.u64.wrap (Go.bits .and .i64 a0 4503599627370495)] : List Int))).bind fun t465 => (some (t465, (-1074)))) else ((flyballref01_Of.f k (([IntKind.u64.wrap ((IntKind.u64.wrap (Go.bits .and .i64 a0 4503599627370495)) + 4503599627370496)] : List Int))).bind fun t471 => (some (t471, wrap64 ((a0 / 4503599627370496) - 1075))))
theorem flyballref05_split.mono : ∀ a0 k, LeO (flyballref05_split.f k a0) (flyballref05_split.f (k + 1) a0) := by
 intro a0 k
 unfold flyballref05_split.f
 repeat' with_reducible first | exact flyballref01_Of.mono _ _ | exact LeO.refl _ | exact LeO.none _ | refine LeO.ite ?_ ?_ | refine LeO.bind ?_ (fun _ => ?_)
set_option maxHeartbeats 8000000 in
set_option maxRecDepth 100000 in
theorem flyballref05_split.calls (k : Nat) (a0 : Int) (r1 : List Bool) (r2 : Int) (w : World) (h : flyballref05_split.f k a0 = some (r1, r2)) :
  Calls Try.prog 109 #[.int .i64 a0] w fun e w' => ∃ v0_ : Value, e = .returned (.tuple #[v0_, .int .i64 r2]) ∧ Kd.R Kd.bool 4 w' w.heap.size (fun _ => True) v0_ r1 ∧ Below w.heap.size w w' := by
 have HB := Aside0.mk (Below.refl w.heap.size w)
 have H : (if (a0 / 4503599627370496) = 0 then ((flyballref01_Of.f k (([IntKind.u64.wrap (Go.bits .and .i64 a0 4503599627370495)] : List Int))).bind fun t465 => (some (t465, (-1074)))) else ((flyballref01_Of.f k (([IntKind.u64.wrap ((IntKind.u64.wrap (Go.bits .and .i64 a0 4503599627370495)) + 4503599627370496)] : List Int))).bind fun t471 => (some (t471, wrap64 ((a0 / 4503599627370496) - 1075))))) = some (r1, r2) := h
 clear h
 by_cases c2 : (a0 / 4503599627370496) = 0
 case pos =>
  rw [if_pos c2] at H
  have c2b0 : ((a0 / 4503599627370496) == 0) = true := beq_iff_eq.mpr c2
  have c2b1 : ((a0 / 4503599627370496) != 0) = false := bne_eq_false_iff_eq.mpr c2
  clear c2
  obtain ⟨y462, hy462⟩ : ∃ y_ : List Int, y_ = (([IntKind.u64.wrap (Go.bits .and .i64 a0 4503599627370495)] : List Int)) := ⟨_, rfl⟩
  replace H : ((flyballref01_Of.f k y462).bind fun t465 => (some (t465, (-1074)))) = some (r1, r2) := by first | (rw [hy462]; with_reducible exact H) | (have H2_ := (Option.bind_some _ _).symm.trans H; rw [hy462]; with_reducible exact H2_) | (have H2_ := (Option.bind_some _ _).symm.trans H; with_reducible exact H2_) | with_reducible exact H | (rw [hy462]; exact H) | exact H
  have Ny462 := Aside0.mk hy462
  clear hy462
  replace H := Option.bind_eq_some_iff.mp H
  obtain ⟨t465, A30, H⟩ := H
  replace H : (some (t465, (-1074))) = some (r1, r2) := H
  have A3 := Aside0.mk A30
  clear A30
  simp only [Option.some.injEq, Prod.mk.injEq] at H
  obtain ⟨rfl, rfl⟩ := H
  go_enter Try.func109, Try.ntmps109
  go_wp2_with (first | ((with_reducible refine gate_dst (N := 14) rfl ?_); refine Kd.R_lit (Kd.int .u64) _ 24 ?hg (N := 14) ?hd (xs := ([IntKind.u64.wrap (Go.bits .and .i64 a0 4503599627370495)] : List Int)) (inner := [.int .u64 (IntKind.u64.wrap (Go.bits .and .i64 a0 4503599627370495))]) (ok := fun _ => True) (okp := fun _ => True) ?hr ?hp (fun _ hk => hk) trivial (Below.refl _ _) (Nat.le_refl _) (by simp) ?_; (case hd => rfl); (case hg => rfl); (case hr => first | (go_simp; done) | (go_simp; rfl)); (case hp => exact (Reps.one (show Kd.M (Kd.int .u64) _ _ _ (IntKind.u64.wrap (Go.bits .and .i64 a0 4503599627370495)) [.int .u64 (IntKind.u64.wrap (Go.bits .and .i64 a0 4503599627370495))] from rfl) (Reps.none _ _))); intro v463 w4 ho5 hb hg_ hnew_; clear hg_ hnew_; (first | rw [← Ny462.out] at ho5 | (simp only [Int.reduceToNat] at ho5; rw [← Ny462.out] at ho5)); have HO464 := Aside0.mk (Kd.R_lower ho5 (below_size bh_)); replace HB := bq_ hb; clear hb ho5; obtain ⟨Ao6, co6, eo6⟩ := Kd.R_slice HO464.out; subst eo6) | ((with_reducible refine gc_ 25 rfl ?_); refine gM_ (some 15) Try.func25 [.slice Ao6 y462.length co6] ?_; (with_reducible refine (flyballref01_Of.calls k _ _ y462 t465 _ ?side1 ?side2 A3.out).mono ?_); (case side1 => repeat first | exact (Kd.R_reads' HO464.out).2.2 | with_reducible first | apply ca_ | apply cn_ | apply cd_); (case side2 => exact (Kd.R_reads' HO464.out).2.1); rintro e w7 ⟨v466, rfl, ho0, hb⟩; refine ⟨_, rfl, ?_⟩; have HO467 := Aside0.mk (Kd.R_lower ho0 (below_size bh_)); replace HB := bq_ hb))
  go_ret2
  exact ⟨_, eh_, by (with_reducible repeat (first | apply ra_ | apply rn_ | apply rd_)); exact HO467.out, bh_⟩
 rw [if_neg c2] at H
 have c2b0 : ((a0 / 4503599627370496) == 0) = false := beq_eq_false_iff_ne.mpr c2
 have c2b1 : ((a0 / 4503599627370496) != 0) = true := bne_iff_ne.mpr c2
 obtain ⟨y468, hy468⟩ : ∃ y_ : List Int, y_ = (([IntKind.u64.wrap ((IntKind.u64.wrap (Go.bits .and .i64 a0 4503599627370495)) + 4503599627370496)] : List Int)) := ⟨_, rfl⟩
 replace H : ((flyballref01_Of.f k y468).bind fun t471 => (some (t471, wrap64 ((a0 / 4503599627370496) - 1075)))) = some (r1, r2) := by first | (rw [hy468]; with_reducible exact H) | (have H2_ := (Option.bind_some _ _).symm.trans H; rw [hy468]; with_reducible exact H2_) | (have H2_ := (Option.bind_some _ _).symm.trans H; with_reducible exact H2_) | with_reducible exact H | (rw [hy468]; exact H) | exact H
 have Ny468 := Aside0.mk hy468
 clear hy468
 replace H := Option.bind_eq_some_iff.mp H
 obtain ⟨t471, A80, H⟩ := H
 replace H : (some (t471, wrap64 ((a0 / 4503599627370496) - 1075))) = some (r1, r2) := H
 have A8 := Aside0.mk A80
 clear A80
 simp only [Option.some.injEq, Prod.mk.injEq] at H
 obtain ⟨rfl, rfl⟩ := H
 go_enter Try.func109, Try.ntmps109
 go_wp2_with (first | ((with_reducible refine gate_dst (N := 18) rfl ?_); refine Kd.R_lit (Kd.int .u64) _ 24 ?hg (N := 18) ?hd (xs := ([IntKind.u64.wrap ((IntKind.u64.wrap (Go.bits .and .i64 a0 4503599627370495)) + 4503599627370496)] : List Int)) (inner := [.int .u64 (IntKind.u64.wrap ((IntKind.u64.wrap (Go.bits .and .i64 a0 4503599627370495)) + 4503599627370496))]) (ok := fun _ => True) (okp := fun _ => True) ?hr ?hp (fun _ hk => hk) trivial (Below.refl _ _) (Nat.le_refl _) (by simp) ?_; (case hd => rfl); (case hg => rfl); (case hr => first | (go_simp; done) | (go_simp; rfl)); (case hp => exact (Reps.one (show Kd.M (Kd.int .u64) _ _ _ (IntKind.u64.wrap ((IntKind.u64.wrap (Go.bits .and .i64 a0 4503599627370495)) + 4503599627370496)) [.int .u64 (IntKind.u64.wrap ((IntKind.u64.wrap (Go.bits .and .i64 a0 4503599627370495)) + 4503599627370496))] from rfl) (Reps.none _ _))); intro v469 w9 ho10 hb hg_ hnew_; clear hg_ hnew_; (first | rw [← Ny468.out] at ho10 | (simp only [Int.reduceToNat] at ho10; rw [← Ny468.out] at ho10)); have HO470 := Aside0.mk (Kd.R_lower ho10 (below_size bh_)); replace HB := bq_ hb; clear hb ho10; obtain ⟨Ao11, co11, eo11⟩ := Kd.R_slice HO470.out; subst eo11) | ((with_reducible refine gc_ 25 rfl ?_); refine gM_ (some 19) Try.func25 [.slice Ao11 y468.length co11] ?_; (with_reducible refine (flyballref01_Of.calls k _ _ y468 t471 _ ?side1 ?side2 A8.out).mono ?_); (case side1 => repeat first | exact (Kd.R_reads' HO470.out).2.2 | with_reducible first | apply ca_ | apply cn_ | apply cd_); (case side2 => exact (Kd.R_reads' HO470.out).2.1); rintro e w12 ⟨v472, rfl, ho0, hb⟩; refine ⟨_, rfl, ?_⟩; have HO473 := Aside0.mk (Kd.R_lower ho0 (below_size bh_)); replace HB := bq_ hb))
 go_ret2
 exact ⟨_, eh_, by (with_reducible repeat (first | apply ra_ | apply rn_ | apply rd_)); exact HO473.out, bh_⟩

/-! ### flyballref05_cmp: function 110 -/
def flyballref05_cmp.f (k : Nat) (l0_0 : List Bool) (l0_1 : List Bool) (a0_2 : Int) (a0_3 : Bool) (l1 : List Bool) (a2 : Int) : Option (Int) := (flyballref01_Shl.f k l0_0 (wrap64 (a0_2 - (mn a0_2 a2)))).bind fun t484 => ((flyballref01_Mul.f k l1 l0_1).bind fun t487 => ((flyballref01_Shl.f k t487 (wrap64 (a2 - (mn a0_2 a2)))).bind fun t490 => ((flyballref01_Cmp.f k t484 t490).bind fun t493 => (if t493 = 0 then (if a0_3 = true then (some 1) else (some t493)) else (some t493)))))
theorem flyballref05_cmp.mono : ∀ a0 a1 a2 a3 a4 a5 k, LeO (flyballref05_cmp.f k a0 a1 a2 a3 a4 a5) (flyballref05_cmp.f (k + 1) a0 a1 a2 a3 a4 a5) := by
 intro a0 a1 a2 a3 a4 a5 k
 unfold flyballref05_cmp.f
 repeat' with_reducible first | exact flyballref01_Cmp.mono _ _ _ | exact flyballref01_Mul.mono _ _ _ | exact flyballref01_Shl.mono _ _ _ | exact LeO.refl _ | exact LeO.none _ | refine LeO.ite ?_ ?_ | refine LeO.bind ?_ (fun _ => ?_)
set_option maxHeartbeats 8000000 in
set_option maxRecDepth 100000 in
theorem flyballref05_cmp.calls (k : Nat) (A0_0 : Option Addr) (c0_0 : Nat) (l0_0 : List Bool) (A0_1 : Option Addr) (c0_1 : Nat) (l0_1 : List Bool) (a0_2 : Int) (a0_3 : Bool) (A1 : Option Addr) (c1 : Nat) (l1 : List Bool) (a2 : Int) (r : Int) (w : World) (hr0_0 : Kd.C Kd.bool w A0_0 l0_0.length l0_0) (hc0_0 : l0_0.length ≤ c0_0) (hr0_1 : Kd.C Kd.bool w A0_1 l0_1.length l0_1) (hc0_1 : l0_1.length ≤ c0_1) (hr1 : Kd.C Kd.bool w A1 l1.length l1) (hc1 : l1.length ≤ c1) (h : flyballref05_cmp.f k l0_0 l0_1 a0_2 a0_3 l1 a2 = some r) :
  Calls Try.prog 110 #[.agg #[.slice A0_0 l0_0.length c0_0, .slice A0_1 l0_1.length c0_1, .int .i64 a0_2, .bool a0_3], .slice A1 l1.length c1, .int .i64 a2] w fun e w' => e = .returned (.int .i64 r) ∧ Below w.heap.size w w' := by
 have hu100 := Try.underlying100
 have HR0_0 := Aside0.mk hr0_0
 have HC0_0 := Aside0.mk hc0_0
 clear hr0_0 hc0_0
 have HR0_1 := Aside0.mk hr0_1
 have HC0_1 := Aside0.mk hc0_1
 clear hr0_1 hc0_1
 have HR1 := Aside0.mk hr1
 have HC1 := Aside0.mk hc1
 clear hr1 hc1
 have HB := Aside0.mk (Below.refl w.heap.size w)
 have H : ((flyballref01_Shl.f k l0_0 (wrap64 (a0_2 - (mn a0_2 a2)))).bind fun t484 => ((flyballref01_Mul.f k l1 l0_1).bind fun t487 => ((flyballref01_Shl.f k t487 (wrap64 (a2 - (mn a0_2 a2)))).bind fun t490 => ((flyballref01_Cmp.f k t484 t490).bind fun t493 => (if t493 = 0 then (if a0_3 = true then (some 1) else (some t493)) else (some t493)))))) = some r := h
 clear h
 obtain ⟨ji4, hji4⟩ : ∃ j_ : Int, (mn a0_2 a2) = j_ := ⟨_, rfl⟩
 replace H : ((flyballref01_Shl.f k l0_0 (wrap64 (a0_2 - (ji4)))).bind fun t484 => ((flyballref01_Mul.f k l1 l0_1).bind fun t487 => ((flyballref01_Shl.f k t487 (wrap64 (a2 - (ji4)))).bind fun t490 => ((flyballref01_Cmp.f k t484 t490).bind fun t493 => (if t493 = 0 then (if a0_3 = true then (some 1) else (some t493)) else (some t493)))))) = some r := by first | (rw [hji4] at H; exact H) | (simp only [hji4] at H ⊢; exact H)
 have hji4_ : (if a2 < a0_2 then a2 else a0_2) = ji4 := hji4
 replace H := Option.bind_eq_some_iff.mp H
 obtain ⟨t484, A50, H⟩ := H
 replace H : ((flyballref01_Mul.f k l1 l0_1).bind fun t487 => ((flyballref01_Shl.f k t487 (wrap64 (a2 - (ji4)))).bind fun t490 => ((flyballref01_Cmp.f k t484 t490).bind fun t493 => (if t493 = 0 then (if a0_3 = true then (some 1) else (some t493)) else (some t493))))) = some r := H
 have A5 := Aside0.mk A50
 clear A50
 replace H := Option.bind_eq_some_iff.mp H
 obtain ⟨t487, A60, H⟩ := H
 replace H : ((flyballref01_Shl.f k t487 (wrap64 (a2 - (ji4)))).bind fun t490 => ((flyballref01_Cmp.f k t484 t490).bind fun t493 => (if t493 = 0 then (if a0_3 = true then (some 1) else (some t493)) else (some t493)))) = some r := H
 have A6 := Aside0.mk A60
 clear A60
 replace H := Option.bind_eq_some_iff.mp H
 obtain ⟨t490, A70, H⟩ := H
 replace H : ((flyballref01_Cmp.f k t484 t490).bind fun t493 => (if t493 = 0 then (if a0_3 = true then (some 1) else (some t493)) else (some t493))) = some r := H
 have A7 := Aside0.mk A70
 clear A70
 replace H := Option.bind_eq_some_iff.mp H
 obtain ⟨t493, A80, H⟩ := H
 replace H : (if t493 = 0 then (if a0_3 = true then (some 1) else (some t493)) else (some t493)) = some r := H
 have A8 := Aside0.mk A80
 clear A80
 by_cases c9 : t493 = 0
 case neg =>
  rw [if_neg c9] at H
  have c9b0 : (t493 == 0) = false := beq_eq_false_iff_ne.mpr c9
  have c9b1 : (t493 != 0) = true := bne_iff_ne.mpr c9
  obtain rfl := Option.some.inj H
  go_enter Try.func110, Try.ntmps110
  go_wp2_with (first | ((with_reducible refine gate_dst (N := 3) rfl ?_); refine box_event ?hg (N := 3) ?hd (cs := #[.slice A0_0 l0_0.length c0_0, .slice A0_1 l0_1.length c0_1, .int .i64 a0_2, .bool a0_3]) (t := 100) ?hr ?_; (case hd => rfl); (case hg => rfl); (case hr => first | (go_simp; done) | (go_simp; rfl)); intro gb483 hg w31 hbox hb; have n0_ := bq_ hb; have n1_ := Aside0.mk (hbox); have n3_ := bz_ hg; clear HB; have HB := n0_; have BK483 := n1_; have GE483 := n3_; clear n0_ n1_ n3_; clear hb hbox hg; have hcz32_0 : w31.cell? ⟨gb483, 0, none⟩ = some (.slice A0_0 l0_0.length c0_0) := (blk_cell BK483.out 0).trans rfl; have hcz32_1 : w31.cell? ⟨gb483, 1, none⟩ = some (.slice A0_1 l0_1.length c0_1) := (blk_cell BK483.out 1).trans rfl; have hcz32_2 : w31.cell? ⟨gb483, 2, none⟩ = some (.int .i64 a0_2) := (blk_cell BK483.out 2).trans rfl; have hcz32_3 : w31.cell? ⟨gb483, 3, none⟩ = some (.bool a0_3) := (blk_cell BK483.out 3).trans rfl; have hfz32_0 := blk_frozen BK483.out 0; have hfz32_1 := blk_frozen BK483.out 1; have hfz32_2 := blk_frozen BK483.out 2; have hfz32_3 := blk_frozen BK483.out 3) | ((with_reducible refine gc_ 47 rfl ?_); refine goesL_ (some 21) rfl rfl Try.func47 (by kernel_rfl) rfl #[.slice A0_0 l0_0.length c0_0, .int .i64 (wrap64 (a0_2 - (ji4)))] rfl (by (try simp only [List.map_toArray, List.map_cons, List.map_nil]); first | done | (simp only [hji4]; rfl) | rfl | (simp only [List.length_drop, List.length_take]; rfl)) ?_; (with_reducible refine (flyballref01_Shl.calls k _ _ l0_0 (wrap64 (a0_2 - (ji4))) t484 _ ?side1 ?side2 A5.out).mono ?_); (case side1 => exact ch_ HR0_0.out); (case side2 => exact HC0_0.out); rintro e w33 ⟨v485, rfl, ho0, hb⟩; refine ⟨_, rfl, ?_⟩; have HO486 := Aside0.mk (Kd.R_lower ho0 (below_size bh_)); replace BK483 := Aside0.mk (blk_below (g := gb483) (o := .cells #[.slice A0_0 l0_0.length c0_0, .slice A0_1 l0_1.length c0_1, .int .i64 a0_2, .bool a0_3] 100 (0, 0)) (by (with_reducible repeat (first | apply kn_ | apply kd_ | apply ka_)); exact BK483.out) hb); replace HB := bq_ hb; skip; have hcz34_0 : w33.cell? ⟨gb483, 0, none⟩ = some (.slice A0_0 l0_0.length c0_0) := (blk_cell BK483.out 0).trans rfl; have hcz34_1 : w33.cell? ⟨gb483, 1, none⟩ = some (.slice A0_1 l0_1.length c0_1) := (blk_cell BK483.out 1).trans rfl; have hcz34_2 : w33.cell? ⟨gb483, 2, none⟩ = some (.int .i64 a0_2) := (blk_cell BK483.out 2).trans rfl; have hcz34_3 : w33.cell? ⟨gb483, 3, none⟩ = some (.bool a0_3) := (blk_cell BK483.out 3).trans rfl; have hfz34_0 := blk_frozen BK483.out 0; have hfz34_1 := blk_frozen BK483.out 1; have hfz34_2 := blk_frozen BK483.out 2; have hfz34_3 := blk_frozen BK483.out 3) | ((with_reducible refine gc_ 113 rfl ?_); refine gM_ (some 25) Try.func113 [.slice A1 l1.length c1, .slice A0_1 l0_1.length c0_1] ?_; (with_reducible refine (flyballref01_Mul.calls k _ _ l1 _ _ l0_1 t487 _ ?side1 ?side2 ?side3 ?side4 A6.out).mono ?_); (case side1 => exact ch_ HR1.out); (case side2 => exact HC1.out); (case side3 => exact ch_ HR0_1.out); (case side4 => exact HC0_1.out); rintro e w35 ⟨v488, rfl, ho0, hb⟩; refine ⟨_, rfl, ?_⟩; have n0_ := Aside0.mk (Kd.R_elder' (by (with_reducible repeat (first | apply ra_ | apply rn_ | apply rd_)); exact HO486.out) (Kd.R_base ho0) hb); have n1_ := Aside0.mk (Kd.R_lower (Kd.R_new' ho0 (Kd.R_lt (by (with_reducible repeat (first | apply ra_ | apply rn_ | apply rd_)); exact HO486.out))) (below_size bh_)); have n3_ := bq_ hb; clear HO486 HB; have HO486 := n0_; have HO489 := n1_; have HB := n3_; clear n0_ n1_ n3_; skip; obtain ⟨Ao36, co36, eo36⟩ := Kd.R_slice HO489.out; subst eo36) | ((with_reducible refine gc_ 47 rfl ?_); refine goesL_ (some 30) rfl rfl Try.func47 (by kernel_rfl) rfl #[.slice Ao36 t487.length co36, .int .i64 (wrap64 (a2 - (ji4)))] rfl (by (try simp only [List.map_toArray, List.map_cons, List.map_nil]); first | done | (simp only [hji4]; rfl) | rfl | (simp only [List.length_drop, List.length_take]; rfl)) ?_; (with_reducible refine (flyballref01_Shl.calls k _ _ t487 (wrap64 (a2 - (ji4))) t490 _ ?side1 ?side2 A7.out).mono ?_); (case side1 => repeat first | exact (Kd.R_reads' HO489.out).2.2 | with_reducible first | apply ca_ | apply cn_ | apply cd_); (case side2 => exact (Kd.R_reads' HO489.out).2.1); rintro e w37 ⟨v491, rfl, ho0, hb⟩; refine ⟨_, rfl, ?_⟩; have n0_ := Aside0.mk (Kd.R_elder' (by (with_reducible repeat (first | apply ra_ | apply rn_ | apply rd_)); exact HO486.out) (Kd.R_base ho0) hb); have n2_ := Aside0.mk (Kd.R_lower (Kd.R_new' (Kd.R_new' ho0 (Kd.R_lt (by (with_reducible repeat (first | apply ra_ | apply rn_ | apply rd_)); exact HO486.out))) (Kd.R_lt (by (with_reducible repeat (first | apply ra_ | apply rn_ | apply rd_)); exact HO489.out))) (below_size bh_)); have n4_ := bq_ hb; clear HO486 HB; have HO486 := n0_; have HO492 := n2_; have HB := n4_; clear n0_ n2_ n4_; skip; obtain ⟨Ao38, co38, eo38⟩ := Kd.R_slice HO486.out; subst eo38; obtain ⟨Ao39, co39, eo39⟩ := Kd.R_slice HO492.out; subst eo39) | ((with_reducible refine gc_ 48 rfl ?_); refine gM_ (some 33) Try.func48 [.slice Ao38 t484.length co38, .slice Ao39 t490.length co39] ?_; (with_reducible refine (flyballref01_Cmp.calls k _ _ t484 _ _ t490 t493 _ ?side1 ?side2 ?side3 ?side4 A8.out).mono ?_); (case side1 => repeat first | exact (Kd.R_reads' HO486.out).2.2 | with_reducible first | apply ca_ | apply cn_ | apply cd_); (case side2 => exact (Kd.R_reads' HO486.out).2.1); (case side3 => repeat first | exact (Kd.R_reads' HO492.out).2.2 | with_reducible first | apply ca_ | apply cn_ | apply cd_); (case side4 => exact (Kd.R_reads' HO492.out).2.1); rintro e w' ⟨rfl, ⟨nd, rfl⟩⟩; refine ⟨_, rfl, ?_⟩))
  go_ret
  exact ⟨by first | rfl | (simp [errW_none, errW_some] <;> rfl) | (simp only [← hji4]; first | rfl | (simp [errW_none, errW_some] <;> rfl)) | (simp [*, errW_none, errW_some] <;> rfl), bh_⟩
 rw [if_pos c9] at H
 have c9b0 : (t493 == 0) = true := beq_iff_eq.mpr c9
 have c9b1 : (t493 != 0) = false := bne_eq_false_iff_eq.mpr c9
 clear c9
 by_cases c10 : a0_3 = true
 case pos =>
  subst c10
  have H1 : (some 1) = some r := by rw [if_pos rfl] at H; exact H
  clear H
  have H := H1
  clear H1
  obtain rfl := Option.some.inj H
  go_enter Try.func110, Try.ntmps110
  go_wp2_with (first | ((with_reducible refine gate_dst (N := 3) rfl ?_); refine box_event ?hg (N := 3) ?hd (cs := #[.slice A0_0 l0_0.length c0_0, .slice A0_1 l0_1.length c0_1, .int .i64 a0_2, .bool true]) (t := 100) ?hr ?_; (case hd => rfl); (case hg => rfl); (case hr => first | (go_simp; done) | (go_simp; rfl)); intro gb483 hg w11 hbox hb; have n0_ := bq_ hb; have n1_ := Aside0.mk (hbox); have n3_ := bz_ hg; clear HB; have HB := n0_; have BK483 := n1_; have GE483 := n3_; clear n0_ n1_ n3_; clear hb hbox hg; have hcz12_0 : w11.cell? ⟨gb483, 0, none⟩ = some (.slice A0_0 l0_0.length c0_0) := (blk_cell BK483.out 0).trans rfl; have hcz12_1 : w11.cell? ⟨gb483, 1, none⟩ = some (.slice A0_1 l0_1.length c0_1) := (blk_cell BK483.out 1).trans rfl; have hcz12_2 : w11.cell? ⟨gb483, 2, none⟩ = some (.int .i64 a0_2) := (blk_cell BK483.out 2).trans rfl; have hcz12_3 : w11.cell? ⟨gb483, 3, none⟩ = some (.bool true) := (blk_cell BK483.out 3).trans rfl; have hfz12_0 := blk_frozen BK483.out 0; have hfz12_1 := blk_frozen BK483.out 1; have hfz12_2 := blk_frozen BK483.out 2; have hfz12_3 := blk_frozen BK483.out 3) | ((with_reducible refine gc_ 47 rfl ?_); refine goesL_ (some 21) rfl rfl Try.func47 (by kernel_rfl) rfl #[.slice A0_0 l0_0.length c0_0, .int .i64 (wrap64 (a0_2 - (ji4)))] rfl (by (try simp only [List.map_toArray, List.map_cons, List.map_nil]); first | done | (simp only [hji4]; rfl) | rfl | (simp only [List.length_drop, List.length_take]; rfl)) ?_; (with_reducible refine (flyballref01_Shl.calls k _ _ l0_0 (wrap64 (a0_2 - (ji4))) t484 _ ?side1 ?side2 A5.out).mono ?_); (case side1 => exact ch_ HR0_0.out); (case side2 => exact HC0_0.out); rintro e w13 ⟨v485, rfl, ho0, hb⟩; refine ⟨_, rfl, ?_⟩; have HO486 := Aside0.mk (Kd.R_lower ho0 (below_size bh_)); replace BK483 := Aside0.mk (blk_below (g := gb483) (o := .cells #[.slice A0_0 l0_0.length c0_0, .slice A0_1 l0_1.length c0_1, .int .i64 a0_2, .bool true] 100 (0, 0)) (by (with_reducible repeat (first | apply kn_ | apply kd_ | apply ka_)); exact BK483.out) hb); replace HB := bq_ hb; skip; have hcz14_0 : w13.cell? ⟨gb483, 0, none⟩ = some (.slice A0_0 l0_0.length c0_0) := (blk_cell BK483.out 0).trans rfl; have hcz14_1 : w13.cell? ⟨gb483, 1, none⟩ = some (.slice A0_1 l0_1.length c0_1) := (blk_cell BK483.out 1).trans rfl; have hcz14_2 : w13.cell? ⟨gb483, 2, none⟩ = some (.int .i64 a0_2) := (blk_cell BK483.out 2).trans rfl; have hcz14_3 : w13.cell? ⟨gb483, 3, none⟩ = some (.bool true) := (blk_cell BK483.out 3).trans rfl; have hfz14_0 := blk_frozen BK483.out 0; have hfz14_1 := blk_frozen BK483.out 1; have hfz14_2 := blk_frozen BK483.out 2; have hfz14_3 := blk_frozen BK483.out 3) | ((with_reducible refine gc_ 113 rfl ?_); refine gM_ (some 25) Try.func113 [.slice A1 l1.length c1, .slice A0_1 l0_1.length c0_1] ?_; (with_reducible refine (flyballref01_Mul.calls k _ _ l1 _ _ l0_1 t487 _ ?side1 ?side2 ?side3 ?side4 A6.out).mono ?_); (case side1 => exact ch_ HR1.out); (case side2 => exact HC1.out); (case side3 => exact ch_ HR0_1.out); (case side4 => exact HC0_1.out); rintro e w15 ⟨v488, rfl, ho0, hb⟩; refine ⟨_, rfl, ?_⟩; have n0_ := Aside0.mk (Kd.R_elder' (by (with_reducible repeat (first | apply ra_ | apply rn_ | apply rd_)); exact HO486.out) (Kd.R_base ho0) hb); have n1_ := Aside0.mk (Kd.R_lower (Kd.R_new' ho0 (Kd.R_lt (by (with_reducible repeat (first | apply ra_ | apply rn_ | apply rd_)); exact HO486.out))) (below_size bh_)); have n2_ := Aside0.mk (blk_below (g := gb483) (o := .cells #[.slice A0_0 l0_0.length c0_0, .slice A0_1 l0_1.length c0_1, .int .i64 a0_2, .bool true] 100 (0, 0)) (by (with_reducible repeat (first | apply kn_ | apply kd_ | apply ka_)); exact BK483.out) hb); have n3_ := bq_ hb; clear HO486 BK483 HB; have HO486 := n0_; have HO489 := n1_; have BK483 := n2_; have HB := n3_; clear n0_ n1_ n2_ n3_; skip; obtain ⟨Ao16, co16, eo16⟩ := Kd.R_slice HO489.out; subst eo16) | ((with_reducible refine gc_ 47 rfl ?_); refine goesL_ (some 30) rfl rfl Try.func47 (by kernel_rfl) rfl #[.slice Ao16 t487.length co16, .int .i64 (wrap64 (a2 - (ji4)))] rfl (by (try simp only [List.map_toArray, List.map_cons, List.map_nil]); first | done | (simp only [hji4]; rfl) | rfl | (simp only [List.length_drop, List.length_take]; rfl)) ?_; (with_reducible refine (flyballref01_Shl.calls k _ _ t487 (wrap64 (a2 - (ji4))) t490 _ ?side1 ?side2 A7.out).mono ?_); (case side1 => repeat first | exact (Kd.R_reads' HO489.out).2.2 | with_reducible first | apply ca_ | apply cn_ | apply cd_); (case side2 => exact (Kd.R_reads' HO489.out).2.1); rintro e w17 ⟨v491, rfl, ho0, hb⟩; refine ⟨_, rfl, ?_⟩; have n0_ := Aside0.mk (Kd.R_elder' (by (with_reducible repeat (first | apply ra_ | apply rn_ | apply rd_)); exact HO486.out) (Kd.R_base ho0) hb); have n2_ := Aside0.mk (Kd.R_lower (Kd.R_new' (Kd.R_new' ho0 (Kd.R_lt (by (with_reducible repeat (first | apply ra_ | apply rn_ | apply rd_)); exact HO486.out))) (Kd.R_lt (by (with_reducible repeat (first | apply ra_ | apply rn_ | apply rd_)); exact HO489.out))) (below_size bh_)); have n3_ := Aside0.mk (blk_below (g := gb483) (o := .cells #[.slice A0_0 l0_0.length c0_0, .slice A0_1 l0_1.length c0_1, .int .i64 a0_2, .bool true] 100 (0, 0)) (by (with_reducible repeat (first | apply kn_ | apply kd_ | apply ka_)); exact BK483.out) hb); have n4_ := bq_ hb; clear HO486 BK483 HB; have HO486 := n0_; have HO492 := n2_; have BK483 := n3_; have HB := n4_; clear n0_ n2_ n3_ n4_; skip; obtain ⟨Ao18, co18, eo18⟩ := Kd.R_slice HO486.out; subst eo18; obtain ⟨Ao19, co19, eo19⟩ := Kd.R_slice HO492.out; subst eo19) | ((with_reducible refine gc_ 48 rfl ?_); refine gM_ (some 33) Try.func48 [.slice Ao18 t484.length co18, .slice Ao19 t490.length co19] ?_; (with_reducible refine (flyballref01_Cmp.calls k _ _ t484 _ _ t490 t493 _ ?side1 ?side2 ?side3 ?side4 A8.out).mono ?_); (case side1 => repeat first | exact (Kd.R_reads' HO486.out).2.2 | with_reducible first | apply ca_ | apply cn_ | apply cd_); (case side2 => exact (Kd.R_reads' HO486.out).2.1); (case side3 => repeat first | exact (Kd.R_reads' HO492.out).2.2 | with_reducible first | apply ca_ | apply cn_ | apply cd_); (case side4 => exact (Kd.R_reads' HO492.out).2.1); rintro e w' ⟨rfl, ⟨nd, rfl⟩⟩; refine ⟨_, rfl, ?_⟩; have hcz20_0 : w17.cell? ⟨gb483, 0, none⟩ = some (.slice A0_0 l0_0.length c0_0) := (blk_cell BK483.out 0).trans rfl; have hcz20_1 : w17.cell? ⟨gb483, 1, none⟩ = some (.slice A0_1 l0_1.length c0_1) := (blk_cell BK483.out 1).trans rfl; have hcz20_2 : w17.cell? ⟨gb483, 2, none⟩ = some (.int .i64 a0_2) := (blk_cell BK483.out 2).trans rfl; have hcz20_3 : w17.cell? ⟨gb483, 3, none⟩ = some (.bool true) := (blk_cell BK483.out 3).trans rfl; have hfz20_0 := blk_frozen BK483.out 0; have hfz20_1 := blk_frozen BK483.out 1; have hfz20_2 := blk_frozen BK483.out 2; have hfz20_3 := blk_frozen BK483.out 3))
  go_ret
  exact ⟨by first | rfl | (simp [errW_none, errW_some] <;> rfl) | (simp only [← hji4]; first | rfl | (simp [errW_none, errW_some] <;> rfl)) | (simp [*, errW_none, errW_some] <;> rfl), bh_⟩
 replace c10 := Bool.eq_false_iff.mpr c10
 subst c10
 have H1 : (some t493) = some r := by rw [if_neg (show ¬ (false = true) by decide)] at H; exact H
 clear H
 have H := H1
 clear H1
 obtain rfl := Option.some.inj H
 go_enter Try.func110, Try.ntmps110
 go_wp2_with (first | ((with_reducible refine gate_dst (N := 3) rfl ?_); refine box_event ?hg (N := 3) ?hd (cs := #[.slice A0_0 l0_0.length c0_0, .slice A0_1 l0_1.length c0_1, .int .i64 a0_2, .bool false]) (t := 100) ?hr ?_; (case hd => rfl); (case hg => rfl); (case hr => first | (go_simp; done) | (go_simp; rfl)); intro gb483 hg w21 hbox hb; have n0_ := bq_ hb; have n1_ := Aside0.mk (hbox); have n3_ := bz_ hg; clear HB; have HB := n0_; have BK483 := n1_; have GE483 := n3_; clear n0_ n1_ n3_; clear hb hbox hg; have hcz22_0 : w21.cell? ⟨gb483, 0, none⟩ = some (.slice A0_0 l0_0.length c0_0) := (blk_cell BK483.out 0).trans rfl; have hcz22_1 : w21.cell? ⟨gb483, 1, none⟩ = some (.slice A0_1 l0_1.length c0_1) := (blk_cell BK483.out 1).trans rfl; have hcz22_2 : w21.cell? ⟨gb483, 2, none⟩ = some (.int .i64 a0_2) := (blk_cell BK483.out 2).trans rfl; have hcz22_3 : w21.cell? ⟨gb483, 3, none⟩ = some (.bool false) := (blk_cell BK483.out 3).trans rfl; have hfz22_0 := blk_frozen BK483.out 0; have hfz22_1 := blk_frozen BK483.out 1; have hfz22_2 := blk_frozen BK483.out 2; have hfz22_3 := blk_frozen BK483.out 3) | ((with_reducible refine gc_ 47 rfl ?_); refine goesL_ (some 21) rfl rfl Try.func47 (by kernel_rfl) rfl #[.slice A0_0 l0_0.length c0_0, .int .i64 (wrap64 (a0_2 - (ji4)))] rfl (by (try simp only [List.map_toArray, List.map_cons, List.map_nil]); first | done | (simp only [hji4]; rfl) | rfl | (simp only [List.length_drop, List.length_take]; rfl)) ?_; (with_reducible refine (flyballref01_Shl.calls k _ _ l0_0 (wrap64 (a0_2 - (ji4))) t484 _ ?side1 ?side2 A5.out).mono ?_); (case side1 => exact ch_ HR0_0.out); (case side2 => exact HC0_0.out); rintro e w23 ⟨v485, rfl, ho0, hb⟩; refine ⟨_, rfl, ?_⟩; have HO486 := Aside0.mk (Kd.R_lower ho0 (below_size bh_)); replace BK483 := Aside0.mk (blk_below (g := gb483) (o := .cells #[.slice A0_0 l0_0.length c0_0, .slice A0_1 l0_1.length c0_1, .int .i64 a0_2, .bool false] 100 (0, 0)) (by (with_reducible repeat (first | apply kn_ | apply kd_ | apply ka_)); exact BK483.out) hb); replace HB := bq_ hb; skip; have hcz24_0 : w23.cell? ⟨gb483, 0, none⟩ = some (.slice A0_0 l0_0.length c0_0) := (blk_cell BK483.out 0).trans rfl; have hcz24_1 : w23.cell? ⟨gb483, 1, none⟩ = some (.slice A0_1 l0_1.length c0_1) := (blk_cell BK483.out 1).trans rfl; have hcz24_2 : w23.cell? ⟨gb483, 2, none⟩ = some (.int .i64 a0_2) := (blk_cell BK483.out 2).trans rfl; have hcz24_3 : w23.cell? ⟨gb483, 3, none⟩ = some (.bool false) := (blk_cell BK483.out 3).trans rfl; have hfz24_0 := blk_frozen BK483.out 0; have hfz24_1 := blk_frozen BK483.out 1; have hfz24_2 := blk_frozen BK483.out 2; have hfz24_3 := blk_frozen BK483.out 3) | ((with_reducible refine gc_ 113 rfl ?_); refine gM_ (some 25) Try.func113 [.slice A1 l1.length c1, .slice A0_1 l0_1.length c0_1] ?_; (with_reducible refine (flyballref01_Mul.calls k _ _ l1 _ _ l0_1 t487 _ ?side1 ?side2 ?side3 ?side4 A6.out).mono ?_); (case side1 => exact ch_ HR1.out); (case side2 => exact HC1.out); (case side3 => exact ch_ HR0_1.out); (case side4 => exact HC0_1.out); rintro e w25 ⟨v488, rfl, ho0, hb⟩; refine ⟨_, rfl, ?_⟩; have n0_ := Aside0.mk (Kd.R_elder' (by (with_reducible repeat (first | apply ra_ | apply rn_ | apply rd_)); exact HO486.out) (Kd.R_base ho0) hb); have n1_ := Aside0.mk (Kd.R_lower (Kd.R_new' ho0 (Kd.R_lt (by (with_reducible repeat (first | apply ra_ | apply rn_ | apply rd_)); exact HO486.out))) (below_size bh_)); have n2_ := Aside0.mk (blk_below (g := gb483) (o := .cells #[.slice A0_0 l0_0.length c0_0, .slice A0_1 l0_1.length c0_1, .int .i64 a0_2, .bool false] 100 (0, 0)) (by (with_reducible repeat (first | apply kn_ | apply kd_ | apply ka_)); exact BK483.out) hb); have n3_ := bq_ hb; clear HO486 BK483 HB; have HO486 := n0_; have HO489 := n1_; have BK483 := n2_; have HB := n3_; clear n0_ n1_ n2_ n3_; skip; obtain ⟨Ao26, co26, eo26⟩ := Kd.R_slice HO489.out; subst eo26) | ((with_reducible refine gc_ 47 rfl ?_); refine goesL_ (some 30) rfl rfl Try.func47 (by kernel_rfl) rfl #[.slice Ao26 t487.length co26, .int .i64 (wrap64 (a2 - (ji4)))] rfl (by (try simp only [List.map_toArray, List.map_cons, List.map_nil]); first | done | (simp only [hji4]; rfl) | rfl | (simp only [List.length_drop, List.length_take]; rfl)) ?_; (with_reducible refine (flyballref01_Shl.calls k _ _ t487 (wrap64 (a2 - (ji4))) t490 _ ?side1 ?side2 A7.out).mono ?_); (case side1 => repeat first | exact (Kd.R_reads' HO489.out).2.2 | with_reducible first | apply ca_ | apply cn_ | apply cd_); (case side2 => exact (Kd.R_reads' HO489.out).2.1); rintro e w27 ⟨v491, rfl, ho0, hb⟩; refine ⟨_, rfl, ?_⟩; have n0_ := Aside0.mk (Kd.R_elder' (by (with_reducible repeat (first | apply ra_ | apply rn_ | apply rd_)); exact HO486.out) (Kd.R_base ho0) hb); have n2_ := Aside0.mk (Kd.R_lower (Kd.R_new' (Kd.R_new' ho0 (Kd.R_lt (by (with_reducible repeat (first | apply ra_ | apply rn_ | apply rd_)); exact HO486.out))) (Kd.R_lt (by (with_reducible repeat (first | apply ra_ | apply rn_ | apply rd_)); exact HO489.out))) (below_size bh_)); have n3_ := Aside0.mk (blk_below (g := gb483) (o := .cells #[.slice A0_0 l0_0.length c0_0, .slice A0_1 l0_1.length c0_1, .int .i64 a0_2, .bool false] 100 (0, 0)) (by (with_reducible repeat (first | apply kn_ | apply kd_ | apply ka_)); exact BK483.out) hb); have n4_ := bq_ hb; clear HO486 BK483 HB; have HO486 := n0_; have HO492 := n2_; have BK483 := n3_; have HB := n4_; clear n0_ n2_ n3_ n4_; skip; obtain ⟨Ao28, co28, eo28⟩ := Kd.R_slice HO486.out; subst eo28; obtain ⟨Ao29, co29, eo29⟩ := Kd.R_slice HO492.out; subst eo29) | ((with_reducible refine gc_ 48 rfl ?_); refine gM_ (some 33) Try.func48 [.slice Ao28 t484.length co28, .slice Ao29 t490.length co29] ?_; (with_reducible refine (flyballref01_Cmp.calls k _ _ t484 _ _ t490 t493 _ ?side1 ?side2 ?side3 ?side4 A8.out).mono ?_); (case side1 => repeat first | exact (Kd.R_reads' HO486.out).2.2 | with_reducible first | apply ca_ | apply cn_ | apply cd_); (case side2 => exact (Kd.R_reads' HO486.out).2.1); (case side3 => repeat first | exact (Kd.R_reads' HO492.out).2.2 | with_reducible first | apply ca_ | apply cn_ | apply cd_); (case side4 => exact (Kd.R_reads' HO492.out).2.1); rintro e w' ⟨rfl, ⟨nd, rfl⟩⟩; refine ⟨_, rfl, ?_⟩; have hcz30_0 : w27.cell? ⟨gb483, 0, none⟩ = some (.slice A0_0 l0_0.length c0_0) := (blk_cell BK483.out 0).trans rfl; have hcz30_1 : w27.cell? ⟨gb483, 1, none⟩ = some (.slice A0_1 l0_1.length c0_1) := (blk_cell BK483.out 1).trans rfl; have hcz30_2 : w27.cell? ⟨gb483, 2, none⟩ = some (.int .i64 a0_2) := (blk_cell BK483.out 2).trans rfl; have hcz30_3 : w27.cell? ⟨gb483, 3, none⟩ = some (.bool false) := (blk_cell BK483.out 3).trans rfl; have hfz30_0 := blk_frozen BK483.out 0; have hfz30_1 := blk_frozen BK483.out 1; have hfz30_2 := blk_frozen BK483.out 2; have hfz30_3 := blk_frozen BK483.out 3))
 go_ret
 exact ⟨by first | rfl | (simp [errW_none, errW_some] <;> rfl) | (simp only [← hji4]; first | rfl | (simp [errW_none, errW_some] <;> rfl)) | (simp [*, errW_none, errW_some] <;> rfl), bh_⟩

/-! ### flyballref05_floor: function 108 -/
def flyballref05_floor.l0 : Nat → Int → Int → List Bool → List Bool → Int → Bool → Option (Int)
 | 0, _, _, _, _, _, _ => none
 | k + 1, x3, x4, x495000, x495001, x495002, x495003 => if x3 < x4 then ((flyballref05_split.f k (wrap64 (x4 - (wrap64 (Int.tdiv (wrap64 (x4 - x3)) 2))))).bind fun bt495 => ((flyballref05_cmp.f k x495000 x495001 x495002 x495003 bt495.1 bt495.2).bind fun t499 => (if t499 ≥ 0 then (flyballref05_floor.l0 k (wrap64 (x4 - (wrap64 (Int.tdiv (wrap64 (x4 - x3)) 2)))) x4 x495000 x495001 x495002 x495003) else (flyballref05_floor.l0 k x3 (wrap64 ((wrap64 (x4 - (wrap64 (Int.tdiv (wrap64 (x4 - x3)) 2)))) - 1)) x495000 x495001 x495002 x495003)))) else (some x3)
def flyballref05_floor.f (k : Nat) (l0_0 : List Bool) (l0_1 : List Bool) (a0_2 : Int) (a0_3 : Bool) : Option (Int) := flyballref05_floor.l0 k 0 9218868437227405312 l0_0 l0_1 a0_2 a0_3
theorem flyballref05_floor.mono_l : ∀ k, (∀ y0 y1 y2 y3 y4 y5, LeO (flyballref05_floor.l0 k y0 y1 y2 y3 y4 y5) (flyballref05_floor.l0 (k + 1) y0 y1 y2 y3 y4 y5))
 | 0 => fun _ _ _ _ _ _ r h => by simp [flyballref05_floor.l0] at h
 | k + 1 => by
  have ih0 := flyballref05_floor.mono_l k
  ·
   intro y0 y1 y2 y3 y4 y5
   unfold flyballref05_floor.l0
   repeat' with_reducible first | exact ih0 _ _ _ _ _ _ | exact flyballref05_cmp.mono _ _ _ _ _ _ _ | exact flyballref05_split.mono _ _ | exact LeO.refl _ | exact LeO.none _ | refine LeO.ite ?_ ?_ | refine LeO.bind ?_ (fun _ => ?_)
theorem flyballref05_floor.mono : ∀ a0 a1 a2 a3 k, LeO (flyballref05_floor.f k a0 a1 a2 a3) (flyballref05_floor.f (k + 1) a0 a1 a2 a3) := by
 intro a0 a1 a2 a3 k
 have ih0 := flyballref05_floor.mono_l k
 unfold flyballref05_floor.f
 repeat' with_reducible first | exact ih0 _ _ _ _ _ _ | exact flyballref05_cmp.mono _ _ _ _ _ _ _ | exact flyballref05_split.mono _ _ | exact LeO.refl _ | exact LeO.none _ | refine LeO.ite ?_ ?_ | refine LeO.bind ?_ (fun _ => ?_)
set_option maxHeartbeats 8000000 in
set_option maxRecDepth 100000 in
theorem flyballref05_floor.calls (k : Nat) (A0_0 : Option Addr) (c0_0 : Nat) (l0_0 : List Bool) (A0_1 : Option Addr) (c0_1 : Nat) (l0_1 : List Bool) (a0_2 : Int) (a0_3 : Bool) (r : Int) (w : World) (hr0_0 : Kd.C Kd.bool w A0_0 l0_0.length l0_0) (hc0_0 : l0_0.length ≤ c0_0) (hr0_1 : Kd.C Kd.bool w A0_1 l0_1.length l0_1) (hc0_1 : l0_1.length ≤ c0_1) (h : flyballref05_floor.f k l0_0 l0_1 a0_2 a0_3 = some r) :
  Calls Try.prog 108 #[.agg #[.slice A0_0 l0_0.length c0_0, .slice A0_1 l0_1.length c0_1, .int .i64 a0_2, .bool a0_3]] w fun e w' => e = .returned (.int .i64 r) ∧ Below w.heap.size w w' := by
 have hu100 := Try.underlying100
 have HR0_0 := Aside0.mk hr0_0
 have HC0_0 := Aside0.mk hc0_0
 clear hr0_0 hc0_0
 have HR0_1 := Aside0.mk hr0_1
 have HC0_1 := Aside0.mk hc0_1
 clear hr0_1 hc0_1
 have HB := Aside0.mk (Below.refl w.heap.size w)
 have H : (flyballref05_floor.l0 k 0 9218868437227405312 l0_0 l0_1 a0_2 a0_3) = some r := h
 clear h
 have H' := Aside0.mk H
 clear H
 go_enter Try.func108, Try.ntmps108
 go_wp2_with (first | ((with_reducible refine gate_dst (N := 1) rfl ?_); refine box_event ?hg (N := 1) ?hd (cs := #[.slice A0_0 l0_0.length c0_0, .slice A0_1 l0_1.length c0_1, .int .i64 a0_2, .bool a0_3]) (t := 100) ?hr ?_; (case hd => rfl); (case hg => rfl); (case hr => first | (go_simp; done) | (go_simp; rfl)); intro gb494 hg w2 hbox hb; have n0_ := bq_ hb; have n1_ := Aside0.mk (hbox); have n3_ := bz_ hg; clear HB; have HB := n0_; have BK494 := n1_; have GE494 := n3_; clear n0_ n1_ n3_; clear hb hbox hg))
 (try simp only [Act.put, List.setIfInBounds_toArray, List.set_cons_zero, List.set_cons_succ])
 go_loopg [3, 4] k (fun kq v3 v4 w' => ∃ (x3_1 : Int) (x4_1 : Int), v3 = .int .i64 x3_1 ∧ v4 = .int .i64 x4_1 ∧ Aside0 (flyballref05_floor.l0 kq x3_1 x4_1 l0_0 l0_1 a0_2 a0_3 = some r) ∧ Aside0 (kq ≤ k) ∧ Aside0 (w'.heap[gb494]? = some (.cells #[(.slice A0_0 l0_0.length c0_0), (.slice A0_1 l0_1.length c0_1), .int .i64 a0_2, .bool a0_3] 100 (0, 0))) ∧ Aside0 (Below w.heap.size w w'))
 case atStart => exact ⟨(0), (9218868437227405312), (sh_), (sh_), H', ⟨Nat.le_refl _⟩, ⟨by (with_reducible repeat (first | apply kn_ | apply kd_ | apply ka_)); exact BK494.out⟩, ⟨bh_⟩⟩
 case round =>
  clear H'
  try clear c1
  try clear p2
  obtain ⟨x3_1, x4_1, rfl, rfl, HA, HK1, BK494, HB⟩ := hrel
  cases gk with
  | zero => exact absurd HA.out (by simp [flyballref05_floor.l0])
  | succ k1 =>
   have H := HA.out
   clear HA
   simp only [flyballref05_floor.l0] at H
   by_cases c3 : x3_1 < x4_1
   case neg =>
    rw [if_neg c3] at H
    have c3b0 : decide (x3_1 < x4_1) = false := decide_eq_false c3
    clear c3
    obtain rfl := Option.some.inj H
    go_wp2
    go_ret
    exact ⟨eh_, bh_⟩
   rw [if_pos c3] at H
   have c3b0 : decide (x3_1 < x4_1) = true := decide_eq_true c3
   clear c3
   replace H := Option.bind_eq_some_iff.mp H
   obtain ⟨⟨t495, t496⟩, A40, H⟩ := H
   replace H : ((flyballref05_cmp.f k1 l0_0 l0_1 a0_2 a0_3 t495 t496).bind fun t499 => (if t499 ≥ 0 then (flyballref05_floor.l0 k1 (wrap64 (x4_1 - (wrap64 (Int.tdiv (wrap64 (x4_1 - x3_1)) 2)))) x4_1 l0_0 l0_1 a0_2 a0_3) else (flyballref05_floor.l0 k1 x3_1 (wrap64 ((wrap64 (x4_1 - (wrap64 (Int.tdiv (wrap64 (x4_1 - x3_1)) 2)))) - 1)) l0_0 l0_1 a0_2 a0_3))) = some r := H
   have A4 := Aside0.mk A40
   clear A40
   replace H := Option.bind_eq_some_iff.mp H
   obtain ⟨t499, A50, H⟩ := H
   replace H : (if t499 ≥ 0 then (flyballref05_floor.l0 k1 (wrap64 (x4_1 - (wrap64 (Int.tdiv (wrap64 (x4_1 - x3_1)) 2)))) x4_1 l0_0 l0_1 a0_2 a0_3) else (flyballref05_floor.l0 k1 x3_1 (wrap64 ((wrap64 (x4_1 - (wrap64 (Int.tdiv (wrap64 (x4_1 - x3_1)) 2)))) - 1)) l0_0 l0_1 a0_2 a0_3)) = some r := H
   have A5 := Aside0.mk A50
   clear A50
   by_cases c6 : t499 ≥ 0
   case neg =>
    rw [if_neg c6] at H
    have c6b0 : decide (0 ≤ t499) = false := decide_eq_false c6
    clear c6
    have H' := Aside0.mk H
    clear H
    go_wp2_with (first | ((with_reducible refine gc_ 109 rfl ?_); refine gM_ (some 19) Try.func109 [.int .i64 (wrap64 (x4_1 - (wrap64 (Int.tdiv (wrap64 (x4_1 - x3_1)) 2))))] ?_; (with_reducible refine (flyballref05_split.calls k1 (wrap64 (x4_1 - (wrap64 (Int.tdiv (wrap64 (x4_1 - x3_1)) 2)))) t495 t496 _ A4.out).mono ?_); rintro e w11 ⟨v497, rfl, ho0, hb⟩; refine ⟨_, rfl, ?_⟩; have HO498 := Aside0.mk (Kd.R_lower ho0 (below_size bh_)); replace BK494 := Aside0.mk (blk_below (g := gb494) (o := .cells #[.slice A0_0 l0_0.length c0_0, .slice A0_1 l0_1.length c0_1, .int .i64 a0_2, .bool a0_3] 100 (0, 0)) (by (with_reducible repeat (first | apply kn_ | apply kd_ | apply ka_)); exact BK494.out) hb); replace HB := bq_ hb; skip; have hcz12_0 : w11.cell? ⟨gb494, 0, none⟩ = some (.slice A0_0 l0_0.length c0_0) := (blk_cell BK494.out 0).trans rfl; have hcz12_1 : w11.cell? ⟨gb494, 1, none⟩ = some (.slice A0_1 l0_1.length c0_1) := (blk_cell BK494.out 1).trans rfl; have hcz12_2 : w11.cell? ⟨gb494, 2, none⟩ = some (.int .i64 a0_2) := (blk_cell BK494.out 2).trans rfl; have hcz12_3 : w11.cell? ⟨gb494, 3, none⟩ = some (.bool a0_3) := (blk_cell BK494.out 3).trans rfl; have hfz12_0 := blk_frozen BK494.out 0; have hfz12_1 := blk_frozen BK494.out 1; have hfz12_2 := blk_frozen BK494.out 2; have hfz12_3 := blk_frozen BK494.out 3; obtain ⟨Ao13, co13, eo13⟩ := Kd.R_slice HO498.out; subst eo13) | ((with_reducible refine gc_ 110 rfl ?_); refine gM_ (some 25) Try.func110 [.agg #[.slice A0_0 l0_0.length c0_0, .slice A0_1 l0_1.length c0_1, .int .i64 a0_2, .bool a0_3], .slice Ao13 t495.length co13, .int .i64 t496] ?_; (with_reducible refine (flyballref05_cmp.calls k1 _ _ l0_0 _ _ l0_1 a0_2 a0_3 _ _ t495 t496 t499 _ ?side1 ?side2 ?side3 ?side4 ?side5 ?side6 A5.out).mono ?_); (case side1 => exact ch_ HR0_0.out); (case side2 => exact HC0_0.out); (case side3 => exact ch_ HR0_1.out); (case side4 => exact HC0_1.out); (case side5 => repeat first | exact (Kd.R_reads' HO498.out).2.2 | with_reducible first | apply ca_ | apply cn_ | apply cd_); (case side6 => exact (Kd.R_reads' HO498.out).2.1); rintro e w14 ⟨rfl, hb⟩; refine ⟨_, rfl, ?_⟩; replace BK494 := Aside0.mk (blk_below (g := gb494) (o := .cells #[.slice A0_0 l0_0.length c0_0, .slice A0_1 l0_1.length c0_1, .int .i64 a0_2, .bool a0_3] 100 (0, 0)) (by (with_reducible repeat (first | apply kn_ | apply kd_ | apply ka_)); exact BK494.out) hb); replace HB := bq_ hb))
    go_roundg k1
    case measure => have := HK1.out; omega
    case rel => exact ⟨(x3_1), (wrap64 ((wrap64 (x4_1 - (wrap64 (Int.tdiv (wrap64 (x4_1 - x3_1)) 2)))) - 1)), (sh_), (sh_), H', ⟨by have := HK1.out; omega⟩, ⟨by (with_reducible repeat (first | apply kn_ | apply kd_ | apply ka_)); exact BK494.out⟩, ⟨bh_⟩⟩
   rw [if_pos c6] at H
   have c6b0 : decide (0 ≤ t499) = true := decide_eq_true c6
   clear c6
   have H' := Aside0.mk H
   clear H
   go_wp2_with (first | ((with_reducible refine gc_ 109 rfl ?_); refine gM_ (some 19) Try.func109 [.int .i64 (wrap64 (x4_1 - (wrap64 (Int.tdiv (wrap64 (x4_1 - x3_1)) 2))))] ?_; (with_reducible refine (flyballref05_split.calls k1 (wrap64 (x4_1 - (wrap64 (Int.tdiv (wrap64 (x4_1 - x3_1)) 2)))) t495 t496 _ A4.out).mono ?_); rintro e w7 ⟨v497, rfl, ho0, hb⟩; refine ⟨_, rfl, ?_⟩; have HO498 := Aside0.mk (Kd.R_lower ho0 (below_size bh_)); replace BK494 := Aside0.mk (blk_below (g := gb494) (o := .cells #[.slice A0_0 l0_0.length c0_0, .slice A0_1 l0_1.length c0_1, .int .i64 a0_2, .bool a0_3] 100 (0, 0)) (by (with_reducible repeat (first | apply kn_ | apply kd_ | apply ka_)); exact BK494.out) hb); replace HB := bq_ hb; skip; have hcz8_0 : w7.cell? ⟨gb494, 0, none⟩ = some (.slice A0_0 l0_0.length c0_0) := (blk_cell BK494.out 0).trans rfl; have hcz8_1 : w7.cell? ⟨gb494, 1, none⟩ = some (.slice A0_1 l0_1.length c0_1) := (blk_cell BK494.out 1).trans rfl; have hcz8_2 : w7.cell? ⟨gb494, 2, none⟩ = some (.int .i64 a0_2) := (blk_cell BK494.out 2).trans rfl; have hcz8_3 : w7.cell? ⟨gb494, 3, none⟩ = some (.bool a0_3) := (blk_cell BK494.out 3).trans rfl; have hfz8_0 := blk_frozen BK494.out 0; have hfz8_1 := blk_frozen BK494.out 1; have hfz8_2 := blk_frozen BK494.out 2; have hfz8_3 := blk_frozen BK494.out 3; obtain ⟨Ao9, co9, eo9⟩ := Kd.R_slice HO498.out; subst eo9) | ((with_reducible refine gc_ 110 rfl ?_); refine gM_ (some 25) Try.func110 [.agg #[.slice A0_0 l0_0.length c0_0, .slice A0_1 l0_1.length c0_1, .int .i64 a0_2, .bool a0_3], .slice Ao9 t495.length co9, .int .i64 t496] ?_; (with_reducible refine (flyballref05_cmp.calls k1 _ _ l0_0 _ _ l0_1 a0_2 a0_3 _ _ t495 t496 t499 _ ?side1 ?side2 ?side3 ?side4 ?side5 ?side6 A5.out).mono ?_); (case side1 => exact ch_ HR0_0.out); (case side2 => exact HC0_0.out); (case side3 => exact ch_ HR0_1.out); (case side4 => exact HC0_1.out); (case side5 => repeat first | exact (Kd.R_reads' HO498.out).2.2 | with_reducible first | apply ca_ | apply cn_ | apply cd_); (case side6 => exact (Kd.R_reads' HO498.out).2.1); rintro e w10 ⟨rfl, hb⟩; refine ⟨_, rfl, ?_⟩; replace HO498 := Aside0.mk (Kd.R_below (by (with_reducible repeat (first | apply ra_ | apply rn_ | apply rd_)); exact HO498.out) hb); replace BK494 := Aside0.mk (blk_below (g := gb494) (o := .cells #[.slice A0_0 l0_0.length c0_0, .slice A0_1 l0_1.length c0_1, .int .i64 a0_2, .bool a0_3] 100 (0, 0)) (by (with_reducible repeat (first | apply kn_ | apply kd_ | apply ka_)); exact BK494.out) hb); replace HB := bq_ hb))
   go_roundg k1
   case measure => have := HK1.out; omega
   case rel => exact ⟨(wrap64 (x4_1 - (wrap64 (Int.tdiv (wrap64 (x4_1 - x3_1)) 2)))), (x4_1), (sh_), (sh_), H', ⟨by have := HK1.out; omega⟩, ⟨by (with_reducible repeat (first | apply kn_ | apply kd_ | apply ka_)); exact BK494.out⟩, ⟨bh_⟩⟩

/-! ### flyballref05_Magnitude: function 90 -/
mutual
def flyballref05_Magnitude.j0 : Nat → Int → Int → Int → Bool → List Bool → List Bool → List Bool → Int → Bool → Option (Int × Int)
  | 0, _, _, _, _, _, _, _, _, _ => none
  | k + 1, x1, x6, x7, x10, x11, x501000, x501001, x501002, x501003 => if x1 = 1 then (flyballref05_Magnitude.j1 k x1 x6 x7 (!x10)) else (if x1 = 2 then (flyballref05_Magnitude.j1 k x1 x6 x7 false) else ((flyballref05_split.f k x7).bind fun bt514 => (if x7 > 9218868437227405311 then ((flyballref05_split.f k 9218868437227405311).bind fun bt518 => ((flyballref01_Add.f k bt518.1 x11).bind fun t522 => ((flyballref01_Shl.f k t522 1).bind fun t525 => ((flyballref01_Add.f k t525 x11).bind fun t528 => ((flyballref05_cmp.f k x501000 x501001 x501002 x501003 t528 (wrap64 (bt518.2 - 1))).bind fun t531 => (if t531 > 0 then (flyballref05_Magnitude.j1 k x1 x6 x7 true) else (if t531 = 0 then (flyballref05_Magnitude.j1 k x1 x6 x7 ((Int.tmod x7 2) == 1)) else (flyballref05_Magnitude.j1 k x1 x6 x7 false)))))))) else ((flyballref01_Shl.f k bt514.1 1).bind fun t532 => ((flyballref01_Add.f k t532 x11).bind fun t535 => ((flyballref05_cmp.f k x501000 x501001 x501002 x501003 t535 (wrap64 (bt514.2 - 1))).bind fun t538 => (if t538 > 0 then (flyballref05_Magnitude.j1 k x1 x6 x7 true) else (if t538 = 0 then (flyballref05_Magnitude.j1 k x1 x6 x7 ((Int.tmod x7 2) == 1)) else (flyballref05_Magnitude.j1 k x1 x6 x7 false)))))))))
def flyballref05_Magnitude.j1 : Nat → Int → Int → Int → Bool → Option (Int × Int)
  | 0, _, _, _, _ => none
  | k + 1, x1, x6, x7, x12 => if x7 ≤ 9218868437227405311 then (flyballref05_Magnitude.j2 k x1 x6 x7 x12) else (flyballref05_Magnitude.j2 k x1 x6 x7 false)
def flyballref05_Magnitude.j2 : Nat → Int → Int → Int → Bool → Option (Int × Int)
  | 0, _, _, _, _ => none
  | k + 1, x1, x6, x7, x85 => if x85 = true then (flyballref05_Magnitude.j3 k x1 x6 (wrap64 (x7 + 1))) else (flyballref05_Magnitude.j3 k x1 x6 x7)
def flyballref05_Magnitude.j3 : Nat → Int → Int → Int → Option (Int × Int)
  | 0, _, _, _ => none
  | k + 1, x1, x6, x7 => if x7 > 9218868437227405311 then (if x1 = 2 then (some (9218868437227405311, Go.bits .or .u8 (Go.bits .or .u8 x6 4) 1)) else (some (9218868437227405312, Go.bits .or .u8 (Go.bits .or .u8 x6 4) 1))) else (some (x7, x6))
end
def flyballref05_Magnitude.f (k : Nat) (l0_0 : List Bool) (l0_1 : List Bool) (a0_2 : Int) (a0_3 : Bool) (a1 : Int) : Option (Int × Int) := (flyballref05_floor.f k l0_0 l0_1 a0_2 a0_3).bind fun t501 => ((flyballref05_split.f k t501).bind fun bt502 => ((flyballref05_cmp.f k l0_0 l0_1 a0_2 a0_3 bt502.1 bt502.2).bind fun t506 => ((flyballref01_Of.f k (([1] : List Int))).bind fun t510 => (if t506 = 0 then (flyballref05_Magnitude.j0 k a1 0 t501 (t506 == 0) t510 l0_0 l0_1 a0_2 a0_3) else ((flyballref05_cmp.f k l0_0 l0_1 a0_2 a0_3 t510 (-1022)).bind fun t513 => (if t513 < 0 then (flyballref05_Magnitude.j0 k a1 (Go.bits .or .u8 (Go.bits .or .u8 0 1) 2) t501 (t506 == 0) t510 l0_0 l0_1 a0_2 a0_3) else (flyballref05_Magnitude.j0 k a1 (Go.bits .or .u8 0 1) t501 (t506 == 0) t510 l0_0 l0_1 a0_2 a0_3)))))))
theorem flyballref05_Magnitude.mono_l : ∀ k, (∀ y0 y1 y2 y3 y4 y5 y6 y7 y8, LeO (flyballref05_Magnitude.j0 k y0 y1 y2 y3 y4 y5 y6 y7 y8) (flyballref05_Magnitude.j0 (k + 1) y0 y1 y2 y3 y4 y5 y6 y7 y8)) ∧ (∀ y0 y1 y2 y3, LeO (flyballref05_Magnitude.j1 k y0 y1 y2 y3) (flyballref05_Magnitude.j1 (k + 1) y0 y1 y2 y3)) ∧ (∀ y0 y1 y2 y3, LeO (flyballref05_Magnitude.j2 k y0 y1 y2 y3) (flyballref05_Magnitude.j2 (k + 1) y0 y1 y2 y3)) ∧ (∀ y0 y1 y2, LeO (flyballref05_Magnitude.j3 k y0 y1 y2) (flyballref05_Magnitude.j3 (k + 1) y0 y1 y2))
  | 0 => ⟨fun _ _ _ _ _ _ _ _ _ r h => by simp [flyballref05_Magnitude.j0] at h, fun _ _ _ _ r h => by simp [flyballref05_Magnitude.j1] at h, fun _ _ _ _ r h => by simp [flyballref05_Magnitude.j2] at h, fun _ _ _ r h => by simp [flyballref05_Magnitude.j3] at h⟩
  | k + 1 => by
    obtain ⟨ih0, ih1, ih2, ih3⟩ := flyballref05_Magnitude.mono_l k
    refine ⟨?_, ?_, ?_, ?_⟩
    · intro y0 y1 y2 y3 y4 y5 y6 y7 y8
      unfold flyballref05_Magnitude.j0
      repeat' with_reducible first | exact ih0 _ _ _ _ _ _ _ _ _ | exact ih1 _ _ _ _ | exact ih2 _ _ _ _ | exact ih3 _ _ _ | exact flyballref01_Add.mono _ _ _ | exact flyballref01_Of.mono _ _ | exact flyballref01_Shl.mono _ _ _ | exact flyballref05_cmp.mono _ _ _ _ _ _ _ | exact flyballref05_floor.mono _ _ _ _ _ | exact flyballref05_split.mono _ _ | exact LeO.refl _ | exact LeO.none _ | refine LeO.ite ?_ ?_ | refine LeO.bind ?_ (fun _ => ?_)
    · intro y0 y1 y2 y3
      unfold flyballref05_Magnitude.j1
      repeat' with_reducible first | exact ih0 _ _ _ _ _ _ _ _ _ | exact ih1 _ _ _ _ | exact ih2 _ _ _ _ | exact ih3 _ _ _ | exact flyballref01_Add.mono _ _ _ | exact flyballref01_Of.mono _ _ | exact flyballref01_Shl.mono _ _ _ | exact flyballref05_cmp.mono _ _ _ _ _ _ _ | exact flyballref05_floor.mono _ _ _ _ _ | exact flyballref05_split.mono _ _ | exact LeO.refl _ | exact LeO.none _ | refine LeO.ite ?_ ?_ | refine LeO.bind ?_ (fun _ => ?_)
    · intro y0 y1 y2 y3
      unfold flyballref05_Magnitude.j2
      repeat' with_reducible first | exact ih0 _ _ _ _ _ _ _ _ _ | exact ih1 _ _ _ _ | exact ih2 _ _ _ _ | exact ih3 _ _ _ | exact flyballref01_Add.mono _ _ _ | exact flyballref01_Of.mono _ _ | exact flyballref01_Shl.mono _ _ _ | exact flyballref05_cmp.mono _ _ _ _ _ _ _ | exact flyballref05_floor.mono _ _ _ _ _ | exact flyballref05_split.mono _ _ | exact LeO.refl _ | exact LeO.none _ | refine LeO.ite ?_ ?_ | refine LeO.bind ?_ (fun _ => ?_)
    · intro y0 y1 y2
      unfold flyballref05_Magnitude.j3
      repeat' with_reducible first | exact ih0 _ _ _ _ _ _ _ _ _ | exact ih1 _ _ _ _ | exact ih2 _ _ _ _ | exact ih3 _ _ _ | exact flyballref01_Add.mono _ _ _ | exact flyballref01_Of.mono _ _ | exact flyballref01_Shl.mono _ _ _ | exact flyballref05_cmp.mono _ _ _ _ _ _ _ | exact flyballref05_floor.mono _ _ _ _ _ | exact flyballref05_split.mono _ _ | exact LeO.refl _ | exact LeO.none _ | refine LeO.ite ?_ ?_ | refine LeO.bind ?_ (fun _ => ?_)
theorem flyballref05_Magnitude.mono : ∀ a0 a1 a2 a3 a4 k, LeO (flyballref05_Magnitude.f k a0 a1 a2 a3 a4) (flyballref05_Magnitude.f (k + 1) a0 a1 a2 a3 a4) := by
  intro a0 a1 a2 a3 a4 k
  obtain ⟨ih0, ih1, ih2, ih3⟩ := flyballref05_Magnitude.mono_l k
  unfold flyballref05_Magnitude.f
  repeat' with_reducible first | exact ih0 _ _ _ _ _ _ _ _ _ | exact ih1 _ _ _ _ | exact ih2 _ _ _ _ | exact ih3 _ _ _ | exact flyballref01_Add.mono _ _ _ | exact flyballref01_Of.mono _ _ | exact flyballref01_Shl.mono _ _ _ | exact flyballref05_cmp.mono _ _ _ _ _ _ _ | exact flyballref05_floor.mono _ _ _ _ _ | exact flyballref05_split.mono _ _ | exact LeO.refl _ | exact LeO.none _ | refine LeO.ite ?_ ?_ | refine LeO.bind ?_ (fun _ => ?_)
-- GIVENTEXT
set_option maxHeartbeats 8000000 in
set_option maxRecDepth 100000 in
theorem flyballref05_Magnitude.calls (k : Nat) (A0_0 : Option Addr) (c0_0 : Nat) (l0_0 : List Bool) (A0_1 : Option Addr) (c0_1 : Nat) (l0_1 : List Bool) (a0_2 : Int) (a0_3 : Bool) (a1 : Int) (r1 : Int) (r2 : Int) (w : World) (hr0_0 : Kd.C Kd.bool w A0_0 l0_0.length l0_0) (hc0_0 : l0_0.length ≤ c0_0) (hr0_1 : Kd.C Kd.bool w A0_1 l0_1.length l0_1) (hc0_1 : l0_1.length ≤ c0_1) (h : flyballref05_Magnitude.f k l0_0 l0_1 a0_2 a0_3 a1 = some (r1, r2)) :
    Calls Try.prog 90 #[.agg #[.slice A0_0 l0_0.length c0_0, .slice A0_1 l0_1.length c0_1, .int .i64 a0_2, .bool a0_3], .int .u8 a1] w fun e w' => e = .returned (.tuple #[.int .i64 r1, .int .u8 r2]) ∧ Below w.heap.size w w' := by
 have hu100 := Try.underlying100
 have HR0_0 := Aside0.mk hr0_0
 have HC0_0 := Aside0.mk hc0_0
 clear hr0_0 hc0_0
 have HR0_1 := Aside0.mk hr0_1
 have HC0_1 := Aside0.mk hc0_1
 clear hr0_1 hc0_1
 have HB := Aside0.mk (Below.refl w.heap.size w)
 have H : ((flyballref05_floor.f k l0_0 l0_1 a0_2 a0_3).bind fun t274 => ((flyballref05_split.f k t274).bind fun bt275 => ((flyballref05_cmp.f k l0_0 l0_1 a0_2 a0_3 bt275.1 bt275.2).bind fun t279 => ((flyballref01_Of.f k (([1] : List Int))).bind fun t283 => (if t279 = 0 then (flyballref05_Magnitude.j0 k a1 0 t274 (t279 == 0) t283 l0_0 l0_1 a0_2 a0_3) else ((flyballref05_cmp.f k l0_0 l0_1 a0_2 a0_3 t283 (-1022)).bind fun t286 => (if t286 < 0 then (flyballref05_Magnitude.j0 k a1 (Go.bits .or .u8 (Go.bits .or .u8 0 1) 2) t274 (t279 == 0) t283 l0_0 l0_1 a0_2 a0_3) else (flyballref05_Magnitude.j0 k a1 (Go.bits .or .u8 0 1) t274 (t279 == 0) t283 l0_0 l0_1 a0_2 a0_3)))))))) = some (r1, r2) := h
 clear h
 replace H := Option.bind_eq_some_iff.mp H
 obtain ⟨t274, A30, H⟩ := H
 replace H : ((flyballref05_split.f k t274).bind fun bt275 => ((flyballref05_cmp.f k l0_0 l0_1 a0_2 a0_3 bt275.1 bt275.2).bind fun t279 => ((flyballref01_Of.f k (([1] : List Int))).bind fun t283 => (if t279 = 0 then (flyballref05_Magnitude.j0 k a1 0 t274 (t279 == 0) t283 l0_0 l0_1 a0_2 a0_3) else ((flyballref05_cmp.f k l0_0 l0_1 a0_2 a0_3 t283 (-1022)).bind fun t286 => (if t286 < 0 then (flyballref05_Magnitude.j0 k a1 (Go.bits .or .u8 (Go.bits .or .u8 0 1) 2) t274 (t279 == 0) t283 l0_0 l0_1 a0_2 a0_3) else (flyballref05_Magnitude.j0 k a1 (Go.bits .or .u8 0 1) t274 (t279 == 0) t283 l0_0 l0_1 a0_2 a0_3))))))) = some (r1, r2) := H
 have A3 := Aside0.mk A30
 clear A30
 replace H := Option.bind_eq_some_iff.mp H
 obtain ⟨⟨t275, t276⟩, A40, H⟩ := H
 replace H : ((flyballref05_cmp.f k l0_0 l0_1 a0_2 a0_3 t275 t276).bind fun t279 => ((flyballref01_Of.f k (([1] : List Int))).bind fun t283 => (if t279 = 0 then (flyballref05_Magnitude.j0 k a1 0 t274 (t279 == 0) t283 l0_0 l0_1 a0_2 a0_3) else ((flyballref05_cmp.f k l0_0 l0_1 a0_2 a0_3 t283 (-1022)).bind fun t286 => (if t286 < 0 then (flyballref05_Magnitude.j0 k a1 (Go.bits .or .u8 (Go.bits .or .u8 0 1) 2) t274 (t279 == 0) t283 l0_0 l0_1 a0_2 a0_3) else (flyballref05_Magnitude.j0 k a1 (Go.bits .or .u8 0 1) t274 (t279 == 0) t283 l0_0 l0_1 a0_2 a0_3)))))) = some (r1, r2) := H
 have A4 := Aside0.mk A40
 clear A40
 replace H := Option.bind_eq_some_iff.mp H
 obtain ⟨t279, A50, H⟩ := H
 replace H : ((flyballref01_Of.f k (([1] : List Int))).bind fun t283 => (if t279 = 0 then (flyballref05_Magnitude.j0 k a1 0 t274 (t279 == 0) t283 l0_0 l0_1 a0_2 a0_3) else ((flyballref05_cmp.f k l0_0 l0_1 a0_2 a0_3 t283 (-1022)).bind fun t286 => (if t286 < 0 then (flyballref05_Magnitude.j0 k a1 (Go.bits .or .u8 (Go.bits .or .u8 0 1) 2) t274 (t279 == 0) t283 l0_0 l0_1 a0_2 a0_3) else (flyballref05_Magnitude.j0 k a1 (Go.bits .or .u8 0 1) t274 (t279 == 0) t283 l0_0 l0_1 a0_2 a0_3))))) = some (r1, r2) := H
 have A5 := Aside0.mk A50
 clear A50
 obtain ⟨y280, hy280⟩ : ∃ y_ : List Int, y_ = (([1] : List Int)) := ⟨_, rfl⟩
 replace H : ((flyballref01_Of.f k y280).bind fun t283 => (if t279 = 0 then (flyballref05_Magnitude.j0 k a1 0 t274 (t279 == 0) t283 l0_0 l0_1 a0_2 a0_3) else ((flyballref05_cmp.f k l0_0 l0_1 a0_2 a0_3 t283 (-1022)).bind fun t286 => (if t286 < 0 then (flyballref05_Magnitude.j0 k a1 (Go.bits .or .u8 (Go.bits .or .u8 0 1) 2) t274 (t279 == 0) t283 l0_0 l0_1 a0_2 a0_3) else (flyballref05_Magnitude.j0 k a1 (Go.bits .or .u8 0 1) t274 (t279 == 0) t283 l0_0 l0_1 a0_2 a0_3))))) = some (r1, r2) := by first | (rw [hy280]; with_reducible exact H) | (have H2_ := (Option.bind_some _ _).symm.trans H; rw [hy280]; with_reducible exact H2_) | (have H2_ := (Option.bind_some _ _).symm.trans H; with_reducible exact H2_) | with_reducible exact H | (rw [hy280]; exact H) | exact H
 have Ny280 := Aside0.mk hy280
 clear hy280
 replace H := Option.bind_eq_some_iff.mp H
 obtain ⟨t283, A60, H⟩ := H
 replace H : (if t279 = 0 then (flyballref05_Magnitude.j0 k a1 0 t274 (t279 == 0) t283 l0_0 l0_1 a0_2 a0_3) else ((flyballref05_cmp.f k l0_0 l0_1 a0_2 a0_3 t283 (-1022)).bind fun t286 => (if t286 < 0 then (flyballref05_Magnitude.j0 k a1 (Go.bits .or .u8 (Go.bits .or .u8 0 1) 2) t274 (t279 == 0) t283 l0_0 l0_1 a0_2 a0_3) else (flyballref05_Magnitude.j0 k a1 (Go.bits .or .u8 0 1) t274 (t279 == 0) t283 l0_0 l0_1 a0_2 a0_3)))) = some (r1, r2) := H
 have A6 := Aside0.mk A60
 clear A60
 have HC7 := Aside0.mk H
 clear H
 go_enter Try.func90, Try.ntmps90
 go_upto_if 32 with (first | ((with_reducible refine gate_dst (N := 2) rfl ?_); refine box_event ?hg (N := 2) ?hd (cs := #[.slice A0_0 l0_0.length c0_0, .slice A0_1 l0_1.length c0_1, .int .i64 a0_2, .bool a0_3]) (t := 100) ?hr ?_; (case hd => rfl); (case hg => rfl); (case hr => first | (go_simp; done) | (go_simp; rfl)); intro gb273 hg w8 hbox hb; have n0_ := bq_ hb; have n1_ := Aside0.mk (hbox); have n3_ := bz_ hg; clear HB; have HB := n0_; have BK273 := n1_; have GE273 := n3_; clear n0_ n1_ n3_; clear hb hbox hg; have hcz9_0 : w8.cell? ⟨gb273, 0, none⟩ = some (.slice A0_0 l0_0.length c0_0) := (blk_cell BK273.out 0).trans rfl; have hcz9_1 : w8.cell? ⟨gb273, 1, none⟩ = some (.slice A0_1 l0_1.length c0_1) := (blk_cell BK273.out 1).trans rfl; have hcz9_2 : w8.cell? ⟨gb273, 2, none⟩ = some (.int .i64 a0_2) := (blk_cell BK273.out 2).trans rfl; have hcz9_3 : w8.cell? ⟨gb273, 3, none⟩ = some (.bool a0_3) := (blk_cell BK273.out 3).trans rfl; have hfz9_0 := blk_frozen BK273.out 0; have hfz9_1 := blk_frozen BK273.out 1; have hfz9_2 := blk_frozen BK273.out 2; have hfz9_3 := blk_frozen BK273.out 3) | ((with_reducible refine gc_ 108 rfl ?_); refine gM_ (some 18) Try.func108 [.agg #[.slice A0_0 l0_0.length c0_0, .slice A0_1 l0_1.length c0_1, .int .i64 a0_2, .bool a0_3]] ?_; (with_reducible refine (flyballref05_floor.calls k _ _ l0_0 _ _ l0_1 a0_2 a0_3 t274 _ ?side1 ?side2 ?side3 ?side4 A3.out).mono ?_); (case side1 => exact ch_ HR0_0.out); (case side2 => exact HC0_0.out); (case side3 => exact ch_ HR0_1.out); (case side4 => exact HC0_1.out); rintro e w10 ⟨rfl, hb⟩; refine ⟨_, rfl, ?_⟩; replace BK273 := Aside0.mk (blk_below (g := gb273) (o := .cells #[.slice A0_0 l0_0.length c0_0, .slice A0_1 l0_1.length c0_1, .int .i64 a0_2, .bool a0_3] 100 (0, 0)) (by (with_reducible repeat (first | apply kn_ | apply kd_ | apply ka_)); exact BK273.out) hb); replace HB := bq_ hb) | ((with_reducible refine gc_ 109 rfl ?_); refine gM_ (some 21) Try.func109 [.int .i64 t274] ?_; (with_reducible refine (flyballref05_split.calls k t274 t275 t276 _ A4.out).mono ?_); rintro e w11 ⟨v277, rfl, ho0, hb⟩; refine ⟨_, rfl, ?_⟩; have HO278 := Aside0.mk (Kd.R_lower ho0 (below_size bh_)); replace BK273 := Aside0.mk (blk_below (g := gb273) (o := .cells #[.slice A0_0 l0_0.length c0_0, .slice A0_1 l0_1.length c0_1, .int .i64 a0_2, .bool a0_3] 100 (0, 0)) (by (with_reducible repeat (first | apply kn_ | apply kd_ | apply ka_)); exact BK273.out) hb); replace HB := bq_ hb; skip; have hcz12_0 : w11.cell? ⟨gb273, 0, none⟩ = some (.slice A0_0 l0_0.length c0_0) := (blk_cell BK273.out 0).trans rfl; have hcz12_1 : w11.cell? ⟨gb273, 1, none⟩ = some (.slice A0_1 l0_1.length c0_1) := (blk_cell BK273.out 1).trans rfl; have hcz12_2 : w11.cell? ⟨gb273, 2, none⟩ = some (.int .i64 a0_2) := (blk_cell BK273.out 2).trans rfl; have hcz12_3 : w11.cell? ⟨gb273, 3, none⟩ = some (.bool a0_3) := (blk_cell BK273.out 3).trans rfl; have hfz12_0 := blk_frozen BK273.out 0; have hfz12_1 := blk_frozen BK273.out 1; have hfz12_2 := blk_frozen BK273.out 2; have hfz12_3 := blk_frozen BK273.out 3; obtain ⟨Ao13, co13, eo13⟩ := Kd.R_slice HO278.out; subst eo13) | ((with_reducible refine gc_ 110 rfl ?_); refine gM_ (some 27) Try.func110 [.agg #[.slice A0_0 l0_0.length c0_0, .slice A0_1 l0_1.length c0_1, .int .i64 a0_2, .bool a0_3], .slice Ao13 t275.length co13, .int .i64 t276] ?_; (with_reducible refine (flyballref05_cmp.calls k _ _ l0_0 _ _ l0_1 a0_2 a0_3 _ _ t275 t276 t279 _ ?side1 ?side2 ?side3 ?side4 ?side5 ?side6 A5.out).mono ?_); (case side1 => exact ch_ HR0_0.out); (case side2 => exact HC0_0.out); (case side3 => exact ch_ HR0_1.out); (case side4 => exact HC0_1.out); (case side5 => repeat first | exact (Kd.R_reads' HO278.out).2.2 | with_reducible first | apply ca_ | apply cn_ | apply cd_); (case side6 => exact (Kd.R_reads' HO278.out).2.1); rintro e w14 ⟨rfl, hb⟩; refine ⟨_, rfl, ?_⟩; replace HO278 := Aside0.mk (Kd.R_below (by (with_reducible repeat (first | apply ra_ | apply rn_ | apply rd_)); exact HO278.out) hb); replace BK273 := Aside0.mk (blk_below (g := gb273) (o := .cells #[.slice A0_0 l0_0.length c0_0, .slice A0_1 l0_1.length c0_1, .int .i64 a0_2, .bool a0_3] 100 (0, 0)) (by (with_reducible repeat (first | apply kn_ | apply kd_ | apply ka_)); exact BK273.out) hb); replace HB := bq_ hb) | ((with_reducible refine gate_dst (N := 29) rfl ?_); refine Kd.R_lit (Kd.int .u64) _ 24 ?hg (N := 29) ?hd (xs := ([1] : List Int)) (inner := [.int .u64 1]) (ok := fun _ => True) (okp := fun _ => True) ?hr ?hp (fun _ hk => hk) trivial (Below.refl _ _) (Nat.le_refl _) (by simp) ?_; (case hd => rfl); (case hg => rfl); (case hr => first | (go_simp; done) | (go_simp; rfl)); (case hp => exact (Reps.one (show Kd.M (Kd.int .u64) _ _ _ 1 [.int .u64 1] from rfl) (Reps.none _ _))); intro v281 w15 ho16 hb hg_ hnew_; clear hg_ hnew_; (first | rw [← Ny280.out] at ho16 | (simp only [Int.reduceToNat] at ho16; rw [← Ny280.out] at ho16)); replace HO278 := Aside0.mk (Kd.R_below (by (with_reducible repeat (first | apply ra_ | apply rn_ | apply rd_)); exact HO278.out) hb); have HO282 := Aside0.mk (Kd.R_lower ho16 (below_size bh_)); replace BK273 := Aside0.mk (blk_below (g := gb273) (o := .cells #[.slice A0_0 l0_0.length c0_0, .slice A0_1 l0_1.length c0_1, .int .i64 a0_2, .bool a0_3] 100 (0, 0)) (by (with_reducible repeat (first | apply kn_ | apply kd_ | apply ka_)); exact BK273.out) hb); replace HB := bq_ hb; clear hb ho16; obtain ⟨Ao17, co17, eo17⟩ := Kd.R_slice HO282.out; subst eo17) | ((with_reducible refine gc_ 25 rfl ?_); refine gM_ (some 30) Try.func25 [.slice Ao17 y280.length co17] ?_; (with_reducible refine (flyballref01_Of.calls k _ _ y280 t283 _ ?side1 ?side2 A6.out).mono ?_); (case side1 => repeat first | exact (Kd.R_reads' HO282.out).2.2 | with_reducible first | apply ca_ | apply cn_ | apply cd_); (case side2 => exact (Kd.R_reads' HO282.out).2.1); rintro e w18 ⟨v284, rfl, ho0, hb⟩; refine ⟨_, rfl, ?_⟩; have HO285 := Aside0.mk (Kd.R_lower (Kd.R_new' ho0 (Kd.R_lt (by (with_reducible repeat (first | apply ra_ | apply rn_ | apply rd_)); exact HO278.out))) (below_size bh_)); replace BK273 := Aside0.mk (blk_below (g := gb273) (o := .cells #[.slice A0_0 l0_0.length c0_0, .slice A0_1 l0_1.length c0_1, .int .i64 a0_2, .bool a0_3] 100 (0, 0)) (by (with_reducible repeat (first | apply kn_ | apply kd_ | apply ka_)); exact BK273.out) hb); replace HB := bq_ hb))
 (try simp only [Act.put, List.setIfInBounds_toArray, List.set_cons_zero, List.set_cons_succ])
 obtain ⟨b10, hb10⟩ : ∃ b : Bool, (t279 == 0) = b := ⟨_, rfl⟩
 rw [hb10] at HC7
 (try simp only [hb10])
 go_cut [6] (fun v6 wc => ∃ (kq : Nat) (x6_6 : Int), v6 = .int .u8 x6_6 ∧ Aside0 (flyballref05_Magnitude.j0 kq a1 x6_6 t274 b10 t283 l0_0 l0_1 a0_2 a0_3 = some (r1, r2)) ∧ Aside0 (kq ≤ k) ∧ Aside0 (Kd.R Kd.bool 4 wc w.heap.size (fun _ => True) v284 t283) ∧ Aside0 (wc.heap[gb273]? = some (.cells #[(.slice A0_0 l0_0.length c0_0), (.slice A0_1 l0_1.length c0_1), .int .i64 a0_2, .bool a0_3] 100 (0, 0))) ∧ Aside0 (Below w.heap.size w wc))
 case first =>
  have H := HC7.out
  clear HC7
  have HH1_ := Aside0.mk H
  clear H
  have hcz22_0 : w18.cell? ⟨gb273, 0, none⟩ = some (.slice A0_0 l0_0.length c0_0) := (blk_cell BK273.out 0).trans rfl
  have hcz22_1 : w18.cell? ⟨gb273, 1, none⟩ = some (.slice A0_1 l0_1.length c0_1) := (blk_cell BK273.out 1).trans rfl
  have hcz22_2 : w18.cell? ⟨gb273, 2, none⟩ = some (.int .i64 a0_2) := (blk_cell BK273.out 2).trans rfl
  have hcz22_3 : w18.cell? ⟨gb273, 3, none⟩ = some (.bool a0_3) := (blk_cell BK273.out 3).trans rfl
  obtain ⟨Ao23, co23, eo23⟩ := Kd.R_slice HO285.out
  subst eo23
  have H := HH1_.out
  clear HH1_
  by_cases c19 : t279 = 0
  case pos =>
   rw [if_pos c19] at H
   have c19b0 : (t279 == 0) = true := beq_iff_eq.mpr c19
   rw [hb10] at c19b0
   have c19b1 : (t279 != 0) = false := bne_eq_false_iff_eq.mpr c19
   subst c19b0
   clear c19
   (first | rw [c19b0] | (simp only [i64_w, i32_w]; rw [c19b0]) | skip)
   have H' := Aside0.mk H
   clear H
   go_wp2
   go_meet
   case rel => exact ⟨_, (0), (sh_), H', ⟨by first | omega | exact Nat.le_refl _⟩, ⟨by (with_reducible repeat (first | apply ra_ | apply rn_ | apply rd_)); exact Kd.R_mono HO285.out (fun _ hk => trivial)⟩, ⟨by (with_reducible repeat (first | apply kn_ | apply kd_ | apply ka_)); exact BK273.out⟩, ⟨bh_⟩⟩
  rw [if_neg c19] at H
  have c19b0 : (t279 == 0) = false := beq_eq_false_iff_ne.mpr c19
  rw [hb10] at c19b0
  have c19b1 : (t279 != 0) = true := bne_iff_ne.mpr c19
  subst c19b0
  (first | rw [c19b0] | (simp only [i64_w, i32_w]; rw [c19b0]) | skip)
  replace H := Option.bind_eq_some_iff.mp H
  obtain ⟨t286, A200, H⟩ := H
  replace H : (if t286 < 0 then (flyballref05_Magnitude.j0 k a1 (Go.bits .or .u8 (Go.bits .or .u8 0 1) 2) t274 false t283 l0_0 l0_1 a0_2 a0_3) else (flyballref05_Magnitude.j0 k a1 (Go.bits .or .u8 0 1) t274 false t283 l0_0 l0_1 a0_2 a0_3)) = some (r1, r2) := H
  have A20 := Aside0.mk A200
  clear A200
  by_cases c21 : t286 < 0
  case neg =>
   rw [if_neg c21] at H
   have c21b0 : decide (t286 < 0) = false := decide_eq_false c21
   clear c21
   have H' := Aside0.mk H
   clear H
   (try simp only [c19b0, c19b1, c21b0])
   go_wp2_with (first | ((with_reducible refine gc_ 110 rfl ?_); refine gM_ (some 37) Try.func110 [.agg #[.slice A0_0 l0_0.length c0_0, .slice A0_1 l0_1.length c0_1, .int .i64 a0_2, .bool a0_3], .slice Ao23 t283.length co23, .int .i64 (-1022)] ?_; (with_reducible refine (flyballref05_cmp.calls k _ _ l0_0 _ _ l0_1 a0_2 a0_3 _ _ t283 (-1022) t286 _ ?side1 ?side2 ?side3 ?side4 ?side5 ?side6 A20.out).mono ?_); (case side1 => exact ch_ HR0_0.out); (case side2 => exact HC0_0.out); (case side3 => exact ch_ HR0_1.out); (case side4 => exact HC0_1.out); (case side5 => repeat first | exact (Kd.R_reads' HO285.out).2.2 | with_reducible first | apply ca_ | apply cn_ | apply cd_); (case side6 => exact (Kd.R_reads' HO285.out).2.1); rintro e w27 ⟨rfl, hb⟩; refine ⟨_, rfl, ?_⟩; replace HO285 := Aside0.mk (Kd.R_below (by (with_reducible repeat (first | apply ra_ | apply rn_ | apply rd_)); exact HO285.out) hb); replace BK273 := Aside0.mk (blk_below (g := gb273) (o := .cells #[.slice A0_0 l0_0.length c0_0, .slice A0_1 l0_1.length c0_1, .int .i64 a0_2, .bool a0_3] 100 (0, 0)) (by (with_reducible repeat (first | apply kn_ | apply kd_ | apply ka_)); exact BK273.out) hb); replace HB := bq_ hb))
   go_meet
   case rel => exact ⟨_, (Go.bits .or .u8 0 1), (sh_), H', ⟨by first | omega | exact Nat.le_refl _⟩, ⟨by (with_reducible repeat (first | apply ra_ | apply rn_ | apply rd_)); exact Kd.R_mono HO285.out (fun _ hk => trivial)⟩, ⟨by (with_reducible repeat (first | apply kn_ | apply kd_ | apply ka_)); exact BK273.out⟩, ⟨bh_⟩⟩
  rw [if_pos c21] at H
  have c21b0 : decide (t286 < 0) = true := decide_eq_true c21
  clear c21
  have H' := Aside0.mk H
  clear H
  (try simp only [c19b0, c19b1, c21b0])
  go_wp2_with (first | ((with_reducible refine gc_ 110 rfl ?_); refine gM_ (some 37) Try.func110 [.agg #[.slice A0_0 l0_0.length c0_0, .slice A0_1 l0_1.length c0_1, .int .i64 a0_2, .bool a0_3], .slice Ao23 t283.length co23, .int .i64 (-1022)] ?_; (with_reducible refine (flyballref05_cmp.calls k _ _ l0_0 _ _ l0_1 a0_2 a0_3 _ _ t283 (-1022) t286 _ ?side1 ?side2 ?side3 ?side4 ?side5 ?side6 A20.out).mono ?_); (case side1 => exact ch_ HR0_0.out); (case side2 => exact HC0_0.out); (case side3 => exact ch_ HR0_1.out); (case side4 => exact HC0_1.out); (case side5 => repeat first | exact (Kd.R_reads' HO285.out).2.2 | with_reducible first | apply ca_ | apply cn_ | apply cd_); (case side6 => exact (Kd.R_reads' HO285.out).2.1); rintro e w24 ⟨rfl, hb⟩; refine ⟨_, rfl, ?_⟩; replace HO285 := Aside0.mk (Kd.R_below (by (with_reducible repeat (first | apply ra_ | apply rn_ | apply rd_)); exact HO285.out) hb); replace BK273 := Aside0.mk (blk_below (g := gb273) (o := .cells #[.slice A0_0 l0_0.length c0_0, .slice A0_1 l0_1.length c0_1, .int .i64 a0_2, .bool a0_3] 100 (0, 0)) (by (with_reducible repeat (first | apply kn_ | apply kd_ | apply ka_)); exact BK273.out) hb); replace HB := bq_ hb))
  go_meet
  case rel => exact ⟨_, (Go.bits .or .u8 (Go.bits .or .u8 0 1) 2), (sh_), H', ⟨by first | omega | exact Nat.le_refl _⟩, ⟨by (with_reducible repeat (first | apply ra_ | apply rn_ | apply rd_)); exact Kd.R_mono HO285.out (fun _ hk => trivial)⟩, ⟨by (with_reducible repeat (first | apply kn_ | apply kd_ | apply ka_)); exact BK273.out⟩, ⟨bh_⟩⟩
 case rest =>
  clear HC7
  try clear c1
  try clear c2
  try clear p2
  try clear c9
  try clear c10
  try clear c11
  try clear c19
  try clear c19b0
  try clear c19b1
  try clear c21
  try clear c21b0
  try clear c25
  try clear hcz12_0
  try clear hcz12_1
  try clear hcz12_2
  try clear hcz12_3
  try clear hcz22_0
  try clear hcz22_1
  try clear hcz22_2
  try clear hcz22_3
  try clear hcz25_0
  try clear hcz25_1
  try clear hcz25_2
  try clear hcz25_3
  try clear hcz9_0
  try clear hcz9_1
  try clear hcz9_2
  try clear hcz9_3
  try clear hfz12_0
  try clear hfz12_1
  try clear hfz12_2
  try clear hfz12_3
  try clear hfz25_0
  try clear hfz25_1
  try clear hfz25_2
  try clear hfz25_3
  try clear hfz9_0
  try clear hfz9_1
  try clear hfz9_2
  try clear hfz9_3
  obtain ⟨kq, x6_6, rfl, HA, HJ6, HO_11, BK273, HB⟩ := hcut
  cases kq with
  | zero => exact absurd HA.out (by simp [flyballref05_Magnitude.j0])
  | succ kj6 =>
   have H := HA.out
   clear HA
   simp only [flyballref05_Magnitude.j0] at H
   have HC28 := Aside0.mk H
   clear H
   go_upto_if 42 with (fail)
   go_cut [12] (fun v12 wc => ∃ (kq : Nat) (x12_27 : Bool), v12 = .bool x12_27 ∧ Aside0 (flyballref05_Magnitude.j1 kq a1 x6_6 t274 x12_27 = some (r1, r2)) ∧ Aside0 (kq ≤ kj6) ∧ Aside0 (wc.heap[gb273]? = some (.cells #[(.slice A0_0 l0_0.length c0_0), (.slice A0_1 l0_1.length c0_1), .int .i64 a0_2, .bool a0_3] 100 (0, 0))) ∧ Aside0 (Below w.heap.size w wc))
   case first =>
    have H := HC28.out
    clear HC28
    by_cases c29 : a1 = 1
    case pos =>
     rw [if_pos c29] at H
     have c29b0 : (a1 == 1) = true := beq_iff_eq.mpr c29
     have c29b1 : (a1 != 1) = false := bne_eq_false_iff_eq.mpr c29
     clear c29
     (first | rw [c29b0] | (simp only [i64_w, i32_w]; rw [c29b0]) | skip)
     have H' := Aside0.mk H
     clear H
     go_wp2
     go_meet
     case rel => exact ⟨_, (!b10), (sh_), H', ⟨by have := HJ6.out; first | omega | exact Nat.le_refl _⟩, ⟨by (with_reducible repeat (first | apply kn_ | apply kd_ | apply ka_)); exact BK273.out⟩, ⟨bh_⟩⟩
    rw [if_neg c29] at H
    have c29b0 : (a1 == 1) = false := beq_eq_false_iff_ne.mpr c29
    have c29b1 : (a1 != 1) = true := bne_iff_ne.mpr c29
    (first | rw [c29b0] | (simp only [i64_w, i32_w]; rw [c29b0]) | skip)
    by_cases c30 : a1 = 2
    case pos =>
     rw [if_pos c30] at H
     have c30b0 : (a1 == 2) = true := beq_iff_eq.mpr c30
     have c30b1 : (a1 != 2) = false := bne_eq_false_iff_eq.mpr c30
     clear c30
     have H' := Aside0.mk H
     clear H
     go_wp2
     go_meet
     case rel => exact ⟨_, (false), (sh_), H', ⟨by have := HJ6.out; first | omega | exact Nat.le_refl _⟩, ⟨by (with_reducible repeat (first | apply kn_ | apply kd_ | apply ka_)); exact BK273.out⟩, ⟨bh_⟩⟩
    rw [if_neg c30] at H
    have c30b0 : (a1 == 2) = false := beq_eq_false_iff_ne.mpr c30
    have c30b1 : (a1 != 2) = true := bne_iff_ne.mpr c30
    replace H := Option.bind_eq_some_iff.mp H
    obtain ⟨⟨t287, t288⟩, A310, H⟩ := H
    replace H : (if t274 > 9218868437227405311 then ((flyballref05_split.f kj6 9218868437227405311).bind fun bt291 => ((flyballref01_Add.f kj6 bt291.1 t283).bind fun t295 => ((flyballref01_Shl.f kj6 t295 1).bind fun t298 => ((flyballref01_Add.f kj6 t298 t283).bind fun t301 => ((flyballref05_cmp.f kj6 l0_0 l0_1 a0_2 a0_3 t301 (wrap64 (bt291.2 - 1))).bind fun t304 => (if t304 > 0 then (flyballref05_Magnitude.j1 kj6 a1 x6_6 t274 true) else (if t304 = 0 then (flyballref05_Magnitude.j1 kj6 a1 x6_6 t274 ((Int.tmod t274 2) == 1)) else (flyballref05_Magnitude.j1 kj6 a1 x6_6 t274 false)))))))) else ((flyballref01_Shl.f kj6 t287 1).bind fun t305 => ((flyballref01_Add.f kj6 t305 t283).bind fun t308 => ((flyballref05_cmp.f kj6 l0_0 l0_1 a0_2 a0_3 t308 (wrap64 (t288 - 1))).bind fun t311 => (if t311 > 0 then (flyballref05_Magnitude.j1 kj6 a1 x6_6 t274 true) else (if t311 = 0 then (flyballref05_Magnitude.j1 kj6 a1 x6_6 t274 ((Int.tmod t274 2) == 1)) else (flyballref05_Magnitude.j1 kj6 a1 x6_6 t274 false))))))) = some (r1, r2) := H
    have A31 := Aside0.mk A310
    clear A310
    by_cases c32 : t274 > 9218868437227405311
    case neg =>
     rw [if_neg c32] at H
     have c32b0 : decide (9218868437227405311 < t274) = false := decide_eq_false c32
     clear c32
     replace H := Option.bind_eq_some_iff.mp H
     obtain ⟨t305, A760, H⟩ := H
     replace H : ((flyballref01_Add.f kj6 t305 t283).bind fun t308 => ((flyballref05_cmp.f kj6 l0_0 l0_1 a0_2 a0_3 t308 (wrap64 (t288 - 1))).bind fun t311 => (if t311 > 0 then (flyballref05_Magnitude.j1 kj6 a1 x6_6 t274 true) else (if t311 = 0 then (flyballref05_Magnitude.j1 kj6 a1 x6_6 t274 ((Int.tmod t274 2) == 1)) else (flyballref05_Magnitude.j1 kj6 a1 x6_6 t274 false))))) = some (r1, r2) := H
     have A76 := Aside0.mk A760
     clear A760
     replace H := Option.bind_eq_some_iff.mp H
     obtain ⟨t308, A770, H⟩ := H
     replace H : ((flyballref05_cmp.f kj6 l0_0 l0_1 a0_2 a0_3 t308 (wrap64 (t288 - 1))).bind fun t311 => (if t311 > 0 then (flyballref05_Magnitude.j1 kj6 a1 x6_6 t274 true) else (if t311 = 0 then (flyballref05_Magnitude.j1 kj6 a1 x6_6 t274 ((Int.tmod t274 2) == 1)) else (flyballref05_Magnitude.j1 kj6 a1 x6_6 t274 false)))) = some (r1, r2) := H
     have A77 := Aside0.mk A770
     clear A770
     replace H := Option.bind_eq_some_iff.mp H
     obtain ⟨t311, A780, H⟩ := H
     replace H : (if t311 > 0 then (flyballref05_Magnitude.j1 kj6 a1 x6_6 t274 true) else (if t311 = 0 then (flyballref05_Magnitude.j1 kj6 a1 x6_6 t274 ((Int.tmod t274 2) == 1)) else (flyballref05_Magnitude.j1 kj6 a1 x6_6 t274 false))) = some (r1, r2) := H
     have A78 := Aside0.mk A780
     clear A780
     by_cases c79 : t311 > 0
     case pos =>
      rw [if_pos c79] at H
      have c79b0 : decide (0 < t311) = true := decide_eq_true c79
      clear c79
      have H' := Aside0.mk H
      clear H
      go_wp2_with (first | ((with_reducible refine gc_ 109 rfl ?_); refine gM_ (some 49) Try.func109 [.int .i64 t274] ?_; (with_reducible refine (flyballref05_split.calls kj6 t274 t287 t288 _ A31.out).mono ?_); rintro e w80 ⟨v289, rfl, ho0, hb⟩; refine ⟨_, rfl, ?_⟩; have n0_ := Aside0.mk (Kd.R_elder' (by (with_reducible repeat (first | apply ra_ | apply rn_ | apply rd_)); exact HO_11.out) (Kd.R_base ho0) hb); have n1_ := Aside0.mk (Kd.R_lower (Kd.R_new' ho0 (Kd.R_lt (by (with_reducible repeat (first | apply ra_ | apply rn_ | apply rd_)); exact HO_11.out))) (below_size bh_)); have n2_ := Aside0.mk (blk_below (g := gb273) (o := .cells #[.slice A0_0 l0_0.length c0_0, .slice A0_1 l0_1.length c0_1, .int .i64 a0_2, .bool a0_3] 100 (0, 0)) (by (with_reducible repeat (first | apply kn_ | apply kd_ | apply ka_)); exact BK273.out) hb); have n3_ := bq_ hb; clear HO_11 BK273 HB; have HO_11 := n0_; have HO290 := n1_; have BK273 := n2_; have HB := n3_; clear n0_ n1_ n2_ n3_; skip; obtain ⟨Ao81, co81, eo81⟩ := Kd.R_slice HO290.out; subst eo81) | ((with_reducible refine gc_ 47 rfl ?_); refine gM_ (some 62) Try.func47 [.slice Ao81 t287.length co81, .int .i64 1] ?_; (with_reducible refine (flyballref01_Shl.calls kj6 _ _ t287 1 t305 _ ?side1 ?side2 A76.out).mono ?_); (case side1 => repeat first | exact (Kd.R_reads' HO290.out).2.2 | with_reducible first | apply ca_ | apply cn_ | apply cd_); (case side2 => exact (Kd.R_reads' HO290.out).2.1); rintro e w82 ⟨v306, rfl, ho0, hb⟩; refine ⟨_, rfl, ?_⟩; have n0_ := Aside0.mk (Kd.R_elder' (by (with_reducible repeat (first | apply ra_ | apply rn_ | apply rd_)); exact HO_11.out) (Kd.R_base ho0) hb); have n1_ := Aside0.mk (Kd.R_elder' (by (with_reducible repeat (first | apply ra_ | apply rn_ | apply rd_)); exact HO290.out) (Kd.R_base ho0) hb); have n2_ := Aside0.mk (Kd.R_lower (Kd.R_new' (Kd.R_new' ho0 (Kd.R_lt (by (with_reducible repeat (first | apply ra_ | apply rn_ | apply rd_)); exact HO_11.out))) (Kd.R_lt (by (with_reducible repeat (first | apply ra_ | apply rn_ | apply rd_)); exact HO290.out))) (below_size bh_)); have n3_ := Aside0.mk (blk_below (g := gb273) (o := .cells #[.slice A0_0 l0_0.length c0_0, .slice A0_1 l0_1.length c0_1, .int .i64 a0_2, .bool a0_3] 100 (0, 0)) (by (with_reducible repeat (first | apply kn_ | apply kd_ | apply ka_)); exact BK273.out) hb); have n4_ := bq_ hb; clear HO_11 HO290 BK273 HB; have HO_11 := n0_; have HO290 := n1_; have HO307 := n2_; have BK273 := n3_; have HB := n4_; clear n0_ n1_ n2_ n3_ n4_; skip; obtain ⟨Ao83, co83, eo83⟩ := Kd.R_slice HO307.out; subst eo83; obtain ⟨Ao84, co84, eo84⟩ := Kd.R_slice HO_11.out; subst eo84) | ((with_reducible refine gc_ 54 rfl ?_); refine gM_ (some 64) Try.func54 [.slice Ao83 t305.length co83, .slice Ao84 t283.length co84] ?_; (with_reducible refine (flyballref01_Add.calls kj6 _ _ t305 _ _ t283 t308 _ ?side1 ?side2 ?side3 ?side4 A77.out).mono ?_); (case side1 => repeat first | exact (Kd.R_reads' HO307.out).2.2 | with_reducible first | apply ca_ | apply cn_ | apply cd_); (case side2 => exact (Kd.R_reads' HO307.out).2.1); (case side3 => repeat first | exact (Kd.R_reads' HO_11.out).2.2 | with_reducible first | apply ca_ | apply cn_ | apply cd_); (case side4 => exact (Kd.R_reads' HO_11.out).2.1); rintro e w85 ⟨v309, rfl, ho0, hb⟩; refine ⟨_, rfl, ?_⟩; have n0_ := Aside0.mk (Kd.R_elder' (by (with_reducible repeat (first | apply ra_ | apply rn_ | apply rd_)); exact HO_11.out) (Kd.R_base ho0) hb); have n1_ := Aside0.mk (Kd.R_elder' (by (with_reducible repeat (first | apply ra_ | apply rn_ | apply rd_)); exact HO290.out) (Kd.R_base ho0) hb); have n2_ := Aside0.mk (Kd.R_elder' (by (with_reducible repeat (first | apply ra_ | apply rn_ | apply rd_)); exact HO307.out) (Kd.R_base ho0) hb); have n3_ := Aside0.mk (Kd.R_lower (Kd.R_new' (Kd.R_new' (Kd.R_new' ho0 (Kd.R_lt (by (with_reducible repeat (first | apply ra_ | apply rn_ | apply rd_)); exact HO_11.out))) (Kd.R_lt (by (with_reducible repeat (first | apply ra_ | apply rn_ | apply rd_)); exact HO290.out))) (Kd.R_lt (by (with_reducible repeat (first | apply ra_ | apply rn_ | apply rd_)); exact HO307.out))) (below_size bh_)); have n4_ := Aside0.mk (blk_below (g := gb273) (o := .cells #[.slice A0_0 l0_0.length c0_0, .slice A0_1 l0_1.length c0_1, .int .i64 a0_2, .bool a0_3] 100 (0, 0)) (by (with_reducible repeat (first | apply kn_ | apply kd_ | apply ka_)); exact BK273.out) hb); have n5_ := bq_ hb; clear HO_11 HO290 HO307 BK273 HB; have HO_11 := n0_; have HO290 := n1_; have HO307 := n2_; have HO310 := n3_; have BK273 := n4_; have HB := n5_; clear n0_ n1_ n2_ n3_ n4_ n5_; skip; have hcz86_0 : w85.cell? ⟨gb273, 0, none⟩ = some (.slice A0_0 l0_0.length c0_0) := (blk_cell BK273.out 0).trans rfl; have hcz86_1 : w85.cell? ⟨gb273, 1, none⟩ = some (.slice A0_1 l0_1.length c0_1) := (blk_cell BK273.out 1).trans rfl; have hcz86_2 : w85.cell? ⟨gb273, 2, none⟩ = some (.int .i64 a0_2) := (blk_cell BK273.out 2).trans rfl; have hcz86_3 : w85.cell? ⟨gb273, 3, none⟩ = some (.bool a0_3) := (blk_cell BK273.out 3).trans rfl; have hfz86_0 := blk_frozen BK273.out 0; have hfz86_1 := blk_frozen BK273.out 1; have hfz86_2 := blk_frozen BK273.out 2; have hfz86_3 := blk_frozen BK273.out 3; obtain ⟨Ao87, co87, eo87⟩ := Kd.R_slice HO310.out; subst eo87) | ((with_reducible refine gc_ 110 rfl ?_); refine gM_ (some 69) Try.func110 [.agg #[.slice A0_0 l0_0.length c0_0, .slice A0_1 l0_1.length c0_1, .int .i64 a0_2, .bool a0_3], .slice Ao87 t308.length co87, .int .i64 (wrap64 (t288 - 1))] ?_; (with_reducible refine (flyballref05_cmp.calls kj6 _ _ l0_0 _ _ l0_1 a0_2 a0_3 _ _ t308 (wrap64 (t288 - 1)) t311 _ ?side1 ?side2 ?side3 ?side4 ?side5 ?side6 A78.out).mono ?_); (case side1 => exact ch_ HR0_0.out); (case side2 => exact HC0_0.out); (case side3 => exact ch_ HR0_1.out); (case side4 => exact HC0_1.out); (case side5 => repeat first | exact (Kd.R_reads' HO310.out).2.2 | with_reducible first | apply ca_ | apply cn_ | apply cd_); (case side6 => exact (Kd.R_reads' HO310.out).2.1); rintro e w88 ⟨rfl, hb⟩; refine ⟨_, rfl, ?_⟩; replace HO_11 := Aside0.mk (Kd.R_below (by (with_reducible repeat (first | apply ra_ | apply rn_ | apply rd_)); exact HO_11.out) hb); replace HO290 := Aside0.mk (Kd.R_below (by (with_reducible repeat (first | apply ra_ | apply rn_ | apply rd_)); exact HO290.out) hb); replace HO307 := Aside0.mk (Kd.R_below (by (with_reducible repeat (first | apply ra_ | apply rn_ | apply rd_)); exact HO307.out) hb); replace HO310 := Aside0.mk (Kd.R_below (by (with_reducible repeat (first | apply ra_ | apply rn_ | apply rd_)); exact HO310.out) hb); replace BK273 := Aside0.mk (blk_below (g := gb273) (o := .cells #[.slice A0_0 l0_0.length c0_0, .slice A0_1 l0_1.length c0_1, .int .i64 a0_2, .bool a0_3] 100 (0, 0)) (by (with_reducible repeat (first | apply kn_ | apply kd_ | apply ka_)); exact BK273.out) hb); replace HB := bq_ hb))
      go_meet
      case rel => exact ⟨_, (true), (sh_), H', ⟨by have := HJ6.out; first | omega | exact Nat.le_refl _⟩, ⟨by (with_reducible repeat (first | apply kn_ | apply kd_ | apply ka_)); exact BK273.out⟩, ⟨bh_⟩⟩
     rw [if_neg c79] at H
     have c79b0 : decide (0 < t311) = false := decide_eq_false c79
     clear c79
     by_cases c89 : t311 = 0
     case neg =>
      rw [if_neg c89] at H
      have c89b0 : (t311 == 0) = false := beq_eq_false_iff_ne.mpr c89
      have c89b1 : (t311 != 0) = true := bne_iff_ne.mpr c89
      have H' := Aside0.mk H
      clear H
      go_wp2_with (first | ((with_reducible refine gc_ 109 rfl ?_); refine gM_ (some 49) Try.func109 [.int .i64 t274] ?_; (with_reducible refine (flyballref05_split.calls kj6 t274 t287 t288 _ A31.out).mono ?_); rintro e w99 ⟨v289, rfl, ho0, hb⟩; refine ⟨_, rfl, ?_⟩; have n0_ := Aside0.mk (Kd.R_elder' (by (with_reducible repeat (first | apply ra_ | apply rn_ | apply rd_)); exact HO_11.out) (Kd.R_base ho0) hb); have n1_ := Aside0.mk (Kd.R_lower (Kd.R_new' ho0 (Kd.R_lt (by (with_reducible repeat (first | apply ra_ | apply rn_ | apply rd_)); exact HO_11.out))) (below_size bh_)); have n2_ := Aside0.mk (blk_below (g := gb273) (o := .cells #[.slice A0_0 l0_0.length c0_0, .slice A0_1 l0_1.length c0_1, .int .i64 a0_2, .bool a0_3] 100 (0, 0)) (by (with_reducible repeat (first | apply kn_ | apply kd_ | apply ka_)); exact BK273.out) hb); have n3_ := bq_ hb; clear HO_11 BK273 HB; have HO_11 := n0_; have HO290 := n1_; have BK273 := n2_; have HB := n3_; clear n0_ n1_ n2_ n3_; skip; obtain ⟨Ao100, co100, eo100⟩ := Kd.R_slice HO290.out; subst eo100) | ((with_reducible refine gc_ 47 rfl ?_); refine gM_ (some 62) Try.func47 [.slice Ao100 t287.length co100, .int .i64 1] ?_; (with_reducible refine (flyballref01_Shl.calls kj6 _ _ t287 1 t305 _ ?side1 ?side2 A76.out).mono ?_); (case side1 => repeat first | exact (Kd.R_reads' HO290.out).2.2 | with_reducible first | apply ca_ | apply cn_ | apply cd_); (case side2 => exact (Kd.R_reads' HO290.out).2.1); rintro e w101 ⟨v306, rfl, ho0, hb⟩; refine ⟨_, rfl, ?_⟩; have n0_ := Aside0.mk (Kd.R_elder' (by (with_reducible repeat (first | apply ra_ | apply rn_ | apply rd_)); exact HO_11.out) (Kd.R_base ho0) hb); have n1_ := Aside0.mk (Kd.R_elder' (by (with_reducible repeat (first | apply ra_ | apply rn_ | apply rd_)); exact HO290.out) (Kd.R_base ho0) hb); have n2_ := Aside0.mk (Kd.R_lower (Kd.R_new' (Kd.R_new' ho0 (Kd.R_lt (by (with_reducible repeat (first | apply ra_ | apply rn_ | apply rd_)); exact HO_11.out))) (Kd.R_lt (by (with_reducible repeat (first | apply ra_ | apply rn_ | apply rd_)); exact HO290.out))) (below_size bh_)); have n3_ := Aside0.mk (blk_below (g := gb273) (o := .cells #[.slice A0_0 l0_0.length c0_0, .slice A0_1 l0_1.length c0_1, .int .i64 a0_2, .bool a0_3] 100 (0, 0)) (by (with_reducible repeat (first | apply kn_ | apply kd_ | apply ka_)); exact BK273.out) hb); have n4_ := bq_ hb; clear HO_11 HO290 BK273 HB; have HO_11 := n0_; have HO290 := n1_; have HO307 := n2_; have BK273 := n3_; have HB := n4_; clear n0_ n1_ n2_ n3_ n4_; skip; obtain ⟨Ao102, co102, eo102⟩ := Kd.R_slice HO307.out; subst eo102; obtain ⟨Ao103, co103, eo103⟩ := Kd.R_slice HO_11.out; subst eo103) | ((with_reducible refine gc_ 54 rfl ?_); refine gM_ (some 64) Try.func54 [.slice Ao102 t305.length co102, .slice Ao103 t283.length co103] ?_; (with_reducible refine (flyballref01_Add.calls kj6 _ _ t305 _ _ t283 t308 _ ?side1 ?side2 ?side3 ?side4 A77.out).mono ?_); (case side1 => repeat first | exact (Kd.R_reads' HO307.out).2.2 | with_reducible first | apply ca_ | apply cn_ | apply cd_); (case side2 => exact (Kd.R_reads' HO307.out).2.1); (case side3 => repeat first | exact (Kd.R_reads' HO_11.out).2.2 | with_reducible first | apply ca_ | apply cn_ | apply cd_); (case side4 => exact (Kd.R_reads' HO_11.out).2.1); rintro e w104 ⟨v309, rfl, ho0, hb⟩; refine ⟨_, rfl, ?_⟩; have HO310 := Aside0.mk (Kd.R_lower (Kd.R_new' (Kd.R_new' (Kd.R_new' ho0 (Kd.R_lt (by (with_reducible repeat (first | apply ra_ | apply rn_ | apply rd_)); exact HO_11.out))) (Kd.R_lt (by (with_reducible repeat (first | apply ra_ | apply rn_ | apply rd_)); exact HO290.out))) (Kd.R_lt (by (with_reducible repeat (first | apply ra_ | apply rn_ | apply rd_)); exact HO307.out))) (below_size bh_)); replace BK273 := Aside0.mk (blk_below (g := gb273) (o := .cells #[.slice A0_0 l0_0.length c0_0, .slice A0_1 l0_1.length c0_1, .int .i64 a0_2, .bool a0_3] 100 (0, 0)) (by (with_reducible repeat (first | apply kn_ | apply kd_ | apply ka_)); exact BK273.out) hb); replace HB := bq_ hb; skip; have hcz105_0 : w104.cell? ⟨gb273, 0, none⟩ = some (.slice A0_0 l0_0.length c0_0) := (blk_cell BK273.out 0).trans rfl; have hcz105_1 : w104.cell? ⟨gb273, 1, none⟩ = some (.slice A0_1 l0_1.length c0_1) := (blk_cell BK273.out 1).trans rfl; have hcz105_2 : w104.cell? ⟨gb273, 2, none⟩ = some (.int .i64 a0_2) := (blk_cell BK273.out 2).trans rfl; have hcz105_3 : w104.cell? ⟨gb273, 3, none⟩ = some (.bool a0_3) := (blk_cell BK273.out 3).trans rfl; have hfz105_0 := blk_frozen BK273.out 0; have hfz105_1 := blk_frozen BK273.out 1; have hfz105_2 := blk_frozen BK273.out 2; have hfz105_3 := blk_frozen BK273.out 3; obtain ⟨Ao106, co106, eo106⟩ := Kd.R_slice HO310.out; subst eo106) | ((with_reducible refine gc_ 110 rfl ?_); refine gM_ (some 69) Try.func110 [.agg #[.slice A0_0 l0_0.length c0_0, .slice A0_1 l0_1.length c0_1, .int .i64 a0_2, .bool a0_3], .slice Ao106 t308.length co106, .int .i64 (wrap64 (t288 - 1))] ?_; (with_reducible refine (flyballref05_cmp.calls kj6 _ _ l0_0 _ _ l0_1 a0_2 a0_3 _ _ t308 (wrap64 (t288 - 1)) t311 _ ?side1 ?side2 ?side3 ?side4 ?side5 ?side6 A78.out).mono ?_); (case side1 => exact ch_ HR0_0.out); (case side2 => exact HC0_0.out); (case side3 => exact ch_ HR0_1.out); (case side4 => exact HC0_1.out); (case side5 => repeat first | exact (Kd.R_reads' HO310.out).2.2 | with_reducible first | apply ca_ | apply cn_ | apply cd_); (case side6 => exact (Kd.R_reads' HO310.out).2.1); rintro e w107 ⟨rfl, hb⟩; refine ⟨_, rfl, ?_⟩; replace BK273 := Aside0.mk (blk_below (g := gb273) (o := .cells #[.slice A0_0 l0_0.length c0_0, .slice A0_1 l0_1.length c0_1, .int .i64 a0_2, .bool a0_3] 100 (0, 0)) (by (with_reducible repeat (first | apply kn_ | apply kd_ | apply ka_)); exact BK273.out) hb); replace HB := bq_ hb))
      go_meet
      case rel => exact ⟨_, (false), (sh_), H', ⟨by have := HJ6.out; first | omega | exact Nat.le_refl _⟩, ⟨by (with_reducible repeat (first | apply kn_ | apply kd_ | apply ka_)); exact BK273.out⟩, ⟨bh_⟩⟩
     rw [if_pos c89] at H
     have c89b0 : (t311 == 0) = true := beq_iff_eq.mpr c89
     have c89b1 : (t311 != 0) = false := bne_eq_false_iff_eq.mpr c89
     clear c89
     have H' := Aside0.mk H
     clear H
     go_wp2_with (first | ((with_reducible refine gc_ 109 rfl ?_); refine gM_ (some 49) Try.func109 [.int .i64 t274] ?_; (with_reducible refine (flyballref05_split.calls kj6 t274 t287 t288 _ A31.out).mono ?_); rintro e w90 ⟨v289, rfl, ho0, hb⟩; refine ⟨_, rfl, ?_⟩; have n0_ := Aside0.mk (Kd.R_elder' (by (with_reducible repeat (first | apply ra_ | apply rn_ | apply rd_)); exact HO_11.out) (Kd.R_base ho0) hb); have n1_ := Aside0.mk (Kd.R_lower (Kd.R_new' ho0 (Kd.R_lt (by (with_reducible repeat (first | apply ra_ | apply rn_ | apply rd_)); exact HO_11.out))) (below_size bh_)); have n2_ := Aside0.mk (blk_below (g := gb273) (o := .cells #[.slice A0_0 l0_0.length c0_0, .slice A0_1 l0_1.length c0_1, .int .i64 a0_2, .bool a0_3] 100 (0, 0)) (by (with_reducible repeat (first | apply kn_ | apply kd_ | apply ka_)); exact BK273.out) hb); have n3_ := bq_ hb; clear HO_11 BK273 HB; have HO_11 := n0_; have HO290 := n1_; have BK273 := n2_; have HB := n3_; clear n0_ n1_ n2_ n3_; skip; obtain ⟨Ao91, co91, eo91⟩ := Kd.R_slice HO290.out; subst eo91) | ((with_reducible refine gc_ 47 rfl ?_); refine gM_ (some 62) Try.func47 [.slice Ao91 t287.length co91, .int .i64 1] ?_; (with_reducible refine (flyballref01_Shl.calls kj6 _ _ t287 1 t305 _ ?side1 ?side2 A76.out).mono ?_); (case side1 => repeat first | exact (Kd.R_reads' HO290.out).2.2 | with_reducible first | apply ca_ | apply cn_ | apply cd_); (case side2 => exact (Kd.R_reads' HO290.out).2.1); rintro e w92 ⟨v306, rfl, ho0, hb⟩; refine ⟨_, rfl, ?_⟩; have n0_ := Aside0.mk (Kd.R_elder' (by (with_reducible repeat (first | apply ra_ | apply rn_ | apply rd_)); exact HO_11.out) (Kd.R_base ho0) hb); have n1_ := Aside0.mk (Kd.R_elder' (by (with_reducible repeat (first | apply ra_ | apply rn_ | apply rd_)); exact HO290.out) (Kd.R_base ho0) hb); have n2_ := Aside0.mk (Kd.R_lower (Kd.R_new' (Kd.R_new' ho0 (Kd.R_lt (by (with_reducible repeat (first | apply ra_ | apply rn_ | apply rd_)); exact HO_11.out))) (Kd.R_lt (by (with_reducible repeat (first | apply ra_ | apply rn_ | apply rd_)); exact HO290.out))) (below_size bh_)); have n3_ := Aside0.mk (blk_below (g := gb273) (o := .cells #[.slice A0_0 l0_0.length c0_0, .slice A0_1 l0_1.length c0_1, .int .i64 a0_2, .bool a0_3] 100 (0, 0)) (by (with_reducible repeat (first | apply kn_ | apply kd_ | apply ka_)); exact BK273.out) hb); have n4_ := bq_ hb; clear HO_11 HO290 BK273 HB; have HO_11 := n0_; have HO290 := n1_; have HO307 := n2_; have BK273 := n3_; have HB := n4_; clear n0_ n1_ n2_ n3_ n4_; skip; obtain ⟨Ao93, co93, eo93⟩ := Kd.R_slice HO307.out; subst eo93; obtain ⟨Ao94, co94, eo94⟩ := Kd.R_slice HO_11.out; subst eo94) | ((with_reducible refine gc_ 54 rfl ?_); refine gM_ (some 64) Try.func54 [.slice Ao93 t305.length co93, .slice Ao94 t283.length co94] ?_; (with_reducible refine (flyballref01_Add.calls kj6 _ _ t305 _ _ t283 t308 _ ?side1 ?side2 ?side3 ?side4 A77.out).mono ?_); (case side1 => repeat first | exact (Kd.R_reads' HO307.out).2.2 | with_reducible first | apply ca_ | apply cn_ | apply cd_); (case side2 => exact (Kd.R_reads' HO307.out).2.1); (case side3 => repeat first | exact (Kd.R_reads' HO_11.out).2.2 | with_reducible first | apply ca_ | apply cn_ | apply cd_); (case side4 => exact (Kd.R_reads' HO_11.out).2.1); rintro e w95 ⟨v309, rfl, ho0, hb⟩; refine ⟨_, rfl, ?_⟩; have n0_ := Aside0.mk (Kd.R_elder' (by (with_reducible repeat (first | apply ra_ | apply rn_ | apply rd_)); exact HO_11.out) (Kd.R_base ho0) hb); have n1_ := Aside0.mk (Kd.R_elder' (by (with_reducible repeat (first | apply ra_ | apply rn_ | apply rd_)); exact HO290.out) (Kd.R_base ho0) hb); have n2_ := Aside0.mk (Kd.R_elder' (by (with_reducible repeat (first | apply ra_ | apply rn_ | apply rd_)); exact HO307.out) (Kd.R_base ho0) hb); have n3_ := Aside0.mk (Kd.R_lower (Kd.R_new' (Kd.R_new' (Kd.R_new' ho0 (Kd.R_lt (by (with_reducible repeat (first | apply ra_ | apply rn_ | apply rd_)); exact HO_11.out))) (Kd.R_lt (by (with_reducible repeat (first | apply ra_ | apply rn_ | apply rd_)); exact HO290.out))) (Kd.R_lt (by (with_reducible repeat (first | apply ra_ | apply rn_ | apply rd_)); exact HO307.out))) (below_size bh_)); have n4_ := Aside0.mk (blk_below (g := gb273) (o := .cells #[.slice A0_0 l0_0.length c0_0, .slice A0_1 l0_1.length c0_1, .int .i64 a0_2, .bool a0_3] 100 (0, 0)) (by (with_reducible repeat (first | apply kn_ | apply kd_ | apply ka_)); exact BK273.out) hb); have n5_ := bq_ hb; clear HO_11 HO290 HO307 BK273 HB; have HO_11 := n0_; have HO290 := n1_; have HO307 := n2_; have HO310 := n3_; have BK273 := n4_; have HB := n5_; clear n0_ n1_ n2_ n3_ n4_ n5_; skip; have hcz96_0 : w95.cell? ⟨gb273, 0, none⟩ = some (.slice A0_0 l0_0.length c0_0) := (blk_cell BK273.out 0).trans rfl; have hcz96_1 : w95.cell? ⟨gb273, 1, none⟩ = some (.slice A0_1 l0_1.length c0_1) := (blk_cell BK273.out 1).trans rfl; have hcz96_2 : w95.cell? ⟨gb273, 2, none⟩ = some (.int .i64 a0_2) := (blk_cell BK273.out 2).trans rfl; have hcz96_3 : w95.cell? ⟨gb273, 3, none⟩ = some (.bool a0_3) := (blk_cell BK273.out 3).trans rfl; have hfz96_0 := blk_frozen BK273.out 0; have hfz96_1 := blk_frozen BK273.out 1; have hfz96_2 := blk_frozen BK273.out 2; have hfz96_3 := blk_frozen BK273.out 3; obtain ⟨Ao97, co97, eo97⟩ := Kd.R_slice HO310.out; subst eo97) | ((with_reducible refine gc_ 110 rfl ?_); refine gM_ (some 69) Try.func110 [.agg #[.slice A0_0 l0_0.length c0_0, .slice A0_1 l0_1.length c0_1, .int .i64 a0_2, .bool a0_3], .slice Ao97 t308.length co97, .int .i64 (wrap64 (t288 - 1))] ?_; (with_reducible refine (flyballref05_cmp.calls kj6 _ _ l0_0 _ _ l0_1 a0_2 a0_3 _ _ t308 (wrap64 (t288 - 1)) t311 _ ?side1 ?side2 ?side3 ?side4 ?side5 ?side6 A78.out).mono ?_); (case side1 => exact ch_ HR0_0.out); (case side2 => exact HC0_0.out); (case side3 => exact ch_ HR0_1.out); (case side4 => exact HC0_1.out); (case side5 => repeat first | exact (Kd.R_reads' HO310.out).2.2 | with_reducible first | apply ca_ | apply cn_ | apply cd_); (case side6 => exact (Kd.R_reads' HO310.out).2.1); rintro e w98 ⟨rfl, hb⟩; refine ⟨_, rfl, ?_⟩; replace HO_11 := Aside0.mk (Kd.R_below (by (with_reducible repeat (first | apply ra_ | apply rn_ | apply rd_)); exact HO_11.out) hb); replace HO290 := Aside0.mk (Kd.R_below (by (with_reducible repeat (first | apply ra_ | apply rn_ | apply rd_)); exact HO290.out) hb); replace HO307 := Aside0.mk (Kd.R_below (by (with_reducible repeat (first | apply ra_ | apply rn_ | apply rd_)); exact HO307.out) hb); replace HO310 := Aside0.mk (Kd.R_below (by (with_reducible repeat (first | apply ra_ | apply rn_ | apply rd_)); exact HO310.out) hb); replace BK273 := Aside0.mk (blk_below (g := gb273) (o := .cells #[.slice A0_0 l0_0.length c0_0, .slice A0_1 l0_1.length c0_1, .int .i64 a0_2, .bool a0_3] 100 (0, 0)) (by (with_reducible repeat (first | apply kn_ | apply kd_ | apply ka_)); exact BK273.out) hb); replace HB := bq_ hb))
     go_meet
     case rel => exact ⟨_, (((Int.tmod t274 2) == 1)), (sh_), H', ⟨by have := HJ6.out; first | omega | exact Nat.le_refl _⟩, ⟨by (with_reducible repeat (first | apply kn_ | apply kd_ | apply ka_)); exact BK273.out⟩, ⟨bh_⟩⟩
    rw [if_pos c32] at H
    have c32b0 : decide (9218868437227405311 < t274) = true := decide_eq_true c32
    clear c32
    replace H := Option.bind_eq_some_iff.mp H
    obtain ⟨⟨t291, t292⟩, A330, H⟩ := H
    replace H : ((flyballref01_Add.f kj6 t291 t283).bind fun t295 => ((flyballref01_Shl.f kj6 t295 1).bind fun t298 => ((flyballref01_Add.f kj6 t298 t283).bind fun t301 => ((flyballref05_cmp.f kj6 l0_0 l0_1 a0_2 a0_3 t301 (wrap64 (t292 - 1))).bind fun t304 => (if t304 > 0 then (flyballref05_Magnitude.j1 kj6 a1 x6_6 t274 true) else (if t304 = 0 then (flyballref05_Magnitude.j1 kj6 a1 x6_6 t274 ((Int.tmod t274 2) == 1)) else (flyballref05_Magnitude.j1 kj6 a1 x6_6 t274 false))))))) = some (r1, r2) := H
    have A33 := Aside0.mk A330
    clear A330
    replace H := Option.bind_eq_some_iff.mp H
    obtain ⟨t295, A340, H⟩ := H
    replace H : ((flyballref01_Shl.f kj6 t295 1).bind fun t298 => ((flyballref01_Add.f kj6 t298 t283).bind fun t301 => ((flyballref05_cmp.f kj6 l0_0 l0_1 a0_2 a0_3 t301 (wrap64 (t292 - 1))).bind fun t304 => (if t304 > 0 then (flyballref05_Magnitude.j1 kj6 a1 x6_6 t274 true) else (if t304 = 0 then (flyballref05_Magnitude.j1 kj6 a1 x6_6 t274 ((Int.tmod t274 2) == 1)) else (flyballref05_Magnitude.j1 kj6 a1 x6_6 t274 false)))))) = some (r1, r2) := H
    have A34 := Aside0.mk A340
    clear A340
    replace H := Option.bind_eq_some_iff.mp H
    obtain ⟨t298, A350, H⟩ := H
    replace H : ((flyballref01_Add.f kj6 t298 t283).bind fun t301 => ((flyballref05_cmp.f kj6 l0_0 l0_1 a0_2 a0_3 t301 (wrap64 (t292 - 1))).bind fun t304 => (if t304 > 0 then (flyballref05_Magnitude.j1 kj6 a1 x6_6 t274 true) else (if t304 = 0 then (flyballref05_Magnitude.j1 kj6 a1 x6_6 t274 ((Int.tmod t274 2) == 1)) else (flyballref05_Magnitude.j1 kj6 a1 x6_6 t274 false))))) = some (r1, r2) := H
    have A35 := Aside0.mk A350
    clear A350
    replace H := Option.bind_eq_some_iff.mp H
    obtain ⟨t301, A360, H⟩ := H
    replace H : ((flyballref05_cmp.f kj6 l0_0 l0_1 a0_2 a0_3 t301 (wrap64 (t292 - 1))).bind fun t304 => (if t304 > 0 then (flyballref05_Magnitude.j1 kj6 a1 x6_6 t274 true) else (if t304 = 0 then (flyballref05_Magnitude.j1 kj6 a1 x6_6 t274 ((Int.tmod t274 2) == 1)) else (flyballref05_Magnitude.j1 kj6 a1 x6_6 t274 false)))) = some (r1, r2) := H
    have A36 := Aside0.mk A360
    clear A360
    replace H := Option.bind_eq_some_iff.mp H
    obtain ⟨t304, A370, H⟩ := H
    replace H : (if t304 > 0 then (flyballref05_Magnitude.j1 kj6 a1 x6_6 t274 true) else (if t304 = 0 then (flyballref05_Magnitude.j1 kj6 a1 x6_6 t274 ((Int.tmod t274 2) == 1)) else (flyballref05_Magnitude.j1 kj6 a1 x6_6 t274 false))) = some (r1, r2) := H
    have A37 := Aside0.mk A370
    clear A370
    by_cases c38 : t304 > 0
    case pos =>
     rw [if_pos c38] at H
     have c38b0 : decide (0 < t304) = true := decide_eq_true c38
     clear c38
     have H' := Aside0.mk H
     clear H
     go_wp2_with (first | ((with_reducible refine gc_ 109 rfl ?_); refine gM_ (some 49) Try.func109 [.int .i64 t274] ?_; (with_reducible refine (flyballref05_split.calls kj6 t274 t287 t288 _ A31.out).mono ?_); rintro e w39 ⟨v289, rfl, ho0, hb⟩; refine ⟨_, rfl, ?_⟩; have n0_ := Aside0.mk (Kd.R_elder' (by (with_reducible repeat (first | apply ra_ | apply rn_ | apply rd_)); exact HO_11.out) (Kd.R_base ho0) hb); have n1_ := Aside0.mk (Kd.R_lower (Kd.R_new' ho0 (Kd.R_lt (by (with_reducible repeat (first | apply ra_ | apply rn_ | apply rd_)); exact HO_11.out))) (below_size bh_)); have n2_ := Aside0.mk (blk_below (g := gb273) (o := .cells #[.slice A0_0 l0_0.length c0_0, .slice A0_1 l0_1.length c0_1, .int .i64 a0_2, .bool a0_3] 100 (0, 0)) (by (with_reducible repeat (first | apply kn_ | apply kd_ | apply ka_)); exact BK273.out) hb); have n3_ := bq_ hb; clear HO_11 BK273 HB; have HO_11 := n0_; have HO290 := n1_; have BK273 := n2_; have HB := n3_; clear n0_ n1_ n2_ n3_) | ((with_reducible refine gc_ 109 rfl ?_); refine gM_ (some 55) Try.func109 [.int .i64 9218868437227405311] ?_; (with_reducible refine (flyballref05_split.calls kj6 9218868437227405311 t291 t292 _ A33.out).mono ?_); rintro e w40 ⟨v293, rfl, ho0, hb⟩; refine ⟨_, rfl, ?_⟩; have n0_ := Aside0.mk (Kd.R_elder' (by (with_reducible repeat (first | apply ra_ | apply rn_ | apply rd_)); exact HO_11.out) (Kd.R_base ho0) hb); have n1_ := Aside0.mk (Kd.R_elder' (by (with_reducible repeat (first | apply ra_ | apply rn_ | apply rd_)); exact HO290.out) (Kd.R_base ho0) hb); have n2_ := Aside0.mk (Kd.R_lower (Kd.R_new' (Kd.R_new' ho0 (Kd.R_lt (by (with_reducible repeat (first | apply ra_ | apply rn_ | apply rd_)); exact HO_11.out))) (Kd.R_lt (by (with_reducible repeat (first | apply ra_ | apply rn_ | apply rd_)); exact HO290.out))) (below_size bh_)); have n3_ := Aside0.mk (blk_below (g := gb273) (o := .cells #[.slice A0_0 l0_0.length c0_0, .slice A0_1 l0_1.length c0_1, .int .i64 a0_2, .bool a0_3] 100 (0, 0)) (by (with_reducible repeat (first | apply kn_ | apply kd_ | apply ka_)); exact BK273.out) hb); have n4_ := bq_ hb; clear HO_11 HO290 BK273 HB; have HO_11 := n0_; have HO290 := n1_; have HO294 := n2_; have BK273 := n3_; have HB := n4_; clear n0_ n1_ n2_ n3_ n4_; skip; obtain ⟨Ao41, co41, eo41⟩ := Kd.R_slice HO294.out; subst eo41; obtain ⟨Ao42, co42, eo42⟩ := Kd.R_slice HO_11.out; subst eo42) | ((with_reducible refine gc_ 54 rfl ?_); refine gM_ (some 60) Try.func54 [.slice Ao41 t291.length co41, .slice Ao42 t283.length co42] ?_; (with_reducible refine (flyballref01_Add.calls kj6 _ _ t291 _ _ t283 t295 _ ?side1 ?side2 ?side3 ?side4 A34.out).mono ?_); (case side1 => repeat first | exact (Kd.R_reads' HO294.out).2.2 | with_reducible first | apply ca_ | apply cn_ | apply cd_); (case side2 => exact (Kd.R_reads' HO294.out).2.1); (case side3 => repeat first | exact (Kd.R_reads' HO_11.out).2.2 | with_reducible first | apply ca_ | apply cn_ | apply cd_); (case side4 => exact (Kd.R_reads' HO_11.out).2.1); rintro e w43 ⟨v296, rfl, ho0, hb⟩; refine ⟨_, rfl, ?_⟩; have n0_ := Aside0.mk (Kd.R_elder' (by (with_reducible repeat (first | apply ra_ | apply rn_ | apply rd_)); exact HO_11.out) (Kd.R_base ho0) hb); have n1_ := Aside0.mk (Kd.R_elder' (by (with_reducible repeat (first | apply ra_ | apply rn_ | apply rd_)); exact HO290.out) (Kd.R_base ho0) hb); have n2_ := Aside0.mk (Kd.R_elder' (by (with_reducible repeat (first | apply ra_ | apply rn_ | apply rd_)); exact HO294.out) (Kd.R_base ho0) hb); have n3_ := Aside0.mk (Kd.R_lower (Kd.R_new' (Kd.R_new' (Kd.R_new' ho0 (Kd.R_lt (by (with_reducible repeat (first | apply ra_ | apply rn_ | apply rd_)); exact HO_11.out))) (Kd.R_lt (by (with_reducible repeat (first | apply ra_ | apply rn_ | apply rd_)); exact HO290.out))) (Kd.R_lt (by (with_reducible repeat (first | apply ra_ | apply rn_ | apply rd_)); exact HO294.out))) (below_size bh_)); have n4_ := Aside0.mk (blk_below (g := gb273) (o := .cells #[.slice A0_0 l0_0.length c0_0, .slice A0_1 l0_1.length c0_1, .int .i64 a0_2, .bool a0_3] 100 (0, 0)) (by (with_reducible repeat (first | apply kn_ | apply kd_ | apply ka_)); exact BK273.out) hb); have n5_ := bq_ hb; clear HO_11 HO290 HO294 BK273 HB; have HO_11 := n0_; have HO290 := n1_; have HO294 := n2_; have HO297 := n3_; have BK273 := n4_; have HB := n5_; clear n0_ n1_ n2_ n3_ n4_ n5_; skip; obtain ⟨Ao44, co44, eo44⟩ := Kd.R_slice HO297.out; subst eo44) | ((with_reducible refine gc_ 47 rfl ?_); refine gM_ (some 62) Try.func47 [.slice Ao44 t295.length co44, .int .i64 1] ?_; (with_reducible refine (flyballref01_Shl.calls kj6 _ _ t295 1 t298 _ ?side1 ?side2 A35.out).mono ?_); (case side1 => repeat first | exact (Kd.R_reads' HO297.out).2.2 | with_reducible first | apply ca_ | apply cn_ | apply cd_); (case side2 => exact (Kd.R_reads' HO297.out).2.1); rintro e w45 ⟨v299, rfl, ho0, hb⟩; refine ⟨_, rfl, ?_⟩; have n0_ := Aside0.mk (Kd.R_elder' (by (with_reducible repeat (first | apply ra_ | apply rn_ | apply rd_)); exact HO_11.out) (Kd.R_base ho0) hb); have n1_ := Aside0.mk (Kd.R_elder' (by (with_reducible repeat (first | apply ra_ | apply rn_ | apply rd_)); exact HO290.out) (Kd.R_base ho0) hb); have n2_ := Aside0.mk (Kd.R_elder' (by (with_reducible repeat (first | apply ra_ | apply rn_ | apply rd_)); exact HO294.out) (Kd.R_base ho0) hb); have n3_ := Aside0.mk (Kd.R_elder' (by (with_reducible repeat (first | apply ra_ | apply rn_ | apply rd_)); exact HO297.out) (Kd.R_base ho0) hb); have n4_ := Aside0.mk (Kd.R_lower (Kd.R_new' (Kd.R_new' (Kd.R_new' (Kd.R_new' ho0 (Kd.R_lt (by (with_reducible repeat (first | apply ra_ | apply rn_ | apply rd_)); exact HO_11.out))) (Kd.R_lt (by (with_reducible repeat (first | apply ra_ | apply rn_ | apply rd_)); exact HO290.out))) (Kd.R_lt (by (with_reducible repeat (first | apply ra_ | apply rn_ | apply rd_)); exact HO294.out))) (Kd.R_lt (by (with_reducible repeat (first | apply ra_ | apply rn_ | apply rd_)); exact HO297.out))) (below_size bh_)); have n5_ := Aside0.mk (blk_below (g := gb273) (o := .cells #[.slice A0_0 l0_0.length c0_0, .slice A0_1 l0_1.length c0_1, .int .i64 a0_2, .bool a0_3] 100 (0, 0)) (by (with_reducible repeat (first | apply kn_ | apply kd_ | apply ka_)); exact BK273.out) hb); have n6_ := bq_ hb; clear HO_11 HO290 HO294 HO297 BK273 HB; have HO_11 := n0_; have HO290 := n1_; have HO294 := n2_; have HO297 := n3_; have HO300 := n4_; have BK273 := n5_; have HB := n6_; clear n0_ n1_ n2_ n3_ n4_ n5_ n6_; skip; obtain ⟨Ao46, co46, eo46⟩ := Kd.R_slice HO300.out; subst eo46) | ((with_reducible refine gc_ 54 rfl ?_); refine gM_ (some 64) Try.func54 [.slice Ao46 t298.length co46, .slice Ao42 t283.length co42] ?_; (with_reducible refine (flyballref01_Add.calls kj6 _ _ t298 _ _ t283 t301 _ ?side1 ?side2 ?side3 ?side4 A36.out).mono ?_); (case side1 => repeat first | exact (Kd.R_reads' HO300.out).2.2 | with_reducible first | apply ca_ | apply cn_ | apply cd_); (case side2 => exact (Kd.R_reads' HO300.out).2.1); (case side3 => repeat first | exact (Kd.R_reads' HO_11.out).2.2 | with_reducible first | apply ca_ | apply cn_ | apply cd_); (case side4 => exact (Kd.R_reads' HO_11.out).2.1); rintro e w47 ⟨v302, rfl, ho0, hb⟩; refine ⟨_, rfl, ?_⟩; have n0_ := Aside0.mk (Kd.R_elder' (by (with_reducible repeat (first | apply ra_ | apply rn_ | apply rd_)); exact HO_11.out) (Kd.R_base ho0) hb); have n1_ := Aside0.mk (Kd.R_elder' (by (with_reducible repeat (first | apply ra_ | apply rn_ | apply rd_)); exact HO290.out) (Kd.R_base ho0) hb); have n2_ := Aside0.mk (Kd.R_elder' (by (with_reducible repeat (first | apply ra_ | apply rn_ | apply rd_)); exact HO294.out) (Kd.R_base ho0) hb); have n3_ := Aside0.mk (Kd.R_elder' (by (with_reducible repeat (first | apply ra_ | apply rn_ | apply rd_)); exact HO297.out) (Kd.R_base ho0) hb); have n4_ := Aside0.mk (Kd.R_elder' (by (with_reducible repeat (first | apply ra_ | apply rn_ | apply rd_)); exact HO300.out) (Kd.R_base ho0) hb); have n5_ := Aside0.mk (Kd.R_lower (Kd.R_new' (Kd.R_new' (Kd.R_new' (Kd.R_new' (Kd.R_new' ho0 (Kd.R_lt (by (with_reducible repeat (first | apply ra_ | apply rn_ | apply rd_)); exact HO_11.out))) (Kd.R_lt (by (with_reducible repeat (first | apply ra_ | apply rn_ | apply rd_)); exact HO290.out))) (Kd.R_lt (by (with_reducible repeat (first | apply ra_ | apply rn_ | apply rd_)); exact HO294.out))) (Kd.R_lt (by (with_reducible repeat (first | apply ra_ | apply rn_ | apply rd_)); exact HO297.out))) (Kd.R_lt (by (with_reducible repeat (first | apply ra_ | apply rn_ | apply rd_)); exact HO300.out))) (below_size bh_)); have n6_ := Aside0.mk (blk_below (g := gb273) (o := .cells #[.slice A0_0 l0_0.length c0_0, .slice A0_1 l0_1.length c0_1, .int .i64 a0_2, .bool a0_3] 100 (0, 0)) (by (with_reducible repeat (first | apply kn_ | apply kd_ | apply ka_)); exact BK273.out) hb); have n7_ := bq_ hb; clear HO_11 HO290 HO294 HO297 HO300 BK273 HB; have HO_11 := n0_; have HO290 := n1_; have HO294 := n2_; have HO297 := n3_; have HO300 := n4_; have HO303 := n5_; have BK273 := n6_; have HB := n7_; clear n0_ n1_ n2_ n3_ n4_ n5_ n6_ n7_; skip; have hcz48_0 : w47.cell? ⟨gb273, 0, none⟩ = some (.slice A0_0 l0_0.length c0_0) := (blk_cell BK273.out 0).trans rfl; have hcz48_1 : w47.cell? ⟨gb273, 1, none⟩ = some (.slice A0_1 l0_1.length c0_1) := (blk_cell BK273.out 1).trans rfl; have hcz48_2 : w47.cell? ⟨gb273, 2, none⟩ = some (.int .i64 a0_2) := (blk_cell BK273.out 2).trans rfl; have hcz48_3 : w47.cell? ⟨gb273, 3, none⟩ = some (.bool a0_3) := (blk_cell BK273.out 3).trans rfl; have hfz48_0 := blk_frozen BK273.out 0; have hfz48_1 := blk_frozen BK273.out 1; have hfz48_2 := blk_frozen BK273.out 2; have hfz48_3 := blk_frozen BK273.out 3; obtain ⟨Ao49, co49, eo49⟩ := Kd.R_slice HO303.out; subst eo49) | ((with_reducible refine gc_ 110 rfl ?_); refine gM_ (some 69) Try.func110 [.agg #[.slice A0_0 l0_0.length c0_0, .slice A0_1 l0_1.length c0_1, .int .i64 a0_2, .bool a0_3], .slice Ao49 t301.length co49, .int .i64 (wrap64 (t292 - 1))] ?_; (with_reducible refine (flyballref05_cmp.calls kj6 _ _ l0_0 _ _ l0_1 a0_2 a0_3 _ _ t301 (wrap64 (t292 - 1)) t304 _ ?side1 ?side2 ?side3 ?side4 ?side5 ?side6 A37.out).mono ?_); (case side1 => exact ch_ HR0_0.out); (case side2 => exact HC0_0.out); (case side3 => exact ch_ HR0_1.out); (case side4 => exact HC0_1.out); (case side5 => repeat first | exact (Kd.R_reads' HO303.out).2.2 | with_reducible first | apply ca_ | apply cn_ | apply cd_); (case side6 => exact (Kd.R_reads' HO303.out).2.1); rintro e w50 ⟨rfl, hb⟩; refine ⟨_, rfl, ?_⟩; replace HO_11 := Aside0.mk (Kd.R_below (by (with_reducible repeat (first | apply ra_ | apply rn_ | apply rd_)); exact HO_11.out) hb); replace HO290 := Aside0.mk (Kd.R_below (by (with_reducible repeat (first | apply ra_ | apply rn_ | apply rd_)); exact HO290.out) hb); replace HO294 := Aside0.mk (Kd.R_below (by (with_reducible repeat (first | apply ra_ | apply rn_ | apply rd_)); exact HO294.out) hb); replace HO297 := Aside0.mk (Kd.R_below (by (with_reducible repeat (first | apply ra_ | apply rn_ | apply rd_)); exact HO297.out) hb); replace HO300 := Aside0.mk (Kd.R_below (by (with_reducible repeat (first | apply ra_ | apply rn_ | apply rd_)); exact HO300.out) hb); replace HO303 := Aside0.mk (Kd.R_below (by (with_reducible repeat (first | apply ra_ | apply rn_ | apply rd_)); exact HO303.out) hb); replace BK273 := Aside0.mk (blk_below (g := gb273) (o := .cells #[.slice A0_0 l0_0.length c0_0, .slice A0_1 l0_1.length c0_1, .int .i64 a0_2, .bool a0_3] 100 (0, 0)) (by (with_reducible repeat (first | apply kn_ | apply kd_ | apply ka_)); exact BK273.out) hb); replace HB := bq_ hb))
     go_meet
     case rel => exact ⟨_, (true), (sh_), H', ⟨by have := HJ6.out; first | omega | exact Nat.le_refl _⟩, ⟨by (with_reducible repeat (first | apply kn_ | apply kd_ | apply ka_)); exact BK273.out⟩, ⟨bh_⟩⟩
    rw [if_neg c38] at H
    have c38b0 : decide (0 < t304) = false := decide_eq_false c38
    clear c38
    by_cases c51 : t304 = 0
    case neg =>
     rw [if_neg c51] at H
     have c51b0 : (t304 == 0) = false := beq_eq_false_iff_ne.mpr c51
     have c51b1 : (t304 != 0) = true := bne_iff_ne.mpr c51
     have H' := Aside0.mk H
     clear H
     go_wp2_with (first | ((with_reducible refine gc_ 109 rfl ?_); refine gM_ (some 49) Try.func109 [.int .i64 t274] ?_; (with_reducible refine (flyballref05_split.calls kj6 t274 t287 t288 _ A31.out).mono ?_); rintro e w64 ⟨v289, rfl, ho0, hb⟩; refine ⟨_, rfl, ?_⟩; have n0_ := Aside0.mk (Kd.R_elder' (by (with_reducible repeat (first | apply ra_ | apply rn_ | apply rd_)); exact HO_11.out) (Kd.R_base ho0) hb); have n1_ := Aside0.mk (Kd.R_lower (Kd.R_new' ho0 (Kd.R_lt (by (with_reducible repeat (first | apply ra_ | apply rn_ | apply rd_)); exact HO_11.out))) (below_size bh_)); have n2_ := Aside0.mk (blk_below (g := gb273) (o := .cells #[.slice A0_0 l0_0.length c0_0, .slice A0_1 l0_1.length c0_1, .int .i64 a0_2, .bool a0_3] 100 (0, 0)) (by (with_reducible repeat (first | apply kn_ | apply kd_ | apply ka_)); exact BK273.out) hb); have n3_ := bq_ hb; clear HO_11 BK273 HB; have HO_11 := n0_; have HO290 := n1_; have BK273 := n2_; have HB := n3_; clear n0_ n1_ n2_ n3_) | ((with_reducible refine gc_ 109 rfl ?_); refine gM_ (some 55) Try.func109 [.int .i64 9218868437227405311] ?_; (with_reducible refine (flyballref05_split.calls kj6 9218868437227405311 t291 t292 _ A33.out).mono ?_); rintro e w65 ⟨v293, rfl, ho0, hb⟩; refine ⟨_, rfl, ?_⟩; have n0_ := Aside0.mk (Kd.R_elder' (by (with_reducible repeat (first | apply ra_ | apply rn_ | apply rd_)); exact HO_11.out) (Kd.R_base ho0) hb); have n1_ := Aside0.mk (Kd.R_elder' (by (with_reducible repeat (first | apply ra_ | apply rn_ | apply rd_)); exact HO290.out) (Kd.R_base ho0) hb); have n2_ := Aside0.mk (Kd.R_lower (Kd.R_new' (Kd.R_new' ho0 (Kd.R_lt (by (with_reducible repeat (first | apply ra_ | apply rn_ | apply rd_)); exact HO_11.out))) (Kd.R_lt (by (with_reducible repeat (first | apply ra_ | apply rn_ | apply rd_)); exact HO290.out))) (below_size bh_)); have n3_ := Aside0.mk (blk_below (g := gb273) (o := .cells #[.slice A0_0 l0_0.length c0_0, .slice A0_1 l0_1.length c0_1, .int .i64 a0_2, .bool a0_3] 100 (0, 0)) (by (with_reducible repeat (first | apply kn_ | apply kd_ | apply ka_)); exact BK273.out) hb); have n4_ := bq_ hb; clear HO_11 HO290 BK273 HB; have HO_11 := n0_; have HO290 := n1_; have HO294 := n2_; have BK273 := n3_; have HB := n4_; clear n0_ n1_ n2_ n3_ n4_; skip; obtain ⟨Ao66, co66, eo66⟩ := Kd.R_slice HO294.out; subst eo66; obtain ⟨Ao67, co67, eo67⟩ := Kd.R_slice HO_11.out; subst eo67) | ((with_reducible refine gc_ 54 rfl ?_); refine gM_ (some 60) Try.func54 [.slice Ao66 t291.length co66, .slice Ao67 t283.length co67] ?_; (with_reducible refine (flyballref01_Add.calls kj6 _ _ t291 _ _ t283 t295 _ ?side1 ?side2 ?side3 ?side4 A34.out).mono ?_); (case side1 => repeat first | exact (Kd.R_reads' HO294.out).2.2 | with_reducible first | apply ca_ | apply cn_ | apply cd_); (case side2 => exact (Kd.R_reads' HO294.out).2.1); (case side3 => repeat first | exact (Kd.R_reads' HO_11.out).2.2 | with_reducible first | apply ca_ | apply cn_ | apply cd_); (case side4 => exact (Kd.R_reads' HO_11.out).2.1); rintro e w68 ⟨v296, rfl, ho0, hb⟩; refine ⟨_, rfl, ?_⟩; have n0_ := Aside0.mk (Kd.R_elder' (by (with_reducible repeat (first | apply ra_ | apply rn_ | apply rd_)); exact HO_11.out) (Kd.R_base ho0) hb); have n1_ := Aside0.mk (Kd.R_elder' (by (with_reducible repeat (first | apply ra_ | apply rn_ | apply rd_)); exact HO290.out) (Kd.R_base ho0) hb); have n2_ := Aside0.mk (Kd.R_elder' (by (with_reducible repeat (first | apply ra_ | apply rn_ | apply rd_)); exact HO294.out) (Kd.R_base ho0) hb); have n3_ := Aside0.mk (Kd.R_lower (Kd.R_new' (Kd.R_new' (Kd.R_new' ho0 (Kd.R_lt (by (with_reducible repeat (first | apply ra_ | apply rn_ | apply rd_)); exact HO_11.out))) (Kd.R_lt (by (with_reducible repeat (first | apply ra_ | apply rn_ | apply rd_)); exact HO290.out))) (Kd.R_lt (by (with_reducible repeat (first | apply ra_ | apply rn_ | apply rd_)); exact HO294.out))) (below_size bh_)); have n4_ := Aside0.mk (blk_below (g := gb273) (o := .cells #[.slice A0_0 l0_0.length c0_0, .slice A0_1 l0_1.length c0_1, .int .i64 a0_2, .bool a0_3] 100 (0, 0)) (by (with_reducible repeat (first | apply kn_ | apply kd_ | apply ka_)); exact BK273.out) hb); have n5_ := bq_ hb; clear HO_11 HO290 HO294 BK273 HB; have HO_11 := n0_; have HO290 := n1_; have HO294 := n2_; have HO297 := n3_; have BK273 := n4_; have HB := n5_; clear n0_ n1_ n2_ n3_ n4_ n5_; skip; obtain ⟨Ao69, co69, eo69⟩ := Kd.R_slice HO297.out; subst eo69) | ((with_reducible refine gc_ 47 rfl ?_); refine gM_ (some 62) Try.func47 [.slice Ao69 t295.length co69, .int .i64 1] ?_; (with_reducible refine (flyballref01_Shl.calls kj6 _ _ t295 1 t298 _ ?side1 ?side2 A35.out).mono ?_); (case side1 => repeat first | exact (Kd.R_reads' HO297.out).2.2 | with_reducible first | apply ca_ | apply cn_ | apply cd_); (case side2 => exact (Kd.R_reads' HO297.out).2.1); rintro e w70 ⟨v299, rfl, ho0, hb⟩; refine ⟨_, rfl, ?_⟩; have n0_ := Aside0.mk (Kd.R_elder' (by (with_reducible repeat (first | apply ra_ | apply rn_ | apply rd_)); exact HO_11.out) (Kd.R_base ho0) hb); have n1_ := Aside0.mk (Kd.R_elder' (by (with_reducible repeat (first | apply ra_ | apply rn_ | apply rd_)); exact HO290.out) (Kd.R_base ho0) hb); have n2_ := Aside0.mk (Kd.R_elder' (by (with_reducible repeat (first | apply ra_ | apply rn_ | apply rd_)); exact HO294.out) (Kd.R_base ho0) hb); have n3_ := Aside0.mk (Kd.R_elder' (by (with_reducible repeat (first | apply ra_ | apply rn_ | apply rd_)); exact HO297.out) (Kd.R_base ho0) hb); have n4_ := Aside0.mk (Kd.R_lower (Kd.R_new' (Kd.R_new' (Kd.R_new' (Kd.R_new' ho0 (Kd.R_lt (by (with_reducible repeat (first | apply ra_ | apply rn_ | apply rd_)); exact HO_11.out))) (Kd.R_lt (by (with_reducible repeat (first | apply ra_ | apply rn_ | apply rd_)); exact HO290.out))) (Kd.R_lt (by (with_reducible repeat (first | apply ra_ | apply rn_ | apply rd_)); exact HO294.out))) (Kd.R_lt (by (with_reducible repeat (first | apply ra_ | apply rn_ | apply rd_)); exact HO297.out))) (below_size bh_)); have n5_ := Aside0.mk (blk_below (g := gb273) (o := .cells #[.slice A0_0 l0_0.length c0_0, .slice A0_1 l0_1.length c0_1, .int .i64 a0_2, .bool a0_3] 100 (0, 0)) (by (with_reducible repeat (first | apply kn_ | apply kd_ | apply ka_)); exact BK273.out) hb); have n6_ := bq_ hb; clear HO_11 HO290 HO294 HO297 BK273 HB; have HO_11 := n0_; have HO290 := n1_; have HO294 := n2_; have HO297 := n3_; have HO300 := n4_; have BK273 := n5_; have HB := n6_; clear n0_ n1_ n2_ n3_ n4_ n5_ n6_; skip; obtain ⟨Ao71, co71, eo71⟩ := Kd.R_slice HO300.out; subst eo71) | ((with_reducible refine gc_ 54 rfl ?_); refine gM_ (some 64) Try.func54 [.slice Ao71 t298.length co71, .slice Ao67 t283.length co67] ?_; (with_reducible refine (flyballref01_Add.calls kj6 _ _ t298 _ _ t283 t301 _ ?side1 ?side2 ?side3 ?side4 A36.out).mono ?_); (case side1 => repeat first | exact (Kd.R_reads' HO300.out).2.2 | with_reducible first | apply ca_ | apply cn_ | apply cd_); (case side2 => exact (Kd.R_reads' HO300.out).2.1); (case side3 => repeat first | exact (Kd.R_reads' HO_11.out).2.2 | with_reducible first | apply ca_ | apply cn_ | apply cd_); (case side4 => exact (Kd.R_reads' HO_11.out).2.1); rintro e w72 ⟨v302, rfl, ho0, hb⟩; refine ⟨_, rfl, ?_⟩; have n0_ := Aside0.mk (Kd.R_elder' (by (with_reducible repeat (first | apply ra_ | apply rn_ | apply rd_)); exact HO_11.out) (Kd.R_base ho0) hb); have n1_ := Aside0.mk (Kd.R_elder' (by (with_reducible repeat (first | apply ra_ | apply rn_ | apply rd_)); exact HO290.out) (Kd.R_base ho0) hb); have n5_ := Aside0.mk (Kd.R_lower (Kd.R_new' (Kd.R_new' (Kd.R_new' (Kd.R_new' (Kd.R_new' ho0 (Kd.R_lt (by (with_reducible repeat (first | apply ra_ | apply rn_ | apply rd_)); exact HO_11.out))) (Kd.R_lt (by (with_reducible repeat (first | apply ra_ | apply rn_ | apply rd_)); exact HO290.out))) (Kd.R_lt (by (with_reducible repeat (first | apply ra_ | apply rn_ | apply rd_)); exact HO294.out))) (Kd.R_lt (by (with_reducible repeat (first | apply ra_ | apply rn_ | apply rd_)); exact HO297.out))) (Kd.R_lt (by (with_reducible repeat (first | apply ra_ | apply rn_ | apply rd_)); exact HO300.out))) (below_size bh_)); have n6_ := Aside0.mk (blk_below (g := gb273) (o := .cells #[.slice A0_0 l0_0.length c0_0, .slice A0_1 l0_1.length c0_1, .int .i64 a0_2, .bool a0_3] 100 (0, 0)) (by (with_reducible repeat (first | apply kn_ | apply kd_ | apply ka_)); exact BK273.out) hb); have n7_ := bq_ hb; clear HO_11 HO290 BK273 HB; have HO_11 := n0_; have HO290 := n1_; have HO303 := n5_; have BK273 := n6_; have HB := n7_; clear n0_ n1_ n5_ n6_ n7_; skip; have hcz73_0 : w72.cell? ⟨gb273, 0, none⟩ = some (.slice A0_0 l0_0.length c0_0) := (blk_cell BK273.out 0).trans rfl; have hcz73_1 : w72.cell? ⟨gb273, 1, none⟩ = some (.slice A0_1 l0_1.length c0_1) := (blk_cell BK273.out 1).trans rfl; have hcz73_2 : w72.cell? ⟨gb273, 2, none⟩ = some (.int .i64 a0_2) := (blk_cell BK273.out 2).trans rfl; have hcz73_3 : w72.cell? ⟨gb273, 3, none⟩ = some (.bool a0_3) := (blk_cell BK273.out 3).trans rfl; have hfz73_0 := blk_frozen BK273.out 0; have hfz73_1 := blk_frozen BK273.out 1; have hfz73_2 := blk_frozen BK273.out 2; have hfz73_3 := blk_frozen BK273.out 3; obtain ⟨Ao74, co74, eo74⟩ := Kd.R_slice HO303.out; subst eo74) | ((with_reducible refine gc_ 110 rfl ?_); refine gM_ (some 69) Try.func110 [.agg #[.slice A0_0 l0_0.length c0_0, .slice A0_1 l0_1.length c0_1, .int .i64 a0_2, .bool a0_3], .slice Ao74 t301.length co74, .int .i64 (wrap64 (t292 - 1))] ?_; (with_reducible refine (flyballref05_cmp.calls kj6 _ _ l0_0 _ _ l0_1 a0_2 a0_3 _ _ t301 (wrap64 (t292 - 1)) t304 _ ?side1 ?side2 ?side3 ?side4 ?side5 ?side6 A37.out).mono ?_); (case side1 => exact ch_ HR0_0.out); (case side2 => exact HC0_0.out); (case side3 => exact ch_ HR0_1.out); (case side4 => exact HC0_1.out); (case side5 => repeat first | exact (Kd.R_reads' HO303.out).2.2 | with_reducible first | apply ca_ | apply cn_ | apply cd_); (case side6 => exact (Kd.R_reads' HO303.out).2.1); rintro e w75 ⟨rfl, hb⟩; refine ⟨_, rfl, ?_⟩; replace HO_11 := Aside0.mk (Kd.R_below (by (with_reducible repeat (first | apply ra_ | apply rn_ | apply rd_)); exact HO_11.out) hb); replace HO290 := Aside0.mk (Kd.R_below (by (with_reducible repeat (first | apply ra_ | apply rn_ | apply rd_)); exact HO290.out) hb); replace BK273 := Aside0.mk (blk_below (g := gb273) (o := .cells #[.slice A0_0 l0_0.length c0_0, .slice A0_1 l0_1.length c0_1, .int .i64 a0_2, .bool a0_3] 100 (0, 0)) (by (with_reducible repeat (first | apply kn_ | apply kd_ | apply ka_)); exact BK273.out) hb); replace HB := bq_ hb))
     go_meet
     case rel => exact ⟨_, (false), (sh_), H', ⟨by have := HJ6.out; first | omega | exact Nat.le_refl _⟩, ⟨by (with_reducible repeat (first | apply kn_ | apply kd_ | apply ka_)); exact BK273.out⟩, ⟨bh_⟩⟩
    rw [if_pos c51] at H
    have c51b0 : (t304 == 0) = true := beq_iff_eq.mpr c51
    have c51b1 : (t304 != 0) = false := bne_eq_false_iff_eq.mpr c51
    clear c51
    have H' := Aside0.mk H
    clear H
    go_wp2_with (first | ((with_reducible refine gc_ 109 rfl ?_); refine gM_ (some 49) Try.func109 [.int .i64 t274] ?_; (with_reducible refine (flyballref05_split.calls kj6 t274 t287 t288 _ A31.out).mono ?_); rintro e w52 ⟨v289, rfl, ho0, hb⟩; refine ⟨_, rfl, ?_⟩; have n0_ := Aside0.mk (Kd.R_elder' (by (with_reducible repeat (first | apply ra_ | apply rn_ | apply rd_)); exact HO_11.out) (Kd.R_base ho0) hb); have n1_ := Aside0.mk (Kd.R_lower (Kd.R_new' ho0 (Kd.R_lt (by (with_reducible repeat (first | apply ra_ | apply rn_ | apply rd_)); exact HO_11.out))) (below_size bh_)); have n2_ := Aside0.mk (blk_below (g := gb273) (o := .cells #[.slice A0_0 l0_0.length c0_0, .slice A0_1 l0_1.length c0_1, .int .i64 a0_2, .bool a0_3] 100 (0, 0)) (by (with_reducible repeat (first | apply kn_ | apply kd_ | apply ka_)); exact BK273.out) hb); have n3_ := bq_ hb; clear HO_11 BK273 HB; have HO_11 := n0_; have HO290 := n1_; have BK273 := n2_; have HB := n3_; clear n0_ n1_ n2_ n3_) | ((with_reducible refine gc_ 109 rfl ?_); refine gM_ (some 55) Try.func109 [.int .i64 9218868437227405311] ?_; (with_reducible refine (flyballref05_split.calls kj6 9218868437227405311 t291 t292 _ A33.out).mono ?_); rintro e w53 ⟨v293, rfl, ho0, hb⟩; refine ⟨_, rfl, ?_⟩; have n0_ := Aside0.mk (Kd.R_elder' (by (with_reducible repeat (first | apply ra_ | apply rn_ | apply rd_)); exact HO_11.out) (Kd.R_base ho0) hb); have n1_ := Aside0.mk (Kd.R_elder' (by (with_reducible repeat (first | apply ra_ | apply rn_ | apply rd_)); exact HO290.out) (Kd.R_base ho0) hb); have n2_ := Aside0.mk (Kd.R_lower (Kd.R_new' (Kd.R_new' ho0 (Kd.R_lt (by (with_reducible repeat (first | apply ra_ | apply rn_ | apply rd_)); exact HO_11.out))) (Kd.R_lt (by (with_reducible repeat (first | apply ra_ | apply rn_ | apply rd_)); exact HO290.out))) (below_size bh_)); have n3_ := Aside0.mk (blk_below (g := gb273) (o := .cells #[.slice A0_0 l0_0.length c0_0, .slice A0_1 l0_1.length c0_1, .int .i64 a0_2, .bool a0_3] 100 (0, 0)) (by (with_reducible repeat (first | apply kn_ | apply kd_ | apply ka_)); exact BK273.out) hb); have n4_ := bq_ hb; clear HO_11 HO290 BK273 HB; have HO_11 := n0_; have HO290 := n1_; have HO294 := n2_; have BK273 := n3_; have HB := n4_; clear n0_ n1_ n2_ n3_ n4_; skip; obtain ⟨Ao54, co54, eo54⟩ := Kd.R_slice HO294.out; subst eo54; obtain ⟨Ao55, co55, eo55⟩ := Kd.R_slice HO_11.out; subst eo55) | ((with_reducible refine gc_ 54 rfl ?_); refine gM_ (some 60) Try.func54 [.slice Ao54 t291.length co54, .slice Ao55 t283.length co55] ?_; (with_reducible refine (flyballref01_Add.calls kj6 _ _ t291 _ _ t283 t295 _ ?side1 ?side2 ?side3 ?side4 A34.out).mono ?_); (case side1 => repeat first | exact (Kd.R_reads' HO294.out).2.2 | with_reducible first | apply ca_ | apply cn_ | apply cd_); (case side2 => exact (Kd.R_reads' HO294.out).2.1); (case side3 => repeat first | exact (Kd.R_reads' HO_11.out).2.2 | with_reducible first | apply ca_ | apply cn_ | apply cd_); (case side4 => exact (Kd.R_reads' HO_11.out).2.1); rintro e w56 ⟨v296, rfl, ho0, hb⟩; refine ⟨_, rfl, ?_⟩; have n0_ := Aside0.mk (Kd.R_elder' (by (with_reducible repeat (first | apply ra_ | apply rn_ | apply rd_)); exact HO_11.out) (Kd.R_base ho0) hb); have n1_ := Aside0.mk (Kd.R_elder' (by (with_reducible repeat (first | apply ra_ | apply rn_ | apply rd_)); exact HO290.out) (Kd.R_base ho0) hb); have n2_ := Aside0.mk (Kd.R_elder' (by (with_reducible repeat (first | apply ra_ | apply rn_ | apply rd_)); exact HO294.out) (Kd.R_base ho0) hb); have n3_ := Aside0.mk (Kd.R_lower (Kd.R_new' (Kd.R_new' (Kd.R_new' ho0 (Kd.R_lt (by (with_reducible repeat (first | apply ra_ | apply rn_ | apply rd_)); exact HO_11.out))) (Kd.R_lt (by (with_reducible repeat (first | apply ra_ | apply rn_ | apply rd_)); exact HO290.out))) (Kd.R_lt (by (with_reducible repeat (first | apply ra_ | apply rn_ | apply rd_)); exact HO294.out))) (below_size bh_)); have n4_ := Aside0.mk (blk_below (g := gb273) (o := .cells #[.slice A0_0 l0_0.length c0_0, .slice A0_1 l0_1.length c0_1, .int .i64 a0_2, .bool a0_3] 100 (0, 0)) (by (with_reducible repeat (first | apply kn_ | apply kd_ | apply ka_)); exact BK273.out) hb); have n5_ := bq_ hb; clear HO_11 HO290 HO294 BK273 HB; have HO_11 := n0_; have HO290 := n1_; have HO294 := n2_; have HO297 := n3_; have BK273 := n4_; have HB := n5_; clear n0_ n1_ n2_ n3_ n4_ n5_; skip; obtain ⟨Ao57, co57, eo57⟩ := Kd.R_slice HO297.out; subst eo57) | ((with_reducible refine gc_ 47 rfl ?_); refine gM_ (some 62) Try.func47 [.slice Ao57 t295.length co57, .int .i64 1] ?_; (with_reducible refine (flyballref01_Shl.calls kj6 _ _ t295 1 t298 _ ?side1 ?side2 A35.out).mono ?_); (case side1 => repeat first | exact (Kd.R_reads' HO297.out).2.2 | with_reducible first | apply ca_ | apply cn_ | apply cd_); (case side2 => exact (Kd.R_reads' HO297.out).2.1); rintro e w58 ⟨v299, rfl, ho0, hb⟩; refine ⟨_, rfl, ?_⟩; have n0_ := Aside0.mk (Kd.R_elder' (by (with_reducible repeat (first | apply ra_ | apply rn_ | apply rd_)); exact HO_11.out) (Kd.R_base ho0) hb); have n1_ := Aside0.mk (Kd.R_elder' (by (with_reducible repeat (first | apply ra_ | apply rn_ | apply rd_)); exact HO290.out) (Kd.R_base ho0) hb); have n2_ := Aside0.mk (Kd.R_elder' (by (with_reducible repeat (first | apply ra_ | apply rn_ | apply rd_)); exact HO294.out) (Kd.R_base ho0) hb); have n3_ := Aside0.mk (Kd.R_elder' (by (with_reducible repeat (first | apply ra_ | apply rn_ | apply rd_)); exact HO297.out) (Kd.R_base ho0) hb); have n4_ := Aside0.mk (Kd.R_lower (Kd.R_new' (Kd.R_new' (Kd.R_new' (Kd.R_new' ho0 (Kd.R_lt (by (with_reducible repeat (first | apply ra_ | apply rn_ | apply rd_)); exact HO_11.out))) (Kd.R_lt (by (with_reducible repeat (first | apply ra_ | apply rn_ | apply rd_)); exact HO290.out))) (Kd.R_lt (by (with_reducible repeat (first | apply ra_ | apply rn_ | apply rd_)); exact HO294.out))) (Kd.R_lt (by (with_reducible repeat (first | apply ra_ | apply rn_ | apply rd_)); exact HO297.out))) (below_size bh_)); have n5_ := Aside0.mk (blk_below (g := gb273) (o := .cells #[.slice A0_0 l0_0.length c0_0, .slice A0_1 l0_1.length c0_1, .int .i64 a0_2, .bool a0_3] 100 (0, 0)) (by (with_reducible repeat (first | apply kn_ | apply kd_ | apply ka_)); exact BK273.out) hb); have n6_ := bq_ hb; clear HO_11 HO290 HO294 HO297 BK273 HB; have HO_11 := n0_; have HO290 := n1_; have HO294 := n2_; have HO297 := n3_; have HO300 := n4_; have BK273 := n5_; have HB := n6_; clear n0_ n1_ n2_ n3_ n4_ n5_ n6_; skip; obtain ⟨Ao59, co59, eo59⟩ := Kd.R_slice HO300.out; subst eo59) | ((with_reducible refine gc_ 54 rfl ?_); refine gM_ (some 64) Try.func54 [.slice Ao59 t298.length co59, .slice Ao55 t283.length co55] ?_; (with_reducible refine (flyballref01_Add.calls kj6 _ _ t298 _ _ t283 t301 _ ?side1 ?side2 ?side3 ?side4 A36.out).mono ?_); (case side1 => repeat first | exact (Kd.R_reads' HO300.out).2.2 | with_reducible first | apply ca_ | apply cn_ | apply cd_); (case side2 => exact (Kd.R_reads' HO300.out).2.1); (case side3 => repeat first | exact (Kd.R_reads' HO_11.out).2.2 | with_reducible first | apply ca_ | apply cn_ | apply cd_); (case side4 => exact (Kd.R_reads' HO_11.out).2.1); rintro e w60 ⟨v302, rfl, ho0, hb⟩; refine ⟨_, rfl, ?_⟩; have n0_ := Aside0.mk (Kd.R_elder' (by (with_reducible repeat (first | apply ra_ | apply rn_ | apply rd_)); exact HO_11.out) (Kd.R_base ho0) hb); have n1_ := Aside0.mk (Kd.R_elder' (by (with_reducible repeat (first | apply ra_ | apply rn_ | apply rd_)); exact HO290.out) (Kd.R_base ho0) hb); have n2_ := Aside0.mk (Kd.R_elder' (by (with_reducible repeat (first | apply ra_ | apply rn_ | apply rd_)); exact HO294.out) (Kd.R_base ho0) hb); have n3_ := Aside0.mk (Kd.R_elder' (by (with_reducible repeat (first | apply ra_ | apply rn_ | apply rd_)); exact HO297.out) (Kd.R_base ho0) hb); have n4_ := Aside0.mk (Kd.R_elder' (by (with_reducible repeat (first | apply ra_ | apply rn_ | apply rd_)); exact HO300.out) (Kd.R_base ho0) hb); have n5_ := Aside0.mk (Kd.R_lower (Kd.R_new' (Kd.R_new' (Kd.R_new' (Kd.R_new' (Kd.R_new' ho0 (Kd.R_lt (by (with_reducible repeat (first | apply ra_ | apply rn_ | apply rd_)); exact HO_11.out))) (Kd.R_lt (by (with_reducible repeat (first | apply ra_ | apply rn_ | apply rd_)); exact HO290.out))) (Kd.R_lt (by (with_reducible repeat (first | apply ra_ | apply rn_ | apply rd_)); exact HO294.out))) (Kd.R_lt (by (with_reducible repeat (first | apply ra_ | apply rn_ | apply rd_)); exact HO297.out))) (Kd.R_lt (by (with_reducible repeat (first | apply ra_ | apply rn_ | apply rd_)); exact HO300.out))) (below_size bh_)); have n6_ := Aside0.mk (blk_below (g := gb273) (o := .cells #[.slice A0_0 l0_0.length c0_0, .slice A0_1 l0_1.length c0_1, .int .i64 a0_2, .bool a0_3] 100 (0, 0)) (by (with_reducible repeat (first | apply kn_ | apply kd_ | apply ka_)); exact BK273.out) hb); have n7_ := bq_ hb; clear HO_11 HO290 HO294 HO297 HO300 BK273 HB; have HO_11 := n0_; have HO290 := n1_; have HO294 := n2_; have HO297 := n3_; have HO300 := n4_; have HO303 := n5_; have BK273 := n6_; have HB := n7_; clear n0_ n1_ n2_ n3_ n4_ n5_ n6_ n7_; skip; have hcz61_0 : w60.cell? ⟨gb273, 0, none⟩ = some (.slice A0_0 l0_0.length c0_0) := (blk_cell BK273.out 0).trans rfl; have hcz61_1 : w60.cell? ⟨gb273, 1, none⟩ = some (.slice A0_1 l0_1.length c0_1) := (blk_cell BK273.out 1).trans rfl; have hcz61_2 : w60.cell? ⟨gb273, 2, none⟩ = some (.int .i64 a0_2) := (blk_cell BK273.out 2).trans rfl; have hcz61_3 : w60.cell? ⟨gb273, 3, none⟩ = some (.bool a0_3) := (blk_cell BK273.out 3).trans rfl; have hfz61_0 := blk_frozen BK273.out 0; have hfz61_1 := blk_frozen BK273.out 1; have hfz61_2 := blk_frozen BK273.out 2; have hfz61_3 := blk_frozen BK273.out 3; obtain ⟨Ao62, co62, eo62⟩ := Kd.R_slice HO303.out; subst eo62) | ((with_reducible refine gc_ 110 rfl ?_); refine gM_ (some 69) Try.func110 [.agg #[.slice A0_0 l0_0.length c0_0, .slice A0_1 l0_1.length c0_1, .int .i64 a0_2, .bool a0_3], .slice Ao62 t301.length co62, .int .i64 (wrap64 (t292 - 1))] ?_; (with_reducible refine (flyballref05_cmp.calls kj6 _ _ l0_0 _ _ l0_1 a0_2 a0_3 _ _ t301 (wrap64 (t292 - 1)) t304 _ ?side1 ?side2 ?side3 ?side4 ?side5 ?side6 A37.out).mono ?_); (case side1 => exact ch_ HR0_0.out); (case side2 => exact HC0_0.out); (case side3 => exact ch_ HR0_1.out); (case side4 => exact HC0_1.out); (case side5 => repeat first | exact (Kd.R_reads' HO303.out).2.2 | with_reducible first | apply ca_ | apply cn_ | apply cd_); (case side6 => exact (Kd.R_reads' HO303.out).2.1); rintro e w63 ⟨rfl, hb⟩; refine ⟨_, rfl, ?_⟩; replace HO_11 := Aside0.mk (Kd.R_below (by (with_reducible repeat (first | apply ra_ | apply rn_ | apply rd_)); exact HO_11.out) hb); replace HO290 := Aside0.mk (Kd.R_below (by (with_reducible repeat (first | apply ra_ | apply rn_ | apply rd_)); exact HO290.out) hb); replace HO294 := Aside0.mk (Kd.R_below (by (with_reducible repeat (first | apply ra_ | apply rn_ | apply rd_)); exact HO294.out) hb); replace HO297 := Aside0.mk (Kd.R_below (by (with_reducible repeat (first | apply ra_ | apply rn_ | apply rd_)); exact HO297.out) hb); replace HO300 := Aside0.mk (Kd.R_below (by (with_reducible repeat (first | apply ra_ | apply rn_ | apply rd_)); exact HO300.out) hb); replace HO303 := Aside0.mk (Kd.R_below (by (with_reducible repeat (first | apply ra_ | apply rn_ | apply rd_)); exact HO303.out) hb); replace BK273 := Aside0.mk (blk_below (g := gb273) (o := .cells #[.slice A0_0 l0_0.length c0_0, .slice A0_1 l0_1.length c0_1, .int .i64 a0_2, .bool a0_3] 100 (0, 0)) (by (with_reducible repeat (first | apply kn_ | apply kd_ | apply ka_)); exact BK273.out) hb); replace HB := bq_ hb))
    go_meet
    case rel => exact ⟨_, (((Int.tmod t274 2) == 1)), (sh_), H', ⟨by have := HJ6.out; first | omega | exact Nat.le_refl _⟩, ⟨by (with_reducible repeat (first | apply kn_ | apply kd_ | apply ka_)); exact BK273.out⟩, ⟨bh_⟩⟩
   case rest =>
    clear HC28
    try clear c1
    try clear c2
    try clear p2
    try clear c3
    try clear c4
    try clear c5
    try clear p6
    try clear c7
    try clear c8
    try clear c9
    try clear c10
    try clear c11
    try clear c19
    try clear c19b0
    try clear c19b1
    try clear c21
    try clear c21b0
    try clear c25
    try clear c29
    try clear c29b0
    try clear c29b1
    try clear c30
    try clear c30b0
    try clear c30b1
    try clear c32
    try clear c32b0
    try clear c38
    try clear c38b0
    try clear c47
    try clear c51
    try clear c51b0
    try clear c51b1
    try clear c54
    try clear p64
    try clear c79
    try clear c79b0
    try clear c89
    try clear c89b0
    try clear c89b1
    try clear c90
    try clear hcz105_0
    try clear hcz105_1
    try clear hcz105_2
    try clear hcz105_3
    try clear hcz12_0
    try clear hcz12_1
    try clear hcz12_2
    try clear hcz12_3
    try clear hcz22_0
    try clear hcz22_1
    try clear hcz22_2
    try clear hcz22_3
    try clear hcz25_0
    try clear hcz25_1
    try clear hcz25_2
    try clear hcz25_3
    try clear hcz48_0
    try clear hcz48_1
    try clear hcz48_2
    try clear hcz48_3
    try clear hcz61_0
    try clear hcz61_1
    try clear hcz61_2
    try clear hcz61_3
    try clear hcz73_0
    try clear hcz73_1
    try clear hcz73_2
    try clear hcz73_3
    try clear hcz86_0
    try clear hcz86_1
    try clear hcz86_2
    try clear hcz86_3
    try clear hcz96_0
    try clear hcz96_1
    try clear hcz96_2
    try clear hcz96_3
    try clear hcz9_0
    try clear hcz9_1
    try clear hcz9_2
    try clear hcz9_3
    try clear hfz105_0
    try clear hfz105_1
    try clear hfz105_2
    try clear hfz105_3
    try clear hfz12_0
    try clear hfz12_1
    try clear hfz12_2
    try clear hfz12_3
    try clear hfz25_0
    try clear hfz25_1
    try clear hfz25_2
    try clear hfz25_3
    try clear hfz48_0
    try clear hfz48_1
    try clear hfz48_2
    try clear hfz48_3
    try clear hfz61_0
    try clear hfz61_1
    try clear hfz61_2
    try clear hfz61_3
    try clear hfz73_0
    try clear hfz73_1
    try clear hfz73_2
    try clear hfz73_3
    try clear hfz86_0
    try clear hfz86_1
    try clear hfz86_2
    try clear hfz86_3
    try clear hfz96_0
    try clear hfz96_1
    try clear hfz96_2
    try clear hfz96_3
    try clear hfz9_0
    try clear hfz9_1
    try clear hfz9_2
    try clear hfz9_3
    try clear p2
    obtain ⟨kq, x12_27, rfl, HA, HJ27, BK273, HB⟩ := hcut
    cases kq with
    | zero => exact absurd HA.out (by simp [flyballref05_Magnitude.j1])
    | succ kj27 =>
     have H := HA.out
     clear HA
     simp only [flyballref05_Magnitude.j1] at H
     have HC108 := Aside0.mk H
     clear H
     go_upto_region 21 with (fail)
     go_cut [85] (fun v85 wc => ∃ (kq : Nat) (x85_107 : Bool), v85 = .bool x85_107 ∧ Aside0 (flyballref05_Magnitude.j2 kq a1 x6_6 t274 x85_107 = some (r1, r2)) ∧ Aside0 (kq ≤ kj27) ∧ Aside0 (wc.heap[gb273]? = some (.cells #[(.slice A0_0 l0_0.length c0_0), (.slice A0_1 l0_1.length c0_1), .int .i64 a0_2, .bool a0_3] 100 (0, 0))) ∧ Aside0 (Below w.heap.size w wc))
     case first =>
      have H := HC108.out
      clear HC108
      by_cases c109 : t274 ≤ 9218868437227405311
      case pos =>
       rw [if_pos c109] at H
       have c109b0 : decide (t274 ≤ 9218868437227405311) = true := decide_eq_true c109
       clear c109
       (first | rw [c109b0] | (simp only [i64_w, i32_w]; rw [c109b0]) | skip)
       have H' := Aside0.mk H
       clear H
       go_wp2
       go_meet
       case rel => exact ⟨_, (x12_27), (sh_), H', ⟨by have := HJ6.out; have := HJ27.out; first | omega | exact Nat.le_refl _⟩, ⟨by (with_reducible repeat (first | apply kn_ | apply kd_ | apply ka_)); exact BK273.out⟩, ⟨bh_⟩⟩
      rw [if_neg c109] at H
      have c109b0 : decide (t274 ≤ 9218868437227405311) = false := decide_eq_false c109
      clear c109
      (first | rw [c109b0] | (simp only [i64_w, i32_w]; rw [c109b0]) | skip)
      have H' := Aside0.mk H
      clear H
      go_wp2
      go_meet
      case rel => exact ⟨_, (false), (sh_), H', ⟨by have := HJ6.out; have := HJ27.out; first | omega | exact Nat.le_refl _⟩, ⟨by (with_reducible repeat (first | apply kn_ | apply kd_ | apply ka_)); exact BK273.out⟩, ⟨bh_⟩⟩
     case rest =>
      clear HC108
      try clear c1
      try clear c2
      try clear p2
      try clear c3
      try clear c4
      try clear c5
      try clear p6
      try clear c7
      try clear c8
      try clear c9
      try clear c10
      try clear c11
      try clear c19
      try clear c19b0
      try clear c19b1
      try clear c21
      try clear c21b0
      try clear c25
      try clear c29
      try clear c29b0
      try clear c29b1
      try clear c30
      try clear c30b0
      try clear c30b1
      try clear c32
      try clear c32b0
      try clear c38
      try clear c38b0
      try clear c47
      try clear c51
      try clear c51b0
      try clear c51b1
      try clear c54
      try clear p64
      try clear c79
      try clear c79b0
      try clear c89
      try clear c89b0
      try clear c89b1
      try clear c90
      try clear c108
      try clear c109
      try clear c109b0
      try clear hcz105_0
      try clear hcz105_1
      try clear hcz105_2
      try clear hcz105_3
      try clear hcz12_0
      try clear hcz12_1
      try clear hcz12_2
      try clear hcz12_3
      try clear hcz22_0
      try clear hcz22_1
      try clear hcz22_2
      try clear hcz22_3
      try clear hcz25_0
      try clear hcz25_1
      try clear hcz25_2
      try clear hcz25_3
      try clear hcz48_0
      try clear hcz48_1
      try clear hcz48_2
      try clear hcz48_3
      try clear hcz61_0
      try clear hcz61_1
      try clear hcz61_2
      try clear hcz61_3
      try clear hcz73_0
      try clear hcz73_1
      try clear hcz73_2
      try clear hcz73_3
      try clear hcz86_0
      try clear hcz86_1
      try clear hcz86_2
      try clear hcz86_3
      try clear hcz96_0
      try clear hcz96_1
      try clear hcz96_2
      try clear hcz96_3
      try clear hcz9_0
      try clear hcz9_1
      try clear hcz9_2
      try clear hcz9_3
      try clear hfz105_0
      try clear hfz105_1
      try clear hfz105_2
      try clear hfz105_3
      try clear hfz12_0
      try clear hfz12_1
      try clear hfz12_2
      try clear hfz12_3
      try clear hfz25_0
      try clear hfz25_1
      try clear hfz25_2
      try clear hfz25_3
      try clear hfz48_0
      try clear hfz48_1
      try clear hfz48_2
      try clear hfz48_3
      try clear hfz61_0
      try clear hfz61_1
      try clear hfz61_2
      try clear hfz61_3
      try clear hfz73_0
      try clear hfz73_1
      try clear hfz73_2
      try clear hfz73_3
      try clear hfz86_0
      try clear hfz86_1
      try clear hfz86_2
      try clear hfz86_3
      try clear hfz96_0
      try clear hfz96_1
      try clear hfz96_2
      try clear hfz96_3
      try clear hfz9_0
      try clear hfz9_1
      try clear hfz9_2
      try clear hfz9_3
      try clear p2
      try clear p6
      try clear p64
      obtain ⟨kq, x85_107, rfl, HA, HJ107, BK273, HB⟩ := hcut
      cases kq with
      | zero => exact absurd HA.out (by simp [flyballref05_Magnitude.j2])
      | succ kj107 =>
       have H := HA.out
       clear HA
       simp only [flyballref05_Magnitude.j2] at H
       have HC110 := Aside0.mk H
       clear H
       go_upto_if 85 with (fail)
       go_cut [7] (fun v7 wc => ∃ (kq : Nat) (x7_109 : Int), v7 = .int .i64 x7_109 ∧ Aside0 (flyballref05_Magnitude.j3 kq a1 x6_6 x7_109 = some (r1, r2)) ∧ Aside0 (kq ≤ kj107) ∧ Aside0 (wc.heap[gb273]? = some (.cells #[(.slice A0_0 l0_0.length c0_0), (.slice A0_1 l0_1.length c0_1), .int .i64 a0_2, .bool a0_3] 100 (0, 0))) ∧ Aside0 (Below w.heap.size w wc))
       case first =>
        have H := HC110.out
        clear HC110
        by_cases c111 : x85_107 = true
        case pos =>
         subst c111
         have H1 : (flyballref05_Magnitude.j3 kj107 a1 x6_6 (wrap64 (t274 + 1))) = some (r1, r2) := by rw [if_pos rfl] at H; exact H
         clear H
         have H := H1
         clear H1
         have H' := Aside0.mk H
         clear H
         go_wp2
         go_meet
         case rel => exact ⟨_, (wrap64 (t274 + 1)), (sh_), H', ⟨by have := HJ6.out; have := HJ27.out; have := HJ107.out; first | omega | exact Nat.le_refl _⟩, ⟨by (with_reducible repeat (first | apply kn_ | apply kd_ | apply ka_)); exact BK273.out⟩, ⟨bh_⟩⟩
        replace c111 := Bool.eq_false_iff.mpr c111
        subst c111
        have H1 : (flyballref05_Magnitude.j3 kj107 a1 x6_6 t274) = some (r1, r2) := by rw [if_neg (show ¬ (false = true) by decide)] at H; exact H
        clear H
        have H := H1
        clear H1
        have H' := Aside0.mk H
        clear H
        go_wp2
        go_meet
        case rel => exact ⟨_, (t274), (sh_), H', ⟨by have := HJ6.out; have := HJ27.out; have := HJ107.out; first | omega | exact Nat.le_refl _⟩, ⟨by (with_reducible repeat (first | apply kn_ | apply kd_ | apply ka_)); exact BK273.out⟩, ⟨bh_⟩⟩
       case rest =>
        clear HC110
        try clear c1
        try clear c2
        try clear p2
        try clear c3
        try clear c4
        try clear c5
        try clear p6
        try clear c7
        try clear c8
        try clear c9
        try clear c10
        try clear c11
        try clear c19
        try clear c19b0
        try clear c19b1
        try clear c21
        try clear c21b0
        try clear c25
        try clear c29
        try clear c29b0
        try clear c29b1
        try clear c30
        try clear c30b0
        try clear c30b1
        try clear c32
        try clear c32b0
        try clear c38
        try clear c38b0
        try clear c47
        try clear c51
        try clear c51b0
        try clear c51b1
        try clear c54
        try clear p64
        try clear c79
        try clear c79b0
        try clear c89
        try clear c89b0
        try clear c89b1
        try clear c90
        try clear c108
        try clear c109
        try clear c109b0
        try clear c110
        try clear c111
        try clear hcz105_0
        try clear hcz105_1
        try clear hcz105_2
        try clear hcz105_3
        try clear hcz12_0
        try clear hcz12_1
        try clear hcz12_2
        try clear hcz12_3
        try clear hcz22_0
        try clear hcz22_1
        try clear hcz22_2
        try clear hcz22_3
        try clear hcz25_0
        try clear hcz25_1
        try clear hcz25_2
        try clear hcz25_3
        try clear hcz48_0
        try clear hcz48_1
        try clear hcz48_2
        try clear hcz48_3
        try clear hcz61_0
        try clear hcz61_1
        try clear hcz61_2
        try clear hcz61_3
        try clear hcz73_0
        try clear hcz73_1
        try clear hcz73_2
        try clear hcz73_3
        try clear hcz86_0
        try clear hcz86_1
        try clear hcz86_2
        try clear hcz86_3
        try clear hcz96_0
        try clear hcz96_1
        try clear hcz96_2
        try clear hcz96_3
        try clear hcz9_0
        try clear hcz9_1
        try clear hcz9_2
        try clear hcz9_3
        try clear hfz105_0
        try clear hfz105_1
        try clear hfz105_2
        try clear hfz105_3
        try clear hfz12_0
        try clear hfz12_1
        try clear hfz12_2
        try clear hfz12_3
        try clear hfz25_0
        try clear hfz25_1
        try clear hfz25_2
        try clear hfz25_3
        try clear hfz48_0
        try clear hfz48_1
        try clear hfz48_2
        try clear hfz48_3
        try clear hfz61_0
        try clear hfz61_1
        try clear hfz61_2
        try clear hfz61_3
        try clear hfz73_0
        try clear hfz73_1
        try clear hfz73_2
        try clear hfz73_3
        try clear hfz86_0
        try clear hfz86_1
        try clear hfz86_2
        try clear hfz86_3
        try clear hfz96_0
        try clear hfz96_1
        try clear hfz96_2
        try clear hfz96_3
        try clear hfz9_0
        try clear hfz9_1
        try clear hfz9_2
        try clear hfz9_3
        try clear p2
        try clear p6
        try clear p64
        obtain ⟨kq, x7_109, rfl, HA, HJ109, BK273, HB⟩ := hcut
        cases kq with
        | zero => exact absurd HA.out (by simp [flyballref05_Magnitude.j3])
        | succ kj109 =>
         have H := HA.out
         clear HA
         simp only [flyballref05_Magnitude.j3] at H
         by_cases c112 : x7_109 > 9218868437227405311
         case neg =>
          rw [if_neg c112] at H
          have c112b0 : decide (9218868437227405311 < x7_109) = false := decide_eq_false c112
          clear c112
          simp only [Option.some.injEq, Prod.mk.injEq] at H
          obtain ⟨rfl, rfl⟩ := H
          go_wp2
          go_ret2
          exact ⟨eh_, bh_⟩
         rw [if_pos c112] at H
         have c112b0 : decide (9218868437227405311 < x7_109) = true := decide_eq_true c112
         clear c112
         by_cases c113 : a1 = 2
         case neg =>
          rw [if_neg c113] at H
          have c113b0 : (a1 == 2) = false := beq_eq_false_iff_ne.mpr c113
          have c113b1 : (a1 != 2) = true := bne_iff_ne.mpr c113
          simp only [Option.some.injEq, Prod.mk.injEq] at H
          obtain ⟨rfl, rfl⟩ := H
          go_wp2
          go_ret2
          exact ⟨eh_, bh_⟩
         rw [if_pos c113] at H
         have c113b0 : (a1 == 2) = true := beq_iff_eq.mpr c113
         have c113b1 : (a1 != 2) = false := bne_eq_false_iff_eq.mpr c113
         clear c113
         simp only [Option.some.injEq, Prod.mk.injEq] at H
         obtain ⟨rfl, rfl⟩ := H
         go_wp2
         go_ret2
         exact ⟨eh_, bh_⟩

/-! ### flyballref05_Signed: function 62 -/
mutual
def flyballref05_Signed.j0 : Nat → Bool → Int → Int → Bool → List Bool → List Bool → Int → Bool → Option (Int × Int)
 | 0, _, _, _, _, _, _, _, _ => none
 | k + 1, x0, x2, x8, x16, x540000, x540001, x540002, x540003 => if x16 = true then (flyballref05_Signed.j1 k x0 2 x540000 x540001 x540002 x540003) else (if x0 = true then (if x2 = 2 then (flyballref05_Signed.j1 k x0 1 x540000 x540001 x540002 x540003) else (flyballref05_Signed.j1 k x0 x8 x540000 x540001 x540002 x540003)) else (flyballref05_Signed.j1 k x0 x8 x540000 x540001 x540002 x540003))
def flyballref05_Signed.j1 : Nat → Bool → Int → List Bool → List Bool → Int → Bool → Option (Int × Int)
 | 0, _, _, _, _, _, _ => none
 | k + 1, x0, x8, x540000, x540001, x540002, x540003 => (flyballref05_Magnitude.f k x540000 x540001 x540002 x540003 x8).bind fun bt540 => (if x0 = true then ((flyballref04_Of.f k (wrap64 (-bt540.1)) true).bind fun t542 => (some (t542, bt540.2))) else ((flyballref04_Of.f k bt540.1 false).bind fun t543 => (some (t543, bt540.2))))
end
def flyballref05_Signed.f (k : Nat) (a0 : Bool) (l1_0 : List Bool) (l1_1 : List Bool) (a1_2 : Int) (a1_3 : Bool) (a2 : Int) : Option (Int × Int) := if a0 = true then (flyballref05_Signed.j0 k a0 a2 a2 (a2 == 1) l1_0 l1_1 a1_2 a1_3) else (flyballref05_Signed.j0 k a0 a2 a2 false l1_0 l1_1 a1_2 a1_3)
theorem flyballref05_Signed.mono_l : ∀ k, (∀ y0 y1 y2 y3 y4 y5 y6 y7, LeO (flyballref05_Signed.j0 k y0 y1 y2 y3 y4 y5 y6 y7) (flyballref05_Signed.j0 (k + 1) y0 y1 y2 y3 y4 y5 y6 y7)) ∧ (∀ y0 y1 y2 y3 y4 y5, LeO (flyballref05_Signed.j1 k y0 y1 y2 y3 y4 y5) (flyballref05_Signed.j1 (k + 1) y0 y1 y2 y3 y4 y5))
 | 0 => ⟨fun _ _ _ _ _ _ _ _ r h => by simp [flyballref05_Signed.j0] at h, fun _ _ _ _ _ _ r h => by simp [flyballref05_Signed.j1] at h⟩
 | k + 1 => by
  obtain ⟨ih0, ih1⟩ := flyballref05_Signed.mono_l k
  refine ⟨?_, ?_⟩
  ·
   intro y0 y1 y2 y3 y4 y5 y6 y7
   unfold flyballref05_Signed.j0
   repeat' with_reducible first | exact ih0 _ _ _ _ _ _ _ _ | exact ih1 _ _ _ _ _ _ | exact flyballref04_Of.mono _ _ _ | exact flyballref05_Magnitude.mono _ _ _ _ _ _ | exact LeO.refl _ | exact LeO.none _ | refine LeO.ite ?_ ?_ | refine LeO.bind ?_ (fun _ => ?_)
  ·
   intro y0 y1 y2 y3 y4 y5
   unfold flyballref05_Signed.j1
   repeat' with_reducible first | exact ih0 _ _ _ _ _ _ _ _ | exact ih1 _ _ _ _ _ _ | exact flyballref04_Of.mono _ _ _ | exact flyballref05_Magnitude.mono _ _ _ _ _ _ | exact LeO.refl _ | exact LeO.none _ | refine LeO.ite ?_ ?_ | refine LeO.bind ?_ (fun _ => ?_)
theorem flyballref05_Signed.mono : ∀ a0 a1 a2 a3 a4 a5 k, LeO (flyballref05_Signed.f k a0 a1 a2 a3 a4 a5) (flyballref05_Signed.f (k + 1) a0 a1 a2 a3 a4 a5) := by
 intro a0 a1 a2 a3 a4 a5 k
 obtain ⟨ih0, ih1⟩ := flyballref05_Signed.mono_l k
 unfold flyballref05_Signed.f
 repeat' with_reducible first | exact ih0 _ _ _ _ _ _ _ _ | exact ih1 _ _ _ _ _ _ | exact flyballref04_Of.mono _ _ _ | exact flyballref05_Magnitude.mono _ _ _ _ _ _ | exact LeO.refl _ | exact LeO.none _ | refine LeO.ite ?_ ?_ | refine LeO.bind ?_ (fun _ => ?_)
set_option maxHeartbeats 8000000 in
set_option maxRecDepth 100000 in
theorem flyballref05_Signed.calls (k : Nat) (a0 : Bool) (A1_0 : Option Addr) (c1_0 : Nat) (l1_0 : List Bool) (A1_1 : Option Addr) (c1_1 : Nat) (l1_1 : List Bool) (a1_2 : Int) (a1_3 : Bool) (a2 : Int) (r1 : Int) (r2 : Int) (w : World) (hr1_0 : Kd.C Kd.bool w A1_0 l1_0.length l1_0) (hc1_0 : l1_0.length ≤ c1_0) (hr1_1 : Kd.C Kd.bool w A1_1 l1_1.length l1_1) (hc1_1 : l1_1.length ≤ c1_1) (h : flyballref05_Signed.f k a0 l1_0 l1_1 a1_2 a1_3 a2 = some (r1, r2)) :
  Calls Try.prog 62 #[.bool a0, .agg #[.slice A1_0 l1_0.length c1_0, .slice A1_1 l1_1.length c1_1, .int .i64 a1_2, .bool a1_3], .int .u8 a2] w fun e w' => e = .returned (.tuple #[.int .u64 r1, .int .u8 r2]) ∧ Below w.heap.size w w' := by
 have hu100 := Try.underlying100
 have HR1_0 := Aside0.mk hr1_0
 have HC1_0 := Aside0.mk hc1_0
 clear hr1_0 hc1_0
 have HR1_1 := Aside0.mk hr1_1
 have HC1_1 := Aside0.mk hc1_1
 clear hr1_1 hc1_1
 have HB := Aside0.mk (Below.refl w.heap.size w)
 have H : (if a0 = true then (flyballref05_Signed.j0 k a0 a2 a2 (a2 == 1) l1_0 l1_1 a1_2 a1_3) else (flyballref05_Signed.j0 k a0 a2 a2 false l1_0 l1_1 a1_2 a1_3)) = some (r1, r2) := h
 clear h
 have HC4 := Aside0.mk H
 clear H
 go_enter Try.func62, Try.ntmps62
 go_upto_region 2 with (first | ((with_reducible refine gate_dst (N := 4) rfl ?_); refine box_event ?hg (N := 4) ?hd (cs := #[.slice A1_0 l1_0.length c1_0, .slice A1_1 l1_1.length c1_1, .int .i64 a1_2, .bool a1_3]) (t := 100) ?hr ?_; (case hd => rfl); (case hg => rfl); (case hr => first | (go_simp; done) | (go_simp; rfl)); intro gb539 hg w5 hbox hb; have n0_ := bq_ hb; have n1_ := Aside0.mk (hbox); have n3_ := bz_ hg; clear HB; have HB := n0_; have BK539 := n1_; have GE539 := n3_; clear n0_ n1_ n3_; clear hb hbox hg))
 (try simp only [Act.put, List.setIfInBounds_toArray, List.set_cons_zero, List.set_cons_succ])
 go_cut [16] (fun v16 wc => ∃ (kq : Nat) (x16_3 : Bool), v16 = .bool x16_3 ∧ Aside0 (flyballref05_Signed.j0 kq a0 a2 a2 x16_3 l1_0 l1_1 a1_2 a1_3 = some (r1, r2)) ∧ Aside0 (kq ≤ k) ∧ Aside0 (wc.heap[gb539]? = some (.cells #[(.slice A1_0 l1_0.length c1_0), (.slice A1_1 l1_1.length c1_1), .int .i64 a1_2, .bool a1_3] 100 (0, 0))) ∧ Aside0 (Below w.heap.size w wc))
 case first =>
  have H := HC4.out
  clear HC4
  by_cases c6 : a0 = true
  case pos =>
   subst c6
   have H1 : (flyballref05_Signed.j0 k true a2 a2 (a2 == 1) l1_0 l1_1 a1_2 a1_3) = some (r1, r2) := by rw [if_pos rfl] at H; exact H
   clear H
   have H := H1
   clear H1
   have H' := Aside0.mk H
   clear H
   go_wp2
   go_meet
   case rel => exact ⟨_, ((a2 == 1)), (sh_), H', ⟨by first | omega | exact Nat.le_refl _⟩, ⟨by (with_reducible repeat (first | apply kn_ | apply kd_ | apply ka_)); exact BK539.out⟩, ⟨bh_⟩⟩
  replace c6 := Bool.eq_false_iff.mpr c6
  subst c6
  have H1 : (flyballref05_Signed.j0 k false a2 a2 false l1_0 l1_1 a1_2 a1_3) = some (r1, r2) := by rw [if_neg (show ¬ (false = true) by decide)] at H; exact H
  clear H
  have H := H1
  clear H1
  have H' := Aside0.mk H
  clear H
  go_wp2
  go_meet
  case rel => exact ⟨_, (false), (sh_), H', ⟨by first | omega | exact Nat.le_refl _⟩, ⟨by (with_reducible repeat (first | apply kn_ | apply kd_ | apply ka_)); exact BK539.out⟩, ⟨bh_⟩⟩
 case rest =>
  clear HC4
  try clear c1
  try clear p2
  try clear c6
  obtain ⟨kq, x16_3, rfl, HA, HJ3, BK539, HB⟩ := hcut
  cases kq with
  | zero => exact absurd HA.out (by simp [flyballref05_Signed.j0])
  | succ kj3 =>
   have H := HA.out
   clear HA
   simp only [flyballref05_Signed.j0] at H
   have HC7 := Aside0.mk H
   clear H
   go_upto_if 16 with (fail)
   go_cut [8] (fun v8 wc => ∃ (kq : Nat) (x8_6 : Int), v8 = .int .u8 x8_6 ∧ Aside0 (flyballref05_Signed.j1 kq a0 x8_6 l1_0 l1_1 a1_2 a1_3 = some (r1, r2)) ∧ Aside0 (kq ≤ kj3) ∧ Aside0 (wc.heap[gb539]? = some (.cells #[(.slice A1_0 l1_0.length c1_0), (.slice A1_1 l1_1.length c1_1), .int .i64 a1_2, .bool a1_3] 100 (0, 0))) ∧ Aside0 (Below w.heap.size w wc))
   case first =>
    have H := HC7.out
    clear HC7
    by_cases c8 : x16_3 = true
    case pos =>
     subst c8
     have H1 : (flyballref05_Signed.j1 kj3 a0 2 l1_0 l1_1 a1_2 a1_3) = some (r1, r2) := by rw [if_pos rfl] at H; exact H
     clear H
     have H := H1
     clear H1
     have H' := Aside0.mk H
     clear H
     go_wp2
     go_meet
     case rel => exact ⟨_, (2), (sh_), H', ⟨by have := HJ3.out; first | omega | exact Nat.le_refl _⟩, ⟨by (with_reducible repeat (first | apply kn_ | apply kd_ | apply ka_)); exact BK539.out⟩, ⟨bh_⟩⟩
    replace c8 := Bool.eq_false_iff.mpr c8
    subst c8
    have H1 : (if a0 = true then (if a2 = 2 then (flyballref05_Signed.j1 kj3 a0 1 l1_0 l1_1 a1_2 a1_3) else (flyballref05_Signed.j1 kj3 a0 a2 l1_0 l1_1 a1_2 a1_3)) else (flyballref05_Signed.j1 kj3 a0 a2 l1_0 l1_1 a1_2 a1_3)) = some (r1, r2) := by rw [if_neg (show ¬ (false = true) by decide)] at H; exact H
    clear H
    have H := H1
    clear H1
    by_cases c9 : a0 = true
    case neg =>
     replace c9 := Bool.eq_false_iff.mpr c9
     subst c9
     have H1 : (flyballref05_Signed.j1 kj3 false a2 l1_0 l1_1 a1_2 a1_3) = some (r1, r2) := by rw [if_neg (show ¬ (false = true) by decide)] at H; exact H
     clear H
     have H := H1
     clear H1
     have H' := Aside0.mk H
     clear H
     go_wp2
     go_meet
     case rel => exact ⟨_, (a2), (sh_), H', ⟨by have := HJ3.out; first | omega | exact Nat.le_refl _⟩, ⟨by (with_reducible repeat (first | apply kn_ | apply kd_ | apply ka_)); exact BK539.out⟩, ⟨bh_⟩⟩
    subst c9
    have H1 : (if a2 = 2 then (flyballref05_Signed.j1 kj3 true 1 l1_0 l1_1 a1_2 a1_3) else (flyballref05_Signed.j1 kj3 true a2 l1_0 l1_1 a1_2 a1_3)) = some (r1, r2) := by rw [if_pos rfl] at H; exact H
    clear H
    have H := H1
    clear H1
    by_cases c10 : a2 = 2
    case neg =>
     rw [if_neg c10] at H
     have c10b0 : (a2 == 2) = false := beq_eq_false_iff_ne.mpr c10
     have c10b1 : (a2 != 2) = true := bne_iff_ne.mpr c10
     (first | rw [c10b0] | (simp only [i64_w, i32_w]; rw [c10b0]) | skip)
     have H' := Aside0.mk H
     clear H
     go_wp2
     go_meet
     case rel => exact ⟨_, (a2), (sh_), H', ⟨by have := HJ3.out; first | omega | exact Nat.le_refl _⟩, ⟨by (with_reducible repeat (first | apply kn_ | apply kd_ | apply ka_)); exact BK539.out⟩, ⟨bh_⟩⟩
    rw [if_pos c10] at H
    have c10b0 : (a2 == 2) = true := beq_iff_eq.mpr c10
    have c10b1 : (a2 != 2) = false := bne_eq_false_iff_eq.mpr c10
    clear c10
    (first | rw [c10b0] | (simp only [i64_w, i32_w]; rw [c10b0]) | skip)
    have H' := Aside0.mk H
    clear H
    go_wp2
    go_meet
    case rel => exact ⟨_, (1), (sh_), H', ⟨by have := HJ3.out; first | omega | exact Nat.le_refl _⟩, ⟨by (with_reducible repeat (first | apply kn_ | apply kd_ | apply ka_)); exact BK539.out⟩, ⟨bh_⟩⟩
   case rest =>
    clear HC7
    try clear c1
    try clear p2
    try clear c6
    try clear c8
    try clear c9
    try clear c10
    try clear c10b0
    try clear c10b1
    try clear p2
    obtain ⟨kq, x8_6, rfl, HA, HJ6, BK539, HB⟩ := hcut
    cases kq with
    | zero => exact absurd HA.out (by simp [flyballref05_Signed.j1])
    | succ kj6 =>
     have H := HA.out
     clear HA
     simp only [flyballref05_Signed.j1] at H
     replace H := Option.bind_eq_some_iff.mp H
     obtain ⟨⟨t540, t541⟩, A110, H⟩ := H
     replace H : (if a0 = true then ((flyballref04_Of.f kj6 (wrap64 (-t540)) true).bind fun t542 => (some (t542, t541))) else ((flyballref04_Of.f kj6 t540 false).bind fun t543 => (some (t543, t541)))) = some (r1, r2) := H
     have A11 := Aside0.mk A110
     clear A110
     by_cases c12 : a0 = true
     case neg =>
      replace c12 := Bool.eq_false_iff.mpr c12
      subst c12
      have H1 : ((flyballref04_Of.f kj6 t540 false).bind fun t543 => (some (t543, t541))) = some (r1, r2) := by rw [if_neg (show ¬ (false = true) by decide)] at H; exact H
      clear H
      have H := H1
      clear H1
      replace H := Option.bind_eq_some_iff.mp H
      obtain ⟨t543, A160, H⟩ := H
      replace H : (some (t543, t541)) = some (r1, r2) := H
      have A16 := Aside0.mk A160
      clear A160
      simp only [Option.some.injEq, Prod.mk.injEq] at H
      obtain ⟨rfl, rfl⟩ := H
      have hcz17_0 : wc.cell? ⟨gb539, 0, none⟩ = some (.slice A1_0 l1_0.length c1_0) := (blk_cell BK539.out 0).trans rfl
      have hcz17_1 : wc.cell? ⟨gb539, 1, none⟩ = some (.slice A1_1 l1_1.length c1_1) := (blk_cell BK539.out 1).trans rfl
      have hcz17_2 : wc.cell? ⟨gb539, 2, none⟩ = some (.int .i64 a1_2) := (blk_cell BK539.out 2).trans rfl
      have hcz17_3 : wc.cell? ⟨gb539, 3, none⟩ = some (.bool a1_3) := (blk_cell BK539.out 3).trans rfl
      go_wp2_with (first | ((with_reducible refine gc_ 90 rfl ?_); refine gM_ (some 25) Try.func90 [.agg #[.slice A1_0 l1_0.length c1_0, .slice A1_1 l1_1.length c1_1, .int .i64 a1_2, .bool a1_3], .int .u8 x8_6] ?_; (with_reducible refine (flyballref05_Magnitude.calls kj6 _ _ l1_0 _ _ l1_1 a1_2 a1_3 x8_6 t540 t541 _ ?side1 ?side2 ?side3 ?side4 A11.out).mono ?_); (case side1 => exact ch_ HR1_0.out); (case side2 => exact HC1_0.out); (case side3 => exact ch_ HR1_1.out); (case side4 => exact HC1_1.out); rintro e w18 ⟨rfl, hb⟩; refine ⟨_, rfl, ?_⟩; replace HB := bq_ hb) | ((with_reducible refine gc_ 61 rfl ?_); refine gM_ (some 34) Try.func61 [.int .i64 t540, .bool false] ?_; (with_reducible refine (flyballref04_Of.calls kj6 t540 false t543 _ A16.out).mono ?_); rintro e w' ⟨rfl, ⟨nd, rfl⟩⟩; refine ⟨_, rfl, ?_⟩))
      go_ret2
      exact ⟨eh_, bh_⟩
     subst c12
     have H1 : ((flyballref04_Of.f kj6 (wrap64 (-t540)) true).bind fun t542 => (some (t542, t541))) = some (r1, r2) := by rw [if_pos rfl] at H; exact H
     clear H
     have H := H1
     clear H1
     replace H := Option.bind_eq_some_iff.mp H
     obtain ⟨t542, A130, H⟩ := H
     replace H : (some (t542, t541)) = some (r1, r2) := H
     have A13 := Aside0.mk A130
     clear A130
     simp only [Option.some.injEq, Prod.mk.injEq] at H
     obtain ⟨rfl, rfl⟩ := H
     have hcz14_0 : wc.cell? ⟨gb539, 0, none⟩ = some (.slice A1_0 l1_0.length c1_0) := (blk_cell BK539.out 0).trans rfl
     have hcz14_1 : wc.cell? ⟨gb539, 1, none⟩ = some (.slice A1_1 l1_1.length c1_1) := (blk_cell BK539.out 1).trans rfl
     have hcz14_2 : wc.cell? ⟨gb539, 2, none⟩ = some (.int .i64 a1_2) := (blk_cell BK539.out 2).trans rfl
     have hcz14_3 : wc.cell? ⟨gb539, 3, none⟩ = some (.bool a1_3) := (blk_cell BK539.out 3).trans rfl
     go_wp2_with (first | ((with_reducible refine gc_ 90 rfl ?_); refine gM_ (some 25) Try.func90 [.agg #[.slice A1_0 l1_0.length c1_0, .slice A1_1 l1_1.length c1_1, .int .i64 a1_2, .bool a1_3], .int .u8 x8_6] ?_; (with_reducible refine (flyballref05_Magnitude.calls kj6 _ _ l1_0 _ _ l1_1 a1_2 a1_3 x8_6 t540 t541 _ ?side1 ?side2 ?side3 ?side4 A11.out).mono ?_); (case side1 => exact ch_ HR1_0.out); (case side2 => exact HC1_0.out); (case side3 => exact ch_ HR1_1.out); (case side4 => exact HC1_1.out); rintro e w15 ⟨rfl, hb⟩; refine ⟨_, rfl, ?_⟩; replace BK539 := Aside0.mk (blk_below (g := gb539) (o := .cells #[.slice A1_0 l1_0.length c1_0, .slice A1_1 l1_1.length c1_1, .int .i64 a1_2, .bool a1_3] 100 (0, 0)) (by (with_reducible repeat (first | apply kn_ | apply kd_ | apply ka_)); exact BK539.out) hb); replace HB := bq_ hb) | ((with_reducible refine gc_ 61 rfl ?_); refine gM_ (some 31) Try.func61 [.int .i64 (wrap64 (-t540)), .bool true] ?_; (with_reducible refine (flyballref04_Of.calls kj6 (wrap64 (-t540)) true t542 _ A13.out).mono ?_); rintro e w' ⟨rfl, ⟨nd, rfl⟩⟩; refine ⟨_, rfl, ?_⟩))
     go_ret2
     exact ⟨eh_, bh_⟩

end Go.Proofs.Ytfglpaaeipblcaa.P
