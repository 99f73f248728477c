/- Walks of one package: what each function returns, wherever the Lean function beside it has an answer. -/
import Derived.Test.YtfglpaaeipblcaaP0
import Derived.Test.YtfglpaaeipblcaaPPattern1
import Derived.Test.YtfglpaaeipblcaaPRatio1
namespace Go.Proofs.Ytfglpaaeipblcaa.P
open Go.RowKit Go.Proofs.YtfglpaaeipblcaaW.PrintWords Go.Proofs.YtfglpaaeipblcaaW.PrintLast Go.Proofs.YtfglpaaeipblcaaW.PrintMore
attribute [local go_sem] max2_int min2_int max_two min_two max_three min_three max_four min_four   -- for this text's walks alone
set_option linter.unusedVariables false
set_option linter.unusedSimpArgs false

/-! ### pattern_Value: function 34 -/
def pattern_Value.j0 : Nat → Int → Bool → Option (Bool × List Int × List Int × Bool)
 | 0, _, _ => none
 | k + 1, x0, x10 => if x10 = true then (some (false, ([] : List Int), ([] : List Int), false)) else ((pattern_Split.f k x0).bind fun bt577 => ((ratio_Dyad.f k ((x0 / 9223372036854775808) == 1) bt577.1 bt577.2).bind fun bt579 => (some (bt579.1, bt579.2.1, bt579.2.2.1, true))))
def pattern_Value.f (k : Nat) (a0 : Int) : Option (Bool × List Int × List Int × Bool) := (pattern_Class.f k a0).bind fun t576 => (if t576 = 3 then (pattern_Value.j0 k a0 (t576 == 3)) else (pattern_Value.j0 k a0 (t576 == 4)))
theorem pattern_Value.mono_l : ∀ k, (∀ y0 y1, LeO (pattern_Value.j0 k y0 y1) (pattern_Value.j0 (k + 1) y0 y1))
 | 0 => fun _ _ r h => by simp [pattern_Value.j0] at h
 | k + 1 => by
  have ih0 := pattern_Value.mono_l k
  ·
   intro y0 y1
   unfold pattern_Value.j0
   repeat' first
   | (with_reducible exact ih0 _ _)
   | (with_reducible exact pattern_Class.mono _ _)
   | (with_reducible exact pattern_Split.mono _ _)
   | (with_reducible exact ratio_Dyad.mono _ _ _ _)
   | (with_reducible exact LeO.refl _)
   | (with_reducible exact LeO.none _)
   | (with_reducible refine LeO.ite ?_ ?_)
   | (with_reducible refine LeO.bind ?_ (fun _ => ?_))
   | exact ih0 _ _
   | exact pattern_Class.mono _ _
   | exact pattern_Split.mono _ _
   | exact ratio_Dyad.mono _ _ _ _
   | exact LeO.none _
   | refine LeO.ite ?_ ?_
   | refine LeO.bind ?_ (fun _ => ?_)
theorem pattern_Value.mono : ∀ a0 k, LeO (pattern_Value.f k a0) (pattern_Value.f (k + 1) a0) := by
 intro a0 k
 have ih0 := pattern_Value.mono_l k
 unfold pattern_Value.f
 repeat' first
   | (with_reducible exact ih0 _ _)
   | (with_reducible exact pattern_Class.mono _ _)
   | (with_reducible exact pattern_Split.mono _ _)
   | (with_reducible exact ratio_Dyad.mono _ _ _ _)
   | (with_reducible exact LeO.refl _)
   | (with_reducible exact LeO.none _)
   | (with_reducible refine LeO.ite ?_ ?_)
   | (with_reducible refine LeO.bind ?_ (fun _ => ?_))
   | exact ih0 _ _
   | exact pattern_Class.mono _ _
   | exact pattern_Split.mono _ _
   | exact ratio_Dyad.mono _ _ _ _
   | exact LeO.none _
   | refine LeO.ite ?_ ?_
   | refine LeO.bind ?_ (fun _ => ?_)
set_option maxHeartbeats 8000000 in
set_option maxRecDepth 100000 in
theorem pattern_Value.calls (k : Nat) (a0 : Int) (r1 : Bool) (r2 : List Int) (r3 : List Int) (r4 : Bool) (w : World) (h : pattern_Value.f k a0 = some (r1, r2, r3, r4)) :
  Calls Try.prog 34 #[.int .u64 a0] w fun e w' => ∃ v1_ v2_ : Value, e = .returned (.tuple #[.agg #[.bool r1, v1_, v2_], .bool r4]) ∧ Kd.V (Kd.int .u32) 123 w' w.heap.size (fun k_ => (w.heap.size ≤ k_)) v1_ r2 ∧ Kd.V (Kd.int .u32) 123 w' w.heap.size (fun k_ => (w.heap.size ≤ k_)) v2_ r3 ∧ Below w.heap.size w w' := by
 have hu50 := Try.underlying50
 have HB := Aside0.mk (Below.refl w.heap.size w)
 have H : ((pattern_Class.f k a0).bind fun t576 => (if t576 = 3 then (pattern_Value.j0 k a0 (t576 == 3)) else (pattern_Value.j0 k a0 (t576 == 4)))) = some (r1, r2, r3, r4) := h
 clear h
 replace H := Option.bind_eq_some_iff.mp H
 obtain ⟨t576, A20, H⟩ := H
 replace H : (if t576 = 3 then (pattern_Value.j0 k a0 (t576 == 3)) else (pattern_Value.j0 k a0 (t576 == 4))) = some (r1, r2, r3, r4) := H
 have A2 := Aside0.mk A20
 clear A20
 have HC3 := Aside0.mk H
 clear H
 go_enter Try.func34, Try.ntmps34
 go_upto_if 10 with (first | ((with_reducible refine gate_dst (N := 2) rfl ?_); refine box_event ?hg (N := 2) ?hd (cs := #[.bool false, .slice none 0 0, .slice none 0 0]) (t := 50) ?hr ?_; (case hd => rfl); (case hg => rfl); (case hr => first | (go_simp; done) | (go_simp; rfl)); intro gb575 hg w4 hbox hb; have n0_ := Aside0.mk (below_step (by with_reducible repeat (first | exact HB.out | apply ba_ | apply bn_ | apply bd_)) hb); have n1_ := Aside0.mk (hbox); have n3_ := Aside0.mk ((by rw [hg]; exact (below_size (by with_reducible repeat (first | exact HB.out | apply ba_ | apply bn_ | apply bd_))) : w.heap.size ≤ gb575)); clear HB; have HB := n0_; have BK575 := n1_; have GE575 := n3_; clear n0_ n1_ n3_; clear hb hbox hg) | ((with_reducible refine gate_callee (f := 50) rfl ?_); refine goesM_ (some 9) rfl rfl Try.func50 (by kernel_rfl) rfl [.int .u64 a0] rfl (by rfl) ?_; (with_reducible refine (pattern_Class.calls k a0 t576 _ A2.out).mono ?_); rintro e w' ⟨rfl, ⟨nd, rfl⟩⟩; refine ⟨_, rfl, ?_⟩))
 (try simp only [Act.put, List.setIfInBounds_toArray, List.set_cons_zero, List.set_cons_succ])
 go_cut [10] (fun v10 wc => ∃ (kq : Nat) (x10_2 : Bool), v10 = .bool x10_2 ∧ Aside0 (pattern_Value.j0 kq a0 x10_2 = some (r1, r2, r3, r4)) ∧ Aside0 (kq ≤ k) ∧ Aside0 (wc.heap[gb575]? = some (.cells #[.bool false, (.slice none 0 0), (.slice none 0 0)] 50 (0, 0))) ∧ Aside0 (Below w.heap.size w wc))
 case first =>
  have H := HC3.out
  clear HC3
  by_cases c5 : t576 = 3
  case neg =>
   rw [if_neg c5] at H
   have c5b0 : (t576 == 3) = false := beq_eq_false_iff_ne.mpr c5
   have c5b1 : (t576 != 3) = true := bne_iff_ne.mpr c5
   (first | rw [c5b0] | (simp only [i64_w, i32_w]; rw [c5b0]) | skip)
   have H' := Aside0.mk H
   clear H
   go_wp2
   go_meet
   case rel => exact ⟨_, ((t576 == 4)), (by first | rfl | (simp; done) | (simp [*]; done)), H', ⟨by first | omega | exact Nat.le_refl _⟩, ⟨by (with_reducible repeat (first | apply kn_ | apply kd_ | apply ka_)); exact BK575.out⟩, ⟨by repeat (first | (with_reducible first | exact HB.out | apply below_alloc | apply pw_below_drewN | apply below_drew1 | refine below_set ?_ GE575.out) | exact HB.out)⟩⟩
  rw [if_pos c5] at H
  have c5b0 : (t576 == 3) = true := beq_iff_eq.mpr c5
  have c5b1 : (t576 != 3) = false := bne_eq_false_iff_eq.mpr c5
  clear c5
  (first | rw [c5b0] | (simp only [i64_w, i32_w]; rw [c5b0]) | skip)
  have H' := Aside0.mk H
  clear H
  go_wp2
  go_meet
  case rel => exact ⟨_, ((t576 == 3)), (by first | rfl | (simp; done) | (simp [*]; done)), H', ⟨by first | omega | exact Nat.le_refl _⟩, ⟨by (with_reducible repeat (first | apply kn_ | apply kd_ | apply ka_)); exact BK575.out⟩, ⟨by repeat (first | (with_reducible first | exact HB.out | apply below_alloc | apply pw_below_drewN | apply below_drew1 | refine below_set ?_ GE575.out) | exact HB.out)⟩⟩
 case rest =>
  clear HC3
  try clear p2
  try clear c3
  try clear c5
  try clear c5b0
  try clear c5b1
  obtain ⟨kq, x10_2, rfl, HA, HJ2, BK575, HB⟩ := hcut
  cases kq with
  | zero => exact absurd HA.out (by simp [pattern_Value.j0])
  | succ kj2 =>
   have H := HA.out
   clear HA
   simp only [pattern_Value.j0] at H
   by_cases c6 : x10_2 = true
   case pos =>
    subst c6
    have H1 : (some (false, ([] : List Int), ([] : List Int), false)) = some (r1, r2, r3, r4) := by rw [if_pos rfl] at H; exact H
    clear H
    have H := H1
    clear H1
    simp only [Option.some.injEq, Prod.mk.injEq] at H
    obtain ⟨rfl, rfl, rfl, rfl⟩ := H
    have hcz7_0 : wc.cell? ⟨gb575, 0, none⟩ = some (.bool false) := (blk_cell BK575.out 0).trans rfl
    have hcz7_1 : wc.cell? ⟨gb575, 1, none⟩ = some (.slice none 0 0) := (blk_cell BK575.out 1).trans rfl
    have hcz7_2 : wc.cell? ⟨gb575, 2, none⟩ = some (.slice none 0 0) := (blk_cell BK575.out 2).trans rfl
    have hfz7_0 := blk_frozen BK575.out 0
    have hfz7_1 := blk_frozen BK575.out 1
    have hfz7_2 := blk_frozen BK575.out 2
    go_wp2
    refine bodyPost_ret (results_ct rfl _ _ gb575 50 #[.bool false, .slice none 0 0, .slice none 0 0] (0, 0) _ rfl (by (with_reducible repeat (first | apply kn_ | apply kd_ | apply ka_)); refine blk_put (cs := #[.bool false, .slice none 0 0, .slice none 0 0]) ?_ 2 _ rfl; (with_reducible repeat (first | apply kn_ | apply kd_ | apply ka_)); refine blk_put (cs := #[.bool false, .slice none 0 0, .slice none 0 0]) ?_ 1 _ rfl; (with_reducible repeat (first | apply kn_ | apply kd_ | apply ka_)); refine blk_put (cs := #[.bool false, .slice none 0 0, .slice none 0 0]) ?_ 0 _ rfl; (with_reducible repeat (first | apply kn_ | apply kd_ | apply ka_)); exact BK575.out) Try.underlying50 rfl (by kernel_rfl)) rfl ?_
    exact ⟨_, _, by first | rfl | (simp [errW_none, errW_some] <;> rfl) | (simp [*, errW_none, errW_some] <;> rfl), Kd.R_V (base := 0) (by first | exact Kd.R_nil _ _ _ _ _ | exact Kd.N_nil _ _ _ _ _ | exact Kd.V_nil _ _ _ _ _ | exact Kd.Q_nil _ _ _ _ _ | exact Kd.S_nil _ _ _ _ _), Kd.R_V (base := 0) (by first | exact Kd.R_nil _ _ _ _ _ | exact Kd.N_nil _ _ _ _ _ | exact Kd.V_nil _ _ _ _ _ | exact Kd.Q_nil _ _ _ _ _ | exact Kd.S_nil _ _ _ _ _), by repeat (first | (with_reducible first | exact HB.out | apply below_alloc | apply pw_below_drewN | apply below_drew1 | refine below_set ?_ GE575.out) | exact HB.out)⟩
   replace c6 := Bool.eq_false_iff.mpr c6
   subst c6
   have H1 : ((pattern_Split.f kj2 a0).bind fun bt577 => ((ratio_Dyad.f kj2 ((a0 / 9223372036854775808) == 1) bt577.1 bt577.2).bind fun bt579 => (some (bt579.1, bt579.2.1, bt579.2.2.1, true)))) = some (r1, r2, r3, r4) := by rw [if_neg (show ¬ (false = true) by decide)] at H; exact H
   clear H
   have H := H1
   clear H1
   replace H := Option.bind_eq_some_iff.mp H
   obtain ⟨⟨t577, t578⟩, A80, H⟩ := H
   replace H : ((ratio_Dyad.f kj2 ((a0 / 9223372036854775808) == 1) t577 t578).bind fun bt579 => (some (bt579.1, bt579.2.1, bt579.2.2.1, true))) = some (r1, r2, r3, r4) := H
   have A8 := Aside0.mk A80
   clear A80
   replace H := Option.bind_eq_some_iff.mp H
   obtain ⟨⟨t579, t580, t583, t586⟩, A90, H⟩ := H
   replace H : (some (t579, t580, t583, true)) = some (r1, r2, r3, r4) := H
   have A9 := Aside0.mk A90
   clear A90
   simp only [Option.some.injEq, Prod.mk.injEq] at H
   obtain ⟨rfl, rfl, rfl, rfl⟩ := H
   go_wp2_with (first | ((with_reducible refine gate_callee (f := 51) rfl ?_); refine goesM_ (some 16) rfl rfl Try.func51 (by kernel_rfl) rfl [.int .u64 a0] rfl (by rfl) ?_; (with_reducible refine (pattern_Split.calls kj2 a0 t577 t578 _ A8.out).mono ?_); rintro e w' ⟨rfl, ⟨nd, rfl⟩⟩; refine ⟨_, rfl, ?_⟩; (try (rw [drewN_self wc]; generalize hq_ : World.drewN wc _ = wc; have n0_ : Aside0 (wc.heap[gb575]? = some (.cells #[.bool false, .slice none 0 0, .slice none 0 0] 50 (0, 0))) := ⟨by rw [← hq_]; exact (by (with_reducible repeat (first | apply kn_ | apply kd_ | apply ka_)); exact BK575.out)⟩; have n1_ : Aside0 (Below w.heap.size w wc) := ⟨by rw [← hq_]; exact (by with_reducible repeat (first | exact HB.out | apply ba_ | apply bn_ | apply bd_ | refine bs_ ?_ GE575.out))⟩; clear BK575 HB hq_; have BK575 := n0_; have HB := n1_; clear n0_ n1_))) | ((with_reducible refine gate_callee (f := 35) rfl ?_); refine goesM_ (some 25) rfl rfl Try.func35 (by kernel_rfl) rfl [.bool ((a0 / 9223372036854775808) == 1), .int .u64 t577, .int .i64 t578] rfl (by rfl) ?_; (with_reducible refine (ratio_Dyad.calls kj2 ((a0 / 9223372036854775808) == 1) t577 t578 t579 t580 t583 t586 _ A9.out).mono ?_); rintro e w10 ⟨v581, v584, rfl, ho0, ho1, hb⟩; refine ⟨_, rfl, ?_⟩; have HO582 := Aside0.mk (Kd.V_lower (Kd.V_mono (ok' := fun k_ => (w.heap.size ≤ k_) ∧ k_ ≠ gb575) ho0 (fun k_ hk_ => ⟨(Nat.le_trans (below_size (by with_reducible repeat (first | exact HB.out | apply ba_ | apply bn_ | apply bd_ | refine bs_ ?_ GE575.out))) hk_), (Kd.freshB (g := gb575) (o := .cells #[.bool false, .slice none 0 0, .slice none 0 0] 50 (0, 0)) (by (with_reducible repeat (first | apply kn_ | apply kd_ | apply ka_)); exact BK575.out) k_ hk_)⟩)) (below_size (by with_reducible repeat (first | exact HB.out | apply ba_ | apply bn_ | apply bd_ | refine bs_ ?_ GE575.out)))); have HO585 := Aside0.mk (Kd.V_lower (Kd.V_mono (ok' := fun k_ => (w.heap.size ≤ k_) ∧ k_ ≠ gb575) ho1 (fun k_ hk_ => ⟨(Nat.le_trans (below_size (by with_reducible repeat (first | exact HB.out | apply ba_ | apply bn_ | apply bd_ | refine bs_ ?_ GE575.out))) hk_), (Kd.freshB (g := gb575) (o := .cells #[.bool false, .slice none 0 0, .slice none 0 0] 50 (0, 0)) (by (with_reducible repeat (first | apply kn_ | apply kd_ | apply ka_)); exact BK575.out) k_ hk_)⟩)) (below_size (by with_reducible repeat (first | exact HB.out | apply ba_ | apply bn_ | apply bd_ | refine bs_ ?_ GE575.out)))); replace BK575 := Aside0.mk (blk_below (g := gb575) (o := .cells #[.bool false, .slice none 0 0, .slice none 0 0] 50 (0, 0)) (by (with_reducible repeat (first | apply kn_ | apply kd_ | apply ka_)); exact BK575.out) hb); replace HB := Aside0.mk (below_step (by with_reducible repeat (first | exact HB.out | apply ba_ | apply bn_ | apply bd_ | refine bs_ ?_ GE575.out)) hb)) | ((with_reducible refine gate_dst (N := 6) rfl ?_); refine box_event ?hg (N := 6) ?hd (cs := #[.bool false, .slice none 0 0, .slice none 0 0]) (t := 50) ?hr ?_; (case hd => rfl); (case hg => rfl); (case hr => first | (go_simp; done) | (go_simp; rfl)); intro gb587 hg w11 hbox hb; have n0_ := Aside0.mk (Kd.V_below (Kd.V_elderB (by (with_reducible repeat (first | apply va_ | apply vn_ | apply vd_)); exact HO582.out) gb587 (Nat.le_of_eq hg.symm)) hb); have n1_ := Aside0.mk (Kd.V_below (Kd.V_elderB (by (with_reducible repeat (first | apply va_ | apply vn_ | apply vd_)); exact HO585.out) gb587 (Nat.le_of_eq hg.symm)) hb); have n2_ := Aside0.mk (blk_below (g := gb575) (o := .cells #[.bool false, .slice none 0 0, .slice none 0 0] 50 (0, 0)) (by (with_reducible repeat (first | apply kn_ | apply kd_ | apply ka_)); exact BK575.out) hb); have n3_ := Aside0.mk (below_step (by with_reducible repeat (first | exact HB.out | apply ba_ | apply bn_ | apply bd_ | refine bs_ ?_ GE575.out)) hb); have n4_ := Aside0.mk (hbox); have n6_ := Aside0.mk ((by rw [hg]; exact (below_size (by with_reducible repeat (first | exact HB.out | apply ba_ | apply bn_ | apply bd_ | refine bs_ ?_ GE575.out))) : w.heap.size ≤ gb587)); have n7_ := Aside0.mk ((by rw [hg]; exact Nat.ne_of_lt (blk_lt (g := gb575) (o := .cells #[.bool false, .slice none 0 0, .slice none 0 0] 50 (0, 0)) (by (with_reducible repeat (first | apply kn_ | apply kd_ | apply ka_)); exact BK575.out)) : gb575 ≠ gb587)); have n8_ := Aside0.mk ((by rw [hg]; exact Nat.ne_of_gt (blk_lt (g := gb575) (o := .cells #[.bool false, .slice none 0 0, .slice none 0 0] 50 (0, 0)) (by (with_reducible repeat (first | apply kn_ | apply kd_ | apply ka_)); exact BK575.out)) : gb587 ≠ gb575)); clear HO582 HO585 BK575 HB; have HO582 := n0_; have HO585 := n1_; have BK575 := n2_; have HB := n3_; have BK587 := n4_; have GE587 := n6_; have NB575_587 := n7_; have NB587_575 := n8_; clear n0_ n1_ n2_ n3_ n4_ n6_ n7_ n8_; clear hb hbox hg; have hnb12 := NB587_575.out; have hnc12 := NB575_587.out; have hcz13_0 : w11.cell? ⟨gb587, 0, none⟩ = some (.bool false) := (blk_cell BK587.out 0).trans rfl; have hcz13_1 : w11.cell? ⟨gb587, 1, none⟩ = some (.slice none 0 0) := (blk_cell BK587.out 1).trans rfl; have hcz13_2 : w11.cell? ⟨gb587, 2, none⟩ = some (.slice none 0 0) := (blk_cell BK587.out 2).trans rfl; have hfz13_0 := blk_frozen BK587.out 0; have hfz13_1 := blk_frozen BK587.out 1; have hfz13_2 := blk_frozen BK587.out 2; obtain ⟨Ao14, co14, eo14⟩ := Kd.V_slice HO582.out; subst eo14; obtain ⟨Ao15, co15, eo15⟩ := Kd.V_slice HO585.out; subst eo15; have hcz16_0 : w11.cell? ⟨gb575, 0, none⟩ = some (.bool false) := (blk_cell BK575.out 0).trans rfl; have hcz16_1 : w11.cell? ⟨gb575, 1, none⟩ = some (.slice none 0 0) := (blk_cell BK575.out 1).trans rfl; have hcz16_2 : w11.cell? ⟨gb575, 2, none⟩ = some (.slice none 0 0) := (blk_cell BK575.out 2).trans rfl; have hfz16_0 := blk_frozen BK575.out 0; have hfz16_1 := blk_frozen BK575.out 1; have hfz16_2 := blk_frozen BK575.out 2))
   refine bodyPost_ret (results_ct rfl _ _ gb575 50 #[.bool t579, .slice Ao14 t580.length co14, .slice Ao15 t583.length co15] (0, 0) _ rfl (by (with_reducible repeat (first | apply kn_ | apply kd_ | apply ka_)); refine blk_put (cs := #[.bool t579, .slice Ao14 t580.length co14, .slice none 0 0]) ?_ 2 _ rfl; (with_reducible repeat (first | apply kn_ | apply kd_ | apply ka_)); refine blk_put (cs := #[.bool t579, .slice none 0 0, .slice none 0 0]) ?_ 1 _ rfl; (with_reducible repeat (first | apply kn_ | apply kd_ | apply ka_)); refine blk_put (cs := #[.bool false, .slice none 0 0, .slice none 0 0]) ?_ 0 _ rfl; (with_reducible repeat (first | apply kn_ | apply kd_ | apply ka_)); refine blk_far ?_ NB575_587.out _; (with_reducible repeat (first | apply kn_ | apply kd_ | apply ka_)); refine blk_far ?_ NB575_587.out _; (with_reducible repeat (first | apply kn_ | apply kd_ | apply ka_)); refine blk_far ?_ NB575_587.out _; (with_reducible repeat (first | apply kn_ | apply kd_ | apply ka_)); exact BK575.out) Try.underlying50 rfl (by kernel_rfl)) rfl ?_
   exact ⟨_, _, by first | rfl | (simp [errW_none, errW_some] <;> rfl) | (simp [*, errW_none, errW_some] <;> rfl), by (with_reducible repeat (first | apply va_ | apply vn_ | apply vd_)); exact Kd.V_mono (Kd.V_far (p := ⟨gb575, 2, none⟩) (Kd.V_far (p := ⟨gb575, 1, none⟩) (Kd.V_far (p := ⟨gb575, 0, none⟩) (Kd.V_far (p := ⟨gb587, 2, none⟩) (Kd.V_far (p := ⟨gb587, 1, none⟩) (Kd.V_far (p := ⟨gb587, 0, none⟩) (Kd.V_mono (Kd.V_mono HO582.out (fun k_ hk => (⟨hk, hk.2⟩ : _ ∧ k_ ≠ gb587))) (fun k_ hk => (⟨hk, hk.1.1.2⟩ : _ ∧ k_ ≠ gb575))) (fun _ hk => hk.1.2) (.bool t579)) (fun _ hk => hk.1.2) (.slice Ao14 t580.length co14)) (fun _ hk => hk.1.2) (.slice Ao15 t583.length co15)) (fun _ hk => hk.2) (.bool t579)) (fun _ hk => hk.2) (.slice Ao14 t580.length co14)) (fun _ hk => hk.2) (.slice Ao15 t583.length co15)) (fun _ hk => hk.1.1.1.1), by (with_reducible repeat (first | apply va_ | apply vn_ | apply vd_)); exact Kd.V_mono (Kd.V_far (p := ⟨gb575, 2, none⟩) (Kd.V_far (p := ⟨gb575, 1, none⟩) (Kd.V_far (p := ⟨gb575, 0, none⟩) (Kd.V_far (p := ⟨gb587, 2, none⟩) (Kd.V_far (p := ⟨gb587, 1, none⟩) (Kd.V_far (p := ⟨gb587, 0, none⟩) (Kd.V_mono (Kd.V_mono HO585.out (fun k_ hk => (⟨hk, hk.2⟩ : _ ∧ k_ ≠ gb587))) (fun k_ hk => (⟨hk, hk.1.1.2⟩ : _ ∧ k_ ≠ gb575))) (fun _ hk => hk.1.2) (.bool t579)) (fun _ hk => hk.1.2) (.slice Ao14 t580.length co14)) (fun _ hk => hk.1.2) (.slice Ao15 t583.length co15)) (fun _ hk => hk.2) (.bool t579)) (fun _ hk => hk.2) (.slice Ao14 t580.length co14)) (fun _ hk => hk.2) (.slice Ao15 t583.length co15)) (fun _ hk => hk.1.1.1.1), by repeat (first | (with_reducible first | exact HB.out | apply below_alloc | apply pw_below_drewN | apply below_drew1 | refine below_set ?_ GE575.out | refine below_set ?_ GE587.out) | exact HB.out)⟩

end Go.Proofs.Ytfglpaaeipblcaa.P
