/- Walks of one package: what each function returns, wherever the Lean function beside it has an answer. -/
import Derived.Test.YtfglpaaeipblcaaP0
import Derived.Test.YtfglpaaeipblcaaPNat1
import Derived.Test.YtfglpaaeipblcaaPNat2
namespace Go.Proofs.Ytfglpaaeipblcaa.P
open Go.RowKit Go.Proofs.YtfglpaaeipblcaaW.PrintWords Go.Proofs.YtfglpaaeipblcaaW.PrintLast Go.Proofs.YtfglpaaeipblcaaW.PrintMore
attribute [local go_sem] max2_int min2_int max_two min_two max_three min_three max_four min_four   -- for this text's walks alone
set_option linter.unusedVariables false
set_option linter.unusedSimpArgs false

/-! ### ratio_low: function 73 -/
def ratio_low.j0 : Nat → Bool → List Int → List Int → Bool → Option (Bool × List Int × List Int)
 | 0, _, _, _, _ => none
 | k + 1, x0, x1, x2, x21 => if x21 = true then ((nat_New.f k 1).bind fun t353 => (some (false, ([] : List Int), t353))) else ((nat_Nat_Gcd.f k x1 x2).bind fun t356 => ((nat_Nat_Div.f k x1 t356).bind fun bt359 => ((nat_Nat_Div.f k x2 t356).bind fun bt366 => (some (x0, bt359.1, bt366.1)))))
def ratio_low.f (k : Nat) (a0 : Bool) (l1 : List Int) (l2 : List Int) : Option (Bool × List Int × List Int) := (nat_Nat_Len.f k l1).bind fun t351 => (if t351 = 0 then (ratio_low.j0 k a0 l1 l2 true) else ((nat_Nat_Len.f k l2).bind fun t352 => (ratio_low.j0 k a0 l1 l2 (t352 == 0))))
theorem ratio_low.mono_l : ∀ k, (∀ y0 y1 y2 y3, LeO (ratio_low.j0 k y0 y1 y2 y3) (ratio_low.j0 (k + 1) y0 y1 y2 y3))
 | 0 => fun _ _ _ _ r h => by simp [ratio_low.j0] at h
 | k + 1 => by
  have ih0 := ratio_low.mono_l k
  ·
   intro y0 y1 y2 y3
   unfold ratio_low.j0
   repeat' with_reducible first | exact ih0 _ _ _ _ | exact nat_Nat_Div.mono _ _ _ | exact nat_Nat_Gcd.mono _ _ _ | exact nat_Nat_Len.mono _ _ | exact nat_New.mono _ _ | exact LeO.refl _ | exact LeO.none _ | refine LeO.ite ?_ ?_ | refine LeO.bind ?_ (fun _ => ?_)
theorem ratio_low.mono : ∀ a0 a1 a2 k, LeO (ratio_low.f k a0 a1 a2) (ratio_low.f (k + 1) a0 a1 a2) := by
 intro a0 a1 a2 k
 have ih0 := ratio_low.mono_l k
 unfold ratio_low.f
 repeat' with_reducible first | exact ih0 _ _ _ _ | exact nat_Nat_Div.mono _ _ _ | exact nat_Nat_Gcd.mono _ _ _ | exact nat_Nat_Len.mono _ _ | exact nat_New.mono _ _ | exact LeO.refl _ | exact LeO.none _ | refine LeO.ite ?_ ?_ | refine LeO.bind ?_ (fun _ => ?_)
set_option maxHeartbeats 8000000 in
set_option maxRecDepth 100000 in
theorem ratio_low.calls (k : Nat) (a0 : Bool) (P1_ : Nat → Prop) (A1 : Option Addr) (c1 : Nat) (l1 : List Int) (P2_ : Nat → Prop) (A2 : Option Addr) (c2 : Nat) (l2 : List Int) (r1 : Bool) (r2 : List Int) (r3 : List Int) (w : World) (hs1 : Kd.V (Kd.int .u32) 123 w w.heap.size (fun k_ => P1_ k_) (.slice A1 l1.length c1) l1) (hs2 : Kd.V (Kd.int .u32) 123 w w.heap.size (fun k_ => P2_ k_) (.slice A2 l2.length c2) l2) (h : ratio_low.f k a0 l1 l2 = some (r1, r2, r3)) :
  Calls Try.prog 73 #[.bool a0, .slice A1 l1.length c1, .slice A2 l2.length c2] w fun e w' => ∃ v1_ v2_ : Value, e = .returned (.agg #[.bool r1, v1_, v2_]) ∧ Kd.V (Kd.int .u32) 123 w' w.heap.size (fun k_ => ((P1_ k_ ∨ P2_ k_) ∨ w.heap.size ≤ k_)) v1_ r2 ∧ Kd.V (Kd.int .u32) 123 w' w.heap.size (fun k_ => ((P1_ k_ ∨ P2_ k_) ∨ w.heap.size ≤ k_)) v2_ r3 ∧ Below w.heap.size w w' := by
 have hu50 := Try.underlying50
 have HO1 := Aside0.mk (show Kd.V (Kd.int .u32) 123 w w.heap.size (fun k_ => ((P1_ k_ ∨ P2_ k_) ∨ w.heap.size ≤ k_)) (.slice A1 l1.length c1) l1 from Kd.V_mono hs1 (fun k_ hk => .inl (.inl hk)))
 have HO2 := Aside0.mk (show Kd.V (Kd.int .u32) 123 w w.heap.size (fun k_ => ((P1_ k_ ∨ P2_ k_) ∨ w.heap.size ≤ k_)) (.slice A2 l2.length c2) l2 from Kd.V_mono hs2 (fun k_ hk => .inl (.inr hk)))
 have HB := Aside0.mk (Below.refl w.heap.size w)
 have H : ((nat_Nat_Len.f k l1).bind fun t351 => (if t351 = 0 then (ratio_low.j0 k a0 l1 l2 true) else ((nat_Nat_Len.f k l2).bind fun t352 => (ratio_low.j0 k a0 l1 l2 (t352 == 0))))) = some (r1, r2, r3) := h
 clear h
 have HC4 := Aside0.mk H
 clear H
 go_enter Try.func73, Try.ntmps73
 go_upto_region 1 with (first | ((with_reducible refine gate_dst (N := 6) rfl ?_); refine box_event ?hg (N := 6) ?hd (cs := #[.bool false, .slice none 0 0, .slice none 0 0]) (t := 50) ?hr ?_; (case hd => rfl); (case hg => rfl); (case hr => first | (go_simp; done) | (go_simp; rfl)); intro gb350 hg w5 hbox hb; have n0_ := Aside0.mk (Kd.V_below (Kd.V_elderB (by (with_reducible repeat (first | apply va_ | apply vn_ | apply vd_)); exact HO1.out) gb350 (Nat.le_of_eq hg.symm)) hb); have n1_ := Aside0.mk (Kd.V_below (Kd.V_elderB (by (with_reducible repeat (first | apply va_ | apply vn_ | apply vd_)); exact HO2.out) gb350 (Nat.le_of_eq hg.symm)) hb); have n2_ := bq_ hb; have n3_ := Aside0.mk (hbox); have n5_ := bz_ hg; clear HO1 HO2 HB; have HO1 := n0_; have HO2 := n1_; have HB := n2_; have BK350 := n3_; have GE350 := n5_; clear n0_ n1_ n2_ n3_ n5_; clear hb hbox hg))
 (try simp only [Act.put, List.setIfInBounds_toArray, List.set_cons_zero, List.set_cons_succ])
 go_cut [21] (fun v21 wc => ∃ (kq : Nat) (x21_3 : Bool), v21 = .bool x21_3 ∧ Aside0 (ratio_low.j0 kq a0 l1 l2 x21_3 = some (r1, r2, r3)) ∧ Aside0 (kq ≤ k) ∧ Aside0 (Kd.V (Kd.int .u32) 123 wc w.heap.size (fun k_ => ((P1_ k_ ∨ P2_ k_) ∨ w.heap.size ≤ k_) ∧ k_ ≠ gb350) (.slice A1 l1.length c1) l1) ∧ Aside0 (Kd.V (Kd.int .u32) 123 wc w.heap.size (fun k_ => ((P1_ k_ ∨ P2_ k_) ∨ w.heap.size ≤ k_) ∧ k_ ≠ gb350) (.slice A2 l2.length c2) l2) ∧ Aside0 (wc.heap[gb350]? = some (.cells #[.bool false, (.slice none 0 0), (.slice none 0 0)] 50 (0, 0))) ∧ Aside0 (Below w.heap.size w wc))
 case first =>
  have H := HC4.out
  clear HC4
  replace H := Option.bind_eq_some_iff.mp H
  obtain ⟨t351, A60, H⟩ := H
  replace H : (if t351 = 0 then (ratio_low.j0 k a0 l1 l2 true) else ((nat_Nat_Len.f k l2).bind fun t352 => (ratio_low.j0 k a0 l1 l2 (t352 == 0)))) = some (r1, r2, r3) := H
  have A6 := Aside0.mk A60
  clear A60
  by_cases c7 : t351 = 0
  case pos =>
   rw [if_pos c7] at H
   have c7b0 : (t351 == 0) = true := beq_iff_eq.mpr c7
   have c7b1 : (t351 != 0) = false := bne_eq_false_iff_eq.mpr c7
   clear c7
   (first | rw [c7b0] | (simp only [i64_w, i32_w]; rw [c7b0]) | skip)
   have H' := Aside0.mk H
   clear H
   go_wp2_with (first | ((with_reducible refine gc_ 66 rfl ?_); refine gM_ (some 15) Try.func66 [.slice A1 l1.length c1] ?_; (with_reducible refine (nat_Nat_Len.calls k _ _ l1 t351 _ ?side1 ?side2 A6.out).mono ?_); (case side1 => repeat first | exact (Kd.V_reads' HO1.out).2.2 | with_reducible first | apply ca_ | apply cn_ | apply cd_); (case side2 => exact (Kd.V_reads' HO1.out).2.1); rintro e w8 ⟨rfl, hb⟩; refine ⟨_, rfl, ?_⟩; replace HO1 := Aside0.mk (Kd.V_below (by (with_reducible repeat (first | apply va_ | apply vn_ | apply vd_)); exact HO1.out) hb); replace HO2 := Aside0.mk (Kd.V_below (by (with_reducible repeat (first | apply va_ | apply vn_ | apply vd_)); exact HO2.out) hb); replace BK350 := Aside0.mk (blk_below (g := gb350) (o := .cells #[.bool false, .slice none 0 0, .slice none 0 0] 50 (0, 0)) (by (with_reducible repeat (first | apply kn_ | apply kd_ | apply ka_)); exact BK350.out) hb); replace HB := bq_ hb))
   go_meet
   case rel => exact ⟨_, (true), (sh_), H', ⟨by first | omega | exact Nat.le_refl _⟩, ⟨by (with_reducible repeat (first | apply va_ | apply vn_ | apply vd_)); exact HO1.out⟩, ⟨by (with_reducible repeat (first | apply va_ | apply vn_ | apply vd_)); exact HO2.out⟩, ⟨by (with_reducible repeat (first | apply kn_ | apply kd_ | apply ka_)); exact BK350.out⟩, ⟨bh_⟩⟩
  rw [if_neg c7] at H
  have c7b0 : (t351 == 0) = false := beq_eq_false_iff_ne.mpr c7
  have c7b1 : (t351 != 0) = true := bne_iff_ne.mpr c7
  (first | rw [c7b0] | (simp only [i64_w, i32_w]; rw [c7b0]) | skip)
  replace H := Option.bind_eq_some_iff.mp H
  obtain ⟨t352, A90, H⟩ := H
  replace H : (ratio_low.j0 k a0 l1 l2 (t352 == 0)) = some (r1, r2, r3) := H
  have A9 := Aside0.mk A90
  clear A90
  have H' := Aside0.mk H
  clear H
  go_wp2_with (first | ((with_reducible refine gc_ 66 rfl ?_); refine gM_ (some 15) Try.func66 [.slice A1 l1.length c1] ?_; (with_reducible refine (nat_Nat_Len.calls k _ _ l1 t351 _ ?side1 ?side2 A6.out).mono ?_); (case side1 => repeat first | exact (Kd.V_reads' HO1.out).2.2 | with_reducible first | apply ca_ | apply cn_ | apply cd_); (case side2 => exact (Kd.V_reads' HO1.out).2.1); rintro e w10 ⟨rfl, hb⟩; refine ⟨_, rfl, ?_⟩; replace HO1 := Aside0.mk (Kd.V_below (by (with_reducible repeat (first | apply va_ | apply vn_ | apply vd_)); exact HO1.out) hb); replace HO2 := Aside0.mk (Kd.V_below (by (with_reducible repeat (first | apply va_ | apply vn_ | apply vd_)); exact HO2.out) hb); replace BK350 := Aside0.mk (blk_below (g := gb350) (o := .cells #[.bool false, .slice none 0 0, .slice none 0 0] 50 (0, 0)) (by (with_reducible repeat (first | apply kn_ | apply kd_ | apply ka_)); exact BK350.out) hb); replace HB := bq_ hb) | (go_at_call 66; (with_reducible refine (nat_Nat_Len.calls k _ _ l2 t352 _ ?side1 ?side2 A9.out).mono ?_); (case side1 => repeat first | exact (Kd.V_reads' HO2.out).2.2 | with_reducible first | apply ca_ | apply cn_ | apply cd_); (case side2 => exact (Kd.V_reads' HO2.out).2.1); rintro e w11 ⟨rfl, hb⟩; replace HO1 := Aside0.mk (Kd.V_below (by (with_reducible repeat (first | apply va_ | apply vn_ | apply vd_)); exact HO1.out) hb); replace HO2 := Aside0.mk (Kd.V_below (by (with_reducible repeat (first | apply va_ | apply vn_ | apply vd_)); exact HO2.out) hb); replace BK350 := Aside0.mk (blk_below (g := gb350) (o := .cells #[.bool false, .slice none 0 0, .slice none 0 0] 50 (0, 0)) (by (with_reducible repeat (first | apply kn_ | apply kd_ | apply ka_)); exact BK350.out) hb); replace HB := bq_ hb))
  go_meet
  case rel => exact ⟨_, ((t352 == 0)), (sh_), H', ⟨by first | omega | exact Nat.le_refl _⟩, ⟨by (with_reducible repeat (first | apply va_ | apply vn_ | apply vd_)); exact HO1.out⟩, ⟨by (with_reducible repeat (first | apply va_ | apply vn_ | apply vd_)); exact HO2.out⟩, ⟨by (with_reducible repeat (first | apply kn_ | apply kd_ | apply ka_)); exact BK350.out⟩, ⟨bh_⟩⟩
 case rest =>
  clear HC4
  try clear c1
  try clear c2
  try clear p2
  try clear c6
  try clear c7
  try clear c7b0
  try clear c7b1
  obtain ⟨kq, x21_3, rfl, HA, HJ3, HO_1, HO_2, BK350, HB⟩ := hcut
  cases kq with
  | zero => exact absurd HA.out (by simp [ratio_low.j0])
  | succ kj3 =>
   have H := HA.out
   clear HA
   simp only [ratio_low.j0] at H
   by_cases c12 : x21_3 = true
   case pos =>
    subst c12
    have H1 : ((nat_New.f kj3 1).bind fun t353 => (some (false, ([] : List Int), t353))) = some (r1, r2, r3) := by rw [if_pos rfl] at H; exact H
    clear H
    have H := H1
    clear H1
    replace H := Option.bind_eq_some_iff.mp H
    obtain ⟨t353, A130, H⟩ := H
    replace H : (some (false, ([] : List Int), t353)) = some (r1, r2, r3) := H
    have A13 := Aside0.mk A130
    clear A130
    simp only [Option.some.injEq, Prod.mk.injEq] at H
    obtain ⟨rfl, rfl, rfl⟩ := H
    go_wp2_with (first | ((with_reducible refine gc_ 56 rfl ?_); refine gM_ (some 22) Try.func56 [.int .u64 1] ?_; (with_reducible refine (nat_New.calls kj3 1 t353 _ A13.out).mono ?_); rintro e w14 ⟨v354, rfl, ho0, hb⟩; refine ⟨_, rfl, ?_⟩; replace HO_1 := Aside0.mk (Kd.V_below (by (with_reducible repeat (first | apply va_ | apply vn_ | apply vd_)); exact HO_1.out) hb); replace HO_2 := Aside0.mk (Kd.V_below (by (with_reducible repeat (first | apply va_ | apply vn_ | apply vd_)); exact HO_2.out) hb); have HO355 := Aside0.mk (Kd.V_lower (Kd.V_mono (ok' := fun k_ => ((P1_ k_ ∨ P2_ k_) ∨ w.heap.size ≤ k_) ∧ k_ ≠ gb350) ho0 (fun k_ hk_ => ⟨(.inr (Nat.le_trans (below_size bh_) hk_)), (Kd.freshB (g := gb350) (o := .cells #[.bool false, .slice none 0 0, .slice none 0 0] 50 (0, 0)) (by (with_reducible repeat (first | apply kn_ | apply kd_ | apply ka_)); exact BK350.out) k_ hk_)⟩)) (below_size bh_)); replace BK350 := Aside0.mk (blk_below (g := gb350) (o := .cells #[.bool false, .slice none 0 0, .slice none 0 0] 50 (0, 0)) (by (with_reducible repeat (first | apply kn_ | apply kd_ | apply ka_)); exact BK350.out) hb); replace HB := bq_ hb; skip; obtain ⟨Ao15, co15, eo15⟩ := Kd.V_slice HO355.out; subst eo15; have hcz16_0 : w14.cell? ⟨gb350, 0, none⟩ = some (.bool false) := (blk_cell BK350.out 0).trans rfl; have hcz16_1 : w14.cell? ⟨gb350, 1, none⟩ = some (.slice none 0 0) := (blk_cell BK350.out 1).trans rfl; have hcz16_2 : w14.cell? ⟨gb350, 2, none⟩ = some (.slice none 0 0) := (blk_cell BK350.out 2).trans rfl; have hfz16_0 := blk_frozen BK350.out 0; have hfz16_1 := blk_frozen BK350.out 1; have hfz16_2 := blk_frozen BK350.out 2))
    refine bodyPost_ret (results_cell_row rfl _ _ gb350 50 #[.bool false, .slice none 0 0, .slice Ao15 t353.length co15] (0, 0) _ rfl (by (with_reducible repeat (first | apply kn_ | apply kd_ | apply ka_)); refine blk_put (cs := #[.bool false, .slice none 0 0, .slice none 0 0]) ?_ 2 _ rfl; (with_reducible repeat (first | apply kn_ | apply kd_ | apply ka_)); refine blk_put (cs := #[.bool false, .slice none 0 0, .slice none 0 0]) ?_ 1 _ rfl; (with_reducible repeat (first | apply kn_ | apply kd_ | apply ka_)); refine blk_put (cs := #[.bool false, .slice none 0 0, .slice none 0 0]) ?_ 0 _ rfl; (with_reducible repeat (first | apply kn_ | apply kd_ | apply ka_)); exact BK350.out) Try.underlying50 rfl (by kernel_rfl)) rfl ?_
    exact ⟨_, _, eh_, Kd.R_V (base := 0) (Kd.R_nil _ _ _ _ _), by (with_reducible repeat (first | apply va_ | apply vn_ | apply vd_)); exact Kd.V_mono (Kd.V_far (p := ⟨gb350, 2, none⟩) (Kd.V_far (p := ⟨gb350, 1, none⟩) (Kd.V_far (p := ⟨gb350, 0, none⟩) (Kd.V_mono HO355.out (fun k_ hk => (⟨hk, hk.2⟩ : _ ∧ k_ ≠ gb350))) (fun _ hk => hk.2) (.bool false)) (fun _ hk => hk.2) (.slice none 0 0)) (fun _ hk => hk.2) (.slice Ao15 t353.length co15)) (fun _ hk => hk.1.1), bh_⟩
   replace c12 := Bool.eq_false_iff.mpr c12
   subst c12
   have H1 : ((nat_Nat_Gcd.f kj3 l1 l2).bind fun t356 => ((nat_Nat_Div.f kj3 l1 t356).bind fun bt359 => ((nat_Nat_Div.f kj3 l2 t356).bind fun bt366 => (some (a0, bt359.1, bt366.1))))) = some (r1, r2, r3) := by rw [if_neg (show ¬ (false = true) by decide)] at H; exact H
   clear H
   have H := H1
   clear H1
   replace H := Option.bind_eq_some_iff.mp H
   obtain ⟨t356, A170, H⟩ := H
   replace H : ((nat_Nat_Div.f kj3 l1 t356).bind fun bt359 => ((nat_Nat_Div.f kj3 l2 t356).bind fun bt366 => (some (a0, bt359.1, bt366.1)))) = some (r1, r2, r3) := H
   have A17 := Aside0.mk A170
   clear A170
   replace H := Option.bind_eq_some_iff.mp H
   obtain ⟨⟨t359, t362, t365⟩, A180, H⟩ := H
   replace H : ((nat_Nat_Div.f kj3 l2 t356).bind fun bt366 => (some (a0, t359, bt366.1))) = some (r1, r2, r3) := H
   have A18 := Aside0.mk A180
   clear A180
   replace H := Option.bind_eq_some_iff.mp H
   obtain ⟨⟨t366, t369, t372⟩, A190, H⟩ := H
   replace H : (some (a0, t359, t366)) = some (r1, r2, r3) := H
   have A19 := Aside0.mk A190
   clear A190
   simp only [Option.some.injEq, Prod.mk.injEq] at H
   obtain ⟨rfl, rfl, rfl⟩ := H
   go_wp2_with (first | ((with_reducible refine gc_ 103 rfl ?_); refine gM_ (some 26) Try.func103 [.slice A1 l1.length c1, .slice A2 l2.length c2] ?_; (with_reducible refine (nat_Nat_Gcd.calls kj3 (fun k_ => (((P1_ k_ ∨ P2_ k_) ∨ w.heap.size ≤ k_) ∧ k_ ≠ gb350)) _ _ l1 (fun k_ => (((P1_ k_ ∨ P2_ k_) ∨ w.heap.size ≤ k_) ∧ k_ ≠ gb350)) _ _ l2 t356 _ ?side1 ?side2 A17.out).mono ?_); (case side1 => exact HO_1.out); (case side2 => exact HO_2.out); rintro e w20 ⟨v357, rfl, ho0, hb⟩; refine ⟨_, rfl, ?_⟩; replace HO_1 := Aside0.mk (Kd.V_below (by (with_reducible repeat (first | apply va_ | apply vn_ | apply vd_)); exact HO_1.out) hb); replace HO_2 := Aside0.mk (Kd.V_below (by (with_reducible repeat (first | apply va_ | apply vn_ | apply vd_)); exact HO_2.out) hb); have HO358 := Aside0.mk (Kd.V_lower (Kd.V_mono (ok' := fun k_ => ((P1_ k_ ∨ P2_ k_) ∨ w.heap.size ≤ k_) ∧ k_ ≠ gb350) ho0 (fun k_ hk_ => ⟨Or.elim hk_ (fun hs_ => Or.elim hs_ (fun hs_ => hs_.1) (fun hs_ => hs_.1)) (fun hn_ => (.inr (Nat.le_trans (below_size bh_) hn_))), Or.elim hk_ (fun hs_ => Or.elim hs_ (fun hs_ => hs_.2) (fun hs_ => hs_.2)) (fun hn_ => (Kd.freshB (g := gb350) (o := .cells #[.bool false, .slice none 0 0, .slice none 0 0] 50 (0, 0)) (by (with_reducible repeat (first | apply kn_ | apply kd_ | apply ka_)); exact BK350.out) k_ hn_))⟩)) (below_size bh_)); replace BK350 := Aside0.mk (blk_below (g := gb350) (o := .cells #[.bool false, .slice none 0 0, .slice none 0 0] 50 (0, 0)) (by (with_reducible repeat (first | apply kn_ | apply kd_ | apply ka_)); exact BK350.out) hb); replace HB := bq_ hb; skip; obtain ⟨Ao21, co21, eo21⟩ := Kd.V_slice HO358.out; subst eo21) | ((with_reducible refine gc_ 69 rfl ?_); refine gM_ (some 30) Try.func69 [.slice A1 l1.length c1, .slice Ao21 t356.length co21] ?_; (with_reducible refine (nat_Nat_Div.calls kj3 (fun k_ => (((P1_ k_ ∨ P2_ k_) ∨ w.heap.size ≤ k_) ∧ k_ ≠ gb350)) _ _ l1 (fun k_ => (((P1_ k_ ∨ P2_ k_) ∨ w.heap.size ≤ k_) ∧ k_ ≠ gb350)) _ _ t356 t359 t362 t365 _ ?side1 ?side2 A18.out).mono ?_); (case side1 => exact HO_1.out); (case side2 => exact HO358.out); rintro e w22 ⟨v360, v363, rfl, ho0, ho1, hb⟩; refine ⟨_, rfl, ?_⟩; replace HO_2 := Aside0.mk (Kd.V_below (by (with_reducible repeat (first | apply va_ | apply vn_ | apply vd_)); exact HO_2.out) hb); replace HO358 := Aside0.mk (Kd.V_below (by (with_reducible repeat (first | apply va_ | apply vn_ | apply vd_)); exact HO358.out) hb); have HO361 := Aside0.mk (Kd.V_lower (Kd.V_mono (ok' := fun k_ => ((P1_ k_ ∨ P2_ k_) ∨ w.heap.size ≤ k_) ∧ k_ ≠ gb350) ho0 (fun k_ hk_ => ⟨Or.elim hk_ (fun hs_ => Or.elim hs_ (fun hs_ => hs_.1) (fun hs_ => hs_.1)) (fun hn_ => (.inr (Nat.le_trans (below_size bh_) hn_))), Or.elim hk_ (fun hs_ => Or.elim hs_ (fun hs_ => hs_.2) (fun hs_ => hs_.2)) (fun hn_ => (Kd.freshB (g := gb350) (o := .cells #[.bool false, .slice none 0 0, .slice none 0 0] 50 (0, 0)) (by (with_reducible repeat (first | apply kn_ | apply kd_ | apply ka_)); exact BK350.out) k_ hn_))⟩)) (below_size bh_)); replace BK350 := Aside0.mk (blk_below (g := gb350) (o := .cells #[.bool false, .slice none 0 0, .slice none 0 0] 50 (0, 0)) (by (with_reducible repeat (first | apply kn_ | apply kd_ | apply ka_)); exact BK350.out) hb); replace HB := bq_ hb) | ((with_reducible refine gc_ 69 rfl ?_); refine gM_ (some 37) Try.func69 [.slice A2 l2.length c2, .slice Ao21 t356.length co21] ?_; (with_reducible refine (nat_Nat_Div.calls kj3 (fun k_ => (((P1_ k_ ∨ P2_ k_) ∨ w.heap.size ≤ k_) ∧ k_ ≠ gb350)) _ _ l2 (fun k_ => (((P1_ k_ ∨ P2_ k_) ∨ w.heap.size ≤ k_) ∧ k_ ≠ gb350)) _ _ t356 t366 t369 t372 _ ?side1 ?side2 A19.out).mono ?_); (case side1 => exact HO_2.out); (case side2 => exact HO358.out); rintro e w23 ⟨v367, v370, rfl, ho0, ho1, hb⟩; refine ⟨_, rfl, ?_⟩; replace HO361 := Aside0.mk (Kd.V_below (by (with_reducible repeat (first | apply va_ | apply vn_ | apply vd_)); exact HO361.out) hb); have HO368 := Aside0.mk (Kd.V_lower (Kd.V_mono (ok' := fun k_ => ((P1_ k_ ∨ P2_ k_) ∨ w.heap.size ≤ k_) ∧ k_ ≠ gb350) ho0 (fun k_ hk_ => ⟨Or.elim hk_ (fun hs_ => Or.elim hs_ (fun hs_ => hs_.1) (fun hs_ => hs_.1)) (fun hn_ => (.inr (Nat.le_trans (below_size bh_) hn_))), Or.elim hk_ (fun hs_ => Or.elim hs_ (fun hs_ => hs_.2) (fun hs_ => hs_.2)) (fun hn_ => (Kd.freshB (g := gb350) (o := .cells #[.bool false, .slice none 0 0, .slice none 0 0] 50 (0, 0)) (by (with_reducible repeat (first | apply kn_ | apply kd_ | apply ka_)); exact BK350.out) k_ hn_))⟩)) (below_size bh_)); replace BK350 := Aside0.mk (blk_below (g := gb350) (o := .cells #[.bool false, .slice none 0 0, .slice none 0 0] 50 (0, 0)) (by (with_reducible repeat (first | apply kn_ | apply kd_ | apply ka_)); exact BK350.out) hb); replace HB := bq_ hb; skip; obtain ⟨Ao24, co24, eo24⟩ := Kd.V_slice HO368.out; subst eo24; obtain ⟨Ao25, co25, eo25⟩ := Kd.V_slice HO361.out; subst eo25; have hcz26_0 : w23.cell? ⟨gb350, 0, none⟩ = some (.bool false) := (blk_cell BK350.out 0).trans rfl; have hcz26_1 : w23.cell? ⟨gb350, 1, none⟩ = some (.slice none 0 0) := (blk_cell BK350.out 1).trans rfl; have hcz26_2 : w23.cell? ⟨gb350, 2, none⟩ = some (.slice none 0 0) := (blk_cell BK350.out 2).trans rfl; have hfz26_0 := blk_frozen BK350.out 0; have hfz26_1 := blk_frozen BK350.out 1; have hfz26_2 := blk_frozen BK350.out 2))
   refine bodyPost_ret (results_cell_row rfl _ _ gb350 50 #[.bool a0, .slice Ao25 t359.length co25, .slice Ao24 t366.length co24] (0, 0) _ rfl (by (with_reducible repeat (first | apply kn_ | apply kd_ | apply ka_)); refine blk_put (cs := #[.bool a0, .slice Ao25 t359.length co25, .slice none 0 0]) ?_ 2 _ rfl; (with_reducible repeat (first | apply kn_ | apply kd_ | apply ka_)); refine blk_put (cs := #[.bool a0, .slice none 0 0, .slice none 0 0]) ?_ 1 _ rfl; (with_reducible repeat (first | apply kn_ | apply kd_ | apply ka_)); refine blk_put (cs := #[.bool false, .slice none 0 0, .slice none 0 0]) ?_ 0 _ rfl; (with_reducible repeat (first | apply kn_ | apply kd_ | apply ka_)); exact BK350.out) Try.underlying50 rfl (by kernel_rfl)) rfl ?_
   exact ⟨_, _, eh_, by (with_reducible repeat (first | apply va_ | apply vn_ | apply vd_)); exact Kd.V_mono (Kd.V_far (p := ⟨gb350, 2, none⟩) (Kd.V_far (p := ⟨gb350, 1, none⟩) (Kd.V_far (p := ⟨gb350, 0, none⟩) (Kd.V_mono HO361.out (fun k_ hk => (⟨hk, hk.2⟩ : _ ∧ k_ ≠ gb350))) (fun _ hk => hk.2) (.bool a0)) (fun _ hk => hk.2) (.slice Ao25 t359.length co25)) (fun _ hk => hk.2) (.slice Ao24 t366.length co24)) (fun _ hk => hk.1.1), by (with_reducible repeat (first | apply va_ | apply vn_ | apply vd_)); exact Kd.V_mono (Kd.V_far (p := ⟨gb350, 2, none⟩) (Kd.V_far (p := ⟨gb350, 1, none⟩) (Kd.V_far (p := ⟨gb350, 0, none⟩) (Kd.V_mono HO368.out (fun k_ hk => (⟨hk, hk.2⟩ : _ ∧ k_ ≠ gb350))) (fun _ hk => hk.2) (.bool a0)) (fun _ hk => hk.2) (.slice Ao25 t359.length co25)) (fun _ hk => hk.2) (.slice Ao24 t366.length co24)) (fun _ hk => hk.1.1), bh_⟩

/-! ### ratio_Dyad: function 35 -/
def ratio_Dyad.j0 : Nat → Bool → Int → Int → Bool → Option (Bool × List Int × List Int × Int)
 | 0, _, _, _, _ => none
 | k + 1, x0, x1, x2, x17 => if x17 = true then (some (false, ([] : List Int), ([] : List Int), 31)) else ((nat_New.f k x1).bind fun t374 => ((nat_Nat_Shl.f k t374 x2).bind fun bt377 => ((nat_New.f k 1).bind fun t381 => ((nat_Nat_Shl.f k t381 (wrap64 (-x2))).bind fun bt384 => ((ratio_low.f k x0 bt377.1 bt384.1).bind fun bt388 => (some (bt388.1, bt388.2.1, bt388.2.2, 0)))))))
def ratio_Dyad.f (k : Nat) (a0 : Bool) (a1 : Int) (a2 : Int) : Option (Bool × List Int × List Int × Int) := if a2 < (-8192) then (ratio_Dyad.j0 k a0 a1 a2 true) else (ratio_Dyad.j0 k a0 a1 a2 (decide (a2 > 8192)))
theorem ratio_Dyad.mono_l : ∀ k, (∀ y0 y1 y2 y3, LeO (ratio_Dyad.j0 k y0 y1 y2 y3) (ratio_Dyad.j0 (k + 1) y0 y1 y2 y3))
 | 0 => fun _ _ _ _ r h => by simp [ratio_Dyad.j0] at h
 | k + 1 => by
  have ih0 := ratio_Dyad.mono_l k
  ·
   intro y0 y1 y2 y3
   unfold ratio_Dyad.j0
   repeat' with_reducible first | exact ih0 _ _ _ _ | exact nat_Nat_Shl.mono _ _ _ | exact nat_New.mono _ _ | exact ratio_low.mono _ _ _ _ | exact LeO.refl _ | exact LeO.none _ | refine LeO.ite ?_ ?_ | refine LeO.bind ?_ (fun _ => ?_)
theorem ratio_Dyad.mono : ∀ a0 a1 a2 k, LeO (ratio_Dyad.f k a0 a1 a2) (ratio_Dyad.f (k + 1) a0 a1 a2) := by
 intro a0 a1 a2 k
 have ih0 := ratio_Dyad.mono_l k
 unfold ratio_Dyad.f
 repeat' with_reducible first | exact ih0 _ _ _ _ | exact nat_Nat_Shl.mono _ _ _ | exact nat_New.mono _ _ | exact ratio_low.mono _ _ _ _ | exact LeO.refl _ | exact LeO.none _ | refine LeO.ite ?_ ?_ | refine LeO.bind ?_ (fun _ => ?_)
set_option maxHeartbeats 8000000 in
set_option maxRecDepth 100000 in
theorem ratio_Dyad.calls (k : Nat) (a0 : Bool) (a1 : Int) (a2 : Int) (r1 : Bool) (r2 : List Int) (r3 : List Int) (r4 : Int) (w : World) (h : ratio_Dyad.f k a0 a1 a2 = some (r1, r2, r3, r4)) :
  Calls Try.prog 35 #[.bool a0, .int .u64 a1, .int .i64 a2] w fun e w' => ∃ v1_ v2_ : Value, e = .returned (.tuple #[.agg #[.bool r1, v1_, v2_], .int .i64 r4]) ∧ Kd.V (Kd.int .u32) 123 w' w.heap.size (fun k_ => (w.heap.size ≤ k_)) v1_ r2 ∧ Kd.V (Kd.int .u32) 123 w' w.heap.size (fun k_ => (w.heap.size ≤ k_)) v2_ r3 ∧ Below w.heap.size w w' := by
 have hu50 := Try.underlying50
 have HB := Aside0.mk (Below.refl w.heap.size w)
 have H : (if a2 < (-8192) then (ratio_Dyad.j0 k a0 a1 a2 true) else (ratio_Dyad.j0 k a0 a1 a2 (decide (a2 > 8192)))) = some (r1, r2, r3, r4) := h
 clear h
 have HC4 := Aside0.mk H
 clear H
 go_enter Try.func35, Try.ntmps35
 go_upto_region 1 with (first | ((with_reducible refine gate_dst (N := 6) rfl ?_); refine box_event ?hg (N := 6) ?hd (cs := #[.bool false, .slice none 0 0, .slice none 0 0]) (t := 50) ?hr ?_; (case hd => rfl); (case hg => rfl); (case hr => first | (go_simp; done) | (go_simp; rfl)); intro gb373 hg w5 hbox hb; have n0_ := bq_ hb; have n1_ := Aside0.mk (hbox); have n3_ := bz_ hg; clear HB; have HB := n0_; have BK373 := n1_; have GE373 := n3_; clear n0_ n1_ n3_; clear hb hbox hg))
 (try simp only [Act.put, List.setIfInBounds_toArray, List.set_cons_zero, List.set_cons_succ])
 go_cut [17] (fun v17 wc => ∃ (kq : Nat) (x17_3 : Bool), v17 = .bool x17_3 ∧ Aside0 (ratio_Dyad.j0 kq a0 a1 a2 x17_3 = some (r1, r2, r3, r4)) ∧ Aside0 (kq ≤ k) ∧ Aside0 (wc.heap[gb373]? = some (.cells #[.bool false, (.slice none 0 0), (.slice none 0 0)] 50 (0, 0))) ∧ Aside0 (Below w.heap.size w wc))
 case first =>
  have H := HC4.out
  clear HC4
  by_cases c6 : a2 < (-8192)
  case pos =>
   rw [if_pos c6] at H
   have c6b0 : decide (a2 < (-8192)) = true := decide_eq_true c6
   clear c6
   (first | rw [c6b0] | (simp only [i64_w, i32_w]; rw [c6b0]) | skip)
   have H' := Aside0.mk H
   clear H
   go_wp2
   go_meet
   case rel => exact ⟨_, (true), (sh_), H', ⟨by first | omega | exact Nat.le_refl _⟩, ⟨by (with_reducible repeat (first | apply kn_ | apply kd_ | apply ka_)); exact BK373.out⟩, ⟨bh_⟩⟩
  rw [if_neg c6] at H
  have c6b0 : decide (a2 < (-8192)) = false := decide_eq_false c6
  clear c6
  (first | rw [c6b0] | (simp only [i64_w, i32_w]; rw [c6b0]) | skip)
  have H' := Aside0.mk H
  clear H
  go_wp2
  go_meet
  case rel => exact ⟨_, (decide (a2 > 8192)), (sh_), H', ⟨by first | omega | exact Nat.le_refl _⟩, ⟨by (with_reducible repeat (first | apply kn_ | apply kd_ | apply ka_)); exact BK373.out⟩, ⟨bh_⟩⟩
 case rest =>
  clear HC4
  try clear p2
  try clear c3
  try clear c6
  try clear c6b0
  obtain ⟨kq, x17_3, rfl, HA, HJ3, BK373, HB⟩ := hcut
  cases kq with
  | zero => exact absurd HA.out (by simp [ratio_Dyad.j0])
  | succ kj3 =>
   have H := HA.out
   clear HA
   simp only [ratio_Dyad.j0] at H
   by_cases c7 : x17_3 = true
   case pos =>
    subst c7
    have H1 : (some (false, ([] : List Int), ([] : List Int), 31)) = some (r1, r2, r3, r4) := by rw [if_pos rfl] at H; exact H
    clear H
    have H := H1
    clear H1
    simp only [Option.some.injEq, Prod.mk.injEq] at H
    obtain ⟨rfl, rfl, rfl, rfl⟩ := H
    have hcz8_0 : wc.cell? ⟨gb373, 0, none⟩ = some (.bool false) := (blk_cell BK373.out 0).trans rfl
    have hcz8_1 : wc.cell? ⟨gb373, 1, none⟩ = some (.slice none 0 0) := (blk_cell BK373.out 1).trans rfl
    have hcz8_2 : wc.cell? ⟨gb373, 2, none⟩ = some (.slice none 0 0) := (blk_cell BK373.out 2).trans rfl
    have hfz8_0 := blk_frozen BK373.out 0
    have hfz8_1 := blk_frozen BK373.out 1
    have hfz8_2 := blk_frozen BK373.out 2
    go_wp2
    refine bodyPost_ret (results_ct rfl _ _ gb373 50 #[.bool false, .slice none 0 0, .slice none 0 0] (0, 0) _ rfl (by (with_reducible repeat (first | apply kn_ | apply kd_ | apply ka_)); refine blk_put (cs := #[.bool false, .slice none 0 0, .slice none 0 0]) ?_ 2 _ rfl; (with_reducible repeat (first | apply kn_ | apply kd_ | apply ka_)); refine blk_put (cs := #[.bool false, .slice none 0 0, .slice none 0 0]) ?_ 1 _ rfl; (with_reducible repeat (first | apply kn_ | apply kd_ | apply ka_)); refine blk_put (cs := #[.bool false, .slice none 0 0, .slice none 0 0]) ?_ 0 _ rfl; (with_reducible repeat (first | apply kn_ | apply kd_ | apply ka_)); exact BK373.out) Try.underlying50 rfl (by kernel_rfl)) rfl ?_
    exact ⟨_, _, eh_, Kd.R_V (base := 0) (by first | exact Kd.R_nil _ _ _ _ _ | exact Kd.N_nil _ _ _ _ _ | exact Kd.V_nil _ _ _ _ _ | exact Kd.Q_nil _ _ _ _ _ | exact Kd.S_nil _ _ _ _ _), Kd.R_V (base := 0) (by first | exact Kd.R_nil _ _ _ _ _ | exact Kd.N_nil _ _ _ _ _ | exact Kd.V_nil _ _ _ _ _ | exact Kd.Q_nil _ _ _ _ _ | exact Kd.S_nil _ _ _ _ _), bh_⟩
   replace c7 := Bool.eq_false_iff.mpr c7
   subst c7
   have H1 : ((nat_New.f kj3 a1).bind fun t374 => ((nat_Nat_Shl.f kj3 t374 a2).bind fun bt377 => ((nat_New.f kj3 1).bind fun t381 => ((nat_Nat_Shl.f kj3 t381 (wrap64 (-a2))).bind fun bt384 => ((ratio_low.f kj3 a0 bt377.1 bt384.1).bind fun bt388 => (some (bt388.1, bt388.2.1, bt388.2.2, 0))))))) = some (r1, r2, r3, r4) := by rw [if_neg (show ¬ (false = true) by decide)] at H; exact H
   clear H
   have H := H1
   clear H1
   replace H := Option.bind_eq_some_iff.mp H
   obtain ⟨t374, A90, H⟩ := H
   replace H : ((nat_Nat_Shl.f kj3 t374 a2).bind fun bt377 => ((nat_New.f kj3 1).bind fun t381 => ((nat_Nat_Shl.f kj3 t381 (wrap64 (-a2))).bind fun bt384 => ((ratio_low.f kj3 a0 bt377.1 bt384.1).bind fun bt388 => (some (bt388.1, bt388.2.1, bt388.2.2, 0)))))) = some (r1, r2, r3, r4) := H
   have A9 := Aside0.mk A90
   clear A90
   replace H := Option.bind_eq_some_iff.mp H
   obtain ⟨⟨t377, t380⟩, A100, H⟩ := H
   replace H : ((nat_New.f kj3 1).bind fun t381 => ((nat_Nat_Shl.f kj3 t381 (wrap64 (-a2))).bind fun bt384 => ((ratio_low.f kj3 a0 t377 bt384.1).bind fun bt388 => (some (bt388.1, bt388.2.1, bt388.2.2, 0))))) = some (r1, r2, r3, r4) := H
   have A10 := Aside0.mk A100
   clear A100
   replace H := Option.bind_eq_some_iff.mp H
   obtain ⟨t381, A110, H⟩ := H
   replace H : ((nat_Nat_Shl.f kj3 t381 (wrap64 (-a2))).bind fun bt384 => ((ratio_low.f kj3 a0 t377 bt384.1).bind fun bt388 => (some (bt388.1, bt388.2.1, bt388.2.2, 0)))) = some (r1, r2, r3, r4) := H
   have A11 := Aside0.mk A110
   clear A110
   replace H := Option.bind_eq_some_iff.mp H
   obtain ⟨⟨t384, t387⟩, A120, H⟩ := H
   replace H : ((ratio_low.f kj3 a0 t377 t384).bind fun bt388 => (some (bt388.1, bt388.2.1, bt388.2.2, 0))) = some (r1, r2, r3, r4) := H
   have A12 := Aside0.mk A120
   clear A120
   replace H := Option.bind_eq_some_iff.mp H
   obtain ⟨⟨t388, t389, t392⟩, A130, H⟩ := H
   replace H : (some (t388, t389, t392, 0)) = some (r1, r2, r3, r4) := H
   have A13 := Aside0.mk A130
   clear A130
   simp only [Option.some.injEq, Prod.mk.injEq] at H
   obtain ⟨rfl, rfl, rfl, rfl⟩ := H
   go_wp2_with (first | ((with_reducible refine gc_ 56 rfl ?_); refine gM_ (some 21) Try.func56 [.int .u64 a1] ?_; (with_reducible refine (nat_New.calls kj3 a1 t374 _ A9.out).mono ?_); rintro e w14 ⟨v375, rfl, ho0, hb⟩; refine ⟨_, rfl, ?_⟩; have HO376 := Aside0.mk (Kd.V_lower (Kd.V_mono (ok' := fun k_ => (w.heap.size ≤ k_) ∧ k_ ≠ gb373) ho0 (fun k_ hk_ => ⟨(Nat.le_trans (below_size bh_) hk_), (Kd.freshB (g := gb373) (o := .cells #[.bool false, .slice none 0 0, .slice none 0 0] 50 (0, 0)) (by (with_reducible repeat (first | apply kn_ | apply kd_ | apply ka_)); exact BK373.out) k_ hk_)⟩)) (below_size bh_)); replace BK373 := Aside0.mk (blk_below (g := gb373) (o := .cells #[.bool false, .slice none 0 0, .slice none 0 0] 50 (0, 0)) (by (with_reducible repeat (first | apply kn_ | apply kd_ | apply ka_)); exact BK373.out) hb); replace HB := bq_ hb; skip; obtain ⟨Ao15, co15, eo15⟩ := Kd.V_slice HO376.out; subst eo15) | ((with_reducible refine gc_ 72 rfl ?_); refine gM_ (some 23) Try.func72 [.slice Ao15 t374.length co15, .int .i64 a2] ?_; (with_reducible refine (nat_Nat_Shl.calls kj3 _ _ t374 a2 t377 t380 _ ?side1 ?side2 A10.out).mono ?_); (case side1 => repeat first | exact (Kd.V_reads' HO376.out).2.2 | with_reducible first | apply ca_ | apply cn_ | apply cd_); (case side2 => exact (Kd.V_reads' HO376.out).2.1); rintro e w16 ⟨v378, rfl, ho0, hb⟩; refine ⟨_, rfl, ?_⟩; have HO379 := Aside0.mk (Kd.V_lower (Kd.V_mono (ok' := fun k_ => (w.heap.size ≤ k_) ∧ k_ ≠ gb373) ho0 (fun k_ hk_ => ⟨(Nat.le_trans (below_size bh_) hk_), (Kd.freshB (g := gb373) (o := .cells #[.bool false, .slice none 0 0, .slice none 0 0] 50 (0, 0)) (by (with_reducible repeat (first | apply kn_ | apply kd_ | apply ka_)); exact BK373.out) k_ hk_)⟩)) (below_size bh_)); replace BK373 := Aside0.mk (blk_below (g := gb373) (o := .cells #[.bool false, .slice none 0 0, .slice none 0 0] 50 (0, 0)) (by (with_reducible repeat (first | apply kn_ | apply kd_ | apply ka_)); exact BK373.out) hb); replace HB := bq_ hb) | ((with_reducible refine gc_ 56 rfl ?_); refine gM_ (some 27) Try.func56 [.int .u64 1] ?_; (with_reducible refine (nat_New.calls kj3 1 t381 _ A11.out).mono ?_); rintro e w17 ⟨v382, rfl, ho0, hb⟩; refine ⟨_, rfl, ?_⟩; replace HO379 := Aside0.mk (Kd.V_below (by (with_reducible repeat (first | apply va_ | apply vn_ | apply vd_)); exact HO379.out) hb); have HO383 := Aside0.mk (Kd.V_lower (Kd.V_mono (ok' := fun k_ => (w.heap.size ≤ k_) ∧ k_ ≠ gb373) ho0 (fun k_ hk_ => ⟨(Nat.le_trans (below_size bh_) hk_), (Kd.freshB (g := gb373) (o := .cells #[.bool false, .slice none 0 0, .slice none 0 0] 50 (0, 0)) (by (with_reducible repeat (first | apply kn_ | apply kd_ | apply ka_)); exact BK373.out) k_ hk_)⟩)) (below_size bh_)); replace BK373 := Aside0.mk (blk_below (g := gb373) (o := .cells #[.bool false, .slice none 0 0, .slice none 0 0] 50 (0, 0)) (by (with_reducible repeat (first | apply kn_ | apply kd_ | apply ka_)); exact BK373.out) hb); replace HB := bq_ hb; skip; obtain ⟨Ao18, co18, eo18⟩ := Kd.V_slice HO383.out; subst eo18) | ((with_reducible refine gc_ 72 rfl ?_); refine gM_ (some 30) Try.func72 [.slice Ao18 t381.length co18, .int .i64 (wrap64 (-a2))] ?_; (with_reducible refine (nat_Nat_Shl.calls kj3 _ _ t381 (wrap64 (-a2)) t384 t387 _ ?side1 ?side2 A12.out).mono ?_); (case side1 => repeat first | exact (Kd.V_reads' HO383.out).2.2 | with_reducible first | apply ca_ | apply cn_ | apply cd_); (case side2 => exact (Kd.V_reads' HO383.out).2.1); rintro e w19 ⟨v385, rfl, ho0, hb⟩; refine ⟨_, rfl, ?_⟩; replace HO379 := Aside0.mk (Kd.V_below (by (with_reducible repeat (first | apply va_ | apply vn_ | apply vd_)); exact HO379.out) hb); have HO386 := Aside0.mk (Kd.V_lower (Kd.V_mono (ok' := fun k_ => (w.heap.size ≤ k_) ∧ k_ ≠ gb373) ho0 (fun k_ hk_ => ⟨(Nat.le_trans (below_size bh_) hk_), (Kd.freshB (g := gb373) (o := .cells #[.bool false, .slice none 0 0, .slice none 0 0] 50 (0, 0)) (by (with_reducible repeat (first | apply kn_ | apply kd_ | apply ka_)); exact BK373.out) k_ hk_)⟩)) (below_size bh_)); replace BK373 := Aside0.mk (blk_below (g := gb373) (o := .cells #[.bool false, .slice none 0 0, .slice none 0 0] 50 (0, 0)) (by (with_reducible repeat (first | apply kn_ | apply kd_ | apply ka_)); exact BK373.out) hb); replace HB := bq_ hb; skip; obtain ⟨Ao20, co20, eo20⟩ := Kd.V_slice HO379.out; subst eo20; obtain ⟨Ao21, co21, eo21⟩ := Kd.V_slice HO386.out; subst eo21) | ((with_reducible refine gc_ 73 rfl ?_); refine gM_ (some 36) Try.func73 [.bool a0, .slice Ao20 t377.length co20, .slice Ao21 t384.length co21] ?_; (with_reducible refine (ratio_low.calls kj3 a0 (fun k_ => ((w.heap.size ≤ k_) ∧ k_ ≠ gb373)) _ _ t377 (fun k_ => ((w.heap.size ≤ k_) ∧ k_ ≠ gb373)) _ _ t384 t388 t389 t392 _ ?side1 ?side2 A13.out).mono ?_); (case side1 => exact HO379.out); (case side2 => exact HO386.out); rintro e w22 ⟨v390, v393, rfl, ho0, ho1, hb⟩; refine ⟨_, rfl, ?_⟩; have HO391 := Aside0.mk (Kd.V_lower (Kd.V_mono (ok' := fun k_ => (w.heap.size ≤ k_) ∧ k_ ≠ gb373) ho0 (fun k_ hk_ => ⟨Or.elim hk_ (fun hs_ => Or.elim hs_ (fun hs_ => hs_.1) (fun hs_ => hs_.1)) (fun hn_ => (Nat.le_trans (below_size bh_) hn_)), Or.elim hk_ (fun hs_ => Or.elim hs_ (fun hs_ => hs_.2) (fun hs_ => hs_.2)) (fun hn_ => (Kd.freshB (g := gb373) (o := .cells #[.bool false, .slice none 0 0, .slice none 0 0] 50 (0, 0)) (by (with_reducible repeat (first | apply kn_ | apply kd_ | apply ka_)); exact BK373.out) k_ hn_))⟩)) (below_size bh_)); have HO394 := Aside0.mk (Kd.V_lower (Kd.V_mono (ok' := fun k_ => (w.heap.size ≤ k_) ∧ k_ ≠ gb373) ho1 (fun k_ hk_ => ⟨Or.elim hk_ (fun hs_ => Or.elim hs_ (fun hs_ => hs_.1) (fun hs_ => hs_.1)) (fun hn_ => (Nat.le_trans (below_size bh_) hn_)), Or.elim hk_ (fun hs_ => Or.elim hs_ (fun hs_ => hs_.2) (fun hs_ => hs_.2)) (fun hn_ => (Kd.freshB (g := gb373) (o := .cells #[.bool false, .slice none 0 0, .slice none 0 0] 50 (0, 0)) (by (with_reducible repeat (first | apply kn_ | apply kd_ | apply ka_)); exact BK373.out) k_ hn_))⟩)) (below_size bh_)); replace BK373 := Aside0.mk (blk_below (g := gb373) (o := .cells #[.bool false, .slice none 0 0, .slice none 0 0] 50 (0, 0)) (by (with_reducible repeat (first | apply kn_ | apply kd_ | apply ka_)); exact BK373.out) hb); replace HB := bq_ hb; skip; have hcz23_0 : w22.cell? ⟨gb373, 0, none⟩ = some (.bool false) := (blk_cell BK373.out 0).trans rfl; have hcz23_1 : w22.cell? ⟨gb373, 1, none⟩ = some (.slice none 0 0) := (blk_cell BK373.out 1).trans rfl; have hcz23_2 : w22.cell? ⟨gb373, 2, none⟩ = some (.slice none 0 0) := (blk_cell BK373.out 2).trans rfl; have hfz23_0 := blk_frozen BK373.out 0; have hfz23_1 := blk_frozen BK373.out 1; have hfz23_2 := blk_frozen BK373.out 2; obtain ⟨Ao24, co24, eo24⟩ := Kd.V_slice HO391.out; subst eo24; obtain ⟨Ao25, co25, eo25⟩ := Kd.V_slice HO394.out; subst eo25))
   refine bodyPost_ret (results_ct rfl _ _ gb373 50 #[.bool t388, .slice Ao24 t389.length co24, .slice Ao25 t392.length co25] (0, 0) _ rfl (by (with_reducible repeat (first | apply kn_ | apply kd_ | apply ka_)); refine blk_put (cs := #[.bool t388, .slice Ao24 t389.length co24, .slice none 0 0]) ?_ 2 _ rfl; (with_reducible repeat (first | apply kn_ | apply kd_ | apply ka_)); refine blk_put (cs := #[.bool t388, .slice none 0 0, .slice none 0 0]) ?_ 1 _ rfl; (with_reducible repeat (first | apply kn_ | apply kd_ | apply ka_)); refine blk_put (cs := #[.bool false, .slice none 0 0, .slice none 0 0]) ?_ 0 _ rfl; (with_reducible repeat (first | apply kn_ | apply kd_ | apply ka_)); exact BK373.out) Try.underlying50 rfl (by kernel_rfl)) rfl ?_
   exact ⟨_, _, eh_, by (with_reducible repeat (first | apply va_ | apply vn_ | apply vd_)); exact Kd.V_mono (Kd.V_far (p := ⟨gb373, 2, none⟩) (Kd.V_far (p := ⟨gb373, 1, none⟩) (Kd.V_far (p := ⟨gb373, 0, none⟩) (Kd.V_mono HO391.out (fun k_ hk => (⟨hk, hk.2⟩ : _ ∧ k_ ≠ gb373))) (fun _ hk => hk.2) (.bool t388)) (fun _ hk => hk.2) (.slice Ao24 t389.length co24)) (fun _ hk => hk.2) (.slice Ao25 t392.length co25)) (fun _ hk => hk.1.1), by (with_reducible repeat (first | apply va_ | apply vn_ | apply vd_)); exact Kd.V_mono (Kd.V_far (p := ⟨gb373, 2, none⟩) (Kd.V_far (p := ⟨gb373, 1, none⟩) (Kd.V_far (p := ⟨gb373, 0, none⟩) (Kd.V_mono HO394.out (fun k_ hk => (⟨hk, hk.2⟩ : _ ∧ k_ ≠ gb373))) (fun _ hk => hk.2) (.bool t388)) (fun _ hk => hk.2) (.slice Ao24 t389.length co24)) (fun _ hk => hk.2) (.slice Ao25 t392.length co25)) (fun _ hk => hk.1.1), bh_⟩

/-! ### ratio_New: function 55 -/
def ratio_New.f (k : Nat) (a0 : Bool) (l1 : List Int) (l2 : List Int) : Option (Bool × List Int × List Int × Int) := (nat_Nat_Len.f k l2).bind fun t396 => (if t396 = 0 then (some (false, ([] : List Int), ([] : List Int), 30)) else ((ratio_low.f k a0 l1 l2).bind fun bt397 => (some (bt397.1, bt397.2.1, bt397.2.2, 0))))
theorem ratio_New.mono : ∀ a0 a1 a2 k, LeO (ratio_New.f k a0 a1 a2) (ratio_New.f (k + 1) a0 a1 a2) := by
 intro a0 a1 a2 k
 unfold ratio_New.f
 repeat' with_reducible first | exact nat_Nat_Len.mono _ _ | exact ratio_low.mono _ _ _ _ | exact LeO.refl _ | exact LeO.none _ | refine LeO.ite ?_ ?_ | refine LeO.bind ?_ (fun _ => ?_)
set_option maxHeartbeats 8000000 in
set_option maxRecDepth 100000 in
theorem ratio_New.calls (k : Nat) (a0 : Bool) (P1_ : Nat → Prop) (A1 : Option Addr) (c1 : Nat) (l1 : List Int) (P2_ : Nat → Prop) (A2 : Option Addr) (c2 : Nat) (l2 : List Int) (r1 : Bool) (r2 : List Int) (r3 : List Int) (r4 : Int) (w : World) (hs1 : Kd.V (Kd.int .u32) 123 w w.heap.size (fun k_ => P1_ k_) (.slice A1 l1.length c1) l1) (hs2 : Kd.V (Kd.int .u32) 123 w w.heap.size (fun k_ => P2_ k_) (.slice A2 l2.length c2) l2) (h : ratio_New.f k a0 l1 l2 = some (r1, r2, r3, r4)) :
  Calls Try.prog 55 #[.bool a0, .slice A1 l1.length c1, .slice A2 l2.length c2] w fun e w' => ∃ v1_ v2_ : Value, e = .returned (.tuple #[.agg #[.bool r1, v1_, v2_], .int .i64 r4]) ∧ Kd.V (Kd.int .u32) 123 w' w.heap.size (fun k_ => ((P1_ k_ ∨ P2_ k_) ∨ w.heap.size ≤ k_)) v1_ r2 ∧ Kd.V (Kd.int .u32) 123 w' w.heap.size (fun k_ => ((P1_ k_ ∨ P2_ k_) ∨ w.heap.size ≤ k_)) v2_ r3 ∧ Below w.heap.size w w' := by
 have hu50 := Try.underlying50
 have HO1 := Aside0.mk (show Kd.V (Kd.int .u32) 123 w w.heap.size (fun k_ => ((P1_ k_ ∨ P2_ k_) ∨ w.heap.size ≤ k_)) (.slice A1 l1.length c1) l1 from Kd.V_mono hs1 (fun k_ hk => .inl (.inl hk)))
 have HO2 := Aside0.mk (show Kd.V (Kd.int .u32) 123 w w.heap.size (fun k_ => ((P1_ k_ ∨ P2_ k_) ∨ w.heap.size ≤ k_)) (.slice A2 l2.length c2) l2 from Kd.V_mono hs2 (fun k_ hk => .inl (.inr hk)))
 have HB := Aside0.mk (Below.refl w.heap.size w)
 have H : ((nat_Nat_Len.f k l2).bind fun t396 => (if t396 = 0 then (some (false, ([] : List Int), ([] : List Int), 30)) else ((ratio_low.f k a0 l1 l2).bind fun bt397 => (some (bt397.1, bt397.2.1, bt397.2.2, 0))))) = some (r1, r2, r3, r4) := h
 clear h
 replace H := Option.bind_eq_some_iff.mp H
 obtain ⟨t396, A40, H⟩ := H
 replace H : (if t396 = 0 then (some (false, ([] : List Int), ([] : List Int), 30)) else ((ratio_low.f k a0 l1 l2).bind fun bt397 => (some (bt397.1, bt397.2.1, bt397.2.2, 0)))) = some (r1, r2, r3, r4) := H
 have A4 := Aside0.mk A40
 clear A40
 by_cases c5 : t396 = 0
 case pos =>
  rw [if_pos c5] at H
  have c5b0 : (t396 == 0) = true := beq_iff_eq.mpr c5
  have c5b1 : (t396 != 0) = false := bne_eq_false_iff_eq.mpr c5
  clear c5
  simp only [Option.some.injEq, Prod.mk.injEq] at H
  obtain ⟨rfl, rfl, rfl, rfl⟩ := H
  go_enter Try.func55, Try.ntmps55
  go_wp2_with (first | ((with_reducible refine gate_dst (N := 6) rfl ?_); refine box_event ?hg (N := 6) ?hd (cs := #[.bool false, .slice none 0 0, .slice none 0 0]) (t := 50) ?hr ?_; (case hd => rfl); (case hg => rfl); (case hr => first | (go_simp; done) | (go_simp; rfl)); intro gb395 hg w6 hbox hb; have n1_ := Aside0.mk (Kd.V_below (Kd.V_elderB (by (with_reducible repeat (first | apply va_ | apply vn_ | apply vd_)); exact HO2.out) gb395 (Nat.le_of_eq hg.symm)) hb); have n2_ := bq_ hb; have n3_ := Aside0.mk (hbox); have n5_ := bz_ hg; clear HO2 HB; have HO2 := n1_; have HB := n2_; have BK395 := n3_; have GE395 := n5_; clear n1_ n2_ n3_ n5_; clear hb hbox hg) | ((with_reducible refine gc_ 66 rfl ?_); refine gM_ (some 9) Try.func66 [.slice A2 l2.length c2] ?_; (with_reducible refine (nat_Nat_Len.calls k _ _ l2 t396 _ ?side1 ?side2 A4.out).mono ?_); (case side1 => repeat first | exact (Kd.V_reads' HO2.out).2.2 | with_reducible first | apply ca_ | apply cn_ | apply cd_); (case side2 => exact (Kd.V_reads' HO2.out).2.1); rintro e w7 ⟨rfl, hb⟩; refine ⟨_, rfl, ?_⟩; replace BK395 := Aside0.mk (blk_below (g := gb395) (o := .cells #[.bool false, .slice none 0 0, .slice none 0 0] 50 (0, 0)) (by (with_reducible repeat (first | apply kn_ | apply kd_ | apply ka_)); exact BK395.out) hb); replace HB := bq_ hb; skip; have hcz8_0 : w7.cell? ⟨gb395, 0, none⟩ = some (.bool false) := (blk_cell BK395.out 0).trans rfl; have hcz8_1 : w7.cell? ⟨gb395, 1, none⟩ = some (.slice none 0 0) := (blk_cell BK395.out 1).trans rfl; have hcz8_2 : w7.cell? ⟨gb395, 2, none⟩ = some (.slice none 0 0) := (blk_cell BK395.out 2).trans rfl; have hfz8_0 := blk_frozen BK395.out 0; have hfz8_1 := blk_frozen BK395.out 1; have hfz8_2 := blk_frozen BK395.out 2))
  refine bodyPost_ret (results_ct rfl _ _ gb395 50 #[.bool false, .slice none 0 0, .slice none 0 0] (0, 0) _ rfl (by (with_reducible repeat (first | apply kn_ | apply kd_ | apply ka_)); refine blk_put (cs := #[.bool false, .slice none 0 0, .slice none 0 0]) ?_ 2 _ rfl; (with_reducible repeat (first | apply kn_ | apply kd_ | apply ka_)); refine blk_put (cs := #[.bool false, .slice none 0 0, .slice none 0 0]) ?_ 1 _ rfl; (with_reducible repeat (first | apply kn_ | apply kd_ | apply ka_)); refine blk_put (cs := #[.bool false, .slice none 0 0, .slice none 0 0]) ?_ 0 _ rfl; (with_reducible repeat (first | apply kn_ | apply kd_ | apply ka_)); exact BK395.out) Try.underlying50 rfl (by kernel_rfl)) rfl ?_
  exact ⟨_, _, eh_, Kd.R_V (base := 0) (Kd.R_nil _ _ _ _ _), Kd.R_V (base := 0) (Kd.R_nil _ _ _ _ _), bh_⟩
 rw [if_neg c5] at H
 have c5b0 : (t396 == 0) = false := beq_eq_false_iff_ne.mpr c5
 have c5b1 : (t396 != 0) = true := bne_iff_ne.mpr c5
 replace H := Option.bind_eq_some_iff.mp H
 obtain ⟨⟨t397, t398, t401⟩, A90, H⟩ := H
 replace H : (some (t397, t398, t401, 0)) = some (r1, r2, r3, r4) := H
 have A9 := Aside0.mk A90
 clear A90
 simp only [Option.some.injEq, Prod.mk.injEq] at H
 obtain ⟨rfl, rfl, rfl, rfl⟩ := H
 go_enter Try.func55, Try.ntmps55
 go_wp2_with (first | ((with_reducible refine gate_dst (N := 6) rfl ?_); refine box_event ?hg (N := 6) ?hd (cs := #[.bool false, .slice none 0 0, .slice none 0 0]) (t := 50) ?hr ?_; (case hd => rfl); (case hg => rfl); (case hr => first | (go_simp; done) | (go_simp; rfl)); intro gb395 hg w10 hbox hb; have n0_ := Aside0.mk (Kd.V_below (Kd.V_elderB (by (with_reducible repeat (first | apply va_ | apply vn_ | apply vd_)); exact HO1.out) gb395 (Nat.le_of_eq hg.symm)) hb); have n1_ := Aside0.mk (Kd.V_below (Kd.V_elderB (by (with_reducible repeat (first | apply va_ | apply vn_ | apply vd_)); exact HO2.out) gb395 (Nat.le_of_eq hg.symm)) hb); have n2_ := bq_ hb; have n3_ := Aside0.mk (hbox); have n5_ := bz_ hg; clear HO1 HO2 HB; have HO1 := n0_; have HO2 := n1_; have HB := n2_; have BK395 := n3_; have GE395 := n5_; clear n0_ n1_ n2_ n3_ n5_; clear hb hbox hg) | ((with_reducible refine gc_ 66 rfl ?_); refine gM_ (some 9) Try.func66 [.slice A2 l2.length c2] ?_; (with_reducible refine (nat_Nat_Len.calls k _ _ l2 t396 _ ?side1 ?side2 A4.out).mono ?_); (case side1 => repeat first | exact (Kd.V_reads' HO2.out).2.2 | with_reducible first | apply ca_ | apply cn_ | apply cd_); (case side2 => exact (Kd.V_reads' HO2.out).2.1); rintro e w11 ⟨rfl, hb⟩; refine ⟨_, rfl, ?_⟩; replace HO1 := Aside0.mk (Kd.V_below (by (with_reducible repeat (first | apply va_ | apply vn_ | apply vd_)); exact HO1.out) hb); replace HO2 := Aside0.mk (Kd.V_below (by (with_reducible repeat (first | apply va_ | apply vn_ | apply vd_)); exact HO2.out) hb); replace BK395 := Aside0.mk (blk_below (g := gb395) (o := .cells #[.bool false, .slice none 0 0, .slice none 0 0] 50 (0, 0)) (by (with_reducible repeat (first | apply kn_ | apply kd_ | apply ka_)); exact BK395.out) hb); replace HB := bq_ hb) | ((with_reducible refine gc_ 73 rfl ?_); refine gM_ (some 15) Try.func73 [.bool a0, .slice A1 l1.length c1, .slice A2 l2.length c2] ?_; (with_reducible refine (ratio_low.calls k a0 (fun k_ => (((P1_ k_ ∨ P2_ k_) ∨ w.heap.size ≤ k_) ∧ k_ ≠ gb395)) _ _ l1 (fun k_ => (((P1_ k_ ∨ P2_ k_) ∨ w.heap.size ≤ k_) ∧ k_ ≠ gb395)) _ _ l2 t397 t398 t401 _ ?side1 ?side2 A9.out).mono ?_); (case side1 => exact HO1.out); (case side2 => exact HO2.out); rintro e w12 ⟨v399, v402, rfl, ho0, ho1, hb⟩; refine ⟨_, rfl, ?_⟩; have HO400 := Aside0.mk (Kd.V_lower (Kd.V_mono (ok' := fun k_ => ((P1_ k_ ∨ P2_ k_) ∨ w.heap.size ≤ k_) ∧ k_ ≠ gb395) ho0 (fun k_ hk_ => ⟨Or.elim hk_ (fun hs_ => Or.elim hs_ (fun hs_ => hs_.1) (fun hs_ => hs_.1)) (fun hn_ => (.inr (Nat.le_trans (below_size bh_) hn_))), Or.elim hk_ (fun hs_ => Or.elim hs_ (fun hs_ => hs_.2) (fun hs_ => hs_.2)) (fun hn_ => (Kd.freshB (g := gb395) (o := .cells #[.bool false, .slice none 0 0, .slice none 0 0] 50 (0, 0)) (by (with_reducible repeat (first | apply kn_ | apply kd_ | apply ka_)); exact BK395.out) k_ hn_))⟩)) (below_size bh_)); have HO403 := Aside0.mk (Kd.V_lower (Kd.V_mono (ok' := fun k_ => ((P1_ k_ ∨ P2_ k_) ∨ w.heap.size ≤ k_) ∧ k_ ≠ gb395) ho1 (fun k_ hk_ => ⟨Or.elim hk_ (fun hs_ => Or.elim hs_ (fun hs_ => hs_.1) (fun hs_ => hs_.1)) (fun hn_ => (.inr (Nat.le_trans (below_size bh_) hn_))), Or.elim hk_ (fun hs_ => Or.elim hs_ (fun hs_ => hs_.2) (fun hs_ => hs_.2)) (fun hn_ => (Kd.freshB (g := gb395) (o := .cells #[.bool false, .slice none 0 0, .slice none 0 0] 50 (0, 0)) (by (with_reducible repeat (first | apply kn_ | apply kd_ | apply ka_)); exact BK395.out) k_ hn_))⟩)) (below_size bh_)); replace BK395 := Aside0.mk (blk_below (g := gb395) (o := .cells #[.bool false, .slice none 0 0, .slice none 0 0] 50 (0, 0)) (by (with_reducible repeat (first | apply kn_ | apply kd_ | apply ka_)); exact BK395.out) hb); replace HB := bq_ hb; skip; have hcz13_0 : w12.cell? ⟨gb395, 0, none⟩ = some (.bool false) := (blk_cell BK395.out 0).trans rfl; have hcz13_1 : w12.cell? ⟨gb395, 1, none⟩ = some (.slice none 0 0) := (blk_cell BK395.out 1).trans rfl; have hcz13_2 : w12.cell? ⟨gb395, 2, none⟩ = some (.slice none 0 0) := (blk_cell BK395.out 2).trans rfl; have hfz13_0 := blk_frozen BK395.out 0; have hfz13_1 := blk_frozen BK395.out 1; have hfz13_2 := blk_frozen BK395.out 2; obtain ⟨Ao14, co14, eo14⟩ := Kd.V_slice HO400.out; subst eo14; obtain ⟨Ao15, co15, eo15⟩ := Kd.V_slice HO403.out; subst eo15))
 refine bodyPost_ret (results_ct rfl _ _ gb395 50 #[.bool t397, .slice Ao14 t398.length co14, .slice Ao15 t401.length co15] (0, 0) _ rfl (by (with_reducible repeat (first | apply kn_ | apply kd_ | apply ka_)); refine blk_put (cs := #[.bool t397, .slice Ao14 t398.length co14, .slice none 0 0]) ?_ 2 _ rfl; (with_reducible repeat (first | apply kn_ | apply kd_ | apply ka_)); refine blk_put (cs := #[.bool t397, .slice none 0 0, .slice none 0 0]) ?_ 1 _ rfl; (with_reducible repeat (first | apply kn_ | apply kd_ | apply ka_)); refine blk_put (cs := #[.bool false, .slice none 0 0, .slice none 0 0]) ?_ 0 _ rfl; (with_reducible repeat (first | apply kn_ | apply kd_ | apply ka_)); exact BK395.out) Try.underlying50 rfl (by kernel_rfl)) rfl ?_
 exact ⟨_, _, eh_, by (with_reducible repeat (first | apply va_ | apply vn_ | apply vd_)); exact Kd.V_mono (Kd.V_far (p := ⟨gb395, 2, none⟩) (Kd.V_far (p := ⟨gb395, 1, none⟩) (Kd.V_far (p := ⟨gb395, 0, none⟩) (Kd.V_mono HO400.out (fun k_ hk => (⟨hk, hk.2⟩ : _ ∧ k_ ≠ gb395))) (fun _ hk => hk.2) (.bool t397)) (fun _ hk => hk.2) (.slice Ao14 t398.length co14)) (fun _ hk => hk.2) (.slice Ao15 t401.length co15)) (fun _ hk => hk.1.1), by (with_reducible repeat (first | apply va_ | apply vn_ | apply vd_)); exact Kd.V_mono (Kd.V_far (p := ⟨gb395, 2, none⟩) (Kd.V_far (p := ⟨gb395, 1, none⟩) (Kd.V_far (p := ⟨gb395, 0, none⟩) (Kd.V_mono HO403.out (fun k_ hk => (⟨hk, hk.2⟩ : _ ∧ k_ ≠ gb395))) (fun _ hk => hk.2) (.bool t397)) (fun _ hk => hk.2) (.slice Ao14 t398.length co14)) (fun _ hk => hk.2) (.slice Ao15 t401.length co15)) (fun _ hk => hk.1.1), bh_⟩

end Go.Proofs.Ytfglpaaeipblcaa.P
