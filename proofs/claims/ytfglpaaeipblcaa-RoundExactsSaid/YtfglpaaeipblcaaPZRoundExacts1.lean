/- Walks of one package: what each function returns, wherever the Lean function beside it has an answer. -/
import Derived.Test.YtfglpaaeipblcaaP0
import Derived.Test.YtfglpaaeipblcaaPRound3
import Derived.Test.YtfglpaaeipblcaaPFlyballlaw051
import Derived.Test.YtfglpaaeipblcaaPFlyballref052
import Derived.Test.YtfglpaaeipblcaaPFlyballlaw052
namespace Go.Proofs.Ytfglpaaeipblcaa.P
open Go.RowKit Go.Proofs.YtfglpaaeipblcaaW.PrintWords Go.Proofs.YtfglpaaeipblcaaW.PrintLast Go.Proofs.YtfglpaaeipblcaaW.PrintMore
attribute [local go_sem] max2_int min2_int max_two min_two max_three min_three max_four min_four   -- for this text's walks alone
set_option linter.unusedVariables false
set_option linter.unusedSimpArgs false

/-! ### flyballlaw05_RoundExacts: function 8 -/
def flyballlaw05_RoundExacts.j0 : Nat → Int → Bool → Bool → Bool → List Int → List Int → Option (Bool)
 | 0, _, _, _, _, _, _ => none
 | k + 1, x1, x5, x24, x649000, x649001, x649002 => if x24 = true then (some x5) else ((round_Exact.f k x649000 x649001 x649002 x1).bind fun bt650 => ((flyballlaw05_of.f k x649000 x649001 x649002).bind fun bt652 => ((flyballref05_Exact.f k bt652.1 bt652.2.1 bt652.2.2 x1).bind fun bt659 => ((round_Frac.f k x649000 x649001 x649002 x1).bind fun bt661 => (if x5 = true then (if bt650.1 = bt659.1 then (if bt650.2 = bt659.2 then (if bt661.1 = bt659.1 then (some (bt661.2 == bt659.2)) else (some false)) else (some false)) else (some false)) else (some false))))))
def flyballlaw05_RoundExacts.f (k : Nat) (a0_0 : Bool) (l0_1 : List Int) (l0_2 : List Int) (a1 : Int) : Option (Bool) := (flyballlaw05_works.f k).bind fun t649 => (if t649 = true then (if (l0_1.length : Int) > 6 then (flyballlaw05_RoundExacts.j0 k a1 t649 true a0_0 l0_1 l0_2) else (flyballlaw05_RoundExacts.j0 k a1 t649 (decide ((l0_2.length : Int) > 6)) a0_0 l0_1 l0_2)) else (some false))
theorem flyballlaw05_RoundExacts.mono_l : ∀ k, (∀ y0 y1 y2 y3 y4 y5, LeO (flyballlaw05_RoundExacts.j0 k y0 y1 y2 y3 y4 y5) (flyballlaw05_RoundExacts.j0 (k + 1) y0 y1 y2 y3 y4 y5))
 | 0 => fun _ _ _ _ _ _ r h => by simp [flyballlaw05_RoundExacts.j0] at h
 | k + 1 => by
  have ih0 := flyballlaw05_RoundExacts.mono_l k
  ·
   intro y0 y1 y2 y3 y4 y5
   unfold flyballlaw05_RoundExacts.j0
   repeat' with_reducible first | exact ih0 _ _ _ _ _ _ | exact flyballlaw05_of.mono _ _ _ _ | exact flyballlaw05_works.mono _ | exact flyballref05_Exact.mono _ _ _ _ _ | exact round_Exact.mono _ _ _ _ _ | exact round_Frac.mono _ _ _ _ _ | exact LeO.refl _ | exact LeO.none _ | refine LeO.ite ?_ ?_ | refine LeO.bind ?_ (fun _ => ?_)
theorem flyballlaw05_RoundExacts.mono : ∀ a0 a1 a2 a3 k, LeO (flyballlaw05_RoundExacts.f k a0 a1 a2 a3) (flyballlaw05_RoundExacts.f (k + 1) a0 a1 a2 a3) := by
 intro a0 a1 a2 a3 k
 have ih0 := flyballlaw05_RoundExacts.mono_l k
 unfold flyballlaw05_RoundExacts.f
 repeat' with_reducible first | exact ih0 _ _ _ _ _ _ | exact flyballlaw05_of.mono _ _ _ _ | exact flyballlaw05_works.mono _ | exact flyballref05_Exact.mono _ _ _ _ _ | exact round_Exact.mono _ _ _ _ _ | exact round_Frac.mono _ _ _ _ _ | exact LeO.refl _ | exact LeO.none _ | refine LeO.ite ?_ ?_ | refine LeO.bind ?_ (fun _ => ?_)
set_option maxHeartbeats 8000000 in
set_option maxRecDepth 100000 in
theorem flyballlaw05_RoundExacts.calls (k : Nat) (a0_0 : Bool) (A0_1 : Option Addr) (c0_1 : Nat) (l0_1 : List Int) (A0_2 : Option Addr) (c0_2 : Nat) (l0_2 : List Int) (a1 : Int) (r : Bool) (w : World) (hr0_1 : Kd.C (Kd.int .u32) w A0_1 l0_1.length l0_1) (hc0_1 : l0_1.length ≤ c0_1) (hr0_2 : Kd.C (Kd.int .u32) w A0_2 l0_2.length l0_2) (hc0_2 : l0_2.length ≤ c0_2) (h : flyballlaw05_RoundExacts.f k a0_0 l0_1 l0_2 a1 = some r) :
  Calls Try.prog 8 #[.agg #[.bool a0_0, .slice A0_1 l0_1.length c0_1, .slice A0_2 l0_2.length c0_2], .int .u8 a1] w fun e w' => e = .returned (.bool r) ∧ Below w.heap.size w w' := by
 have hu50 := Try.underlying50
 have HR0_1 := Aside0.mk hr0_1
 have HC0_1 := Aside0.mk hc0_1
 clear hr0_1 hc0_1
 have HR0_2 := Aside0.mk hr0_2
 have HC0_2 := Aside0.mk hc0_2
 clear hr0_2 hc0_2
 have HB := Aside0.mk (Below.refl w.heap.size w)
 have H : ((flyballlaw05_works.f k).bind fun t649 => (if t649 = true then (if (l0_1.length : Int) > 6 then (flyballlaw05_RoundExacts.j0 k a1 t649 true a0_0 l0_1 l0_2) else (flyballlaw05_RoundExacts.j0 k a1 t649 (decide ((l0_2.length : Int) > 6)) a0_0 l0_1 l0_2)) else (some false))) = some r := h
 clear h
 replace H := Option.bind_eq_some_iff.mp H
 obtain ⟨t649, A30, H⟩ := H
 replace H : (if t649 = true then (if (l0_1.length : Int) > 6 then (flyballlaw05_RoundExacts.j0 k a1 t649 true a0_0 l0_1 l0_2) else (flyballlaw05_RoundExacts.j0 k a1 t649 (decide ((l0_2.length : Int) > 6)) a0_0 l0_1 l0_2)) else (some false)) = some r := H
 have A3 := Aside0.mk A30
 clear A30
 by_cases c4 : t649 = true
 case neg =>
  replace c4 := Bool.eq_false_iff.mpr c4
  subst c4
  have H1 : (some false) = some r := by rw [if_neg (show ¬ (false = true) by decide)] at H; exact H
  clear H
  have H := H1
  clear H1
  obtain rfl := Option.some.inj H
  go_enter Try.func8, Try.ntmps8
  go_wp2_with (first | ((with_reducible refine gate_dst (N := 2) rfl ?_); (try (refine gate_guard (by rfl) ?_; dsimp only)); refine box_event ?hg (N := 2) ?hd (cs := #[.bool a0_0, .slice A0_1 l0_1.length c0_1, .slice A0_2 l0_2.length c0_2]) (t := 50) ?hr ?_; (case hd => rfl); (case hg => rfl); (case hr => first | (go_simp; done) | (go_simp; rfl)); intro gb648 hg w65 hbox hb; have n0_ := bq_ hb; have n3_ := bz_ hg; clear HB; have HB := n0_; have GE648 := n3_; clear n0_ n3_; clear hb hbox hg) | ((with_reducible refine gc_ 22 rfl ?_); refine gM_ (some 12) Try.func22 [] ?_; (with_reducible refine (flyballlaw05_works.calls k  false _ A3.out).mono ?_); rintro e w66 ⟨rfl, hb⟩; refine ⟨_, rfl, ?_⟩; replace HB := bq_ hb))
  go_ret
  exact ⟨eh_, bh_⟩
 subst c4
 have H1 : (if (l0_1.length : Int) > 6 then (flyballlaw05_RoundExacts.j0 k a1 true true a0_0 l0_1 l0_2) else (flyballlaw05_RoundExacts.j0 k a1 true (decide ((l0_2.length : Int) > 6)) a0_0 l0_1 l0_2)) = some r := by rw [if_pos rfl] at H; exact H
 clear H
 have H := H1
 clear H1
 have HC5 := Aside0.mk H
 clear H
 go_enter Try.func8, Try.ntmps8
 go_upto_region 4 with (first | ((with_reducible refine gate_dst (N := 2) rfl ?_); (try (refine gate_guard (by rfl) ?_; dsimp only)); refine box_event ?hg (N := 2) ?hd (cs := #[.bool a0_0, .slice A0_1 l0_1.length c0_1, .slice A0_2 l0_2.length c0_2]) (t := 50) ?hr ?_; (case hd => rfl); (case hg => rfl); (case hr => first | (go_simp; done) | (go_simp; rfl)); intro gb648 hg w6 hbox hb; have n0_ := bq_ hb; have n1_ := Aside0.mk (hbox); have n3_ := bz_ hg; clear HB; have HB := n0_; have BK648 := n1_; have GE648 := n3_; clear n0_ n1_ n3_; clear hb hbox hg) | ((with_reducible refine gc_ 22 rfl ?_); refine gM_ (some 12) Try.func22 [] ?_; (with_reducible refine (flyballlaw05_works.calls k  true _ A3.out).mono ?_); rintro e w7 ⟨rfl, hb⟩; refine ⟨_, rfl, ?_⟩; replace BK648 := Aside0.mk (blk_below (g := gb648) (o := .cells #[.bool a0_0, .slice A0_1 l0_1.length c0_1, .slice A0_2 l0_2.length c0_2] 50 (0, 0)) (by (with_reducible repeat (first | apply kn_ | apply kd_ | apply ka_)); exact BK648.out) hb); replace HB := bq_ hb))
 (try simp only [Act.put, List.setIfInBounds_toArray, List.set_cons_zero, List.set_cons_succ])
 go_cut [24] (fun v24 wc => ∃ (kq : Nat) (x24_4 : Bool), v24 = .bool x24_4 ∧ Aside0 (flyballlaw05_RoundExacts.j0 kq a1 true x24_4 a0_0 l0_1 l0_2 = some r) ∧ Aside0 (kq ≤ k) ∧ Aside0 (wc.heap[gb648]? = some (.cells #[.bool a0_0, (.slice A0_1 l0_1.length c0_1), (.slice A0_2 l0_2.length c0_2)] 50 (0, 0))) ∧ Aside0 (Below w.heap.size w wc))
 case first =>
  have H := HC5.out
  clear HC5
  by_cases c8 : (l0_1.length : Int) > 6
  case pos =>
   rw [if_pos c8] at H
   have c8b0 : decide (6 < (l0_1.length : Int)) = true := decide_eq_true c8
   have c8b1 : decide (6 < l0_1.length) = true := decide_eq_true (by omega)
   clear c8
   (first | rw [c8b0] | (simp only [i64_w, i32_w]; rw [c8b0]) | skip)
   have H' := Aside0.mk H
   clear H
   have hcz9_0 : w7.cell? ⟨gb648, 0, none⟩ = some (.bool a0_0) := (blk_cell BK648.out 0).trans rfl
   have hcz9_1 : w7.cell? ⟨gb648, 1, none⟩ = some (.slice A0_1 l0_1.length c0_1) := (blk_cell BK648.out 1).trans rfl
   have hcz9_2 : w7.cell? ⟨gb648, 2, none⟩ = some (.slice A0_2 l0_2.length c0_2) := (blk_cell BK648.out 2).trans rfl
   go_wp2
   go_meet
   case rel => exact ⟨_, (true), (sh_), H', ⟨by first | omega | exact Nat.le_refl _⟩, ⟨by (with_reducible repeat (first | apply kn_ | apply kd_ | apply ka_)); exact BK648.out⟩, ⟨bh_⟩⟩
  rw [if_neg c8] at H
  have c8b0 : decide (6 < (l0_1.length : Int)) = false := decide_eq_false c8
  have c8b1 : decide (6 < l0_1.length) = false := decide_eq_false (by omega)
  clear c8
  (first | rw [c8b0] | (simp only [i64_w, i32_w]; rw [c8b0]) | skip)
  have H' := Aside0.mk H
  clear H
  have hcz10_0 : w7.cell? ⟨gb648, 0, none⟩ = some (.bool a0_0) := (blk_cell BK648.out 0).trans rfl
  have hcz10_1 : w7.cell? ⟨gb648, 1, none⟩ = some (.slice A0_1 l0_1.length c0_1) := (blk_cell BK648.out 1).trans rfl
  have hcz10_2 : w7.cell? ⟨gb648, 2, none⟩ = some (.slice A0_2 l0_2.length c0_2) := (blk_cell BK648.out 2).trans rfl
  go_wp2
  go_meet
  case rel => exact ⟨_, (decide ((l0_2.length : Int) > 6)), (sh_), H', ⟨by first | omega | exact Nat.le_refl _⟩, ⟨by (with_reducible repeat (first | apply kn_ | apply kd_ | apply ka_)); exact BK648.out⟩, ⟨bh_⟩⟩
 case rest =>
  clear HC5
  try clear c2
  try clear p2
  try clear c4
  try clear c8
  try clear c8b0
  try clear c8b1
  try clear hcz10_0
  try clear hcz10_1
  try clear hcz10_2
  try clear hcz9_0
  try clear hcz9_1
  try clear hcz9_2
  obtain ⟨kq, x24_4, rfl, HA, HJ4, BK648, HB⟩ := hcut
  cases kq with
  | zero => exact absurd HA.out (by simp [flyballlaw05_RoundExacts.j0])
  | succ kj4 =>
   have H := HA.out
   clear HA
   simp only [flyballlaw05_RoundExacts.j0] at H
   by_cases c11 : x24_4 = true
   case pos =>
    subst c11
    have H1 : (some true) = some r := by rw [if_pos rfl] at H; exact H
    clear H
    have H := H1
    clear H1
    obtain rfl := Option.some.inj H
    go_wp2
    go_ret
    exact ⟨eh_, bh_⟩
   replace c11 := Bool.eq_false_iff.mpr c11
   subst c11
   have H1 : ((round_Exact.f kj4 a0_0 l0_1 l0_2 a1).bind fun bt650 => ((flyballlaw05_of.f kj4 a0_0 l0_1 l0_2).bind fun bt652 => ((flyballref05_Exact.f kj4 bt652.1 bt652.2.1 bt652.2.2 a1).bind fun bt659 => ((round_Frac.f kj4 a0_0 l0_1 l0_2 a1).bind fun bt661 => (if true = true then (if bt650.1 = bt659.1 then (if bt650.2 = bt659.2 then (if bt661.1 = bt659.1 then (some (bt661.2 == bt659.2)) else (some false)) else (some false)) else (some false)) else (some false)))))) = some r := by rw [if_neg (show ¬ (false = true) by decide)] at H; exact H
   clear H
   have H := H1
   clear H1
   replace H := Option.bind_eq_some_iff.mp H
   obtain ⟨⟨t650, t651⟩, A120, H⟩ := H
   replace H : ((flyballlaw05_of.f kj4 a0_0 l0_1 l0_2).bind fun bt652 => ((flyballref05_Exact.f kj4 bt652.1 bt652.2.1 bt652.2.2 a1).bind fun bt659 => ((round_Frac.f kj4 a0_0 l0_1 l0_2 a1).bind fun bt661 => (if true = true then (if t650 = bt659.1 then (if t651 = bt659.2 then (if bt661.1 = bt659.1 then (some (bt661.2 == bt659.2)) else (some false)) else (some false)) else (some false)) else (some false))))) = some r := H
   have A12 := Aside0.mk A120
   clear A120
   replace H := Option.bind_eq_some_iff.mp H
   obtain ⟨⟨t652, t653, t656⟩, A130, H⟩ := H
   replace H : ((flyballref05_Exact.f kj4 t652 t653 t656 a1).bind fun bt659 => ((round_Frac.f kj4 a0_0 l0_1 l0_2 a1).bind fun bt661 => (if true = true then (if t650 = bt659.1 then (if t651 = bt659.2 then (if bt661.1 = bt659.1 then (some (bt661.2 == bt659.2)) else (some false)) else (some false)) else (some false)) else (some false)))) = some r := H
   have A13 := Aside0.mk A130
   clear A130
   replace H := Option.bind_eq_some_iff.mp H
   obtain ⟨⟨t659, t660⟩, A140, H⟩ := H
   replace H : ((round_Frac.f kj4 a0_0 l0_1 l0_2 a1).bind fun bt661 => (if true = true then (if t650 = t659 then (if t651 = t660 then (if bt661.1 = t659 then (some (bt661.2 == t660)) else (some false)) else (some false)) else (some false)) else (some false))) = some r := H
   have A14 := Aside0.mk A140
   clear A140
   replace H := Option.bind_eq_some_iff.mp H
   obtain ⟨⟨t661, t662⟩, A150, H⟩ := H
   replace H : (if true = true then (if t650 = t659 then (if t651 = t660 then (if t661 = t659 then (some (t662 == t660)) else (some false)) else (some false)) else (some false)) else (some false)) = some r := H
   have A15 := Aside0.mk A150
   clear A150
   by_cases c16 : true = true
   case neg =>
    exact absurd rfl c16
   clear c16
   have H1 : (if t650 = t659 then (if t651 = t660 then (if t661 = t659 then (some (t662 == t660)) else (some false)) else (some false)) else (some false)) = some r := by rw [if_pos rfl] at H; exact H
   clear H
   have H := H1
   clear H1
   by_cases c17 : t650 = t659
   case neg =>
    rw [if_neg c17] at H
    have c17b0 : (t650 == t659) = false := beq_eq_false_iff_ne.mpr c17
    have c17b1 : (t650 != t659) = true := bne_iff_ne.mpr c17
    obtain rfl := Option.some.inj H
    have hcz47_0 : wc.cell? ⟨gb648, 0, none⟩ = some (.bool a0_0) := (blk_cell BK648.out 0).trans rfl
    have hcz47_1 : wc.cell? ⟨gb648, 1, none⟩ = some (.slice A0_1 l0_1.length c0_1) := (blk_cell BK648.out 1).trans rfl
    have hcz47_2 : wc.cell? ⟨gb648, 2, none⟩ = some (.slice A0_2 l0_2.length c0_2) := (blk_cell BK648.out 2).trans rfl
    go_wp2_with (first | ((with_reducible refine gc_ 26 rfl ?_); refine gM_ (some 29) Try.func26 [.agg #[.bool a0_0, .slice A0_1 l0_1.length c0_1, .slice A0_2 l0_2.length c0_2], .int .u8 a1] ?_; (with_reducible refine (round_Exact.calls kj4 a0_0 _ _ l0_1 _ _ l0_2 a1 t650 t651 _ ?side1 ?side2 ?side3 ?side4 A12.out).mono ?_); (case side1 => exact ch_ HR0_1.out); (case side2 => exact HC0_1.out); (case side3 => exact ch_ HR0_2.out); (case side4 => exact HC0_2.out); rintro e w48 ⟨rfl, hb⟩; refine ⟨_, rfl, ?_⟩; replace BK648 := Aside0.mk (blk_below (g := gb648) (o := .cells #[.bool a0_0, .slice A0_1 l0_1.length c0_1, .slice A0_2 l0_2.length c0_2] 50 (0, 0)) (by (with_reducible repeat (first | apply kn_ | apply kd_ | apply ka_)); exact BK648.out) hb); replace HB := bq_ hb; skip; have hcz49_0 : w48.cell? ⟨gb648, 0, none⟩ = some (.bool a0_0) := (blk_cell BK648.out 0).trans rfl; have hcz49_1 : w48.cell? ⟨gb648, 1, none⟩ = some (.slice A0_1 l0_1.length c0_1) := (blk_cell BK648.out 1).trans rfl; have hcz49_2 : w48.cell? ⟨gb648, 2, none⟩ = some (.slice A0_2 l0_2.length c0_2) := (blk_cell BK648.out 2).trans rfl; have hfz49_0 := blk_frozen BK648.out 0; have hfz49_1 := blk_frozen BK648.out 1; have hfz49_2 := blk_frozen BK648.out 2) | ((with_reducible refine gc_ 28 rfl ?_); refine gM_ (some 34) Try.func28 [.agg #[.bool a0_0, .slice A0_1 l0_1.length c0_1, .slice A0_2 l0_2.length c0_2]] ?_; (with_reducible refine (flyballlaw05_of.calls kj4 a0_0 _ _ l0_1 _ _ l0_2 t652 t653 t656 _ ?side1 ?side2 ?side3 ?side4 A13.out).mono ?_); (case side1 => exact ch_ HR0_1.out); (case side2 => exact HC0_1.out); (case side3 => exact ch_ HR0_2.out); (case side4 => exact HC0_2.out); rintro e w50 ⟨v654, v657, rfl, ho0, ho1, hb⟩; refine ⟨_, rfl, ?_⟩; have HO655 := Aside0.mk (Kd.R_lower ho0 (below_size bh_)); have HO658 := Aside0.mk (Kd.R_lower ho1 (below_size bh_)); replace BK648 := Aside0.mk (blk_below (g := gb648) (o := .cells #[.bool a0_0, .slice A0_1 l0_1.length c0_1, .slice A0_2 l0_2.length c0_2] 50 (0, 0)) (by (with_reducible repeat (first | apply kn_ | apply kd_ | apply ka_)); exact BK648.out) hb); replace HB := bq_ hb; skip; obtain ⟨Ao51, co51, eo51⟩ := Kd.R_slice HO655.out; subst eo51; obtain ⟨Ao52, co52, eo52⟩ := Kd.R_slice HO658.out; subst eo52) | ((with_reducible refine gc_ 27 rfl ?_); refine gM_ (some 36) Try.func27 [.agg #[.bool t652, .slice Ao51 t653.length co51, .slice Ao52 t656.length co52], .int .u8 a1] ?_; (with_reducible refine (flyballref05_Exact.calls kj4 t652 _ _ t653 _ _ t656 a1 t659 t660 _ ?side1 ?side2 ?side3 ?side4 A14.out).mono ?_); (case side1 => repeat first | exact (Kd.R_reads' HO655.out).2.2 | with_reducible first | apply ca_ | apply cn_ | apply cd_); (case side2 => exact (Kd.R_reads' HO655.out).2.1); (case side3 => repeat first | exact (Kd.R_reads' HO658.out).2.2 | with_reducible first | apply ca_ | apply cn_ | apply cd_); (case side4 => exact (Kd.R_reads' HO658.out).2.1); rintro e w53 ⟨rfl, hb⟩; refine ⟨_, rfl, ?_⟩; replace BK648 := Aside0.mk (blk_below (g := gb648) (o := .cells #[.bool a0_0, .slice A0_1 l0_1.length c0_1, .slice A0_2 l0_2.length c0_2] 50 (0, 0)) (by (with_reducible repeat (first | apply kn_ | apply kd_ | apply ka_)); exact BK648.out) hb); replace HB := bq_ hb; skip; have hcz54_0 : w53.cell? ⟨gb648, 0, none⟩ = some (.bool a0_0) := (blk_cell BK648.out 0).trans rfl; have hcz54_1 : w53.cell? ⟨gb648, 1, none⟩ = some (.slice A0_1 l0_1.length c0_1) := (blk_cell BK648.out 1).trans rfl; have hcz54_2 : w53.cell? ⟨gb648, 2, none⟩ = some (.slice A0_2 l0_2.length c0_2) := (blk_cell BK648.out 2).trans rfl; have hfz54_0 := blk_frozen BK648.out 0; have hfz54_1 := blk_frozen BK648.out 1; have hfz54_2 := blk_frozen BK648.out 2) | ((with_reducible refine gc_ 29 rfl ?_); refine gM_ (some 47) Try.func29 [.bool a0_0, .slice A0_1 l0_1.length c0_1, .slice A0_2 l0_2.length c0_2, .int .u8 a1] ?_; (with_reducible refine (round_Frac.calls kj4 a0_0 _ _ l0_1 _ _ l0_2 a1 t661 t662 _ ?side1 ?side2 ?side3 ?side4 A15.out).mono ?_); (case side1 => exact ch_ HR0_1.out); (case side2 => exact HC0_1.out); (case side3 => exact ch_ HR0_2.out); (case side4 => exact HC0_2.out); rintro e w55 ⟨rfl, hb⟩; refine ⟨_, rfl, ?_⟩; replace HB := bq_ hb))
    go_ret
    exact ⟨eh_, bh_⟩
   rw [if_pos c17] at H
   have c17b0 : (t650 == t659) = true := beq_iff_eq.mpr c17
   have c17b1 : (t650 != t659) = false := bne_eq_false_iff_eq.mpr c17
   clear c17
   by_cases c18 : t651 = t660
   case neg =>
    rw [if_neg c18] at H
    have c18b0 : (t651 == t660) = false := beq_eq_false_iff_ne.mpr c18
    have c18b1 : (t651 != t660) = true := bne_iff_ne.mpr c18
    obtain rfl := Option.some.inj H
    have hcz38_0 : wc.cell? ⟨gb648, 0, none⟩ = some (.bool a0_0) := (blk_cell BK648.out 0).trans rfl
    have hcz38_1 : wc.cell? ⟨gb648, 1, none⟩ = some (.slice A0_1 l0_1.length c0_1) := (blk_cell BK648.out 1).trans rfl
    have hcz38_2 : wc.cell? ⟨gb648, 2, none⟩ = some (.slice A0_2 l0_2.length c0_2) := (blk_cell BK648.out 2).trans rfl
    go_wp2_with (first | ((with_reducible refine gc_ 26 rfl ?_); refine gM_ (some 29) Try.func26 [.agg #[.bool a0_0, .slice A0_1 l0_1.length c0_1, .slice A0_2 l0_2.length c0_2], .int .u8 a1] ?_; (with_reducible refine (round_Exact.calls kj4 a0_0 _ _ l0_1 _ _ l0_2 a1 t650 t651 _ ?side1 ?side2 ?side3 ?side4 A12.out).mono ?_); (case side1 => exact ch_ HR0_1.out); (case side2 => exact HC0_1.out); (case side3 => exact ch_ HR0_2.out); (case side4 => exact HC0_2.out); rintro e w39 ⟨rfl, hb⟩; refine ⟨_, rfl, ?_⟩; replace BK648 := Aside0.mk (blk_below (g := gb648) (o := .cells #[.bool a0_0, .slice A0_1 l0_1.length c0_1, .slice A0_2 l0_2.length c0_2] 50 (0, 0)) (by (with_reducible repeat (first | apply kn_ | apply kd_ | apply ka_)); exact BK648.out) hb); replace HB := bq_ hb; skip; have hcz40_0 : w39.cell? ⟨gb648, 0, none⟩ = some (.bool a0_0) := (blk_cell BK648.out 0).trans rfl; have hcz40_1 : w39.cell? ⟨gb648, 1, none⟩ = some (.slice A0_1 l0_1.length c0_1) := (blk_cell BK648.out 1).trans rfl; have hcz40_2 : w39.cell? ⟨gb648, 2, none⟩ = some (.slice A0_2 l0_2.length c0_2) := (blk_cell BK648.out 2).trans rfl; have hfz40_0 := blk_frozen BK648.out 0; have hfz40_1 := blk_frozen BK648.out 1; have hfz40_2 := blk_frozen BK648.out 2) | ((with_reducible refine gc_ 28 rfl ?_); refine gM_ (some 34) Try.func28 [.agg #[.bool a0_0, .slice A0_1 l0_1.length c0_1, .slice A0_2 l0_2.length c0_2]] ?_; (with_reducible refine (flyballlaw05_of.calls kj4 a0_0 _ _ l0_1 _ _ l0_2 t652 t653 t656 _ ?side1 ?side2 ?side3 ?side4 A13.out).mono ?_); (case side1 => exact ch_ HR0_1.out); (case side2 => exact HC0_1.out); (case side3 => exact ch_ HR0_2.out); (case side4 => exact HC0_2.out); rintro e w41 ⟨v654, v657, rfl, ho0, ho1, hb⟩; refine ⟨_, rfl, ?_⟩; have HO655 := Aside0.mk (Kd.R_lower ho0 (below_size bh_)); have HO658 := Aside0.mk (Kd.R_lower ho1 (below_size bh_)); replace BK648 := Aside0.mk (blk_below (g := gb648) (o := .cells #[.bool a0_0, .slice A0_1 l0_1.length c0_1, .slice A0_2 l0_2.length c0_2] 50 (0, 0)) (by (with_reducible repeat (first | apply kn_ | apply kd_ | apply ka_)); exact BK648.out) hb); replace HB := bq_ hb; skip; obtain ⟨Ao42, co42, eo42⟩ := Kd.R_slice HO655.out; subst eo42; obtain ⟨Ao43, co43, eo43⟩ := Kd.R_slice HO658.out; subst eo43) | ((with_reducible refine gc_ 27 rfl ?_); refine gM_ (some 36) Try.func27 [.agg #[.bool t652, .slice Ao42 t653.length co42, .slice Ao43 t656.length co43], .int .u8 a1] ?_; (with_reducible refine (flyballref05_Exact.calls kj4 t652 _ _ t653 _ _ t656 a1 t659 t660 _ ?side1 ?side2 ?side3 ?side4 A14.out).mono ?_); (case side1 => repeat first | exact (Kd.R_reads' HO655.out).2.2 | with_reducible first | apply ca_ | apply cn_ | apply cd_); (case side2 => exact (Kd.R_reads' HO655.out).2.1); (case side3 => repeat first | exact (Kd.R_reads' HO658.out).2.2 | with_reducible first | apply ca_ | apply cn_ | apply cd_); (case side4 => exact (Kd.R_reads' HO658.out).2.1); rintro e w44 ⟨rfl, hb⟩; refine ⟨_, rfl, ?_⟩; replace HO655 := Aside0.mk (Kd.R_below (by (with_reducible repeat (first | apply ra_ | apply rn_ | apply rd_)); exact HO655.out) hb); replace HO658 := Aside0.mk (Kd.R_below (by (with_reducible repeat (first | apply ra_ | apply rn_ | apply rd_)); exact HO658.out) hb); replace BK648 := Aside0.mk (blk_below (g := gb648) (o := .cells #[.bool a0_0, .slice A0_1 l0_1.length c0_1, .slice A0_2 l0_2.length c0_2] 50 (0, 0)) (by (with_reducible repeat (first | apply kn_ | apply kd_ | apply ka_)); exact BK648.out) hb); replace HB := bq_ hb; skip; have hcz45_0 : w44.cell? ⟨gb648, 0, none⟩ = some (.bool a0_0) := (blk_cell BK648.out 0).trans rfl; have hcz45_1 : w44.cell? ⟨gb648, 1, none⟩ = some (.slice A0_1 l0_1.length c0_1) := (blk_cell BK648.out 1).trans rfl; have hcz45_2 : w44.cell? ⟨gb648, 2, none⟩ = some (.slice A0_2 l0_2.length c0_2) := (blk_cell BK648.out 2).trans rfl; have hfz45_0 := blk_frozen BK648.out 0; have hfz45_1 := blk_frozen BK648.out 1; have hfz45_2 := blk_frozen BK648.out 2) | ((with_reducible refine gc_ 29 rfl ?_); refine gM_ (some 47) Try.func29 [.bool a0_0, .slice A0_1 l0_1.length c0_1, .slice A0_2 l0_2.length c0_2, .int .u8 a1] ?_; (with_reducible refine (round_Frac.calls kj4 a0_0 _ _ l0_1 _ _ l0_2 a1 t661 t662 _ ?side1 ?side2 ?side3 ?side4 A15.out).mono ?_); (case side1 => exact ch_ HR0_1.out); (case side2 => exact HC0_1.out); (case side3 => exact ch_ HR0_2.out); (case side4 => exact HC0_2.out); rintro e w46 ⟨rfl, hb⟩; refine ⟨_, rfl, ?_⟩; replace HO655 := Aside0.mk (Kd.R_below (by (with_reducible repeat (first | apply ra_ | apply rn_ | apply rd_)); exact HO655.out) hb); replace HO658 := Aside0.mk (Kd.R_below (by (with_reducible repeat (first | apply ra_ | apply rn_ | apply rd_)); exact HO658.out) hb); replace BK648 := Aside0.mk (blk_below (g := gb648) (o := .cells #[.bool a0_0, .slice A0_1 l0_1.length c0_1, .slice A0_2 l0_2.length c0_2] 50 (0, 0)) (by (with_reducible repeat (first | apply kn_ | apply kd_ | apply ka_)); exact BK648.out) hb); replace HB := bq_ hb))
    go_ret
    exact ⟨eh_, bh_⟩
   rw [if_pos c18] at H
   have c18b0 : (t651 == t660) = true := beq_iff_eq.mpr c18
   have c18b1 : (t651 != t660) = false := bne_eq_false_iff_eq.mpr c18
   clear c18
   by_cases c19 : t661 = t659
   case neg =>
    rw [if_neg c19] at H
    have c19b0 : (t661 == t659) = false := beq_eq_false_iff_ne.mpr c19
    have c19b1 : (t661 != t659) = true := bne_iff_ne.mpr c19
    obtain rfl := Option.some.inj H
    have hcz29_0 : wc.cell? ⟨gb648, 0, none⟩ = some (.bool a0_0) := (blk_cell BK648.out 0).trans rfl
    have hcz29_1 : wc.cell? ⟨gb648, 1, none⟩ = some (.slice A0_1 l0_1.length c0_1) := (blk_cell BK648.out 1).trans rfl
    have hcz29_2 : wc.cell? ⟨gb648, 2, none⟩ = some (.slice A0_2 l0_2.length c0_2) := (blk_cell BK648.out 2).trans rfl
    go_wp2_with (first | ((with_reducible refine gc_ 26 rfl ?_); refine gM_ (some 29) Try.func26 [.agg #[.bool a0_0, .slice A0_1 l0_1.length c0_1, .slice A0_2 l0_2.length c0_2], .int .u8 a1] ?_; (with_reducible refine (round_Exact.calls kj4 a0_0 _ _ l0_1 _ _ l0_2 a1 t650 t651 _ ?side1 ?side2 ?side3 ?side4 A12.out).mono ?_); (case side1 => exact ch_ HR0_1.out); (case side2 => exact HC0_1.out); (case side3 => exact ch_ HR0_2.out); (case side4 => exact HC0_2.out); rintro e w30 ⟨rfl, hb⟩; refine ⟨_, rfl, ?_⟩; replace BK648 := Aside0.mk (blk_below (g := gb648) (o := .cells #[.bool a0_0, .slice A0_1 l0_1.length c0_1, .slice A0_2 l0_2.length c0_2] 50 (0, 0)) (by (with_reducible repeat (first | apply kn_ | apply kd_ | apply ka_)); exact BK648.out) hb); replace HB := bq_ hb; skip; have hcz31_0 : w30.cell? ⟨gb648, 0, none⟩ = some (.bool a0_0) := (blk_cell BK648.out 0).trans rfl; have hcz31_1 : w30.cell? ⟨gb648, 1, none⟩ = some (.slice A0_1 l0_1.length c0_1) := (blk_cell BK648.out 1).trans rfl; have hcz31_2 : w30.cell? ⟨gb648, 2, none⟩ = some (.slice A0_2 l0_2.length c0_2) := (blk_cell BK648.out 2).trans rfl; have hfz31_0 := blk_frozen BK648.out 0; have hfz31_1 := blk_frozen BK648.out 1; have hfz31_2 := blk_frozen BK648.out 2) | ((with_reducible refine gc_ 28 rfl ?_); refine gM_ (some 34) Try.func28 [.agg #[.bool a0_0, .slice A0_1 l0_1.length c0_1, .slice A0_2 l0_2.length c0_2]] ?_; (with_reducible refine (flyballlaw05_of.calls kj4 a0_0 _ _ l0_1 _ _ l0_2 t652 t653 t656 _ ?side1 ?side2 ?side3 ?side4 A13.out).mono ?_); (case side1 => exact ch_ HR0_1.out); (case side2 => exact HC0_1.out); (case side3 => exact ch_ HR0_2.out); (case side4 => exact HC0_2.out); rintro e w32 ⟨v654, v657, rfl, ho0, ho1, hb⟩; refine ⟨_, rfl, ?_⟩; have HO655 := Aside0.mk (Kd.R_lower ho0 (below_size bh_)); have HO658 := Aside0.mk (Kd.R_lower ho1 (below_size bh_)); replace BK648 := Aside0.mk (blk_below (g := gb648) (o := .cells #[.bool a0_0, .slice A0_1 l0_1.length c0_1, .slice A0_2 l0_2.length c0_2] 50 (0, 0)) (by (with_reducible repeat (first | apply kn_ | apply kd_ | apply ka_)); exact BK648.out) hb); replace HB := bq_ hb; skip; obtain ⟨Ao33, co33, eo33⟩ := Kd.R_slice HO655.out; subst eo33; obtain ⟨Ao34, co34, eo34⟩ := Kd.R_slice HO658.out; subst eo34) | ((with_reducible refine gc_ 27 rfl ?_); refine gM_ (some 36) Try.func27 [.agg #[.bool t652, .slice Ao33 t653.length co33, .slice Ao34 t656.length co34], .int .u8 a1] ?_; (with_reducible refine (flyballref05_Exact.calls kj4 t652 _ _ t653 _ _ t656 a1 t659 t660 _ ?side1 ?side2 ?side3 ?side4 A14.out).mono ?_); (case side1 => repeat first | exact (Kd.R_reads' HO655.out).2.2 | with_reducible first | apply ca_ | apply cn_ | apply cd_); (case side2 => exact (Kd.R_reads' HO655.out).2.1); (case side3 => repeat first | exact (Kd.R_reads' HO658.out).2.2 | with_reducible first | apply ca_ | apply cn_ | apply cd_); (case side4 => exact (Kd.R_reads' HO658.out).2.1); rintro e w35 ⟨rfl, hb⟩; refine ⟨_, rfl, ?_⟩; replace HO655 := Aside0.mk (Kd.R_below (by (with_reducible repeat (first | apply ra_ | apply rn_ | apply rd_)); exact HO655.out) hb); replace HO658 := Aside0.mk (Kd.R_below (by (with_reducible repeat (first | apply ra_ | apply rn_ | apply rd_)); exact HO658.out) hb); replace BK648 := Aside0.mk (blk_below (g := gb648) (o := .cells #[.bool a0_0, .slice A0_1 l0_1.length c0_1, .slice A0_2 l0_2.length c0_2] 50 (0, 0)) (by (with_reducible repeat (first | apply kn_ | apply kd_ | apply ka_)); exact BK648.out) hb); replace HB := bq_ hb; skip; have hcz36_0 : w35.cell? ⟨gb648, 0, none⟩ = some (.bool a0_0) := (blk_cell BK648.out 0).trans rfl; have hcz36_1 : w35.cell? ⟨gb648, 1, none⟩ = some (.slice A0_1 l0_1.length c0_1) := (blk_cell BK648.out 1).trans rfl; have hcz36_2 : w35.cell? ⟨gb648, 2, none⟩ = some (.slice A0_2 l0_2.length c0_2) := (blk_cell BK648.out 2).trans rfl; have hfz36_0 := blk_frozen BK648.out 0; have hfz36_1 := blk_frozen BK648.out 1; have hfz36_2 := blk_frozen BK648.out 2) | ((with_reducible refine gc_ 29 rfl ?_); refine gM_ (some 47) Try.func29 [.bool a0_0, .slice A0_1 l0_1.length c0_1, .slice A0_2 l0_2.length c0_2, .int .u8 a1] ?_; (with_reducible refine (round_Frac.calls kj4 a0_0 _ _ l0_1 _ _ l0_2 a1 t661 t662 _ ?side1 ?side2 ?side3 ?side4 A15.out).mono ?_); (case side1 => exact ch_ HR0_1.out); (case side2 => exact HC0_1.out); (case side3 => exact ch_ HR0_2.out); (case side4 => exact HC0_2.out); rintro e w37 ⟨rfl, hb⟩; refine ⟨_, rfl, ?_⟩; replace HO655 := Aside0.mk (Kd.R_below (by (with_reducible repeat (first | apply ra_ | apply rn_ | apply rd_)); exact HO655.out) hb); replace HO658 := Aside0.mk (Kd.R_below (by (with_reducible repeat (first | apply ra_ | apply rn_ | apply rd_)); exact HO658.out) hb); replace BK648 := Aside0.mk (blk_below (g := gb648) (o := .cells #[.bool a0_0, .slice A0_1 l0_1.length c0_1, .slice A0_2 l0_2.length c0_2] 50 (0, 0)) (by (with_reducible repeat (first | apply kn_ | apply kd_ | apply ka_)); exact BK648.out) hb); replace HB := bq_ hb))
    go_ret
    exact ⟨eh_, bh_⟩
   rw [if_pos c19] at H
   have c19b0 : (t661 == t659) = true := beq_iff_eq.mpr c19
   have c19b1 : (t661 != t659) = false := bne_eq_false_iff_eq.mpr c19
   clear c19
   obtain rfl := Option.some.inj H
   have hcz20_0 : wc.cell? ⟨gb648, 0, none⟩ = some (.bool a0_0) := (blk_cell BK648.out 0).trans rfl
   have hcz20_1 : wc.cell? ⟨gb648, 1, none⟩ = some (.slice A0_1 l0_1.length c0_1) := (blk_cell BK648.out 1).trans rfl
   have hcz20_2 : wc.cell? ⟨gb648, 2, none⟩ = some (.slice A0_2 l0_2.length c0_2) := (blk_cell BK648.out 2).trans rfl
   go_wp2_with (first | ((with_reducible refine gc_ 26 rfl ?_); refine gM_ (some 29) Try.func26 [.agg #[.bool a0_0, .slice A0_1 l0_1.length c0_1, .slice A0_2 l0_2.length c0_2], .int .u8 a1] ?_; (with_reducible refine (round_Exact.calls kj4 a0_0 _ _ l0_1 _ _ l0_2 a1 t650 t651 _ ?side1 ?side2 ?side3 ?side4 A12.out).mono ?_); (case side1 => exact ch_ HR0_1.out); (case side2 => exact HC0_1.out); (case side3 => exact ch_ HR0_2.out); (case side4 => exact HC0_2.out); rintro e w21 ⟨rfl, hb⟩; refine ⟨_, rfl, ?_⟩; replace BK648 := Aside0.mk (blk_below (g := gb648) (o := .cells #[.bool a0_0, .slice A0_1 l0_1.length c0_1, .slice A0_2 l0_2.length c0_2] 50 (0, 0)) (by (with_reducible repeat (first | apply kn_ | apply kd_ | apply ka_)); exact BK648.out) hb); replace HB := bq_ hb; skip; have hcz22_0 : w21.cell? ⟨gb648, 0, none⟩ = some (.bool a0_0) := (blk_cell BK648.out 0).trans rfl; have hcz22_1 : w21.cell? ⟨gb648, 1, none⟩ = some (.slice A0_1 l0_1.length c0_1) := (blk_cell BK648.out 1).trans rfl; have hcz22_2 : w21.cell? ⟨gb648, 2, none⟩ = some (.slice A0_2 l0_2.length c0_2) := (blk_cell BK648.out 2).trans rfl; have hfz22_0 := blk_frozen BK648.out 0; have hfz22_1 := blk_frozen BK648.out 1; have hfz22_2 := blk_frozen BK648.out 2) | ((with_reducible refine gc_ 28 rfl ?_); refine gM_ (some 34) Try.func28 [.agg #[.bool a0_0, .slice A0_1 l0_1.length c0_1, .slice A0_2 l0_2.length c0_2]] ?_; (with_reducible refine (flyballlaw05_of.calls kj4 a0_0 _ _ l0_1 _ _ l0_2 t652 t653 t656 _ ?side1 ?side2 ?side3 ?side4 A13.out).mono ?_); (case side1 => exact ch_ HR0_1.out); (case side2 => exact HC0_1.out); (case side3 => exact ch_ HR0_2.out); (case side4 => exact HC0_2.out); rintro e w23 ⟨v654, v657, rfl, ho0, ho1, hb⟩; refine ⟨_, rfl, ?_⟩; have HO655 := Aside0.mk (Kd.R_lower ho0 (below_size bh_)); have HO658 := Aside0.mk (Kd.R_lower ho1 (below_size bh_)); replace BK648 := Aside0.mk (blk_below (g := gb648) (o := .cells #[.bool a0_0, .slice A0_1 l0_1.length c0_1, .slice A0_2 l0_2.length c0_2] 50 (0, 0)) (by (with_reducible repeat (first | apply kn_ | apply kd_ | apply ka_)); exact BK648.out) hb); replace HB := bq_ hb; skip; obtain ⟨Ao24, co24, eo24⟩ := Kd.R_slice HO655.out; subst eo24; obtain ⟨Ao25, co25, eo25⟩ := Kd.R_slice HO658.out; subst eo25) | ((with_reducible refine gc_ 27 rfl ?_); refine gM_ (some 36) Try.func27 [.agg #[.bool t652, .slice Ao24 t653.length co24, .slice Ao25 t656.length co25], .int .u8 a1] ?_; (with_reducible refine (flyballref05_Exact.calls kj4 t652 _ _ t653 _ _ t656 a1 t659 t660 _ ?side1 ?side2 ?side3 ?side4 A14.out).mono ?_); (case side1 => repeat first | exact (Kd.R_reads' HO655.out).2.2 | with_reducible first | apply ca_ | apply cn_ | apply cd_); (case side2 => exact (Kd.R_reads' HO655.out).2.1); (case side3 => repeat first | exact (Kd.R_reads' HO658.out).2.2 | with_reducible first | apply ca_ | apply cn_ | apply cd_); (case side4 => exact (Kd.R_reads' HO658.out).2.1); rintro e w26 ⟨rfl, hb⟩; refine ⟨_, rfl, ?_⟩; replace HO655 := Aside0.mk (Kd.R_below (by (with_reducible repeat (first | apply ra_ | apply rn_ | apply rd_)); exact HO655.out) hb); replace HO658 := Aside0.mk (Kd.R_below (by (with_reducible repeat (first | apply ra_ | apply rn_ | apply rd_)); exact HO658.out) hb); replace BK648 := Aside0.mk (blk_below (g := gb648) (o := .cells #[.bool a0_0, .slice A0_1 l0_1.length c0_1, .slice A0_2 l0_2.length c0_2] 50 (0, 0)) (by (with_reducible repeat (first | apply kn_ | apply kd_ | apply ka_)); exact BK648.out) hb); replace HB := bq_ hb; skip; have hcz27_0 : w26.cell? ⟨gb648, 0, none⟩ = some (.bool a0_0) := (blk_cell BK648.out 0).trans rfl; have hcz27_1 : w26.cell? ⟨gb648, 1, none⟩ = some (.slice A0_1 l0_1.length c0_1) := (blk_cell BK648.out 1).trans rfl; have hcz27_2 : w26.cell? ⟨gb648, 2, none⟩ = some (.slice A0_2 l0_2.length c0_2) := (blk_cell BK648.out 2).trans rfl; have hfz27_0 := blk_frozen BK648.out 0; have hfz27_1 := blk_frozen BK648.out 1; have hfz27_2 := blk_frozen BK648.out 2) | ((with_reducible refine gc_ 29 rfl ?_); refine gM_ (some 47) Try.func29 [.bool a0_0, .slice A0_1 l0_1.length c0_1, .slice A0_2 l0_2.length c0_2, .int .u8 a1] ?_; (with_reducible refine (round_Frac.calls kj4 a0_0 _ _ l0_1 _ _ l0_2 a1 t661 t662 _ ?side1 ?side2 ?side3 ?side4 A15.out).mono ?_); (case side1 => exact ch_ HR0_1.out); (case side2 => exact HC0_1.out); (case side3 => exact ch_ HR0_2.out); (case side4 => exact HC0_2.out); rintro e w28 ⟨rfl, hb⟩; refine ⟨_, rfl, ?_⟩; replace HO655 := Aside0.mk (Kd.R_below (by (with_reducible repeat (first | apply ra_ | apply rn_ | apply rd_)); exact HO655.out) hb); replace HO658 := Aside0.mk (Kd.R_below (by (with_reducible repeat (first | apply ra_ | apply rn_ | apply rd_)); exact HO658.out) hb); replace BK648 := Aside0.mk (blk_below (g := gb648) (o := .cells #[.bool a0_0, .slice A0_1 l0_1.length c0_1, .slice A0_2 l0_2.length c0_2] 50 (0, 0)) (by (with_reducible repeat (first | apply kn_ | apply kd_ | apply ka_)); exact BK648.out) hb); replace HB := bq_ hb))
   go_ret
   exact ⟨eh_, bh_⟩

end Go.Proofs.Ytfglpaaeipblcaa.P
