/- Walks of one package: what each function returns, wherever the Lean function beside it has an answer. -/
import Derived.Test.YtfglpaaeipblcaaP0
import Derived.Test.YtfglpaaeipblcaaPFlyballref051
import Derived.Test.YtfglpaaeipblcaaPFlyballref031
namespace Go.Proofs.Ytfglpaaeipblcaa.P
open Go.RowKit Go.Proofs.YtfglpaaeipblcaaW.PrintWords Go.Proofs.YtfglpaaeipblcaaW.PrintLast Go.Proofs.YtfglpaaeipblcaaW.PrintMore
attribute [local go_sem] max2_int min2_int max_two min_two max_three min_three max_four min_four   -- for this text's walks alone
set_option linter.unusedVariables false
set_option linter.unusedSimpArgs false

/-! ### flyballref05_Exact: function 27 -/
def flyballref05_Exact.f (k : Nat) (a0_0 : Bool) (l0_1 : List Bool) (l0_2 : List Bool) (a1 : Int) : Option (Int × Int) := (flyballref03_Sign.f k a0_0 l0_1 l0_2).bind fun t548 => (if t548 = 0 then (some (0, 0)) else ((flyballref05_Signed.f k a0_0 l0_1 l0_2 0 false a1).bind fun bt549 => (some (bt549.1, bt549.2))))
theorem flyballref05_Exact.mono : ∀ a0 a1 a2 a3 k, LeO (flyballref05_Exact.f k a0 a1 a2 a3) (flyballref05_Exact.f (k + 1) a0 a1 a2 a3) := by
 intro a0 a1 a2 a3 k
 unfold flyballref05_Exact.f
 repeat' with_reducible first | exact flyballref03_Sign.mono _ _ _ _ | exact flyballref05_Signed.mono _ _ _ _ _ _ _ | exact LeO.refl _ | exact LeO.none _ | refine LeO.ite ?_ ?_ | refine LeO.bind ?_ (fun _ => ?_)
set_option maxHeartbeats 8000000 in
set_option maxRecDepth 100000 in
theorem flyballref05_Exact.calls (k : Nat) (a0_0 : Bool) (A0_1 : Option Addr) (c0_1 : Nat) (l0_1 : List Bool) (A0_2 : Option Addr) (c0_2 : Nat) (l0_2 : List Bool) (a1 : Int) (r1 : Int) (r2 : Int) (w : World) (hr0_1 : Kd.C Kd.bool w A0_1 l0_1.length l0_1) (hc0_1 : l0_1.length ≤ c0_1) (hr0_2 : Kd.C Kd.bool w A0_2 l0_2.length l0_2) (hc0_2 : l0_2.length ≤ c0_2) (h : flyballref05_Exact.f k a0_0 l0_1 l0_2 a1 = some (r1, r2)) :
  Calls Try.prog 27 #[.agg #[.bool a0_0, .slice A0_1 l0_1.length c0_1, .slice A0_2 l0_2.length c0_2], .int .u8 a1] w fun e w' => e = .returned (.tuple #[.int .u64 r1, .int .u8 r2]) ∧ Below w.heap.size w w' := by
 have hu54 := Try.underlying54
 have hu100 := Try.underlying100
 have HR0_1 := Aside0.mk hr0_1
 have HC0_1 := Aside0.mk hc0_1
 clear hr0_1 hc0_1
 have HR0_2 := Aside0.mk hr0_2
 have HC0_2 := Aside0.mk hc0_2
 clear hr0_2 hc0_2
 have HB := Aside0.mk (Below.refl w.heap.size w)
 have H : ((flyballref03_Sign.f k a0_0 l0_1 l0_2).bind fun t548 => (if t548 = 0 then (some (0, 0)) else ((flyballref05_Signed.f k a0_0 l0_1 l0_2 0 false a1).bind fun bt549 => (some (bt549.1, bt549.2))))) = some (r1, r2) := h
 clear h
 replace H := Option.bind_eq_some_iff.mp H
 obtain ⟨t548, A30, H⟩ := H
 replace H : (if t548 = 0 then (some (0, 0)) else ((flyballref05_Signed.f k a0_0 l0_1 l0_2 0 false a1).bind fun bt549 => (some (bt549.1, bt549.2)))) = some (r1, r2) := H
 have A3 := Aside0.mk A30
 clear A30
 by_cases c4 : t548 = 0
 case pos =>
  rw [if_pos c4] at H
  have c4b0 : (t548 == 0) = true := beq_iff_eq.mpr c4
  have c4b1 : (t548 != 0) = false := bne_eq_false_iff_eq.mpr c4
  clear c4
  simp only [Option.some.injEq, Prod.mk.injEq] at H
  obtain ⟨rfl, rfl⟩ := H
  go_enter Try.func27, Try.ntmps27
  go_wp2_with (first | ((with_reducible refine gate_dst (N := 2) rfl ?_); refine box_event ?hg (N := 2) ?hd (cs := #[.bool a0_0, .slice A0_1 l0_1.length c0_1, .slice A0_2 l0_2.length c0_2]) (t := 54) ?hr ?_; (case hd => rfl); (case hg => rfl); (case hr => first | (go_simp; done) | (go_simp; rfl)); intro gb547 hg w5 hbox hb; have n0_ := bq_ hb; have n1_ := Aside0.mk (hbox); have n3_ := bz_ hg; clear HB; have HB := n0_; have BK547 := n1_; have GE547 := n3_; clear n0_ n1_ n3_; clear hb hbox hg; have hcz6_0 : w5.cell? ⟨gb547, 0, none⟩ = some (.bool a0_0) := (blk_cell BK547.out 0).trans rfl; have hcz6_1 : w5.cell? ⟨gb547, 1, none⟩ = some (.slice A0_1 l0_1.length c0_1) := (blk_cell BK547.out 1).trans rfl; have hcz6_2 : w5.cell? ⟨gb547, 2, none⟩ = some (.slice A0_2 l0_2.length c0_2) := (blk_cell BK547.out 2).trans rfl; have hfz6_0 := blk_frozen BK547.out 0; have hfz6_1 := blk_frozen BK547.out 1; have hfz6_2 := blk_frozen BK547.out 2) | ((with_reducible refine gc_ 63 rfl ?_); refine gM_ (some 7) Try.func63 [.agg #[.bool a0_0, .slice A0_1 l0_1.length c0_1, .slice A0_2 l0_2.length c0_2]] ?_; (with_reducible refine (flyballref03_Sign.calls k a0_0 _ _ l0_1 _ _ l0_2 t548 _ ?side1 ?side2 ?side3 ?side4 A3.out).mono ?_); (case side1 => exact ch_ HR0_1.out); (case side2 => exact HC0_1.out); (case side3 => exact ch_ HR0_2.out); (case side4 => exact HC0_2.out); rintro e w7 ⟨rfl, hb⟩; refine ⟨_, rfl, ?_⟩; replace HB := bq_ hb))
  go_ret2
  exact ⟨eh_, bh_⟩
 rw [if_neg c4] at H
 have c4b0 : (t548 == 0) = false := beq_eq_false_iff_ne.mpr c4
 have c4b1 : (t548 != 0) = true := bne_iff_ne.mpr c4
 replace H := Option.bind_eq_some_iff.mp H
 obtain ⟨⟨t549, t550⟩, A80, H⟩ := H
 replace H : (some (t549, t550)) = some (r1, r2) := H
 have A8 := Aside0.mk A80
 clear A80
 simp only [Option.some.injEq, Prod.mk.injEq] at H
 obtain ⟨rfl, rfl⟩ := H
 go_enter Try.func27, Try.ntmps27
 go_wp2_with (first | ((with_reducible refine gate_dst (N := 2) rfl ?_); refine box_event ?hg (N := 2) ?hd (cs := #[.bool a0_0, .slice A0_1 l0_1.length c0_1, .slice A0_2 l0_2.length c0_2]) (t := 54) ?hr ?_; (case hd => rfl); (case hg => rfl); (case hr => first | (go_simp; done) | (go_simp; rfl)); intro gb547 hg w9 hbox hb; have n0_ := bq_ hb; have n1_ := Aside0.mk (hbox); have n3_ := bz_ hg; clear HB; have HB := n0_; have BK547 := n1_; have GE547 := n3_; clear n0_ n1_ n3_; clear hb hbox hg; have hcz10_0 : w9.cell? ⟨gb547, 0, none⟩ = some (.bool a0_0) := (blk_cell BK547.out 0).trans rfl; have hcz10_1 : w9.cell? ⟨gb547, 1, none⟩ = some (.slice A0_1 l0_1.length c0_1) := (blk_cell BK547.out 1).trans rfl; have hcz10_2 : w9.cell? ⟨gb547, 2, none⟩ = some (.slice A0_2 l0_2.length c0_2) := (blk_cell BK547.out 2).trans rfl; have hfz10_0 := blk_frozen BK547.out 0; have hfz10_1 := blk_frozen BK547.out 1; have hfz10_2 := blk_frozen BK547.out 2) | ((with_reducible refine gc_ 63 rfl ?_); refine gM_ (some 7) Try.func63 [.agg #[.bool a0_0, .slice A0_1 l0_1.length c0_1, .slice A0_2 l0_2.length c0_2]] ?_; (with_reducible refine (flyballref03_Sign.calls k a0_0 _ _ l0_1 _ _ l0_2 t548 _ ?side1 ?side2 ?side3 ?side4 A3.out).mono ?_); (case side1 => exact ch_ HR0_1.out); (case side2 => exact HC0_1.out); (case side3 => exact ch_ HR0_2.out); (case side4 => exact HC0_2.out); rintro e w11 ⟨rfl, hb⟩; refine ⟨_, rfl, ?_⟩; replace BK547 := Aside0.mk (blk_below (g := gb547) (o := .cells #[.bool a0_0, .slice A0_1 l0_1.length c0_1, .slice A0_2 l0_2.length c0_2] 54 (0, 0)) (by (with_reducible repeat (first | apply kn_ | apply kd_ | apply ka_)); exact BK547.out) hb); replace HB := bq_ hb; skip; have hcz12_0 : w11.cell? ⟨gb547, 0, none⟩ = some (.bool a0_0) := (blk_cell BK547.out 0).trans rfl; have hcz12_1 : w11.cell? ⟨gb547, 1, none⟩ = some (.slice A0_1 l0_1.length c0_1) := (blk_cell BK547.out 1).trans rfl; have hcz12_2 : w11.cell? ⟨gb547, 2, none⟩ = some (.slice A0_2 l0_2.length c0_2) := (blk_cell BK547.out 2).trans rfl; have hfz12_0 := blk_frozen BK547.out 0; have hfz12_1 := blk_frozen BK547.out 1; have hfz12_2 := blk_frozen BK547.out 2) | ((with_reducible refine gc_ 62 rfl ?_); refine gM_ (some 17) Try.func62 [.bool a0_0, .agg #[.slice A0_1 l0_1.length c0_1, .slice A0_2 l0_2.length c0_2, .int .i64 0, .bool false], .int .u8 a1] ?_; (with_reducible refine (flyballref05_Signed.calls k a0_0 _ _ l0_1 _ _ l0_2 0 false a1 t549 t550 _ ?side1 ?side2 ?side3 ?side4 A8.out).mono ?_); (case side1 => exact ch_ HR0_1.out); (case side2 => exact HC0_1.out); (case side3 => exact ch_ HR0_2.out); (case side4 => exact HC0_2.out); rintro e w13 ⟨rfl, hb⟩; refine ⟨_, rfl, ?_⟩; replace HB := bq_ hb))
 go_ret2
 exact ⟨eh_, bh_⟩

end Go.Proofs.Ytfglpaaeipblcaa.P
