/- Walks of one package: what each function returns, wherever the Lean function beside it has an answer. -/
import Derived.Test.YtfglpaaeipblcaaP0
import Derived.Test.YtfglpaaeipblcaaPWide1
import Derived.Test.YtfglpaaeipblcaaPPattern1
import Derived.Test.YtfglpaaeipblcaaPRound1
namespace Go.Proofs.Ytfglpaaeipblcaa.P
open Go.RowKit Go.Proofs.YtfglpaaeipblcaaW.PrintWords Go.Proofs.YtfglpaaeipblcaaW.PrintLast Go.Proofs.YtfglpaaeipblcaaW.PrintMore
attribute [local go_sem] max2_int min2_int max_two min_two max_three min_three max_four min_four   -- for this text's walks alone
set_option linter.unusedVariables false
set_option linter.unusedSimpArgs false

/-! ### conv_FromInt: function 15 -/
def conv_FromInt.f (k : Nat) (a0 : Int) (a1 : Int) : Option (Int × Int):=if a0 < 0 then ((round_Round.f k (decide (a0 < 0)) 0 (IntKind.u64.wrap (-(IntKind.u64.wrap (a0)))) 0 false a1).bind fun bt155=>(some (bt155.1,bt155.2))) else ((round_Round.f k (decide (a0 < 0)) 0 (IntKind.u64.wrap (a0)) 0 false a1).bind fun bt157=>(some (bt157.1,bt157.2)))
theorem conv_FromInt.mono : ∀ a0 a1 k,LeO (conv_FromInt.f k a0 a1) (conv_FromInt.f (k + 1) a0 a1):=by
  intro a0 a1 k
  unfold conv_FromInt.f
  repeat' with_reducible first | exact round_Round.mono _ _ _ _ _ _ _ | exact LeO.refl _ | exact LeO.none _ | refine LeO.ite ?_ ?_ | refine LeO.bind ?_ (fun _=>?_)
-- GIVENTEXT
set_option maxHeartbeats 8000000 in
set_option maxRecDepth 100000 in
theorem conv_FromInt.calls (k : Nat) (a0 : Int) (a1 : Int) (r1 : Int) (r2 : Int) (w : World) (h : conv_FromInt.f k a0 a1 = some (r1, r2)) :
    Calls Try.prog 15 #[.int .i64 a0, .int .u8 a1] w fun e w' => e = .returned (.tuple #[.int .u64 r1, .int .u8 r2]) ∧ Below w.heap.size w w' := by
 unfold conv_FromInt.f at h
 by_cases c3 : a0 < 0
 all_goals
   first | rw [if_pos c3] at h | rw [if_neg c3] at h
   have c3b0 : decide (a0 < 0) = decide (a0 < 0) := rfl
   first | rw [decide_eq_true c3] at h c3b0 | rw [decide_eq_false c3] at h c3b0
   obtain ⟨⟨t1, t2⟩, A0, h⟩ := Option.bind_eq_some_iff.mp h
   obtain ⟨rfl, rfl⟩ : t1 = r1 ∧ t2 = r2 := by simpa using h
   have A := Aside0.mk A0
   clear h A0
   go_enter Try.func15, Try.ntmps15
   go_wp2_with fail
   refine (round_Round.calls k _ 0 _ 0 false a1 t1 t2 _ A.out).mono ?_
   rintro e w' ⟨rfl, hb⟩
   go_wp2
   go_ret2
   exact ⟨rfl, hb⟩

/-! ### conv_cut: function 52 -/
def conv_cut.f (k : Nat) (a0 : Int) : Option (Int × Int × Bool × Bool × Bool):=(pattern_Split.f k a0).bind fun bt167=>(if bt167.2 > 64 then (some (0,bt167.1,false,false,false)) else (if bt167.2 ≥ 0 then ((wide_U128_Shl.f k 0 bt167.1 bt167.2).bind fun bt169=>(some (bt169.1,bt169.2,false,false,(bt169.1 == 0)))) else ((wide_U128_Shr.f k 0 bt167.1 (wrap64 ((wrap64 (-bt167.2)) - 1))).bind fun bt171=>((wide_U128_Shr.f k bt171.1 bt171.2.1 1).bind fun bt174=>(some (bt174.1,bt174.2.1,((Go.bits .and .u64 bt171.2.1 1) == 1),bt171.2.2,true))))))
theorem conv_cut.mono : ∀ a0 k,LeO (conv_cut.f k a0) (conv_cut.f (k + 1) a0):=by
 intro a0 k
 unfold conv_cut.f
 repeat' with_reducible first | exact pattern_Split.mono _ _ | exact wide_U128_Shl.mono _ _ _ _ | exact wide_U128_Shr.mono _ _ _ _ | exact LeO.refl _ | exact LeO.none _ | refine LeO.ite ?_ ?_ | refine LeO.bind ?_ (fun _=>?_)
set_option maxHeartbeats 8000000 in
set_option maxRecDepth 100000 in
theorem conv_cut.calls (k : Nat) (a0 : Int) (r1 : Int) (r2 : Int) (r3 : Bool) (r4 : Bool) (r5 : Bool) (w : World) (h : conv_cut.f k a0 = some (r1,r2,r3,r4,r5)) :
  Calls Try.prog 52 #[.int .u64 a0] w fun e w'=>e = .returned (.tuple #[.agg #[.int .u64 r1,.int .u64 r2],.bool r3,.bool r4,.bool r5]) ∧ Below w.heap.size w w':=by
 have hu40:=Try.underlying40
 have HB:=Aside0.mk (Below.refl w.heap.size w)
 have H : ((pattern_Split.f k a0).bind fun bt167=>(if bt167.2 > 64 then (some (0,bt167.1,false,false,false)) else (if bt167.2 ≥ 0 then ((wide_U128_Shl.f k 0 bt167.1 bt167.2).bind fun bt169=>(some (bt169.1,bt169.2,false,false,(bt169.1 == 0)))) else ((wide_U128_Shr.f k 0 bt167.1 (wrap64 ((wrap64 (-bt167.2)) - 1))).bind fun bt171=>((wide_U128_Shr.f k bt171.1 bt171.2.1 1).bind fun bt174=>(some (bt174.1,bt174.2.1,((Go.bits .and .u64 bt171.2.1 1) == 1),bt171.2.2,true))))))) = some (r1,r2,r3,r4,r5):=h
 clear h
 replace H:=Option.bind_eq_some_iff.mp H
 obtain ⟨⟨t167,t168⟩,A20,H⟩:=H
 replace H : (if t168 > 64 then (some (0,t167,false,false,false)) else (if t168 ≥ 0 then ((wide_U128_Shl.f k 0 t167 t168).bind fun bt169=>(some (bt169.1,bt169.2,false,false,(bt169.1 == 0)))) else ((wide_U128_Shr.f k 0 t167 (wrap64 ((wrap64 (-t168)) - 1))).bind fun bt171=>((wide_U128_Shr.f k bt171.1 bt171.2.1 1).bind fun bt174=>(some (bt174.1,bt174.2.1,((Go.bits .and .u64 bt171.2.1 1) == 1),bt171.2.2,true)))))) = some (r1,r2,r3,r4,r5):=H
 have A2:=Aside0.mk A20
 clear A20
 by_cases c3 : t168 > 64
 case pos =>
  rw [if_pos c3] at H
  have c3b0 : decide (64 < t168) = true:=decide_eq_true c3
  clear c3
  simp only [Option.some.injEq,Prod.mk.injEq] at H
  obtain ⟨rfl,rfl,rfl,rfl,rfl⟩:=H
  go_enter Try.func52,Try.ntmps52
  go_wp2_with (first | ((with_reducible refine gate_dst (N:=2) rfl ?_); refine box_event ?hg (N:=2) ?hd (cs:=#[.int .u64 0,.int .u64 0]) (t:=40) ?hr ?_; (case hd=>rfl); (case hg=>rfl); (case hr=>first | (go_simp; done) | (go_simp; rfl)); intro gb166 hg w4 hbox hb; have n0_:=bq_ hb; have n1_:=Aside0.mk (hbox); have n3_:=bz_ hg; clear HB; have HB:=n0_; have BK166:=n1_; have GE166:=n3_; clear n0_ n1_ n3_; clear hb hbox hg) | ((with_reducible refine gc_ 51 rfl ?_); refine gM_ (some 10) Try.func51 [.int .u64 a0] ?_; (with_reducible refine (pattern_Split.calls k a0 t167 t168 _ A2.out).mono ?_); rintro e w' ⟨rfl,⟨nd,rfl⟩⟩; refine ⟨_,rfl,?_⟩; (try (rw [drewN_self w4]; generalize hq_ : World.drewN w4 _ = w4; have n0_ : Aside0 (w4.heap[gb166]? = some (.cells #[.int .u64 0,.int .u64 0] 40 (0,0))):=⟨by rw [← hq_]; exact (by (with_reducible repeat (first | apply kn_ | apply kd_ | apply ka_)); exact BK166.out)⟩; have n1_ : Aside0 (Below w.heap.size w w4):=⟨by rw [← hq_]; exact bh_⟩; clear BK166 HB hq_; have BK166:=n0_; have HB:=n1_; clear n0_ n1_)); have hcz5_0 : w4.cell? ⟨gb166,0,none⟩ = some (.int .u64 0):=bc_ BK166 0; have hcz5_1 : w4.cell? ⟨gb166,1,none⟩ = some (.int .u64 0):=bc_ BK166 1; have hfz5_0:=blk_frozen BK166.out 0; have hfz5_1:=blk_frozen BK166.out 1))
  refine bodyPost_ret (results_list (rs:=[.cell 2 40,.tmp 3,.tmp 4,.tmp 5]) rfl (by simp) (.cell gb166 40 #[.int .u64 0,.int .u64 t167] (0,0) _ rfl (by (with_reducible repeat (first | apply kn_ | apply kd_ | apply ka_)); refine blk_put (cs:=#[.int .u64 0,.int .u64 t167]) ?_ 1 _ rfl; (with_reducible repeat (first | apply kn_ | apply kd_ | apply ka_)); refine blk_put (cs:=#[.int .u64 0,.int .u64 t167]) ?_ 0 _ rfl; (with_reducible repeat (first | apply kn_ | apply kd_ | apply ka_)); refine blk_put (cs:=#[.int .u64 0,.int .u64 0]) ?_ 1 _ rfl; (with_reducible repeat (first | apply kn_ | apply kd_ | apply ka_)); refine blk_put (cs:=#[.int .u64 0,.int .u64 0]) ?_ 0 _ rfl; (with_reducible repeat (first | apply kn_ | apply kd_ | apply ka_)); exact BK166.out) Try.underlying40 rfl (by kernel_rfl) (.tmp (.tmp (.tmp .nil))))) rfl ?_
  exact ⟨eh_,bh_⟩
 rw [if_neg c3] at H
 have c3b0 : decide (64 < t168) = false:=decide_eq_false c3
 clear c3
 by_cases c6 : t168 ≥ 0
 case pos =>
  rw [if_pos c6] at H
  have c6b0 : decide (0 ≤ t168) = true:=decide_eq_true c6
  clear c6
  replace H:=Option.bind_eq_some_iff.mp H
  obtain ⟨⟨t169,t170⟩,A70,H⟩:=H
  replace H : (some (t169,t170,false,false,(t169 == 0))) = some (r1,r2,r3,r4,r5):=H
  have A7:=Aside0.mk A70
  clear A70
  simp only [Option.some.injEq,Prod.mk.injEq] at H
  obtain ⟨rfl,rfl,rfl,rfl,rfl⟩:=H
  go_enter Try.func52,Try.ntmps52
  go_wp2_with (first | ((with_reducible refine gate_dst (N:=2) rfl ?_); refine box_event ?hg (N:=2) ?hd (cs:=#[.int .u64 0,.int .u64 0]) (t:=40) ?hr ?_; (case hd=>rfl); (case hg=>rfl); (case hr=>first | (go_simp; done) | (go_simp; rfl)); intro gb166 hg w8 hbox hb; have n0_:=bq_ hb; have n1_:=Aside0.mk (hbox); have n3_:=bz_ hg; clear HB; have HB:=n0_; have BK166:=n1_; have GE166:=n3_; clear n0_ n1_ n3_; clear hb hbox hg) | ((with_reducible refine gc_ 51 rfl ?_); refine gM_ (some 10) Try.func51 [.int .u64 a0] ?_; (with_reducible refine (pattern_Split.calls k a0 t167 t168 _ A2.out).mono ?_); rintro e w' ⟨rfl,⟨nd,rfl⟩⟩; refine ⟨_,rfl,?_⟩; (try (rw [drewN_self w8]; generalize hq_ : World.drewN w8 _ = w8; have n0_ : Aside0 (w8.heap[gb166]? = some (.cells #[.int .u64 0,.int .u64 0] 40 (0,0))):=⟨by rw [← hq_]; exact (by (with_reducible repeat (first | apply kn_ | apply kd_ | apply ka_)); exact BK166.out)⟩; have n1_ : Aside0 (Below w.heap.size w w8):=⟨by rw [← hq_]; exact bh_⟩; clear BK166 HB hq_; have BK166:=n0_; have HB:=n1_; clear n0_ n1_)); have hcz9_0 : w8.cell? ⟨gb166,0,none⟩ = some (.int .u64 0):=bc_ BK166 0; have hcz9_1 : w8.cell? ⟨gb166,1,none⟩ = some (.int .u64 0):=bc_ BK166 1; have hfz9_0:=blk_frozen BK166.out 0; have hfz9_1:=blk_frozen BK166.out 1) | ((with_reducible refine gc_ 83 rfl ?_); refine gM_ (some 24) Try.func83 [.agg #[.int .u64 0,.int .u64 t167],.int .i64 t168] ?_; (with_reducible refine (wide_U128_Shl.calls k 0 t167 t168 t169 t170 _ A7.out).mono ?_); rintro e w10 ⟨rfl,hb⟩; refine ⟨_,rfl,?_⟩; replace BK166:=Aside0.mk (blk_below (g:=gb166) (o:=.cells #[.int .u64 0,.int .u64 t167] 40 (0,0)) (by (with_reducible repeat (first | apply kn_ | apply kd_ | apply ka_)); refine blk_put (cs:=#[.int .u64 0,.int .u64 0]) ?_ 1 _ rfl; (with_reducible repeat (first | apply kn_ | apply kd_ | apply ka_)); refine blk_put (cs:=#[.int .u64 0,.int .u64 0]) ?_ 0 _ rfl; (with_reducible repeat (first | apply kn_ | apply kd_ | apply ka_)); exact BK166.out) hb); replace HB:=bq_ hb; skip; have hcz11_0 : w10.cell? ⟨gb166,0,none⟩ = some (.int .u64 0):=bc_ BK166 0; have hcz11_1 : w10.cell? ⟨gb166,1,none⟩ = some (.int .u64 t167):=bc_ BK166 1; have hfz11_0:=blk_frozen BK166.out 0; have hfz11_1:=blk_frozen BK166.out 1))
  refine bodyPost_ret (results_list (rs:=[.cell 2 40,.tmp 3,.tmp 4,.tmp 5]) rfl (by simp) (.cell gb166 40 #[.int .u64 t169,.int .u64 t170] (0,0) _ rfl (by (with_reducible repeat (first | apply kn_ | apply kd_ | apply ka_)); refine blk_put (cs:=#[.int .u64 t169,.int .u64 t170]) ?_ 1 _ rfl; (with_reducible repeat (first | apply kn_ | apply kd_ | apply ka_)); refine blk_put (cs:=#[.int .u64 t169,.int .u64 t170]) ?_ 0 _ rfl; (with_reducible repeat (first | apply kn_ | apply kd_ | apply ka_)); refine blk_put (cs:=#[.int .u64 t169,.int .u64 t167]) ?_ 1 _ rfl; (with_reducible repeat (first | apply kn_ | apply kd_ | apply ka_)); refine blk_put (cs:=#[.int .u64 0,.int .u64 t167]) ?_ 0 _ rfl; (with_reducible repeat (first | apply kn_ | apply kd_ | apply ka_)); exact BK166.out) Try.underlying40 rfl (by kernel_rfl) (.tmp (.tmp (.tmp .nil))))) rfl ?_
  exact ⟨eh_,bh_⟩
 rw [if_neg c6] at H
 have c6b0 : decide (0 ≤ t168) = false:=decide_eq_false c6
 clear c6
 replace H:=Option.bind_eq_some_iff.mp H
 obtain ⟨⟨t171,t172,t173⟩,A120,H⟩:=H
 replace H : ((wide_U128_Shr.f k t171 t172 1).bind fun bt174=>(some (bt174.1,bt174.2.1,((Go.bits .and .u64 t172 1) == 1),t173,true))) = some (r1,r2,r3,r4,r5):=H
 have A12:=Aside0.mk A120
 clear A120
 replace H:=Option.bind_eq_some_iff.mp H
 obtain ⟨⟨t174,t175,t176⟩,A130,H⟩:=H
 replace H : (some (t174,t175,((Go.bits .and .u64 t172 1) == 1),t173,true)) = some (r1,r2,r3,r4,r5):=H
 have A13:=Aside0.mk A130
 clear A130
 simp only [Option.some.injEq,Prod.mk.injEq] at H
 obtain ⟨rfl,rfl,rfl,rfl,rfl⟩:=H
 go_enter Try.func52,Try.ntmps52
 go_wp2_with (first | ((with_reducible refine gate_dst (N:=2) rfl ?_); refine box_event ?hg (N:=2) ?hd (cs:=#[.int .u64 0,.int .u64 0]) (t:=40) ?hr ?_; (case hd=>rfl); (case hg=>rfl); (case hr=>first | (go_simp; done) | (go_simp; rfl)); intro gb166 hg w14 hbox hb; have n0_:=bq_ hb; have n1_:=Aside0.mk (hbox); have n3_:=bz_ hg; clear HB; have HB:=n0_; have BK166:=n1_; have GE166:=n3_; clear n0_ n1_ n3_; clear hb hbox hg) | ((with_reducible refine gc_ 51 rfl ?_); refine gM_ (some 10) Try.func51 [.int .u64 a0] ?_; (with_reducible refine (pattern_Split.calls k a0 t167 t168 _ A2.out).mono ?_); rintro e w' ⟨rfl,⟨nd,rfl⟩⟩; refine ⟨_,rfl,?_⟩; (try (rw [drewN_self w14]; generalize hq_ : World.drewN w14 _ = w14; have n0_ : Aside0 (w14.heap[gb166]? = some (.cells #[.int .u64 0,.int .u64 0] 40 (0,0))):=⟨by rw [← hq_]; exact (by (with_reducible repeat (first | apply kn_ | apply kd_ | apply ka_)); exact BK166.out)⟩; have n1_ : Aside0 (Below w.heap.size w w14):=⟨by rw [← hq_]; exact bh_⟩; clear BK166 HB hq_; have BK166:=n0_; have HB:=n1_; clear n0_ n1_)); have hcz15_0 : w14.cell? ⟨gb166,0,none⟩ = some (.int .u64 0):=bc_ BK166 0; have hcz15_1 : w14.cell? ⟨gb166,1,none⟩ = some (.int .u64 0):=bc_ BK166 1; have hfz15_0:=blk_frozen BK166.out 0; have hfz15_1:=blk_frozen BK166.out 1) | ((with_reducible refine gc_ 84 rfl ?_); refine gM_ (some 34) Try.func84 [.agg #[.int .u64 0,.int .u64 t167],.int .i64 (wrap64 ((wrap64 (-t168)) - 1))] ?_; (with_reducible refine (wide_U128_Shr.calls k 0 t167 (wrap64 ((wrap64 (-t168)) - 1)) t171 t172 t173 _ A12.out).mono ?_); rintro e w16 ⟨rfl,hb⟩; refine ⟨_,rfl,?_⟩; replace BK166:=Aside0.mk (blk_below (g:=gb166) (o:=.cells #[.int .u64 0,.int .u64 t167] 40 (0,0)) (by (with_reducible repeat (first | apply kn_ | apply kd_ | apply ka_)); refine blk_put (cs:=#[.int .u64 0,.int .u64 0]) ?_ 1 _ rfl; (with_reducible repeat (first | apply kn_ | apply kd_ | apply ka_)); refine blk_put (cs:=#[.int .u64 0,.int .u64 0]) ?_ 0 _ rfl; (with_reducible repeat (first | apply kn_ | apply kd_ | apply ka_)); exact BK166.out) hb); replace HB:=bq_ hb; skip; have hcz17_0 : w16.cell? ⟨gb166,0,none⟩ = some (.int .u64 0):=bc_ BK166 0; have hcz17_1 : w16.cell? ⟨gb166,1,none⟩ = some (.int .u64 t167):=bc_ BK166 1; have hfz17_0:=blk_frozen BK166.out 0; have hfz17_1:=blk_frozen BK166.out 1) | ((with_reducible refine gc_ 84 rfl ?_); refine gM_ (some 43) Try.func84 [.agg #[.int .u64 t171,.int .u64 t172],.int .i64 1] ?_; (with_reducible refine (wide_U128_Shr.calls k t171 t172 1 t174 t175 t176 _ A13.out).mono ?_); rintro e w18 ⟨rfl,hb⟩; refine ⟨_,rfl,?_⟩; replace BK166:=Aside0.mk (blk_below (g:=gb166) (o:=.cells #[.int .u64 t171,.int .u64 t172] 40 (0,0)) (by (with_reducible repeat (first | apply kn_ | apply kd_ | apply ka_)); refine blk_put (cs:=#[.int .u64 t171,.int .u64 t167]) ?_ 1 _ rfl; (with_reducible repeat (first | apply kn_ | apply kd_ | apply ka_)); refine blk_put (cs:=#[.int .u64 0,.int .u64 t167]) ?_ 0 _ rfl; (with_reducible repeat (first | apply kn_ | apply kd_ | apply ka_)); exact BK166.out) hb); replace HB:=bq_ hb; skip; have hcz19_0 : w18.cell? ⟨gb166,0,none⟩ = some (.int .u64 t171):=bc_ BK166 0; have hcz19_1 : w18.cell? ⟨gb166,1,none⟩ = some (.int .u64 t172):=bc_ BK166 1; have hfz19_0:=blk_frozen BK166.out 0; have hfz19_1:=blk_frozen BK166.out 1))
 refine bodyPost_ret (results_list (rs:=[.cell 2 40,.tmp 3,.tmp 4,.tmp 5]) rfl (by simp) (.cell gb166 40 #[.int .u64 t174,.int .u64 t175] (0,0) _ rfl (by (with_reducible repeat (first | apply kn_ | apply kd_ | apply ka_)); refine blk_put (cs:=#[.int .u64 t174,.int .u64 t175]) ?_ 1 _ rfl; (with_reducible repeat (first | apply kn_ | apply kd_ | apply ka_)); refine blk_put (cs:=#[.int .u64 t174,.int .u64 t175]) ?_ 0 _ rfl; (with_reducible repeat (first | apply kn_ | apply kd_ | apply ka_)); refine blk_put (cs:=#[.int .u64 t174,.int .u64 t172]) ?_ 1 _ rfl; (with_reducible repeat (first | apply kn_ | apply kd_ | apply ka_)); refine blk_put (cs:=#[.int .u64 t171,.int .u64 t172]) ?_ 0 _ rfl; (with_reducible repeat (first | apply kn_ | apply kd_ | apply ka_)); exact BK166.out) Try.underlying40 rfl (by kernel_rfl) (.tmp (.tmp (.tmp .nil))))) rfl ?_
 exact ⟨eh_,bh_⟩

/-! ### conv_to: function 45 -/
mutual
def conv_to.j0 : Nat → Int → Int → Bool → Bool → Option (Int × Int)
 | 0,_,_,_,_=>none
 | k + 1,x0,x1,x6,x24=>if x24 = true then (some (0,16)) else ((conv_cut.f k x0).bind fun bt178=>(if 0 ≤ (wrap64 (x1 - 1)) then (if bt178.2.2.2.2 = true then (if bt178.2.1 > (shl .u64 1 (wrap64 (x1 - 1))) then (conv_to.j1 k x6 bt178.2.2.1 bt178.2.2.2.1 true bt178.1 bt178.2.1) else (if bt178.2.1 = (shl .u64 1 (wrap64 (x1 - 1))) then (conv_to.j1 k x6 bt178.2.2.1 bt178.2.2.2.1 (!x6) bt178.1 bt178.2.1) else (conv_to.j1 k x6 bt178.2.2.1 bt178.2.2.2.1 false bt178.1 bt178.2.1))) else (conv_to.j1 k x6 bt178.2.2.1 bt178.2.2.2.1 true bt178.1 bt178.2.1)) else (none)))
def conv_to.j1 : Nat → Bool → Bool → Bool → Bool → Int → Int → Option (Int × Int)
 | 0,_,_,_,_,_,_=>none
 | k + 1,x6,x9,x10,x52,x184000,x184001=>if x52 = true then (some (0,16)) else (if x9 = true then (conv_to.j2 k x6 0 true x184000 x184001) else (conv_to.j2 k x6 0 x10 x184000 x184001))
def conv_to.j2 : Nat → Bool → Int → Bool → Int → Int → Option (Int × Int)
 | 0,_,_,_,_,_=>none
 | k + 1,x6,x13,x56,x184000,x184001=>if x56 = true then (if x6 = true then (some (wrap64 (IntKind.u64.wrap (-x184001)),1)) else (some (wrap64 (x184001),1))) else (if x6 = true then (some (wrap64 (IntKind.u64.wrap (-x184001)),x13)) else (some (wrap64 (x184001),x13)))
end
def conv_to.f (k : Nat) (a0 : Int) (a1 : Int) : Option (Int × Int):=(pattern_Class.f k a0).bind fun t177=>(if t177 = 3 then (conv_to.j0 k a0 a1 ((a0 / 9223372036854775808) == 1) true) else (conv_to.j0 k a0 a1 ((a0 / 9223372036854775808) == 1) (t177 == 4)))
theorem conv_to.mono_l : ∀ k,(∀ y0 y1 y2 y3,LeO (conv_to.j0 k y0 y1 y2 y3) (conv_to.j0 (k + 1) y0 y1 y2 y3)) ∧ (∀ y0 y1 y2 y3 y4 y5,LeO (conv_to.j1 k y0 y1 y2 y3 y4 y5) (conv_to.j1 (k + 1) y0 y1 y2 y3 y4 y5)) ∧ (∀ y0 y1 y2 y3 y4,LeO (conv_to.j2 k y0 y1 y2 y3 y4) (conv_to.j2 (k + 1) y0 y1 y2 y3 y4))
 | 0=>⟨fun _ _ _ _ r h=>by simp [conv_to.j0] at h,fun _ _ _ _ _ _ r h=>by simp [conv_to.j1] at h,fun _ _ _ _ _ r h=>by simp [conv_to.j2] at h⟩
 | k + 1=>by
  obtain ⟨ih0,ih1,ih2⟩:=conv_to.mono_l k
  refine ⟨?_,?_,?_⟩
  ·
   intro y0 y1 y2 y3
   unfold conv_to.j0
   repeat' with_reducible first | exact ih0 _ _ _ _ | exact ih1 _ _ _ _ _ _ | exact ih2 _ _ _ _ _ | exact conv_cut.mono _ _ | exact pattern_Class.mono _ _ | exact LeO.refl _ | exact LeO.none _ | refine LeO.ite ?_ ?_ | refine LeO.bind ?_ (fun _=>?_)
  ·
   intro y0 y1 y2 y3 y4 y5
   unfold conv_to.j1
   repeat' with_reducible first | exact ih0 _ _ _ _ | exact ih1 _ _ _ _ _ _ | exact ih2 _ _ _ _ _ | exact conv_cut.mono _ _ | exact pattern_Class.mono _ _ | exact LeO.refl _ | exact LeO.none _ | refine LeO.ite ?_ ?_ | refine LeO.bind ?_ (fun _=>?_)
  ·
   intro y0 y1 y2 y3 y4
   unfold conv_to.j2
   repeat' with_reducible first | exact ih0 _ _ _ _ | exact ih1 _ _ _ _ _ _ | exact ih2 _ _ _ _ _ | exact conv_cut.mono _ _ | exact pattern_Class.mono _ _ | exact LeO.refl _ | exact LeO.none _ | refine LeO.ite ?_ ?_ | refine LeO.bind ?_ (fun _=>?_)
theorem conv_to.mono : ∀ a0 a1 k,LeO (conv_to.f k a0 a1) (conv_to.f (k + 1) a0 a1):=by
 intro a0 a1 k
 obtain ⟨ih0,ih1,ih2⟩:=conv_to.mono_l k
 unfold conv_to.f
 repeat' with_reducible first | exact ih0 _ _ _ _ | exact ih1 _ _ _ _ _ _ | exact ih2 _ _ _ _ _ | exact conv_cut.mono _ _ | exact pattern_Class.mono _ _ | exact LeO.refl _ | exact LeO.none _ | refine LeO.ite ?_ ?_ | refine LeO.bind ?_ (fun _=>?_)
set_option maxHeartbeats 8000000 in
set_option maxRecDepth 100000 in
theorem conv_to.calls (k : Nat) (a0 : Int) (a1 : Int) (r1 : Int) (r2 : Int) (w : World) (h : conv_to.f k a0 a1 = some (r1,r2)) :
  Calls Try.prog 45 #[.int .u64 a0,.int .i64 a1] w fun e w'=>e = .returned (.tuple #[.int .i64 r1,.int .u8 r2]) ∧ Below w.heap.size w w':=by
 have hu40:=Try.underlying40
 have HB:=Aside0.mk (Below.refl w.heap.size w)
 have H : ((pattern_Class.f k a0).bind fun t177=>(if t177 = 3 then (conv_to.j0 k a0 a1 ((a0 / 9223372036854775808) == 1) true) else (conv_to.j0 k a0 a1 ((a0 / 9223372036854775808) == 1) (t177 == 4)))) = some (r1,r2):=h
 clear h
 replace H:=Option.bind_eq_some_iff.mp H
 obtain ⟨t177,A30,H⟩:=H
 replace H : (if t177 = 3 then (conv_to.j0 k a0 a1 ((a0 / 9223372036854775808) == 1) true) else (conv_to.j0 k a0 a1 ((a0 / 9223372036854775808) == 1) (t177 == 4))) = some (r1,r2):=H
 have A3:=Aside0.mk A30
 clear A30
 have HC4:=Aside0.mk H
 clear H
 go_enter Try.func45,Try.ntmps45
 go_upto_region 3 with (first | ((with_reducible refine gc_ 50 rfl ?_); refine gM_ (some 18) Try.func50 [.int .u64 a0] ?_; (with_reducible refine (pattern_Class.calls k a0 t177 _ A3.out).mono ?_); rintro e w' ⟨rfl,⟨nd,rfl⟩⟩; refine ⟨_,rfl,?_⟩))
 (try simp only [Act.put,p1_,p2_,p3_])
 go_cut [24] (fun v24 wc=>∃ (kq : Nat) (x24_3 : Bool),v24 = .bool x24_3 ∧ Aside0 (conv_to.j0 kq a0 a1 ((a0 / 9223372036854775808) == 1) x24_3 = some (r1,r2)) ∧ Aside0 (kq ≤ k) ∧ Aside0 (Below w.heap.size w wc))
 case first =>
  have H:=HC4.out
  clear HC4
  by_cases c5 : t177 = 3
  case neg =>
   rw [if_neg c5] at H
   have c5b0 : (t177 == 3) = false:=beq_eq_false_iff_ne.mpr c5
   have c5b1 : (t177 != 3) = true:=bne_iff_ne.mpr c5
   (first | rw [c5b0] | (simp only [i64_w,i32_w]; rw [c5b0]) | skip)
   have H':=Aside0.mk H
   clear H
   go_wp2
   go_meet
   case rel=>exact ⟨_,((t177 == 4)),(sh_),H',⟨by first | omega | exact Nat.le_refl _⟩,⟨bh_⟩⟩
  rw [if_pos c5] at H
  have c5b0 : (t177 == 3) = true:=beq_iff_eq.mpr c5
  have c5b1 : (t177 != 3) = false:=bne_eq_false_iff_eq.mpr c5
  clear c5
  (first | rw [c5b0] | (simp only [i64_w,i32_w]; rw [c5b0]) | skip)
  have H':=Aside0.mk H
  clear H
  go_wp2
  go_meet
  case rel=>exact ⟨_,(true),(sh_),H',⟨by first | omega | exact Nat.le_refl _⟩,⟨bh_⟩⟩
 case rest =>
  clear HC4
  try clear p2
  try clear c4
  try clear c5
  try clear c5b0
  try clear c5b1
  obtain ⟨kq,x24_3,rfl,HA,HJ3,HB⟩:=hcut
  cases kq with
  | zero=>exact absurd HA.out (by simp [conv_to.j0])
  | succ kj3 =>
   have H:=HA.out
   clear HA
   simp only [conv_to.j0] at H
   by_cases c6 : x24_3 = true
   case pos =>
    subst c6
    have H1 : (some (0,16)) = some (r1,r2):=by rw [if_pos rfl] at H; exact H
    clear H
    have H:=H1
    clear H1
    simp only [Option.some.injEq,Prod.mk.injEq] at H
    obtain ⟨rfl,rfl⟩:=H
    go_wp2
    go_ret2
    exact ⟨eh_,bh_⟩
   replace c6:=Bool.eq_false_iff.mpr c6
   subst c6
   have H1 : ((conv_cut.f kj3 a0).bind fun bt178=>(if 0 ≤ (wrap64 (a1 - 1)) then (if bt178.2.2.2.2 = true then (if bt178.2.1 > (shl .u64 1 (wrap64 (a1 - 1))) then (conv_to.j1 kj3 ((a0 / 9223372036854775808) == 1) bt178.2.2.1 bt178.2.2.2.1 true bt178.1 bt178.2.1) else (if bt178.2.1 = (shl .u64 1 (wrap64 (a1 - 1))) then (conv_to.j1 kj3 ((a0 / 9223372036854775808) == 1) bt178.2.2.1 bt178.2.2.2.1 (!((a0 / 9223372036854775808) == 1)) bt178.1 bt178.2.1) else (conv_to.j1 kj3 ((a0 / 9223372036854775808) == 1) bt178.2.2.1 bt178.2.2.2.1 false bt178.1 bt178.2.1))) else (conv_to.j1 kj3 ((a0 / 9223372036854775808) == 1) bt178.2.2.1 bt178.2.2.2.1 true bt178.1 bt178.2.1)) else (none))) = some (r1,r2):=by rw [if_neg (show ¬ (false = true) by decide)] at H; exact H
   clear H
   have H:=H1
   clear H1
   replace H:=Option.bind_eq_some_iff.mp H
   obtain ⟨⟨t178,t179,t180,t181,t182⟩,A70,H⟩:=H
   replace H : (if 0 ≤ (wrap64 (a1 - 1)) then (if t182 = true then (if t179 > (shl .u64 1 (wrap64 (a1 - 1))) then (conv_to.j1 kj3 ((a0 / 9223372036854775808) == 1) t180 t181 true t178 t179) else (if t179 = (shl .u64 1 (wrap64 (a1 - 1))) then (conv_to.j1 kj3 ((a0 / 9223372036854775808) == 1) t180 t181 (!((a0 / 9223372036854775808) == 1)) t178 t179) else (conv_to.j1 kj3 ((a0 / 9223372036854775808) == 1) t180 t181 false t178 t179))) else (conv_to.j1 kj3 ((a0 / 9223372036854775808) == 1) t180 t181 true t178 t179)) else (none)) = some (r1,r2):=H
   have A7:=Aside0.mk A70
   clear A70
   obtain ⟨ji8,hji8⟩ : ∃ j_ : Int,(wrap64 (a1 - 1)) = j_:=⟨_,rfl⟩
   replace H : (if 0 ≤ (ji8) then (if t182 = true then (if t179 > (shl .u64 1 (ji8)) then (conv_to.j1 kj3 ((a0 / 9223372036854775808) == 1) t180 t181 true t178 t179) else (if t179 = (shl .u64 1 (ji8)) then (conv_to.j1 kj3 ((a0 / 9223372036854775808) == 1) t180 t181 (!((a0 / 9223372036854775808) == 1)) t178 t179) else (conv_to.j1 kj3 ((a0 / 9223372036854775808) == 1) t180 t181 false t178 t179))) else (conv_to.j1 kj3 ((a0 / 9223372036854775808) == 1) t180 t181 true t178 t179)) else (none)) = some (r1,r2):=by first | (rw [hji8] at H; exact H) | (simp only [hji8] at H ⊢; exact H)
   (try rw [hji8] at A7)
   have hji8w : (IntKind.i64.wrap (a1 - 1)) = ji8:=(i64_w _).trans hji8
   by_cases c9 : 0 ≤ (ji8)
   case neg =>
    rw [if_neg c9] at H
    exact absurd H (by simp)
   rw [if_pos c9] at H
   have c9b0:=eq_true c9
   have c9b1 : decide (0 ≤ (ji8)) = true:=decide_eq_true c9
   clear c9
   obtain ⟨ji10,hji10⟩ : ∃ j_ : Int,(shl .u64 1 (ji8)) = j_:=⟨_,rfl⟩
   replace H : (if t182 = true then (if t179 > (ji10) then (conv_to.j1 kj3 ((a0 / 9223372036854775808) == 1) t180 t181 true t178 t179) else (if t179 = (ji10) then (conv_to.j1 kj3 ((a0 / 9223372036854775808) == 1) t180 t181 (!((a0 / 9223372036854775808) == 1)) t178 t179) else (conv_to.j1 kj3 ((a0 / 9223372036854775808) == 1) t180 t181 false t178 t179))) else (conv_to.j1 kj3 ((a0 / 9223372036854775808) == 1) t180 t181 true t178 t179)) = some (r1,r2):=by first | (rw [hji10] at H; exact H) | (simp only [hji10] at H ⊢; exact H)
   (try rw [hji10] at A7)
   have hji10_ : (IntKind.u64.wrap (1 * 2 ^ min (ji8).toNat 64)) = ji10:=hji10
   have hji10z : (ji8) ≤ 64 → (IntKind.u64.wrap (1 * 2 ^ (ji8).toNat)) = ji10:=shl_small hji10
   have hji10u : (IntKind.u64.wrap (2 ^ min (ji8).toNat 64)) = ji10:=by have h_:=hji10_; rw [Int.one_mul] at h_; exact h_
   have hji10v : (ji8) ≤ 64 → (IntKind.u64.wrap (2 ^ (ji8).toNat)) = ji10:=fun hle_=>by have h_:=hji10z hle_; rw [Int.one_mul] at h_; exact h_
   have HC11:=Aside0.mk H
   clear H
   go_upto_region 7 with (first | ((with_reducible refine gc_ 52 rfl ?_); refine gM_ (some 27) Try.func52 [.int .u64 a0] ?_; (with_reducible refine (conv_cut.calls kj3 a0 t178 t179 t180 t181 t182 _ A7.out).mono ?_); rintro e w12 ⟨rfl,hb⟩; refine ⟨_,rfl,?_⟩; replace HB:=bq_ hb) | ((with_reducible refine gate_dst (N:=8) rfl ?_); refine box_event ?hg (N:=8) ?hd (cs:=#[.int .u64 0,.int .u64 0]) (t:=40) ?hr ?_; (case hd=>rfl); (case hg=>rfl); (case hr=>first | (go_simp; done) | (go_simp; rfl)); intro gb183 hg w13 hbox hb; have n0_:=bq_ hb; have n1_:=Aside0.mk (hbox); have n3_:=bz_ hg; clear HB; have HB:=n0_; have BK183:=n1_; have GE183:=n3_; clear n0_ n1_ n3_; clear hb hbox hg; have hcz14_0 : w13.cell? ⟨gb183,0,none⟩ = some (.int .u64 0):=bc_ BK183 0; have hcz14_1 : w13.cell? ⟨gb183,1,none⟩ = some (.int .u64 0):=bc_ BK183 1; have hfz14_0:=blk_frozen BK183.out 0; have hfz14_1:=blk_frozen BK183.out 1))
   (try simp only [Act.put,p1_,p2_,p3_])
   go_cut [52] (fun v52 wc=>∃ (kq : Nat) (x52_10 : Bool),v52 = .bool x52_10 ∧ Aside0 (conv_to.j1 kq ((a0 / 9223372036854775808) == 1) t180 t181 x52_10 t178 t179 = some (r1,r2)) ∧ Aside0 (kq ≤ kj3) ∧ Aside0 (wc.heap[gb183]? = some (.cells #[.int .u64 t178,.int .u64 t179] 40 (0,0))) ∧ Aside0 (Below w.heap.size w wc))
   case first =>
    have H:=HC11.out
    clear HC11
    by_cases c15 : t182 = true
    case neg =>
     replace c15:=Bool.eq_false_iff.mpr c15
     subst c15
     have H1 : (conv_to.j1 kj3 ((a0 / 9223372036854775808) == 1) t180 t181 true t178 t179) = some (r1,r2):=by rw [if_neg (show ¬ (false = true) by decide)] at H; exact H
     clear H
     have H:=H1
     clear H1
     have H':=Aside0.mk H
     clear H
     go_wp2
     go_meet
     case rel=>exact ⟨_,(true),(sh_),H',⟨by have:=HJ3.out; first | omega | exact Nat.le_refl _⟩,⟨by (with_reducible repeat (first | apply kn_ | apply kd_ | apply ka_)); refine blk_put (cs:=#[.int .u64 t178,.int .u64 0]) ?_ 1 _ rfl; (with_reducible repeat (first | apply kn_ | apply kd_ | apply ka_)); refine blk_put (cs:=#[.int .u64 0,.int .u64 0]) ?_ 0 _ rfl; (with_reducible repeat (first | apply kn_ | apply kd_ | apply ka_)); exact BK183.out⟩,⟨bh_⟩⟩
    subst c15
    have H1 : (if t179 > (ji10) then (conv_to.j1 kj3 ((a0 / 9223372036854775808) == 1) t180 t181 true t178 t179) else (if t179 = (ji10) then (conv_to.j1 kj3 ((a0 / 9223372036854775808) == 1) t180 t181 (!((a0 / 9223372036854775808) == 1)) t178 t179) else (conv_to.j1 kj3 ((a0 / 9223372036854775808) == 1) t180 t181 false t178 t179))) = some (r1,r2):=by rw [if_pos rfl] at H; exact H
    clear H
    have H:=H1
    clear H1
    by_cases c16 : t179 > (ji10)
    case pos =>
     rw [if_pos c16] at H
     have c16b0 : decide ((ji10) < t179) = true:=decide_eq_true c16
     clear c16
     (first | rw [c16b0] | (simp only [i64_w,i32_w]; rw [c16b0]) | skip)
     have H':=Aside0.mk H
     clear H
     have hcz17_0 : w13.cell? ⟨gb183,0,none⟩ = some (.int .u64 0):=bc_ BK183 0
     have hcz17_1 : w13.cell? ⟨gb183,1,none⟩ = some (.int .u64 0):=bc_ BK183 1
     go_wp2
     go_meet
     case rel=>exact ⟨_,(true),(sh_),H',⟨by have:=HJ3.out; first | omega | exact Nat.le_refl _⟩,⟨by (with_reducible repeat (first | apply kn_ | apply kd_ | apply ka_)); refine blk_put (cs:=#[.int .u64 t178,.int .u64 0]) ?_ 1 _ rfl; (with_reducible repeat (first | apply kn_ | apply kd_ | apply ka_)); refine blk_put (cs:=#[.int .u64 0,.int .u64 0]) ?_ 0 _ rfl; (with_reducible repeat (first | apply kn_ | apply kd_ | apply ka_)); exact BK183.out⟩,⟨bh_⟩⟩
    rw [if_neg c16] at H
    have c16b0 : decide ((ji10) < t179) = false:=decide_eq_false c16
    clear c16
    (first | rw [c16b0] | (simp only [i64_w,i32_w]; rw [c16b0]) | skip)
    by_cases c18 : t179 = (ji10)
    case neg =>
     rw [if_neg c18] at H
     have c18b0 : (t179 == (ji10)) = false:=beq_eq_false_iff_ne.mpr c18
     have c18b1 : (t179 != (ji10)) = true:=bne_iff_ne.mpr c18
     have H':=Aside0.mk H
     clear H
     have hcz20_0 : w13.cell? ⟨gb183,0,none⟩ = some (.int .u64 0):=bc_ BK183 0
     have hcz20_1 : w13.cell? ⟨gb183,1,none⟩ = some (.int .u64 0):=bc_ BK183 1
     go_wp2
     go_meet
     case rel=>exact ⟨_,(false),(sh_),H',⟨by have:=HJ3.out; first | omega | exact Nat.le_refl _⟩,⟨by (with_reducible repeat (first | apply kn_ | apply kd_ | apply ka_)); refine blk_put (cs:=#[.int .u64 t178,.int .u64 0]) ?_ 1 _ rfl; (with_reducible repeat (first | apply kn_ | apply kd_ | apply ka_)); refine blk_put (cs:=#[.int .u64 0,.int .u64 0]) ?_ 0 _ rfl; (with_reducible repeat (first | apply kn_ | apply kd_ | apply ka_)); exact BK183.out⟩,⟨bh_⟩⟩
    rw [if_pos c18] at H
    have c18b0 : (t179 == (ji10)) = true:=beq_iff_eq.mpr c18
    have c18b1 : (t179 != (ji10)) = false:=bne_eq_false_iff_eq.mpr c18
    clear c18
    have H':=Aside0.mk H
    clear H
    have hcz19_0 : w13.cell? ⟨gb183,0,none⟩ = some (.int .u64 0):=bc_ BK183 0
    have hcz19_1 : w13.cell? ⟨gb183,1,none⟩ = some (.int .u64 0):=bc_ BK183 1
    go_wp2
    go_meet
    case rel=>exact ⟨_,(!((a0 / 9223372036854775808) == 1)),(sh_),H',⟨by have:=HJ3.out; first | omega | exact Nat.le_refl _⟩,⟨by (with_reducible repeat (first | apply kn_ | apply kd_ | apply ka_)); refine blk_put (cs:=#[.int .u64 t178,.int .u64 0]) ?_ 1 _ rfl; (with_reducible repeat (first | apply kn_ | apply kd_ | apply ka_)); refine blk_put (cs:=#[.int .u64 0,.int .u64 0]) ?_ 0 _ rfl; (with_reducible repeat (first | apply kn_ | apply kd_ | apply ka_)); exact BK183.out⟩,⟨bh_⟩⟩
   case rest =>
    clear HC11
    try clear c1
    try clear p2
    try clear c4
    try clear c5
    try clear c5b0
    try clear c5b1
    try clear c6
    try clear p6
    try clear c9
    try clear c9b0
    try clear c9b1
    try clear c15
    try clear c16
    try clear c16b0
    try clear c18
    try clear c18b0
    try clear c18b1
    try clear hcz14_0
    try clear hcz14_1
    try clear hcz17_0
    try clear hcz17_1
    try clear hcz19_0
    try clear hcz19_1
    try clear hcz20_0
    try clear hcz20_1
    try clear hfz14_0
    try clear hfz14_1
    try clear p2
    obtain ⟨kq,x52_10,rfl,HA,HJ10,BK183,HB⟩:=hcut
    cases kq with
    | zero=>exact absurd HA.out (by simp [conv_to.j1])
    | succ kj10 =>
     have H:=HA.out
     clear HA
     simp only [conv_to.j1] at H
     by_cases c21 : x52_10 = true
     case pos =>
      subst c21
      have H1 : (some (0,16)) = some (r1,r2):=by rw [if_pos rfl] at H; exact H
      clear H
      have H:=H1
      clear H1
      simp only [Option.some.injEq,Prod.mk.injEq] at H
      obtain ⟨rfl,rfl⟩:=H
      go_wp2
      go_ret2
      exact ⟨by first | rfl | (simp [errW_none,errW_some] <;> rfl) | (simp only [← hji8,← hji10]; first | rfl | (simp [errW_none,errW_some] <;> rfl)) | (simp [*,errW_none,errW_some] <;> rfl),bh_⟩
     replace c21:=Bool.eq_false_iff.mpr c21
     subst c21
     have H1 : (if t180 = true then (conv_to.j2 kj10 ((a0 / 9223372036854775808) == 1) 0 true t178 t179) else (conv_to.j2 kj10 ((a0 / 9223372036854775808) == 1) 0 t181 t178 t179)) = some (r1,r2):=by rw [if_neg (show ¬ (false = true) by decide)] at H; exact H
     clear H
     have H:=H1
     clear H1
     have HC22:=Aside0.mk H
     clear H
     go_upto_region 10 with (fail)
     go_cut [56] (fun v56 wc=>∃ (kq : Nat) (x56_21 : Bool),v56 = .bool x56_21 ∧ Aside0 (conv_to.j2 kq ((a0 / 9223372036854775808) == 1) 0 x56_21 t178 t179 = some (r1,r2)) ∧ Aside0 (kq ≤ kj10) ∧ Aside0 (wc.heap[gb183]? = some (.cells #[.int .u64 t178,.int .u64 t179] 40 (0,0))) ∧ Aside0 (Below w.heap.size w wc))
     case first =>
      have H:=HC22.out
      clear HC22
      by_cases c23 : t180 = true
      case pos =>
       subst c23
       have H1 : (conv_to.j2 kj10 ((a0 / 9223372036854775808) == 1) 0 true t178 t179) = some (r1,r2):=by rw [if_pos rfl] at H; exact H
       clear H
       have H:=H1
       clear H1
       have H':=Aside0.mk H
       clear H
       go_wp2
       go_meet
       case rel=>exact ⟨_,(true),(sh_),H',⟨by have:=HJ3.out; have:=HJ10.out; first | omega | exact Nat.le_refl _⟩,⟨by (with_reducible repeat (first | apply kn_ | apply kd_ | apply ka_)); exact BK183.out⟩,⟨bh_⟩⟩
      replace c23:=Bool.eq_false_iff.mpr c23
      subst c23
      have H1 : (conv_to.j2 kj10 ((a0 / 9223372036854775808) == 1) 0 t181 t178 t179) = some (r1,r2):=by rw [if_neg (show ¬ (false = true) by decide)] at H; exact H
      clear H
      have H:=H1
      clear H1
      have H':=Aside0.mk H
      clear H
      go_wp2
      go_meet
      case rel=>exact ⟨_,(t181),(sh_),H',⟨by have:=HJ3.out; have:=HJ10.out; first | omega | exact Nat.le_refl _⟩,⟨by (with_reducible repeat (first | apply kn_ | apply kd_ | apply ka_)); exact BK183.out⟩,⟨bh_⟩⟩
     case rest =>
      clear HC22
      try clear c1
      try clear c2
      try clear p2
      try clear c4
      try clear c5
      try clear c5b0
      try clear c5b1
      try clear c6
      try clear p6
      try clear c9
      try clear c9b0
      try clear c9b1
      try clear c15
      try clear c16
      try clear c16b0
      try clear c18
      try clear c18b0
      try clear c18b1
      try clear c21
      try clear c23
      try clear hcz14_0
      try clear hcz14_1
      try clear hcz17_0
      try clear hcz17_1
      try clear hcz19_0
      try clear hcz19_1
      try clear hcz20_0
      try clear hcz20_1
      try clear hfz14_0
      try clear hfz14_1
      try clear p2
      try clear p6
      obtain ⟨kq,x56_21,rfl,HA,HJ21,BK183,HB⟩:=hcut
      cases kq with
      | zero=>exact absurd HA.out (by simp [conv_to.j2])
      | succ kj21 =>
       have H:=HA.out
       clear HA
       simp only [conv_to.j2] at H
       by_cases c24 : x56_21 = true
       case pos =>
        subst c24
        have H1 : (if ((a0 / 9223372036854775808) == 1) = true then (some (wrap64 (IntKind.u64.wrap (-t179)),1)) else (some (wrap64 (t179),1))) = some (r1,r2):=by rw [if_pos rfl] at H; exact H
        clear H
        have H:=H1
        clear H1
        by_cases c25 : ((a0 / 9223372036854775808) == 1) = true
        case pos =>
         rw [if_pos c25] at H
         have c25b0 : ((a0 / 9223372036854775808) == 1) = true:=c25
         (try (have c25b1 : decide ((a0 / 9223372036854775808) = 1) = true:=by simpa using c25))
         (try (have c25b2 : ((a0 / 9223372036854775808) == 1) = true:=by simpa using c25))
         clear c25
         simp only [Option.some.injEq,Prod.mk.injEq] at H
         obtain ⟨rfl,rfl⟩:=H
         have hcz26_0 : wc.cell? ⟨gb183,0,none⟩ = some (.int .u64 t178):=bc_ BK183 0
         have hcz26_1 : wc.cell? ⟨gb183,1,none⟩ = some (.int .u64 t179):=bc_ BK183 1
         go_wp2
         go_ret2
         exact ⟨by first | rfl | (simp [errW_none,errW_some] <;> rfl) | (simp only [← hji8,← hji10]; first | rfl | (simp [errW_none,errW_some] <;> rfl)) | (simp [*,errW_none,errW_some] <;> rfl),bh_⟩
        rw [if_neg c25] at H
        have c25b0 : ((a0 / 9223372036854775808) == 1) = false:=by simpa using c25
        (try (have c25b1 : decide ((a0 / 9223372036854775808) = 1) = false:=by simpa using c25))
        (try (have c25b2 : ((a0 / 9223372036854775808) == 1) = false:=by simpa using c25))
        (try (have c25b3 : ¬ ((a0 / 9223372036854775808) = 1):=by simpa using c25))
        clear c25
        simp only [Option.some.injEq,Prod.mk.injEq] at H
        obtain ⟨rfl,rfl⟩:=H
        have hcz27_0 : wc.cell? ⟨gb183,0,none⟩ = some (.int .u64 t178):=bc_ BK183 0
        have hcz27_1 : wc.cell? ⟨gb183,1,none⟩ = some (.int .u64 t179):=bc_ BK183 1
        go_wp2
        go_ret2
        exact ⟨by first | rfl | (simp [errW_none,errW_some] <;> rfl) | (simp only [← hji8,← hji10]; first | rfl | (simp [errW_none,errW_some] <;> rfl)) | (simp [*,errW_none,errW_some] <;> rfl),bh_⟩
       replace c24:=Bool.eq_false_iff.mpr c24
       subst c24
       have H1 : (if ((a0 / 9223372036854775808) == 1) = true then (some (wrap64 (IntKind.u64.wrap (-t179)),0)) else (some (wrap64 (t179),0))) = some (r1,r2):=by rw [if_neg (show ¬ (false = true) by decide)] at H; exact H
       clear H
       have H:=H1
       clear H1
       by_cases c28 : ((a0 / 9223372036854775808) == 1) = true
       case pos =>
        rw [if_pos c28] at H
        have c28b0 : ((a0 / 9223372036854775808) == 1) = true:=c28
        (try (have c28b1 : decide ((a0 / 9223372036854775808) = 1) = true:=by simpa using c28))
        (try (have c28b2 : ((a0 / 9223372036854775808) == 1) = true:=by simpa using c28))
        clear c28
        simp only [Option.some.injEq,Prod.mk.injEq] at H
        obtain ⟨rfl,rfl⟩:=H
        have hcz29_0 : wc.cell? ⟨gb183,0,none⟩ = some (.int .u64 t178):=bc_ BK183 0
        have hcz29_1 : wc.cell? ⟨gb183,1,none⟩ = some (.int .u64 t179):=bc_ BK183 1
        go_wp2
        go_ret2
        exact ⟨by first | rfl | (simp [errW_none,errW_some] <;> rfl) | (simp only [← hji8,← hji10]; first | rfl | (simp [errW_none,errW_some] <;> rfl)) | (simp [*,errW_none,errW_some] <;> rfl),bh_⟩
       rw [if_neg c28] at H
       have c28b0 : ((a0 / 9223372036854775808) == 1) = false:=by simpa using c28
       (try (have c28b1 : decide ((a0 / 9223372036854775808) = 1) = false:=by simpa using c28))
       (try (have c28b2 : ((a0 / 9223372036854775808) == 1) = false:=by simpa using c28))
       (try (have c28b3 : ¬ ((a0 / 9223372036854775808) = 1):=by simpa using c28))
       clear c28
       simp only [Option.some.injEq,Prod.mk.injEq] at H
       obtain ⟨rfl,rfl⟩:=H
       have hcz30_0 : wc.cell? ⟨gb183,0,none⟩ = some (.int .u64 t178):=bc_ BK183 0
       have hcz30_1 : wc.cell? ⟨gb183,1,none⟩ = some (.int .u64 t179):=bc_ BK183 1
       go_wp2
       go_ret2
       exact ⟨by first | rfl | (simp [errW_none,errW_some] <;> rfl) | (simp only [← hji8,← hji10]; first | rfl | (simp [errW_none,errW_some] <;> rfl)) | (simp [*,errW_none,errW_some] <;> rfl),bh_⟩

/-! ### conv_ToInt32: function 17 -/
def conv_ToInt32.f (k : Nat) (a0 : Int) : Option (Int × Int):=(conv_to.f k a0 32).bind fun bt184=>(some (wrap32 (bt184.1),bt184.2))
theorem conv_ToInt32.mono : ∀ a0 k,LeO (conv_ToInt32.f k a0) (conv_ToInt32.f (k + 1) a0):=by
 intro a0 k
 unfold conv_ToInt32.f
 repeat' with_reducible first | exact conv_to.mono _ _ _ | exact LeO.refl _ | exact LeO.none _ | refine LeO.ite ?_ ?_ | refine LeO.bind ?_ (fun _=>?_)
set_option maxHeartbeats 8000000 in
set_option maxRecDepth 100000 in
theorem conv_ToInt32.calls (k : Nat) (a0 : Int) (r1 : Int) (r2 : Int) (w : World) (h : conv_ToInt32.f k a0 = some (r1,r2)) :
  Calls Try.prog 17 #[.int .u64 a0] w fun e w'=>e = .returned (.tuple #[.int .i32 r1,.int .u8 r2]) ∧ Below w.heap.size w w':=by
 have HB:=Aside0.mk (Below.refl w.heap.size w)
 have H : ((conv_to.f k a0 32).bind fun bt184=>(some (wrap32 (bt184.1),bt184.2))) = some (r1,r2):=h
 clear h
 replace H:=Option.bind_eq_some_iff.mp H
 obtain ⟨⟨t184,t185⟩,A20,H⟩:=H
 replace H : (some (wrap32 (t184),t185)) = some (r1,r2):=H
 have A2:=Aside0.mk A20
 clear A20
 simp only [Option.some.injEq,Prod.mk.injEq] at H
 obtain ⟨rfl,rfl⟩:=H
 go_enter Try.func17,Try.ntmps17
 go_wp2_with (first | ((with_reducible refine gc_ 45 rfl ?_); refine gM_ (some 8) Try.func45 [.int .u64 a0,.int .i64 32] ?_; (with_reducible refine (conv_to.calls k a0 32 t184 t185 _ A2.out).mono ?_); rintro e w3 ⟨rfl,hb⟩; refine ⟨_,rfl,?_⟩; replace HB:=bq_ hb))
 go_ret2
 exact ⟨eh_,bh_⟩

/-! ### conv_ToInt64: function 19 -/
def conv_ToInt64.f (k : Nat) (a0 : Int) : Option (Int × Int):=(conv_to.f k a0 64).bind fun bt186=>(some (bt186.1,bt186.2))
theorem conv_ToInt64.mono : ∀ a0 k,LeO (conv_ToInt64.f k a0) (conv_ToInt64.f (k + 1) a0):=by
 intro a0 k
 unfold conv_ToInt64.f
 repeat' with_reducible first | exact conv_to.mono _ _ _ | exact LeO.refl _ | exact LeO.none _ | refine LeO.ite ?_ ?_ | refine LeO.bind ?_ (fun _=>?_)
set_option maxHeartbeats 8000000 in
set_option maxRecDepth 100000 in
theorem conv_ToInt64.calls (k : Nat) (a0 : Int) (r1 : Int) (r2 : Int) (w : World) (h : conv_ToInt64.f k a0 = some (r1,r2)) :
  Calls Try.prog 19 #[.int .u64 a0] w fun e w'=>e = .returned (.tuple #[.int .i64 r1,.int .u8 r2]) ∧ Below w.heap.size w w':=by
 have HB:=Aside0.mk (Below.refl w.heap.size w)
 have H : ((conv_to.f k a0 64).bind fun bt186=>(some (bt186.1,bt186.2))) = some (r1,r2):=h
 clear h
 replace H:=Option.bind_eq_some_iff.mp H
 obtain ⟨⟨t186,t187⟩,A20,H⟩:=H
 replace H : (some (t186,t187)) = some (r1,r2):=H
 have A2:=Aside0.mk A20
 clear A20
 simp only [Option.some.injEq,Prod.mk.injEq] at H
 obtain ⟨rfl,rfl⟩:=H
 go_enter Try.func19,Try.ntmps19
 go_wp2_with (first | ((with_reducible refine gc_ 45 rfl ?_); refine gM_ (some 5) Try.func45 [.int .u64 a0,.int .i64 64] ?_; (with_reducible refine (conv_to.calls k a0 64 t186 t187 _ A2.out).mono ?_); rintro e w3 ⟨rfl,hb⟩; refine ⟨_,rfl,?_⟩; replace HB:=bq_ hb))
 go_ret2
 exact ⟨eh_,bh_⟩

/-! ### conv_Whole: function 20 -/
mutual
def conv_Whole.j0 : Nat → Int → Bool → Bool → Bool → Bool → Int → Int → Option (Int × Int)
 | 0,_,_,_,_,_,_,_=>none
 | k + 1,x1,x8,x10,x11,x13,x198000,x198001=>if x10 = true then (if x11 = true then (conv_Whole.j1 k x1 x8 x13 true x198000 x198001) else (conv_Whole.j1 k x1 x8 x13 ((Go.bits .and .u64 x198001 1) == 1) x198000 x198001)) else (conv_Whole.j1 k x1 x8 x13 false x198000 x198001)
def conv_Whole.j1 : Nat → Int → Bool → Bool → Bool → Int → Int → Option (Int × Int)
 | 0,_,_,_,_,_,_=>none
 | k + 1,x1,x8,x13,x14,x198000,x198001=>if x1 = 1 then (if x13 = true then (conv_Whole.j2 k x8 x13 (!x8) x198000 x198001) else (conv_Whole.j2 k x8 x13 false x198000 x198001)) else (if x1 = 2 then (if x13 = true then (conv_Whole.j2 k x8 x13 x8 x198000 x198001) else (conv_Whole.j2 k x8 x13 false x198000 x198001)) else (conv_Whole.j2 k x8 x13 x14 x198000 x198001))
def conv_Whole.j2 : Nat → Bool → Bool → Bool → Int → Int → Option (Int × Int)
 | 0,_,_,_,_,_=>none
 | k + 1,x8,x13,x14,x198000,x198001=>if x14 = true then ((round_Round.f k x8 x198000 (IntKind.u64.wrap (x198001 + 1)) 0 false 0).bind fun bt198=>(if x13 = true then (some (bt198.1,1)) else (some (bt198.1,0)))) else ((round_Round.f k x8 x198000 x198001 0 false 0).bind fun bt200=>(if x13 = true then (some (bt200.1,1)) else (some (bt200.1,0))))
end
def conv_Whole.f (k : Nat) (a0 : Int) (a1 : Int) : Option (Int × Int):=(pattern_Class.f k a0).bind fun t188=>(if t188 = 4 then ((pattern_Quiet.f).bind fun t189=>(some (t189,0))) else (if t188 = 3 then (some (a0,0)) else ((pattern_Split.f k a0).bind fun bt190=>(if bt190.2 ≥ 0 then (some (a0,0)) else ((conv_cut.f k a0).bind fun bt192=>(if bt192.2.2.1 = true then (conv_Whole.j0 k a1 ((a0 / 9223372036854775808) == 1) bt192.2.2.1 bt192.2.2.2.1 true bt192.1 bt192.2.1) else (conv_Whole.j0 k a1 ((a0 / 9223372036854775808) == 1) bt192.2.2.1 bt192.2.2.2.1 bt192.2.2.2.1 bt192.1 bt192.2.1)))))))
theorem conv_Whole.mono_l : ∀ k,(∀ y0 y1 y2 y3 y4 y5 y6,LeO (conv_Whole.j0 k y0 y1 y2 y3 y4 y5 y6) (conv_Whole.j0 (k + 1) y0 y1 y2 y3 y4 y5 y6)) ∧ (∀ y0 y1 y2 y3 y4 y5,LeO (conv_Whole.j1 k y0 y1 y2 y3 y4 y5) (conv_Whole.j1 (k + 1) y0 y1 y2 y3 y4 y5)) ∧ (∀ y0 y1 y2 y3 y4,LeO (conv_Whole.j2 k y0 y1 y2 y3 y4) (conv_Whole.j2 (k + 1) y0 y1 y2 y3 y4))
 | 0=>⟨fun _ _ _ _ _ _ _ r h=>by simp [conv_Whole.j0] at h,fun _ _ _ _ _ _ r h=>by simp [conv_Whole.j1] at h,fun _ _ _ _ _ r h=>by simp [conv_Whole.j2] at h⟩
 | k + 1=>by
  obtain ⟨ih0,ih1,ih2⟩:=conv_Whole.mono_l k
  refine ⟨?_,?_,?_⟩
  ·
   intro y0 y1 y2 y3 y4 y5 y6
   unfold conv_Whole.j0
   repeat' with_reducible first | exact ih0 _ _ _ _ _ _ _ | exact ih1 _ _ _ _ _ _ | exact ih2 _ _ _ _ _ | exact conv_cut.mono _ _ | exact pattern_Class.mono _ _ | exact pattern_Split.mono _ _ | exact round_Round.mono _ _ _ _ _ _ _ | exact LeO.refl _ | exact LeO.none _ | refine LeO.ite ?_ ?_ | refine LeO.bind ?_ (fun _=>?_)
  ·
   intro y0 y1 y2 y3 y4 y5
   unfold conv_Whole.j1
   repeat' with_reducible first | exact ih0 _ _ _ _ _ _ _ | exact ih1 _ _ _ _ _ _ | exact ih2 _ _ _ _ _ | exact conv_cut.mono _ _ | exact pattern_Class.mono _ _ | exact pattern_Split.mono _ _ | exact round_Round.mono _ _ _ _ _ _ _ | exact LeO.refl _ | exact LeO.none _ | refine LeO.ite ?_ ?_ | refine LeO.bind ?_ (fun _=>?_)
  ·
   intro y0 y1 y2 y3 y4
   unfold conv_Whole.j2
   repeat' with_reducible first | exact ih0 _ _ _ _ _ _ _ | exact ih1 _ _ _ _ _ _ | exact ih2 _ _ _ _ _ | exact conv_cut.mono _ _ | exact pattern_Class.mono _ _ | exact pattern_Split.mono _ _ | exact round_Round.mono _ _ _ _ _ _ _ | exact LeO.refl _ | exact LeO.none _ | refine LeO.ite ?_ ?_ | refine LeO.bind ?_ (fun _=>?_)
theorem conv_Whole.mono : ∀ a0 a1 k,LeO (conv_Whole.f k a0 a1) (conv_Whole.f (k + 1) a0 a1):=by
 intro a0 a1 k
 obtain ⟨ih0,ih1,ih2⟩:=conv_Whole.mono_l k
 unfold conv_Whole.f
 repeat' with_reducible first | exact ih0 _ _ _ _ _ _ _ | exact ih1 _ _ _ _ _ _ | exact ih2 _ _ _ _ _ | exact conv_cut.mono _ _ | exact pattern_Class.mono _ _ | exact pattern_Split.mono _ _ | exact round_Round.mono _ _ _ _ _ _ _ | exact LeO.refl _ | exact LeO.none _ | refine LeO.ite ?_ ?_ | refine LeO.bind ?_ (fun _=>?_)
set_option maxHeartbeats 8000000 in
set_option maxRecDepth 100000 in
theorem conv_Whole.calls (k : Nat) (a0 : Int) (a1 : Int) (r1 : Int) (r2 : Int) (w : World) (h : conv_Whole.f k a0 a1 = some (r1,r2)) :
  Calls Try.prog 20 #[.int .u64 a0,.int .u8 a1] w fun e w'=>e = .returned (.tuple #[.int .u64 r1,.int .u8 r2]) ∧ Below w.heap.size w w':=by
 have hu40:=Try.underlying40
 have HB:=Aside0.mk (Below.refl w.heap.size w)
 have H : ((pattern_Class.f k a0).bind fun t188=>(if t188 = 4 then ((pattern_Quiet.f).bind fun t189=>(some (t189,0))) else (if t188 = 3 then (some (a0,0)) else ((pattern_Split.f k a0).bind fun bt190=>(if bt190.2 ≥ 0 then (some (a0,0)) else ((conv_cut.f k a0).bind fun bt192=>(if bt192.2.2.1 = true then (conv_Whole.j0 k a1 ((a0 / 9223372036854775808) == 1) bt192.2.2.1 bt192.2.2.2.1 true bt192.1 bt192.2.1) else (conv_Whole.j0 k a1 ((a0 / 9223372036854775808) == 1) bt192.2.2.1 bt192.2.2.2.1 bt192.2.2.2.1 bt192.1 bt192.2.1)))))))) = some (r1,r2):=h
 clear h
 replace H:=Option.bind_eq_some_iff.mp H
 obtain ⟨t188,A30,H⟩:=H
 replace H : (if t188 = 4 then ((pattern_Quiet.f).bind fun t189=>(some (t189,0))) else (if t188 = 3 then (some (a0,0)) else ((pattern_Split.f k a0).bind fun bt190=>(if bt190.2 ≥ 0 then (some (a0,0)) else ((conv_cut.f k a0).bind fun bt192=>(if bt192.2.2.1 = true then (conv_Whole.j0 k a1 ((a0 / 9223372036854775808) == 1) bt192.2.2.1 bt192.2.2.2.1 true bt192.1 bt192.2.1) else (conv_Whole.j0 k a1 ((a0 / 9223372036854775808) == 1) bt192.2.2.1 bt192.2.2.2.1 bt192.2.2.2.1 bt192.1 bt192.2.1))))))) = some (r1,r2):=H
 have A3:=Aside0.mk A30
 clear A30
 by_cases c4 : t188 = 4
 case pos =>
  rw [if_pos c4] at H
  have c4b0 : (t188 == 4) = true:=beq_iff_eq.mpr c4
  have c4b1 : (t188 != 4) = false:=bne_eq_false_iff_eq.mpr c4
  clear c4
  replace H:=Option.bind_eq_some_iff.mp H
  obtain ⟨t189,A50,H⟩:=H
  replace H : (some (t189,0)) = some (r1,r2):=H
  have A5:=Aside0.mk A50
  clear A50
  simp only [Option.some.injEq,Prod.mk.injEq] at H
  obtain ⟨rfl,rfl⟩:=H
  go_enter Try.func20,Try.ntmps20
  go_wp2_with (first | ((with_reducible refine gc_ 50 rfl ?_); refine gM_ (some 18) Try.func50 [.int .u64 a0] ?_; (with_reducible refine (pattern_Class.calls k a0 t188 _ A3.out).mono ?_); rintro e w' ⟨rfl,⟨nd,rfl⟩⟩; refine ⟨_,rfl,?_⟩) | ((with_reducible refine gc_ 32 rfl ?_); refine gM_ (some 21) Try.func32 [] ?_; (with_reducible refine (pattern_Quiet.calls  t189 _ A5.out).mono ?_); rintro e w' ⟨rfl,⟨nd,rfl⟩⟩; refine ⟨_,rfl,?_⟩))
  go_ret2
  exact ⟨eh_,bh_⟩
 rw [if_neg c4] at H
 have c4b0 : (t188 == 4) = false:=beq_eq_false_iff_ne.mpr c4
 have c4b1 : (t188 != 4) = true:=bne_iff_ne.mpr c4
 by_cases c6 : t188 = 3
 case pos =>
  rw [if_pos c6] at H
  have c6b0 : (t188 == 3) = true:=beq_iff_eq.mpr c6
  have c6b1 : (t188 != 3) = false:=bne_eq_false_iff_eq.mpr c6
  clear c6
  simp only [Option.some.injEq,Prod.mk.injEq] at H
  obtain ⟨rfl,rfl⟩:=H
  go_enter Try.func20,Try.ntmps20
  go_wp2_with (first | ((with_reducible refine gc_ 50 rfl ?_); refine gM_ (some 18) Try.func50 [.int .u64 a0] ?_; (with_reducible refine (pattern_Class.calls k a0 t188 _ A3.out).mono ?_); rintro e w' ⟨rfl,⟨nd,rfl⟩⟩; refine ⟨_,rfl,?_⟩))
  go_ret2
  exact ⟨eh_,bh_⟩
 rw [if_neg c6] at H
 have c6b0 : (t188 == 3) = false:=beq_eq_false_iff_ne.mpr c6
 have c6b1 : (t188 != 3) = true:=bne_iff_ne.mpr c6
 replace H:=Option.bind_eq_some_iff.mp H
 obtain ⟨⟨t190,t191⟩,A70,H⟩:=H
 replace H : (if t191 ≥ 0 then (some (a0,0)) else ((conv_cut.f k a0).bind fun bt192=>(if bt192.2.2.1 = true then (conv_Whole.j0 k a1 ((a0 / 9223372036854775808) == 1) bt192.2.2.1 bt192.2.2.2.1 true bt192.1 bt192.2.1) else (conv_Whole.j0 k a1 ((a0 / 9223372036854775808) == 1) bt192.2.2.1 bt192.2.2.2.1 bt192.2.2.2.1 bt192.1 bt192.2.1)))) = some (r1,r2):=H
 have A7:=Aside0.mk A70
 clear A70
 by_cases c8 : t191 ≥ 0
 case pos =>
  rw [if_pos c8] at H
  have c8b0 : decide (0 ≤ t191) = true:=decide_eq_true c8
  clear c8
  simp only [Option.some.injEq,Prod.mk.injEq] at H
  obtain ⟨rfl,rfl⟩:=H
  go_enter Try.func20,Try.ntmps20
  go_wp2_with (first | ((with_reducible refine gc_ 50 rfl ?_); refine gM_ (some 18) Try.func50 [.int .u64 a0] ?_; (with_reducible refine (pattern_Class.calls k a0 t188 _ A3.out).mono ?_); rintro e w' ⟨rfl,⟨nd,rfl⟩⟩; refine ⟨_,rfl,?_⟩) | ((with_reducible refine gc_ 51 rfl ?_); refine gM_ (some 27) Try.func51 [.int .u64 a0] ?_; (with_reducible refine (pattern_Split.calls k a0 t190 t191 _ A7.out).mono ?_); rintro e w' ⟨rfl,⟨nd,rfl⟩⟩; refine ⟨_,rfl,?_⟩))
  go_ret2
  exact ⟨eh_,bh_⟩
 rw [if_neg c8] at H
 have c8b0 : decide (0 ≤ t191) = false:=decide_eq_false c8
 clear c8
 replace H:=Option.bind_eq_some_iff.mp H
 obtain ⟨⟨t192,t193,t194,t195,t196⟩,A90,H⟩:=H
 replace H : (if t194 = true then (conv_Whole.j0 k a1 ((a0 / 9223372036854775808) == 1) t194 t195 true t192 t193) else (conv_Whole.j0 k a1 ((a0 / 9223372036854775808) == 1) t194 t195 t195 t192 t193)) = some (r1,r2):=H
 have A9:=Aside0.mk A90
 clear A90
 have HC10:=Aside0.mk H
 clear H
 go_enter Try.func20,Try.ntmps20
 go_upto_region 11 with (first | ((with_reducible refine gc_ 50 rfl ?_); refine gM_ (some 18) Try.func50 [.int .u64 a0] ?_; (with_reducible refine (pattern_Class.calls k a0 t188 _ A3.out).mono ?_); rintro e w' ⟨rfl,⟨nd,rfl⟩⟩; refine ⟨_,rfl,?_⟩) | ((with_reducible refine gc_ 51 rfl ?_); refine gM_ (some 27) Try.func51 [.int .u64 a0] ?_; (with_reducible refine (pattern_Split.calls k a0 t190 t191 _ A7.out).mono ?_); rintro e w' ⟨rfl,⟨nd,rfl⟩⟩; refine ⟨_,rfl,?_⟩) | ((with_reducible refine gc_ 52 rfl ?_); refine gM_ (some 38) Try.func52 [.int .u64 a0] ?_; (with_reducible refine (conv_cut.calls k a0 t192 t193 t194 t195 t196 _ A9.out).mono ?_); rintro e w11 ⟨rfl,hb⟩; refine ⟨_,rfl,?_⟩; replace HB:=bq_ hb) | ((with_reducible refine gate_dst (N:=9) rfl ?_); refine box_event ?hg (N:=9) ?hd (cs:=#[.int .u64 0,.int .u64 0]) (t:=40) ?hr ?_; (case hd=>rfl); (case hg=>rfl); (case hr=>first | (go_simp; done) | (go_simp; rfl)); intro gb197 hg w12 hbox hb; have n0_:=bq_ hb; have n1_:=Aside0.mk (hbox); have n3_:=bz_ hg; clear HB; have HB:=n0_; have BK197:=n1_; have GE197:=n3_; clear n0_ n1_ n3_; clear hb hbox hg; have hcz13_0 : w12.cell? ⟨gb197,0,none⟩ = some (.int .u64 0):=bc_ BK197 0; have hcz13_1 : w12.cell? ⟨gb197,1,none⟩ = some (.int .u64 0):=bc_ BK197 1; have hfz13_0:=blk_frozen BK197.out 0; have hfz13_1:=blk_frozen BK197.out 1))
 (try simp only [Act.put,p1_,p2_,p3_])
 go_cut [13] (fun v13 wc=>∃ (kq : Nat) (x13_9 : Bool),v13 = .bool x13_9 ∧ Aside0 (conv_Whole.j0 kq a1 ((a0 / 9223372036854775808) == 1) t194 t195 x13_9 t192 t193 = some (r1,r2)) ∧ Aside0 (kq ≤ k) ∧ Aside0 (wc.heap[gb197]? = some (.cells #[.int .u64 t192,.int .u64 t193] 40 (0,0))) ∧ Aside0 (Below w.heap.size w wc))
 case first =>
  have H:=HC10.out
  clear HC10
  by_cases c14 : t194 = true
  case pos =>
   subst c14
   have H1 : (conv_Whole.j0 k a1 ((a0 / 9223372036854775808) == 1) true t195 true t192 t193) = some (r1,r2):=by rw [if_pos rfl] at H; exact H
   clear H
   have H:=H1
   clear H1
   have H':=Aside0.mk H
   clear H
   go_wp2
   go_meet
   case rel=>exact ⟨_,(true),(sh_),H',⟨by first | omega | exact Nat.le_refl _⟩,⟨by (with_reducible repeat (first | apply kn_ | apply kd_ | apply ka_)); refine blk_put (cs:=#[.int .u64 t192,.int .u64 0]) ?_ 1 _ rfl; (with_reducible repeat (first | apply kn_ | apply kd_ | apply ka_)); refine blk_put (cs:=#[.int .u64 0,.int .u64 0]) ?_ 0 _ rfl; (with_reducible repeat (first | apply kn_ | apply kd_ | apply ka_)); exact BK197.out⟩,⟨bh_⟩⟩
  replace c14:=Bool.eq_false_iff.mpr c14
  subst c14
  have H1 : (conv_Whole.j0 k a1 ((a0 / 9223372036854775808) == 1) false t195 t195 t192 t193) = some (r1,r2):=by rw [if_neg (show ¬ (false = true) by decide)] at H; exact H
  clear H
  have H:=H1
  clear H1
  have H':=Aside0.mk H
  clear H
  go_wp2
  go_meet
  case rel=>exact ⟨_,(t195),(sh_),H',⟨by first | omega | exact Nat.le_refl _⟩,⟨by (with_reducible repeat (first | apply kn_ | apply kd_ | apply ka_)); refine blk_put (cs:=#[.int .u64 t192,.int .u64 0]) ?_ 1 _ rfl; (with_reducible repeat (first | apply kn_ | apply kd_ | apply ka_)); refine blk_put (cs:=#[.int .u64 0,.int .u64 0]) ?_ 0 _ rfl; (with_reducible repeat (first | apply kn_ | apply kd_ | apply ka_)); exact BK197.out⟩,⟨bh_⟩⟩
 case rest =>
  clear HC10
  try clear c1
  try clear c2
  try clear p2
  try clear c3
  try clear c4
  try clear c4b0
  try clear c4b1
  try clear c5
  try clear c6
  try clear c6b0
  try clear c6b1
  try clear c8
  try clear c8b0
  try clear c14
  try clear hcz13_0
  try clear hcz13_1
  try clear hfz13_0
  try clear hfz13_1
  obtain ⟨kq,x13_9,rfl,HA,HJ9,BK197,HB⟩:=hcut
  cases kq with
  | zero=>exact absurd HA.out (by simp [conv_Whole.j0])
  | succ kj9 =>
   have H:=HA.out
   clear HA
   simp only [conv_Whole.j0] at H
   have HC15:=Aside0.mk H
   clear H
   go_upto_region 12 with (fail)
   go_cut [14] (fun v14 wc=>∃ (kq : Nat) (x14_14 : Bool),v14 = .bool x14_14 ∧ Aside0 (conv_Whole.j1 kq a1 ((a0 / 9223372036854775808) == 1) x13_9 x14_14 t192 t193 = some (r1,r2)) ∧ Aside0 (kq ≤ kj9) ∧ Aside0 (wc.heap[gb197]? = some (.cells #[.int .u64 t192,.int .u64 t193] 40 (0,0))) ∧ Aside0 (Below w.heap.size w wc))
   case first =>
    have H:=HC15.out
    clear HC15
    by_cases c16 : t194 = true
    case neg =>
     replace c16:=Bool.eq_false_iff.mpr c16
     subst c16
     have H1 : (conv_Whole.j1 kj9 a1 ((a0 / 9223372036854775808) == 1) x13_9 false t192 t193) = some (r1,r2):=by rw [if_neg (show ¬ (false = true) by decide)] at H; exact H
     clear H
     have H:=H1
     clear H1
     have H':=Aside0.mk H
     clear H
     go_wp2
     go_meet
     case rel=>exact ⟨_,(false),(sh_),H',⟨by have:=HJ9.out; first | omega | exact Nat.le_refl _⟩,⟨by (with_reducible repeat (first | apply kn_ | apply kd_ | apply ka_)); exact BK197.out⟩,⟨bh_⟩⟩
    subst c16
    have H1 : (if t195 = true then (conv_Whole.j1 kj9 a1 ((a0 / 9223372036854775808) == 1) x13_9 true t192 t193) else (conv_Whole.j1 kj9 a1 ((a0 / 9223372036854775808) == 1) x13_9 ((Go.bits .and .u64 t193 1) == 1) t192 t193)) = some (r1,r2):=by rw [if_pos rfl] at H; exact H
    clear H
    have H:=H1
    clear H1
    by_cases c17 : t195 = true
    case pos =>
     subst c17
     have H1 : (conv_Whole.j1 kj9 a1 ((a0 / 9223372036854775808) == 1) x13_9 true t192 t193) = some (r1,r2):=by rw [if_pos rfl] at H; exact H
     clear H
     have H:=H1
     clear H1
     have H':=Aside0.mk H
     clear H
     go_wp2
     go_meet
     case rel=>exact ⟨_,(true),(sh_),H',⟨by have:=HJ9.out; first | omega | exact Nat.le_refl _⟩,⟨by (with_reducible repeat (first | apply kn_ | apply kd_ | apply ka_)); exact BK197.out⟩,⟨bh_⟩⟩
    replace c17:=Bool.eq_false_iff.mpr c17
    subst c17
    have H1 : (conv_Whole.j1 kj9 a1 ((a0 / 9223372036854775808) == 1) x13_9 ((Go.bits .and .u64 t193 1) == 1) t192 t193) = some (r1,r2):=by rw [if_neg (show ¬ (false = true) by decide)] at H; exact H
    clear H
    have H:=H1
    clear H1
    have H':=Aside0.mk H
    clear H
    have hcz18_0 : wc.cell? ⟨gb197,0,none⟩ = some (.int .u64 t192):=bc_ BK197 0
    have hcz18_1 : wc.cell? ⟨gb197,1,none⟩ = some (.int .u64 t193):=bc_ BK197 1
    have hfz18_0:=blk_frozen BK197.out 0
    have hfz18_1:=blk_frozen BK197.out 1
    go_wp2
    go_meet
    case rel=>exact ⟨_,(((Go.bits .and .u64 t193 1) == 1)),(sh_),H',⟨by have:=HJ9.out; first | omega | exact Nat.le_refl _⟩,⟨by (with_reducible repeat (first | apply kn_ | apply kd_ | apply ka_)); exact BK197.out⟩,⟨bh_⟩⟩
   case rest =>
    clear HC15
    try clear c1
    try clear c2
    try clear p2
    try clear c3
    try clear c4
    try clear c4b0
    try clear c4b1
    try clear c5
    try clear c6
    try clear c6b0
    try clear c6b1
    try clear c8
    try clear c8b0
    try clear c14
    try clear c16
    try clear c17
    try clear hcz13_0
    try clear hcz13_1
    try clear hcz18_0
    try clear hcz18_1
    try clear hfz13_0
    try clear hfz13_1
    try clear hfz18_0
    try clear hfz18_1
    try clear p2
    obtain ⟨kq,x14_14,rfl,HA,HJ14,BK197,HB⟩:=hcut
    cases kq with
    | zero=>exact absurd HA.out (by simp [conv_Whole.j1])
    | succ kj14 =>
     have H:=HA.out
     clear HA
     simp only [conv_Whole.j1] at H
     have HC19:=Aside0.mk H
     clear H
     go_upto_block 1 with (fail)
     go_cut [14] (fun v14 wc=>∃ (kq : Nat) (x14_18 : Bool),v14 = .bool x14_18 ∧ Aside0 (conv_Whole.j2 kq ((a0 / 9223372036854775808) == 1) x13_9 x14_18 t192 t193 = some (r1,r2)) ∧ Aside0 (kq ≤ kj14) ∧ Aside0 (wc.heap[gb197]? = some (.cells #[.int .u64 t192,.int .u64 t193] 40 (0,0))) ∧ Aside0 (Below w.heap.size w wc))
     case first =>
      have H:=HC19.out
      clear HC19
      by_cases c20 : a1 = 1
      case pos =>
       rw [if_pos c20] at H
       have c20b0 : (a1 == 1) = true:=beq_iff_eq.mpr c20
       have c20b1 : (a1 != 1) = false:=bne_eq_false_iff_eq.mpr c20
       clear c20
       (first | rw [c20b0] | (simp only [i64_w,i32_w]; rw [c20b0]) | skip)
       by_cases c21 : x13_9 = true
       case pos =>
        subst c21
        have H1 : (conv_Whole.j2 kj14 ((a0 / 9223372036854775808) == 1) true (!((a0 / 9223372036854775808) == 1)) t192 t193) = some (r1,r2):=by rw [if_pos rfl] at H; exact H
        clear H
        have H:=H1
        clear H1
        have H':=Aside0.mk H
        clear H
        go_wp2
        go_meet
        case rel=>exact ⟨_,(!((a0 / 9223372036854775808) == 1)),(sh_),H',⟨by have:=HJ9.out; have:=HJ14.out; first | omega | exact Nat.le_refl _⟩,⟨by (with_reducible repeat (first | apply kn_ | apply kd_ | apply ka_)); exact BK197.out⟩,⟨bh_⟩⟩
       replace c21:=Bool.eq_false_iff.mpr c21
       subst c21
       have H1 : (conv_Whole.j2 kj14 ((a0 / 9223372036854775808) == 1) false false t192 t193) = some (r1,r2):=by rw [if_neg (show ¬ (false = true) by decide)] at H; exact H
       clear H
       have H:=H1
       clear H1
       have H':=Aside0.mk H
       clear H
       go_wp2
       go_meet
       case rel=>exact ⟨_,(false),(sh_),H',⟨by have:=HJ9.out; have:=HJ14.out; first | omega | exact Nat.le_refl _⟩,⟨by (with_reducible repeat (first | apply kn_ | apply kd_ | apply ka_)); exact BK197.out⟩,⟨bh_⟩⟩
      rw [if_neg c20] at H
      have c20b0 : (a1 == 1) = false:=beq_eq_false_iff_ne.mpr c20
      have c20b1 : (a1 != 1) = true:=bne_iff_ne.mpr c20
      (first | rw [c20b0] | (simp only [i64_w,i32_w]; rw [c20b0]) | skip)
      by_cases c22 : a1 = 2
      case neg =>
       rw [if_neg c22] at H
       have c22b0 : (a1 == 2) = false:=beq_eq_false_iff_ne.mpr c22
       have c22b1 : (a1 != 2) = true:=bne_iff_ne.mpr c22
       have H':=Aside0.mk H
       clear H
       go_wp2
       go_meet
       case rel=>exact ⟨_,(x14_14),(sh_),H',⟨by have:=HJ9.out; have:=HJ14.out; first | omega | exact Nat.le_refl _⟩,⟨by (with_reducible repeat (first | apply kn_ | apply kd_ | apply ka_)); exact BK197.out⟩,⟨bh_⟩⟩
      rw [if_pos c22] at H
      have c22b0 : (a1 == 2) = true:=beq_iff_eq.mpr c22
      have c22b1 : (a1 != 2) = false:=bne_eq_false_iff_eq.mpr c22
      clear c22
      by_cases c23 : x13_9 = true
      case pos =>
       subst c23
       have H1 : (conv_Whole.j2 kj14 ((a0 / 9223372036854775808) == 1) true ((a0 / 9223372036854775808) == 1) t192 t193) = some (r1,r2):=by rw [if_pos rfl] at H; exact H
       clear H
       have H:=H1
       clear H1
       have H':=Aside0.mk H
       clear H
       go_wp2
       go_meet
       case rel=>exact ⟨_,(((a0 / 9223372036854775808) == 1)),(sh_),H',⟨by have:=HJ9.out; have:=HJ14.out; first | omega | exact Nat.le_refl _⟩,⟨by (with_reducible repeat (first | apply kn_ | apply kd_ | apply ka_)); exact BK197.out⟩,⟨bh_⟩⟩
      replace c23:=Bool.eq_false_iff.mpr c23
      subst c23
      have H1 : (conv_Whole.j2 kj14 ((a0 / 9223372036854775808) == 1) false false t192 t193) = some (r1,r2):=by rw [if_neg (show ¬ (false = true) by decide)] at H; exact H
      clear H
      have H:=H1
      clear H1
      have H':=Aside0.mk H
      clear H
      go_wp2
      go_meet
      case rel=>exact ⟨_,(false),(sh_),H',⟨by have:=HJ9.out; have:=HJ14.out; first | omega | exact Nat.le_refl _⟩,⟨by (with_reducible repeat (first | apply kn_ | apply kd_ | apply ka_)); exact BK197.out⟩,⟨bh_⟩⟩
     case rest =>
      clear HC19
      try clear c1
      try clear c2
      try clear p2
      try clear c3
      try clear c4
      try clear c4b0
      try clear c4b1
      try clear c5
      try clear c6
      try clear c6b0
      try clear c6b1
      try clear c8
      try clear c8b0
      try clear c14
      try clear c16
      try clear c17
      try clear c20
      try clear c20b0
      try clear c20b1
      try clear c21
      try clear c22
      try clear c22b0
      try clear c22b1
      try clear c23
      try clear hcz13_0
      try clear hcz13_1
      try clear hcz18_0
      try clear hcz18_1
      try clear hfz13_0
      try clear hfz13_1
      try clear hfz18_0
      try clear hfz18_1
      try clear p2
      obtain ⟨kq,x14_18,rfl,HA,HJ18,BK197,HB⟩:=hcut
      cases kq with
      | zero=>exact absurd HA.out (by simp [conv_Whole.j2])
      | succ kj18 =>
       have H:=HA.out
       clear HA
       simp only [conv_Whole.j2] at H
       by_cases c24 : x14_18 = true
       case neg =>
        replace c24:=Bool.eq_false_iff.mpr c24
        subst c24
        have H1 : ((round_Round.f kj18 ((a0 / 9223372036854775808) == 1) t192 t193 0 false 0).bind fun bt200=>(if x13_9 = true then (some (bt200.1,1)) else (some (bt200.1,0)))) = some (r1,r2):=by rw [if_neg (show ¬ (false = true) by decide)] at H; exact H
        clear H
        have H:=H1
        clear H1
        replace H:=Option.bind_eq_some_iff.mp H
        obtain ⟨⟨t200,t201⟩,A310,H⟩:=H
        replace H : (if x13_9 = true then (some (t200,1)) else (some (t200,0))) = some (r1,r2):=H
        have A31:=Aside0.mk A310
        clear A310
        by_cases c32 : x13_9 = true
        case neg =>
         replace c32:=Bool.eq_false_iff.mpr c32
         subst c32
         have H1 : (some (t200,0)) = some (r1,r2):=by rw [if_neg (show ¬ (false = true) by decide)] at H; exact H
         clear H
         have H:=H1
         clear H1
         simp only [Option.some.injEq,Prod.mk.injEq] at H
         obtain ⟨rfl,rfl⟩:=H
         have hcz35_0 : wc.cell? ⟨gb197,0,none⟩ = some (.int .u64 t192):=bc_ BK197 0
         have hcz35_1 : wc.cell? ⟨gb197,1,none⟩ = some (.int .u64 t193):=bc_ BK197 1
         have hfz35_0:=blk_frozen BK197.out 0
         have hfz35_1:=blk_frozen BK197.out 1
         go_wp2_with (first | ((with_reducible refine gc_ 23 rfl ?_); refine gM_ (some 79) Try.func23 [.bool ((a0 / 9223372036854775808) == 1),.agg #[.int .u64 t192,.int .u64 t193],.int .i64 0,.bool false,.int .u8 0] ?_; (with_reducible refine (round_Round.calls kj18 ((a0 / 9223372036854775808) == 1) t192 t193 0 false 0 t200 t201 _ A31.out).mono ?_); rintro e w36 ⟨rfl,hb⟩; refine ⟨_,rfl,?_⟩; replace HB:=bq_ hb))
         go_ret2
         exact ⟨eh_,bh_⟩
        subst c32
        have H1 : (some (t200,1)) = some (r1,r2):=by rw [if_pos rfl] at H; exact H
        clear H
        have H:=H1
        clear H1
        simp only [Option.some.injEq,Prod.mk.injEq] at H
        obtain ⟨rfl,rfl⟩:=H
        have hcz33_0 : wc.cell? ⟨gb197,0,none⟩ = some (.int .u64 t192):=bc_ BK197 0
        have hcz33_1 : wc.cell? ⟨gb197,1,none⟩ = some (.int .u64 t193):=bc_ BK197 1
        have hfz33_0:=blk_frozen BK197.out 0
        have hfz33_1:=blk_frozen BK197.out 1
        go_wp2_with (first | ((with_reducible refine gc_ 23 rfl ?_); refine gM_ (some 79) Try.func23 [.bool ((a0 / 9223372036854775808) == 1),.agg #[.int .u64 t192,.int .u64 t193],.int .i64 0,.bool false,.int .u8 0] ?_; (with_reducible refine (round_Round.calls kj18 ((a0 / 9223372036854775808) == 1) t192 t193 0 false 0 t200 t201 _ A31.out).mono ?_); rintro e w34 ⟨rfl,hb⟩; refine ⟨_,rfl,?_⟩; replace BK197:=kb_ BK197 hb; replace HB:=bq_ hb))
        go_ret2
        exact ⟨eh_,bh_⟩
       subst c24
       have H1 : ((round_Round.f kj18 ((a0 / 9223372036854775808) == 1) t192 (IntKind.u64.wrap (t193 + 1)) 0 false 0).bind fun bt198=>(if x13_9 = true then (some (bt198.1,1)) else (some (bt198.1,0)))) = some (r1,r2):=by rw [if_pos rfl] at H; exact H
       clear H
       have H:=H1
       clear H1
       replace H:=Option.bind_eq_some_iff.mp H
       obtain ⟨⟨t198,t199⟩,A250,H⟩:=H
       replace H : (if x13_9 = true then (some (t198,1)) else (some (t198,0))) = some (r1,r2):=H
       have A25:=Aside0.mk A250
       clear A250
       by_cases c26 : x13_9 = true
       case pos =>
        subst c26
        have H1 : (some (t198,1)) = some (r1,r2):=by rw [if_pos rfl] at H; exact H
        clear H
        have H:=H1
        clear H1
        simp only [Option.some.injEq,Prod.mk.injEq] at H
        obtain ⟨rfl,rfl⟩:=H
        have hcz27_0 : wc.cell? ⟨gb197,0,none⟩ = some (.int .u64 t192):=bc_ BK197 0
        have hcz27_1 : wc.cell? ⟨gb197,1,none⟩ = some (.int .u64 t193):=bc_ BK197 1
        have hfz27_0:=blk_frozen BK197.out 0
        have hfz27_1:=blk_frozen BK197.out 1
        go_wp2_with (first | ((with_reducible refine gc_ 23 rfl ?_); refine gM_ (some 79) Try.func23 [.bool ((a0 / 9223372036854775808) == 1),.agg #[.int .u64 t192,.int .u64 (IntKind.u64.wrap (t193 + 1))],.int .i64 0,.bool false,.int .u8 0] ?_; (with_reducible refine (round_Round.calls kj18 ((a0 / 9223372036854775808) == 1) t192 (IntKind.u64.wrap (t193 + 1)) 0 false 0 t198 t199 _ A25.out).mono ?_); rintro e w28 ⟨rfl,hb⟩; refine ⟨_,rfl,?_⟩; replace BK197:=Aside0.mk (blk_below (g:=gb197) (o:=.cells #[.int .u64 t192,.int .u64 (IntKind.u64.wrap (t193 + 1))] 40 (0,0)) (by (with_reducible repeat (first | apply kn_ | apply kd_ | apply ka_)); refine blk_put (cs:=#[.int .u64 t192,.int .u64 t193]) ?_ 1 _ rfl; (with_reducible repeat (first | apply kn_ | apply kd_ | apply ka_)); exact BK197.out) hb); replace HB:=bq_ hb))
        go_ret2
        exact ⟨eh_,bh_⟩
       replace c26:=Bool.eq_false_iff.mpr c26
       subst c26
       have H1 : (some (t198,0)) = some (r1,r2):=by rw [if_neg (show ¬ (false = true) by decide)] at H; exact H
       clear H
       have H:=H1
       clear H1
       simp only [Option.some.injEq,Prod.mk.injEq] at H
       obtain ⟨rfl,rfl⟩:=H
       have hcz29_0 : wc.cell? ⟨gb197,0,none⟩ = some (.int .u64 t192):=bc_ BK197 0
       have hcz29_1 : wc.cell? ⟨gb197,1,none⟩ = some (.int .u64 t193):=bc_ BK197 1
       have hfz29_0:=blk_frozen BK197.out 0
       have hfz29_1:=blk_frozen BK197.out 1
       go_wp2_with (first | ((with_reducible refine gc_ 23 rfl ?_); refine gM_ (some 79) Try.func23 [.bool ((a0 / 9223372036854775808) == 1),.agg #[.int .u64 t192,.int .u64 (IntKind.u64.wrap (t193 + 1))],.int .i64 0,.bool false,.int .u8 0] ?_; (with_reducible refine (round_Round.calls kj18 ((a0 / 9223372036854775808) == 1) t192 (IntKind.u64.wrap (t193 + 1)) 0 false 0 t198 t199 _ A25.out).mono ?_); rintro e w30 ⟨rfl,hb⟩; refine ⟨_,rfl,?_⟩; replace BK197:=Aside0.mk (blk_below (g:=gb197) (o:=.cells #[.int .u64 t192,.int .u64 (IntKind.u64.wrap (t193 + 1))] 40 (0,0)) (by (with_reducible repeat (first | apply kn_ | apply kd_ | apply ka_)); refine blk_put (cs:=#[.int .u64 t192,.int .u64 t193]) ?_ 1 _ rfl; (with_reducible repeat (first | apply kn_ | apply kd_ | apply ka_)); exact BK197.out) hb); replace HB:=bq_ hb))
       go_ret2
       exact ⟨eh_,bh_⟩

end Go.Proofs.Ytfglpaaeipblcaa.P
