/- Walks of one package: what each function returns, wherever the Lean function beside it has an answer. -/
import Derived.Test.YtfglpaaeipblcaaP0
import Derived.Test.YtfglpaaeipblcaaPConv1
import Derived.Test.YtfglpaaeipblcaaPFlyballlaw071
import Derived.Test.YtfglpaaeipblcaaPRatio1
import Derived.Test.YtfglpaaeipblcaaPPattern2
namespace Go.Proofs.Ytfglpaaeipblcaa.P
open Go.RowKit Go.Proofs.YtfglpaaeipblcaaW.PrintWords Go.Proofs.YtfglpaaeipblcaaW.PrintLast Go.Proofs.YtfglpaaeipblcaaW.PrintMore
attribute [local go_sem] max2_int min2_int max_two min_two max_three min_three max_four min_four   -- for this text's walks alone
set_option linter.unusedVariables false
set_option linter.unusedSimpArgs false

/-! ### flyballlaw07_ConvNear: function 13 -/
def flyballlaw07_ConvNear.j0 : Nat → Int → Int → Bool → Bool → List Int → List Int → Bool → List Int → List Int → Option (Bool)
 | 0,_,_,_,_,_,_,_,_,_=>none
 | k + 1,x0,x1,x5,x589000,x589001,x589002,x597000,x597001,x597002=>(conv_Whole.f k x0 x1).bind fun bt638=>((pattern_Value.f k bt638.1).bind fun bt640=>(if bt640.2.2.2 = true then ((ratio_R_Sub.f k bt640.1 bt640.2.1 bt640.2.2.1 x589000 x589001 x589002).bind fun bt649=>((ratio_R_Abs.f k bt649.1 bt649.2.1 bt649.2.2).bind fun bt656=>((ratio_R_Cmp.f k bt656.1 bt656.2.1 bt656.2.2 x597000 x597001 x597002).bind fun t663=>(if t663 ≥ 0 then (some false) else ((ratio_R_Cmp.f k bt640.1 bt640.2.1 bt640.2.2.1 x589000 x589001 x589002).bind fun t664=>(if ((bt638.2 == 1) != (t664 != 0)) = true then (some false) else ((ratio_R_Cmp.f k bt640.1 bt640.2.1 bt640.2.2.1 x589000 x589001 x589002).bind fun t665=>(if x5 = true then (if x1 = 1 then (if t665 ≥ 0 then (if x1 = 2 then (some (decide (t665 ≤ 0))) else (some true)) else (some false)) else (if x1 = 2 then (some (decide (t665 ≤ 0))) else (some true))) else (some false))))))))) else (some false)))
def flyballlaw07_ConvNear.f (k : Nat) (a0 : Int) (a1 : Int) : Option (Bool):=(flyballlaw07_works.f k).bind fun t579=>(if t579 = true then ((pattern_Value.f k a0).bind fun bt580=>(if bt580.2.2.2 = true then ((ratio_Int.f k 1).bind fun bt589=>((conv_ToInt64.f k a0).bind fun bt597=>(if bt597.2 = 16 then (flyballlaw07_ConvNear.j0 k a0 a1 t579 bt580.1 bt580.2.1 bt580.2.2.1 bt589.1 bt589.2.1 bt589.2.2) else ((ratio_Int.f k bt597.1).bind fun bt599=>((ratio_R_Sub.f k bt599.1 bt599.2.1 bt599.2.2 bt580.1 bt580.2.1 bt580.2.2.1).bind fun bt607=>((ratio_R_Abs.f k bt607.1 bt607.2.1 bt607.2.2).bind fun bt614=>((ratio_R_Cmp.f k bt614.1 bt614.2.1 bt614.2.2 bt589.1 bt589.2.1 bt589.2.2).bind fun t621=>(if t621 ≥ 0 then (some false) else ((ratio_R_Abs.f k bt599.1 bt599.2.1 bt599.2.2).bind fun bt622=>((ratio_R_Abs.f k bt580.1 bt580.2.1 bt580.2.2.1).bind fun bt629=>((ratio_R_Cmp.f k bt622.1 bt622.2.1 bt622.2.2 bt629.1 bt629.2.1 bt629.2.2).bind fun t636=>(if t636 > 0 then (some false) else ((ratio_R_Cmp.f k bt599.1 bt599.2.1 bt599.2.2 bt580.1 bt580.2.1 bt580.2.2.1).bind fun t637=>(if ((bt597.2 == 1) != (t637 != 0)) = true then (some false) else (flyballlaw07_ConvNear.j0 k a0 a1 t579 bt580.1 bt580.2.1 bt580.2.2.1 bt589.1 bt589.2.1 bt589.2.2))))))))))))))) else (some t579))) else (some false))
theorem flyballlaw07_ConvNear.mono_l : ∀ k,(∀ y0 y1 y2 y3 y4 y5 y6 y7 y8,LeO (flyballlaw07_ConvNear.j0 k y0 y1 y2 y3 y4 y5 y6 y7 y8) (flyballlaw07_ConvNear.j0 (k + 1) y0 y1 y2 y3 y4 y5 y6 y7 y8))
 | 0=>fun _ _ _ _ _ _ _ _ _ r h=>by simp [flyballlaw07_ConvNear.j0] at h
 | k + 1=>by
  have ih0:=flyballlaw07_ConvNear.mono_l k
  ·
   intro y0 y1 y2 y3 y4 y5 y6 y7 y8
   unfold flyballlaw07_ConvNear.j0
   repeat' with_reducible first | exact ih0 _ _ _ _ _ _ _ _ _ | exact conv_ToInt64.mono _ _ | exact conv_Whole.mono _ _ _ | exact flyballlaw07_works.mono _ | exact pattern_Value.mono _ _ | exact ratio_Int.mono _ _ | exact ratio_R_Abs.mono _ _ _ _ | exact ratio_R_Cmp.mono _ _ _ _ _ _ _ | exact ratio_R_Sub.mono _ _ _ _ _ _ _ | exact LeO.refl _ | exact LeO.none _ | refine LeO.ite ?_ ?_ | refine LeO.bind ?_ (fun _=>?_)
theorem flyballlaw07_ConvNear.mono : ∀ a0 a1 k,LeO (flyballlaw07_ConvNear.f k a0 a1) (flyballlaw07_ConvNear.f (k + 1) a0 a1):=by
 intro a0 a1 k
 have ih0:=flyballlaw07_ConvNear.mono_l k
 unfold flyballlaw07_ConvNear.f
 repeat' with_reducible first | exact ih0 _ _ _ _ _ _ _ _ _ | exact conv_ToInt64.mono _ _ | exact conv_Whole.mono _ _ _ | exact flyballlaw07_works.mono _ | exact pattern_Value.mono _ _ | exact ratio_Int.mono _ _ | exact ratio_R_Abs.mono _ _ _ _ | exact ratio_R_Cmp.mono _ _ _ _ _ _ _ | exact ratio_R_Sub.mono _ _ _ _ _ _ _ | exact LeO.refl _ | exact LeO.none _ | refine LeO.ite ?_ ?_ | refine LeO.bind ?_ (fun _=>?_)
def flyballlaw07_ConvNear.T11 : Bool × List (List Nat × List Nat):=(true,[([],[]),([],[]),([0,1],[0,1]),([2,2],[2]),([],[]),([3,4,3],[3,4]),([5],[5]),([6,5],[6]),([7],[7]),([8,7,7],[7,8]),([7],[7]),([10,9,7],[7,10]),([9,11,11,7],[7,9,11]),([12,7],[7,12]),([7,13],[7,13]),([14,12],[14]),([15],[15]),([16,15],[15,16]),([15],[15]),([15],[15]),([18,19,15,15],[15,18,19]),([20,15],[15,20]),([17,21,15],[15,17,21]),([15,22],[15,22])])
def flyballlaw07_ConvNear.B11 : List Nat:=[0,0,3,7,0,31,63,127,255,511,255,2047,4095,8191,16383,32767,65535,131071,65535,65535,851967,1900543,4194303,8388607]
theorem flyballlaw07_ConvNear.tab11 : rtab .any (opsOf Try.f13 11) = flyballlaw07_ConvNear.T11:=by kernel_rfl
theorem flyballlaw07_ConvNear.bits11 : waitsOk flyballlaw07_ConvNear.T11.2 flyballlaw07_ConvNear.B11 = true:=by kernel_rfl
def flyballlaw07_ConvNear.T15 : Bool × List (List Nat × List Nat):=(true,[([],[]),([0],[0]),([1],[1]),([2],[2]),([2],[2]),([3,4,2,2],[2,3,4]),([5,5,2],[2,5]),([2],[2]),([6,7,6,2],[2,6,7]),([8,2],[2,8]),([2,9],[2,9]),([10,8],[10]),([11],[11]),([12,11],[11,12]),([11],[11]),([11],[11]),([14,15,11,11],[11,14,15]),([16,11],[11,16]),([13,17,11],[11,13,17]),([11,18],[11,18])])
def flyballlaw07_ConvNear.B15 : List Nat:=[0,1,3,7,7,31,63,7,255,511,1023,2047,4095,8191,4095,4095,53247,118783,262143,524287]
theorem flyballlaw07_ConvNear.tab15 : rtab .any (opsOf Try.f13 15) = flyballlaw07_ConvNear.T15:=by kernel_rfl
theorem flyballlaw07_ConvNear.bits15 : waitsOk flyballlaw07_ConvNear.T15.2 flyballlaw07_ConvNear.B15 = true:=by kernel_rfl
set_option maxHeartbeats 8000000 in
set_option maxRecDepth 100000 in
theorem flyballlaw07_ConvNear.calls (k : Nat) (a0 : Int) (a1 : Int) (r : Bool) (w : World) (h : flyballlaw07_ConvNear.f k a0 a1 = some r) :
  Calls Try.prog 13 #[.int .u64 a0,.int .u8 a1] w fun e w'=>e = .returned (.bool r) ∧ Below w.heap.size w w':=by
 have hu50:=Try.underlying50
 have HB:=Aside0.mk (Below.refl w.heap.size w)
 have H : ((flyballlaw07_works.f k).bind fun t579=>(if t579 = true then ((pattern_Value.f k a0).bind fun bt580=>(if bt580.2.2.2 = true then ((ratio_Int.f k 1).bind fun bt589=>((conv_ToInt64.f k a0).bind fun bt597=>(if bt597.2 = 16 then (flyballlaw07_ConvNear.j0 k a0 a1 t579 bt580.1 bt580.2.1 bt580.2.2.1 bt589.1 bt589.2.1 bt589.2.2) else ((ratio_Int.f k bt597.1).bind fun bt599=>((ratio_R_Sub.f k bt599.1 bt599.2.1 bt599.2.2 bt580.1 bt580.2.1 bt580.2.2.1).bind fun bt607=>((ratio_R_Abs.f k bt607.1 bt607.2.1 bt607.2.2).bind fun bt614=>((ratio_R_Cmp.f k bt614.1 bt614.2.1 bt614.2.2 bt589.1 bt589.2.1 bt589.2.2).bind fun t621=>(if t621 ≥ 0 then (some false) else ((ratio_R_Abs.f k bt599.1 bt599.2.1 bt599.2.2).bind fun bt622=>((ratio_R_Abs.f k bt580.1 bt580.2.1 bt580.2.2.1).bind fun bt629=>((ratio_R_Cmp.f k bt622.1 bt622.2.1 bt622.2.2 bt629.1 bt629.2.1 bt629.2.2).bind fun t636=>(if t636 > 0 then (some false) else ((ratio_R_Cmp.f k bt599.1 bt599.2.1 bt599.2.2 bt580.1 bt580.2.1 bt580.2.2.1).bind fun t637=>(if ((bt597.2 == 1) != (t637 != 0)) = true then (some false) else (flyballlaw07_ConvNear.j0 k a0 a1 t579 bt580.1 bt580.2.1 bt580.2.2.1 bt589.1 bt589.2.1 bt589.2.2))))))))))))))) else (some t579))) else (some false))) = some r:=h
 clear h
 replace H:=Option.bind_eq_some_iff.mp H
 obtain ⟨t579,A30,H⟩:=H
 replace H : (if t579 = true then ((pattern_Value.f k a0).bind fun bt580=>(if bt580.2.2.2 = true then ((ratio_Int.f k 1).bind fun bt589=>((conv_ToInt64.f k a0).bind fun bt597=>(if bt597.2 = 16 then (flyballlaw07_ConvNear.j0 k a0 a1 t579 bt580.1 bt580.2.1 bt580.2.2.1 bt589.1 bt589.2.1 bt589.2.2) else ((ratio_Int.f k bt597.1).bind fun bt599=>((ratio_R_Sub.f k bt599.1 bt599.2.1 bt599.2.2 bt580.1 bt580.2.1 bt580.2.2.1).bind fun bt607=>((ratio_R_Abs.f k bt607.1 bt607.2.1 bt607.2.2).bind fun bt614=>((ratio_R_Cmp.f k bt614.1 bt614.2.1 bt614.2.2 bt589.1 bt589.2.1 bt589.2.2).bind fun t621=>(if t621 ≥ 0 then (some false) else ((ratio_R_Abs.f k bt599.1 bt599.2.1 bt599.2.2).bind fun bt622=>((ratio_R_Abs.f k bt580.1 bt580.2.1 bt580.2.2.1).bind fun bt629=>((ratio_R_Cmp.f k bt622.1 bt622.2.1 bt622.2.2 bt629.1 bt629.2.1 bt629.2.2).bind fun t636=>(if t636 > 0 then (some false) else ((ratio_R_Cmp.f k bt599.1 bt599.2.1 bt599.2.2 bt580.1 bt580.2.1 bt580.2.2.1).bind fun t637=>(if ((bt597.2 == 1) != (t637 != 0)) = true then (some false) else (flyballlaw07_ConvNear.j0 k a0 a1 t579 bt580.1 bt580.2.1 bt580.2.2.1 bt589.1 bt589.2.1 bt589.2.2))))))))))))))) else (some t579))) else (some false)) = some r:=H
 have A3:=Aside0.mk A30
 clear A30
 by_cases c4 : t579 = true
 case neg =>
  replace c4:=Bool.eq_false_iff.mpr c4
  subst c4
  have H1 : (some false) = some r:=by rw [if_neg (show ¬ (false = true) by decide)] at H; exact H
  clear H
  have H:=H1
  clear H1
  obtain rfl:=Option.some.inj H
  go_enter Try.func13,Try.ntmps13
  go_wp2_with (first | ((with_reducible refine gc_ 14 rfl ?_); refine gM_ (some 17) Try.func14 [] ?_; (with_reducible refine (flyballlaw07_works.calls k  false _ A3.out).mono ?_); rintro e w320 ⟨rfl,hb⟩; refine ⟨_,rfl,?_⟩; replace HB:=bq_ hb))
  go_ret
  exact ⟨eh_,bh_⟩
 subst c4
 have H1 : ((pattern_Value.f k a0).bind fun bt580=>(if bt580.2.2.2 = true then ((ratio_Int.f k 1).bind fun bt589=>((conv_ToInt64.f k a0).bind fun bt597=>(if bt597.2 = 16 then (flyballlaw07_ConvNear.j0 k a0 a1 true bt580.1 bt580.2.1 bt580.2.2.1 bt589.1 bt589.2.1 bt589.2.2) else ((ratio_Int.f k bt597.1).bind fun bt599=>((ratio_R_Sub.f k bt599.1 bt599.2.1 bt599.2.2 bt580.1 bt580.2.1 bt580.2.2.1).bind fun bt607=>((ratio_R_Abs.f k bt607.1 bt607.2.1 bt607.2.2).bind fun bt614=>((ratio_R_Cmp.f k bt614.1 bt614.2.1 bt614.2.2 bt589.1 bt589.2.1 bt589.2.2).bind fun t621=>(if t621 ≥ 0 then (some false) else ((ratio_R_Abs.f k bt599.1 bt599.2.1 bt599.2.2).bind fun bt622=>((ratio_R_Abs.f k bt580.1 bt580.2.1 bt580.2.2.1).bind fun bt629=>((ratio_R_Cmp.f k bt622.1 bt622.2.1 bt622.2.2 bt629.1 bt629.2.1 bt629.2.2).bind fun t636=>(if t636 > 0 then (some false) else ((ratio_R_Cmp.f k bt599.1 bt599.2.1 bt599.2.2 bt580.1 bt580.2.1 bt580.2.2.1).bind fun t637=>(if ((bt597.2 == 1) != (t637 != 0)) = true then (some false) else (flyballlaw07_ConvNear.j0 k a0 a1 true bt580.1 bt580.2.1 bt580.2.2.1 bt589.1 bt589.2.1 bt589.2.2))))))))))))))) else (some true))) = some r:=by rw [if_pos rfl] at H; exact H
 clear H
 have H:=H1
 clear H1
 replace H:=Option.bind_eq_some_iff.mp H
 obtain ⟨⟨t580,t581,t584,t587⟩,A50,H⟩:=H
 replace H : (if t587 = true then ((ratio_Int.f k 1).bind fun bt589=>((conv_ToInt64.f k a0).bind fun bt597=>(if bt597.2 = 16 then (flyballlaw07_ConvNear.j0 k a0 a1 true t580 t581 t584 bt589.1 bt589.2.1 bt589.2.2) else ((ratio_Int.f k bt597.1).bind fun bt599=>((ratio_R_Sub.f k bt599.1 bt599.2.1 bt599.2.2 t580 t581 t584).bind fun bt607=>((ratio_R_Abs.f k bt607.1 bt607.2.1 bt607.2.2).bind fun bt614=>((ratio_R_Cmp.f k bt614.1 bt614.2.1 bt614.2.2 bt589.1 bt589.2.1 bt589.2.2).bind fun t621=>(if t621 ≥ 0 then (some false) else ((ratio_R_Abs.f k bt599.1 bt599.2.1 bt599.2.2).bind fun bt622=>((ratio_R_Abs.f k t580 t581 t584).bind fun bt629=>((ratio_R_Cmp.f k bt622.1 bt622.2.1 bt622.2.2 bt629.1 bt629.2.1 bt629.2.2).bind fun t636=>(if t636 > 0 then (some false) else ((ratio_R_Cmp.f k bt599.1 bt599.2.1 bt599.2.2 t580 t581 t584).bind fun t637=>(if ((bt597.2 == 1) != (t637 != 0)) = true then (some false) else (flyballlaw07_ConvNear.j0 k a0 a1 true t580 t581 t584 bt589.1 bt589.2.1 bt589.2.2))))))))))))))) else (some true)) = some r:=H
 have A5:=Aside0.mk A50
 clear A50
 by_cases c6 : t587 = true
 case neg =>
  replace c6:=Bool.eq_false_iff.mpr c6
  subst c6
  have H1 : (some true) = some r:=by rw [if_neg (show ¬ (false = true) by decide)] at H; exact H
  clear H
  have H:=H1
  clear H1
  obtain rfl:=Option.some.inj H
  go_enter Try.func13,Try.ntmps13
  go_wp2_with (first | ((with_reducible refine gc_ 14 rfl ?_); refine gM_ (some 17) Try.func14 [] ?_; (with_reducible refine (flyballlaw07_works.calls k  true _ A3.out).mono ?_); rintro e w314 ⟨rfl,hb⟩; refine ⟨_,rfl,?_⟩; replace HB:=bq_ hb) | ((with_reducible refine gc_ 34 rfl ?_); refine gM_ (some 22) Try.func34 [.int .u64 a0] ?_; (with_reducible refine (pattern_Value.calls k a0 t580 t581 t584 false _ A5.out).mono ?_); rintro e w315 ⟨v582,v585,rfl,ho0,ho1,hb⟩; refine ⟨_,rfl,?_⟩; have HO583:=Aside0.mk (Kd.V_lower (Kd.V_mono (ok':=fun k_=>True) ho0 (fun k_ hk_=>trivial)) (below_size bh_)); have HO586:=Aside0.mk (Kd.V_lower (Kd.V_mono (ok':=fun k_=>True) ho1 (fun k_ hk_=>trivial)) (below_size bh_)); replace HB:=bq_ hb) | ((with_reducible refine gate_dst (N:=6) rfl ?_); refine box_event ?hg (N:=6) ?hd (cs:=#[.bool false,.slice none 0 0,.slice none 0 0]) (t:=50) ?hr ?_; (case hd=>rfl); (case hg=>rfl); (case hr=>first | (go_simp; done) | (go_simp; rfl)); intro gb588 hg w316 hbox hb; have n0_:=ve_ HO583 hg hb; have n1_:=ve_ HO586 hg hb; have n2_:=bq_ hb; have n3_:=Aside0.mk (hbox); have n5_:=bz_ hg; clear HO583 HO586 HB; have HO583:=n0_; have HO586:=n1_; have HB:=n2_; have BK588:=n3_; have GE588:=n5_; clear n0_ n1_ n2_ n3_ n5_; clear hb hbox hg; have hcz317_0 : w316.cell? ⟨gb588,0,none⟩ = some (.bool false):=bc_ BK588 0; have hcz317_1 : w316.cell? ⟨gb588,1,none⟩ = some (.slice none 0 0):=bc_ BK588 1; have hcz317_2 : w316.cell? ⟨gb588,2,none⟩ = some (.slice none 0 0):=bc_ BK588 2; have hfz317_0:=blk_frozen BK588.out 0; have hfz317_1:=blk_frozen BK588.out 1; have hfz317_2:=blk_frozen BK588.out 2; obtain ⟨Ao318,co318,eo318⟩:=Kd.V_slice HO583.out; subst eo318; obtain ⟨Ao319,co319,eo319⟩:=Kd.V_slice HO586.out; subst eo319))
  go_ret
  exact ⟨eh_,bh_⟩
 subst c6
 have H1 : ((ratio_Int.f k 1).bind fun bt589=>((conv_ToInt64.f k a0).bind fun bt597=>(if bt597.2 = 16 then (flyballlaw07_ConvNear.j0 k a0 a1 true t580 t581 t584 bt589.1 bt589.2.1 bt589.2.2) else ((ratio_Int.f k bt597.1).bind fun bt599=>((ratio_R_Sub.f k bt599.1 bt599.2.1 bt599.2.2 t580 t581 t584).bind fun bt607=>((ratio_R_Abs.f k bt607.1 bt607.2.1 bt607.2.2).bind fun bt614=>((ratio_R_Cmp.f k bt614.1 bt614.2.1 bt614.2.2 bt589.1 bt589.2.1 bt589.2.2).bind fun t621=>(if t621 ≥ 0 then (some false) else ((ratio_R_Abs.f k bt599.1 bt599.2.1 bt599.2.2).bind fun bt622=>((ratio_R_Abs.f k t580 t581 t584).bind fun bt629=>((ratio_R_Cmp.f k bt622.1 bt622.2.1 bt622.2.2 bt629.1 bt629.2.1 bt629.2.2).bind fun t636=>(if t636 > 0 then (some false) else ((ratio_R_Cmp.f k bt599.1 bt599.2.1 bt599.2.2 t580 t581 t584).bind fun t637=>(if ((bt597.2 == 1) != (t637 != 0)) = true then (some false) else (flyballlaw07_ConvNear.j0 k a0 a1 true t580 t581 t584 bt589.1 bt589.2.1 bt589.2.2))))))))))))))) = some r:=by rw [if_pos rfl] at H; exact H
 clear H
 have H:=H1
 clear H1
 replace H:=Option.bind_eq_some_iff.mp H
 obtain ⟨⟨t589,t590,t593⟩,A70,H⟩:=H
 replace H : ((conv_ToInt64.f k a0).bind fun bt597=>(if bt597.2 = 16 then (flyballlaw07_ConvNear.j0 k a0 a1 true t580 t581 t584 t589 t590 t593) else ((ratio_Int.f k bt597.1).bind fun bt599=>((ratio_R_Sub.f k bt599.1 bt599.2.1 bt599.2.2 t580 t581 t584).bind fun bt607=>((ratio_R_Abs.f k bt607.1 bt607.2.1 bt607.2.2).bind fun bt614=>((ratio_R_Cmp.f k bt614.1 bt614.2.1 bt614.2.2 t589 t590 t593).bind fun t621=>(if t621 ≥ 0 then (some false) else ((ratio_R_Abs.f k bt599.1 bt599.2.1 bt599.2.2).bind fun bt622=>((ratio_R_Abs.f k t580 t581 t584).bind fun bt629=>((ratio_R_Cmp.f k bt622.1 bt622.2.1 bt622.2.2 bt629.1 bt629.2.1 bt629.2.2).bind fun t636=>(if t636 > 0 then (some false) else ((ratio_R_Cmp.f k bt599.1 bt599.2.1 bt599.2.2 t580 t581 t584).bind fun t637=>(if ((bt597.2 == 1) != (t637 != 0)) = true then (some false) else (flyballlaw07_ConvNear.j0 k a0 a1 true t580 t581 t584 t589 t590 t593)))))))))))))) = some r:=H
 have A7:=Aside0.mk A70
 clear A70
 replace H:=Option.bind_eq_some_iff.mp H
 obtain ⟨⟨t597,t598⟩,A80,H⟩:=H
 replace H : (if t598 = 16 then (flyballlaw07_ConvNear.j0 k a0 a1 true t580 t581 t584 t589 t590 t593) else ((ratio_Int.f k t597).bind fun bt599=>((ratio_R_Sub.f k bt599.1 bt599.2.1 bt599.2.2 t580 t581 t584).bind fun bt607=>((ratio_R_Abs.f k bt607.1 bt607.2.1 bt607.2.2).bind fun bt614=>((ratio_R_Cmp.f k bt614.1 bt614.2.1 bt614.2.2 t589 t590 t593).bind fun t621=>(if t621 ≥ 0 then (some false) else ((ratio_R_Abs.f k bt599.1 bt599.2.1 bt599.2.2).bind fun bt622=>((ratio_R_Abs.f k t580 t581 t584).bind fun bt629=>((ratio_R_Cmp.f k bt622.1 bt622.2.1 bt622.2.2 bt629.1 bt629.2.1 bt629.2.2).bind fun t636=>(if t636 > 0 then (some false) else ((ratio_R_Cmp.f k bt599.1 bt599.2.1 bt599.2.2 t580 t581 t584).bind fun t637=>(if ((t598 == 1) != (t637 != 0)) = true then (some false) else (flyballlaw07_ConvNear.j0 k a0 a1 true t580 t581 t584 t589 t590 t593))))))))))))) = some r:=H
 have A8:=Aside0.mk A80
 clear A80
 have HC9:=Aside0.mk H
 clear H
 go_enter Try.func13,Try.ntmps13
 go_upto_if 35 with (first | ((with_reducible refine gc_ 14 rfl ?_); refine gM_ (some 17) Try.func14 [] ?_; (with_reducible refine (flyballlaw07_works.calls k  true _ A3.out).mono ?_); rintro e w10 ⟨rfl,hb⟩; refine ⟨_,rfl,?_⟩; replace HB:=bq_ hb) | ((with_reducible refine gc_ 34 rfl ?_); refine gM_ (some 22) Try.func34 [.int .u64 a0] ?_; (with_reducible refine (pattern_Value.calls k a0 t580 t581 t584 true _ A5.out).mono ?_); rintro e w11 ⟨v582,v585,rfl,ho0,ho1,hb⟩; refine ⟨_,rfl,?_⟩; have HO583:=Aside0.mk (Kd.V_lower (Kd.V_mono (ok':=fun k_=>True) ho0 (fun k_ hk_=>trivial)) (below_size bh_)); have HO586:=Aside0.mk (Kd.V_lower (Kd.V_mono (ok':=fun k_=>True) ho1 (fun k_ hk_=>trivial)) (below_size bh_)); replace HB:=bq_ hb) | ((with_reducible refine gate_dst (N:=6) rfl ?_); refine box_event ?hg (N:=6) ?hd (cs:=#[.bool false,.slice none 0 0,.slice none 0 0]) (t:=50) ?hr ?_; (case hd=>rfl); (case hg=>rfl); (case hr=>first | (go_simp; done) | (go_simp; rfl)); intro gb588 hg w12 hbox hb; have n0_:=ve_ HO583 hg hb; have n1_:=ve_ HO586 hg hb; have n2_:=bq_ hb; have n3_:=Aside0.mk (hbox); have n5_:=bz_ hg; clear HO583 HO586 HB; have HO583:=n0_; have HO586:=n1_; have HB:=n2_; have BK588:=n3_; have GE588:=n5_; clear n0_ n1_ n2_ n3_ n5_; clear hb hbox hg; have hcz13_0 : w12.cell? ⟨gb588,0,none⟩ = some (.bool false):=bc_ BK588 0; have hcz13_1 : w12.cell? ⟨gb588,1,none⟩ = some (.slice none 0 0):=bc_ BK588 1; have hcz13_2 : w12.cell? ⟨gb588,2,none⟩ = some (.slice none 0 0):=bc_ BK588 2; have hfz13_0:=blk_frozen BK588.out 0; have hfz13_1:=blk_frozen BK588.out 1; have hfz13_2:=blk_frozen BK588.out 2; obtain ⟨Ao14,co14,eo14⟩:=Kd.V_slice HO583.out; subst eo14; obtain ⟨Ao15,co15,eo15⟩:=Kd.V_slice HO586.out; subst eo15) | ((with_reducible refine gc_ 44 rfl ?_); refine gM_ (some 28) Try.func44 [.int .i64 1] ?_; (with_reducible refine (ratio_Int.calls k 1 t589 t590 t593 _ A7.out).mono ?_); rintro e w16 ⟨v591,v594,rfl,ho0,ho1,hb⟩; refine ⟨_,rfl,?_⟩; replace HO583:=Aside0.mk (Kd.V_below (by (with_reducible repeat (first | apply va_ | apply vn_ | apply vd_)); exact (Kd.V_mono (Kd.V_far (p:=⟨gb588,2,none⟩) (Kd.V_far (p:=⟨gb588,1,none⟩) (Kd.V_far (p:=⟨gb588,0,none⟩) (Kd.V_mono HO583.out (fun k_ hk=>(⟨hk,hk.2⟩ : _ ∧ k_ ≠ gb588))) (fun _ hk=>hk.2) (.bool t580)) (fun _ hk=>hk.2) (.slice Ao14 t581.length co14)) (fun _ hk=>hk.2) (.slice Ao15 t584.length co15)) (fun _ h_=>h_.1))) hb); replace HO586:=Aside0.mk (Kd.V_below (by (with_reducible repeat (first | apply va_ | apply vn_ | apply vd_)); exact (Kd.V_mono (Kd.V_far (p:=⟨gb588,2,none⟩) (Kd.V_far (p:=⟨gb588,1,none⟩) (Kd.V_far (p:=⟨gb588,0,none⟩) (Kd.V_mono HO586.out (fun k_ hk=>(⟨hk,hk.2⟩ : _ ∧ k_ ≠ gb588))) (fun _ hk=>hk.2) (.bool t580)) (fun _ hk=>hk.2) (.slice Ao14 t581.length co14)) (fun _ hk=>hk.2) (.slice Ao15 t584.length co15)) (fun _ h_=>h_.1))) hb); have HO592:=Aside0.mk (Kd.V_lower (Kd.V_mono (ok':=fun k_=>k_ ≠ gb588) ho0 (fun k_ hk_=>(Kd.freshB (g:=gb588) (o:=.cells #[.bool t580,.slice Ao14 t581.length co14,.slice Ao15 t584.length co15] 50 (0,0)) (by (with_reducible repeat (first | apply kn_ | apply kd_ | apply ka_)); refine blk_put (cs:=#[.bool t580,.slice Ao14 t581.length co14,.slice none 0 0]) ?_ 2 _ rfl; (with_reducible repeat (first | apply kn_ | apply kd_ | apply ka_)); refine blk_put (cs:=#[.bool t580,.slice none 0 0,.slice none 0 0]) ?_ 1 _ rfl; (with_reducible repeat (first | apply kn_ | apply kd_ | apply ka_)); refine blk_put (cs:=#[.bool false,.slice none 0 0,.slice none 0 0]) ?_ 0 _ rfl; (with_reducible repeat (first | apply kn_ | apply kd_ | apply ka_)); exact BK588.out) k_ hk_))) (below_size bh_)); have HO595:=Aside0.mk (Kd.V_lower (Kd.V_mono (ok':=fun k_=>k_ ≠ gb588) ho1 (fun k_ hk_=>(Kd.freshB (g:=gb588) (o:=.cells #[.bool t580,.slice Ao14 t581.length co14,.slice Ao15 t584.length co15] 50 (0,0)) (by (with_reducible repeat (first | apply kn_ | apply kd_ | apply ka_)); refine blk_put (cs:=#[.bool t580,.slice Ao14 t581.length co14,.slice none 0 0]) ?_ 2 _ rfl; (with_reducible repeat (first | apply kn_ | apply kd_ | apply ka_)); refine blk_put (cs:=#[.bool t580,.slice none 0 0,.slice none 0 0]) ?_ 1 _ rfl; (with_reducible repeat (first | apply kn_ | apply kd_ | apply ka_)); refine blk_put (cs:=#[.bool false,.slice none 0 0,.slice none 0 0]) ?_ 0 _ rfl; (with_reducible repeat (first | apply kn_ | apply kd_ | apply ka_)); exact BK588.out) k_ hk_))) (below_size bh_)); replace BK588:=Aside0.mk (blk_below (g:=gb588) (o:=.cells #[.bool t580,.slice Ao14 t581.length co14,.slice Ao15 t584.length co15] 50 (0,0)) (by (with_reducible repeat (first | apply kn_ | apply kd_ | apply ka_)); refine blk_put (cs:=#[.bool t580,.slice Ao14 t581.length co14,.slice none 0 0]) ?_ 2 _ rfl; (with_reducible repeat (first | apply kn_ | apply kd_ | apply ka_)); refine blk_put (cs:=#[.bool t580,.slice none 0 0,.slice none 0 0]) ?_ 1 _ rfl; (with_reducible repeat (first | apply kn_ | apply kd_ | apply ka_)); refine blk_put (cs:=#[.bool false,.slice none 0 0,.slice none 0 0]) ?_ 0 _ rfl; (with_reducible repeat (first | apply kn_ | apply kd_ | apply ka_)); exact BK588.out) hb); replace HB:=bq_ hb) | ((with_reducible refine gate_dst (N:=8) rfl ?_); refine box_event ?hg (N:=8) ?hd (cs:=#[.bool false,.slice none 0 0,.slice none 0 0]) (t:=50) ?hr ?_; (case hd=>rfl); (case hg=>rfl); (case hr=>first | (go_simp; done) | (go_simp; rfl)); intro gb596 hg w17 hbox hb; have n0_:=ve_ HO583 hg hb; have n1_:=ve_ HO586 hg hb; have n2_:=ve_ HO592 hg hb; have n3_:=ve_ HO595 hg hb; have n4_:=kb_ BK588 hb; have n5_:=bq_ hb; have n6_:=Aside0.mk (hbox); have n8_:=bz_ hg; have n9_:=Aside0.mk ((by rw [hg]; exact Nat.ne_of_lt (blk_lt (g:=gb588) (o:=.cells #[.bool t580,.slice Ao14 t581.length co14,.slice Ao15 t584.length co15] 50 (0,0)) (by (with_reducible repeat (first | apply kn_ | apply kd_ | apply ka_)); exact BK588.out)) : gb588 ≠ gb596)); have n10_:=Aside0.mk ((by rw [hg]; exact Nat.ne_of_gt (blk_lt (g:=gb588) (o:=.cells #[.bool t580,.slice Ao14 t581.length co14,.slice Ao15 t584.length co15] 50 (0,0)) (by (with_reducible repeat (first | apply kn_ | apply kd_ | apply ka_)); exact BK588.out)) : gb596 ≠ gb588)); clear HO583 HO586 HO592 HO595 BK588 HB; have HO583:=n0_; have HO586:=n1_; have HO592:=n2_; have HO595:=n3_; have BK588:=n4_; have HB:=n5_; have BK596:=n6_; have GE596:=n8_; have NB588_596:=n9_; have NB596_588:=n10_; clear n0_ n1_ n2_ n3_ n4_ n5_ n6_ n8_ n9_ n10_; clear hb hbox hg; have hnb18:=NB596_588.out; have hnc18:=NB588_596.out; have hcz19_0 : w17.cell? ⟨gb596,0,none⟩ = some (.bool false):=bc_ BK596 0; have hcz19_1 : w17.cell? ⟨gb596,1,none⟩ = some (.slice none 0 0):=bc_ BK596 1; have hcz19_2 : w17.cell? ⟨gb596,2,none⟩ = some (.slice none 0 0):=bc_ BK596 2; have hfz19_0:=blk_frozen BK596.out 0; have hfz19_1:=blk_frozen BK596.out 1; have hfz19_2:=blk_frozen BK596.out 2; obtain ⟨Ao20,co20,eo20⟩:=Kd.V_slice HO592.out; subst eo20; obtain ⟨Ao21,co21,eo21⟩:=Kd.V_slice HO595.out; subst eo21) | ((with_reducible refine gc_ 19 rfl ?_); refine gM_ (some 31) Try.func19 [.int .u64 a0] ?_; (with_reducible refine (conv_ToInt64.calls k a0 t597 t598 _ A8.out).mono ?_); rintro e w22 ⟨rfl,hb⟩; refine ⟨_,rfl,?_⟩; replace HO583:=Aside0.mk (Kd.V_below (by (with_reducible repeat (first | apply va_ | apply vn_ | apply vd_)); exact (Kd.V_mono (Kd.V_far (p:=⟨gb596,2,none⟩) (Kd.V_far (p:=⟨gb596,1,none⟩) (Kd.V_far (p:=⟨gb596,0,none⟩) (Kd.V_mono HO583.out (fun k_ hk=>(⟨hk,hk.2⟩ : _ ∧ k_ ≠ gb596))) (fun _ hk=>hk.2) (.bool t589)) (fun _ hk=>hk.2) (.slice Ao20 t590.length co20)) (fun _ hk=>hk.2) (.slice Ao21 t593.length co21)) (fun _ h_=>h_.1))) hb); replace HO586:=Aside0.mk (Kd.V_below (by (with_reducible repeat (first | apply va_ | apply vn_ | apply vd_)); exact (Kd.V_mono (Kd.V_far (p:=⟨gb596,2,none⟩) (Kd.V_far (p:=⟨gb596,1,none⟩) (Kd.V_far (p:=⟨gb596,0,none⟩) (Kd.V_mono HO586.out (fun k_ hk=>(⟨hk,hk.2⟩ : _ ∧ k_ ≠ gb596))) (fun _ hk=>hk.2) (.bool t589)) (fun _ hk=>hk.2) (.slice Ao20 t590.length co20)) (fun _ hk=>hk.2) (.slice Ao21 t593.length co21)) (fun _ h_=>h_.1))) hb); replace HO592:=Aside0.mk (Kd.V_below (by (with_reducible repeat (first | apply va_ | apply vn_ | apply vd_)); exact (Kd.V_mono (Kd.V_far (p:=⟨gb596,2,none⟩) (Kd.V_far (p:=⟨gb596,1,none⟩) (Kd.V_far (p:=⟨gb596,0,none⟩) (Kd.V_mono HO592.out (fun k_ hk=>(⟨hk,hk.2⟩ : _ ∧ k_ ≠ gb596))) (fun _ hk=>hk.2) (.bool t589)) (fun _ hk=>hk.2) (.slice Ao20 t590.length co20)) (fun _ hk=>hk.2) (.slice Ao21 t593.length co21)) (fun _ h_=>h_.1))) hb); replace HO595:=Aside0.mk (Kd.V_below (by (with_reducible repeat (first | apply va_ | apply vn_ | apply vd_)); exact (Kd.V_mono (Kd.V_far (p:=⟨gb596,2,none⟩) (Kd.V_far (p:=⟨gb596,1,none⟩) (Kd.V_far (p:=⟨gb596,0,none⟩) (Kd.V_mono HO595.out (fun k_ hk=>(⟨hk,hk.2⟩ : _ ∧ k_ ≠ gb596))) (fun _ hk=>hk.2) (.bool t589)) (fun _ hk=>hk.2) (.slice Ao20 t590.length co20)) (fun _ hk=>hk.2) (.slice Ao21 t593.length co21)) (fun _ h_=>h_.1))) hb); replace BK588:=Aside0.mk (blk_below (g:=gb588) (o:=.cells #[.bool t580,.slice Ao14 t581.length co14,.slice Ao15 t584.length co15] 50 (0,0)) (by (with_reducible repeat (first | apply kn_ | apply kd_ | apply ka_)); refine blk_far ?_ NB588_596.out _; (with_reducible repeat (first | apply kn_ | apply kd_ | apply ka_)); refine blk_far ?_ NB588_596.out _; (with_reducible repeat (first | apply kn_ | apply kd_ | apply ka_)); refine blk_far ?_ NB588_596.out _; (with_reducible repeat (first | apply kn_ | apply kd_ | apply ka_)); exact BK588.out) hb); replace BK596:=Aside0.mk (blk_below (g:=gb596) (o:=.cells #[.bool t589,.slice Ao20 t590.length co20,.slice Ao21 t593.length co21] 50 (0,0)) (by (with_reducible repeat (first | apply kn_ | apply kd_ | apply ka_)); refine blk_put (cs:=#[.bool t589,.slice Ao20 t590.length co20,.slice none 0 0]) ?_ 2 _ rfl; (with_reducible repeat (first | apply kn_ | apply kd_ | apply ka_)); refine blk_put (cs:=#[.bool t589,.slice none 0 0,.slice none 0 0]) ?_ 1 _ rfl; (with_reducible repeat (first | apply kn_ | apply kd_ | apply ka_)); refine blk_put (cs:=#[.bool false,.slice none 0 0,.slice none 0 0]) ?_ 0 _ rfl; (with_reducible repeat (first | apply kn_ | apply kd_ | apply ka_)); exact BK596.out) hb); replace HB:=bq_ hb))
 (try simp only [Act.put,p1_,p2_,p3_])
 go_cut [] (fun wc=>∃ (kq : Nat),Aside0 (flyballlaw07_ConvNear.j0 kq a0 a1 true t580 t581 t584 t589 t590 t593 = some r) ∧ Aside0 (kq ≤ k) ∧ Aside0 (Kd.V (Kd.int .u32) 123 wc w.heap.size (fun k_=>k_ ≠ gb588 ∧ k_ ≠ gb596) (.slice Ao14 t581.length co14) t581) ∧ Aside0 (Kd.V (Kd.int .u32) 123 wc w.heap.size (fun k_=>k_ ≠ gb588 ∧ k_ ≠ gb596) (.slice Ao15 t584.length co15) t584) ∧ Aside0 (Kd.V (Kd.int .u32) 123 wc w.heap.size (fun k_=>k_ ≠ gb588 ∧ k_ ≠ gb596) (.slice Ao20 t590.length co20) t590) ∧ Aside0 (Kd.V (Kd.int .u32) 123 wc w.heap.size (fun k_=>k_ ≠ gb588 ∧ k_ ≠ gb596) (.slice Ao21 t593.length co21) t593) ∧ Aside0 (wc.heap[gb588]? = some (.cells #[.bool t580,(.slice Ao14 t581.length co14),(.slice Ao15 t584.length co15)] 50 (0,0))) ∧ Aside0 (wc.heap[gb596]? = some (.cells #[.bool t589,(.slice Ao20 t590.length co20),(.slice Ao21 t593.length co21)] 50 (0,0))) ∧ Aside0 (Below w.heap.size w wc))
 case first =>
  have H:=HC9.out
  clear HC9
  by_cases c23 : t598 = 16
  case pos =>
   rw [if_pos c23] at H
   have c23b0 : (t598 == 16) = true:=beq_iff_eq.mpr c23
   have c23b1 : (t598 != 16) = false:=bne_eq_false_iff_eq.mpr c23
   clear c23
   (first | rw [c23b0] | (simp only [i64_w,i32_w]; rw [c23b0]) | skip)
   have H':=Aside0.mk H
   clear H
   go_wp2
   go_meet
   case rel=>exact ⟨_,H',⟨by first | omega | exact Nat.le_refl _⟩,⟨by (with_reducible repeat (first | apply va_ | apply vn_ | apply vd_)); exact Kd.V_mono HO583.out (fun _ hk=>⟨hk.1.2,hk.2⟩)⟩,⟨by (with_reducible repeat (first | apply va_ | apply vn_ | apply vd_)); exact Kd.V_mono HO586.out (fun _ hk=>⟨hk.1.2,hk.2⟩)⟩,⟨by (with_reducible repeat (first | apply va_ | apply vn_ | apply vd_)); exact HO592.out⟩,⟨by (with_reducible repeat (first | apply va_ | apply vn_ | apply vd_)); exact HO595.out⟩,⟨by (with_reducible repeat (first | apply kn_ | apply kd_ | apply ka_)); exact BK588.out⟩,⟨by (with_reducible repeat (first | apply kn_ | apply kd_ | apply ka_)); exact BK596.out⟩,⟨bh_⟩⟩
  rw [if_neg c23] at H
  have c23b0 : (t598 == 16) = false:=beq_eq_false_iff_ne.mpr c23
  have c23b1 : (t598 != 16) = true:=bne_iff_ne.mpr c23
  (first | rw [c23b0] | (simp only [i64_w,i32_w]; rw [c23b0]) | skip)
  replace H:=Option.bind_eq_some_iff.mp H
  obtain ⟨⟨t599,t600,t603⟩,A240,H⟩:=H
  replace H : ((ratio_R_Sub.f k t599 t600 t603 t580 t581 t584).bind fun bt607=>((ratio_R_Abs.f k bt607.1 bt607.2.1 bt607.2.2).bind fun bt614=>((ratio_R_Cmp.f k bt614.1 bt614.2.1 bt614.2.2 t589 t590 t593).bind fun t621=>(if t621 ≥ 0 then (some false) else ((ratio_R_Abs.f k t599 t600 t603).bind fun bt622=>((ratio_R_Abs.f k t580 t581 t584).bind fun bt629=>((ratio_R_Cmp.f k bt622.1 bt622.2.1 bt622.2.2 bt629.1 bt629.2.1 bt629.2.2).bind fun t636=>(if t636 > 0 then (some false) else ((ratio_R_Cmp.f k t599 t600 t603 t580 t581 t584).bind fun t637=>(if ((t598 == 1) != (t637 != 0)) = true then (some false) else (flyballlaw07_ConvNear.j0 k a0 a1 true t580 t581 t584 t589 t590 t593))))))))))) = some r:=H
  have A24:=Aside0.mk A240
  clear A240
  replace H:=Option.bind_eq_some_iff.mp H
  obtain ⟨⟨t607,t608,t611⟩,A250,H⟩:=H
  replace H : ((ratio_R_Abs.f k t607 t608 t611).bind fun bt614=>((ratio_R_Cmp.f k bt614.1 bt614.2.1 bt614.2.2 t589 t590 t593).bind fun t621=>(if t621 ≥ 0 then (some false) else ((ratio_R_Abs.f k t599 t600 t603).bind fun bt622=>((ratio_R_Abs.f k t580 t581 t584).bind fun bt629=>((ratio_R_Cmp.f k bt622.1 bt622.2.1 bt622.2.2 bt629.1 bt629.2.1 bt629.2.2).bind fun t636=>(if t636 > 0 then (some false) else ((ratio_R_Cmp.f k t599 t600 t603 t580 t581 t584).bind fun t637=>(if ((t598 == 1) != (t637 != 0)) = true then (some false) else (flyballlaw07_ConvNear.j0 k a0 a1 true t580 t581 t584 t589 t590 t593)))))))))) = some r:=H
  have A25:=Aside0.mk A250
  clear A250
  replace H:=Option.bind_eq_some_iff.mp H
  obtain ⟨⟨t614,t615,t618⟩,A260,H⟩:=H
  replace H : ((ratio_R_Cmp.f k t614 t615 t618 t589 t590 t593).bind fun t621=>(if t621 ≥ 0 then (some false) else ((ratio_R_Abs.f k t599 t600 t603).bind fun bt622=>((ratio_R_Abs.f k t580 t581 t584).bind fun bt629=>((ratio_R_Cmp.f k bt622.1 bt622.2.1 bt622.2.2 bt629.1 bt629.2.1 bt629.2.2).bind fun t636=>(if t636 > 0 then (some false) else ((ratio_R_Cmp.f k t599 t600 t603 t580 t581 t584).bind fun t637=>(if ((t598 == 1) != (t637 != 0)) = true then (some false) else (flyballlaw07_ConvNear.j0 k a0 a1 true t580 t581 t584 t589 t590 t593))))))))) = some r:=H
  have A26:=Aside0.mk A260
  clear A260
  replace H:=Option.bind_eq_some_iff.mp H
  obtain ⟨t621,A270,H⟩:=H
  replace H : (if t621 ≥ 0 then (some false) else ((ratio_R_Abs.f k t599 t600 t603).bind fun bt622=>((ratio_R_Abs.f k t580 t581 t584).bind fun bt629=>((ratio_R_Cmp.f k bt622.1 bt622.2.1 bt622.2.2 bt629.1 bt629.2.1 bt629.2.2).bind fun t636=>(if t636 > 0 then (some false) else ((ratio_R_Cmp.f k t599 t600 t603 t580 t581 t584).bind fun t637=>(if ((t598 == 1) != (t637 != 0)) = true then (some false) else (flyballlaw07_ConvNear.j0 k a0 a1 true t580 t581 t584 t589 t590 t593)))))))) = some r:=H
  have A27:=Aside0.mk A270
  clear A270
  have HH1_:=Aside0.mk H
  clear H
  try go_wp2_with (first | ((with_reducible refine gc_ 44 rfl ?_); refine gM_ (some 37) Try.func44 [.int .i64 t597] ?_; (with_reducible refine (ratio_Int.calls k t597 t599 t600 t603 _ A24.out).mono ?_); rintro e w29 ⟨v601,v604,rfl,ho0,ho1,hb⟩; refine ⟨_,rfl,?_⟩; replace HO583:=vb_ HO583 hb; replace HO586:=vb_ HO586 hb; replace HO592:=vb_ HO592 hb; replace HO595:=vb_ HO595 hb; have HO602:=Aside0.mk (Kd.V_lower (Kd.V_mono (ok':=fun k_=>k_ ≠ gb588 ∧ k_ ≠ gb596) ho0 (fun k_ hk_=>⟨(fb_ BK588 k_ hk_),(fb_ BK596 k_ hk_)⟩)) (below_size bh_)); have HO605:=Aside0.mk (Kd.V_lower (Kd.V_mono (ok':=fun k_=>k_ ≠ gb588 ∧ k_ ≠ gb596) ho1 (fun k_ hk_=>⟨(fb_ BK588 k_ hk_),(fb_ BK596 k_ hk_)⟩)) (below_size bh_)); replace BK588:=kb_ BK588 hb; replace BK596:=kb_ BK596 hb; replace HB:=bq_ hb) | ((with_reducible refine gate_dst (N:=11) rfl ?_); refine box_event ?hg (N:=11) ?hd (cs:=#[.bool false,.slice none 0 0,.slice none 0 0]) (t:=50) ?hr ?_; (case hd=>rfl); (case hg=>rfl); (case hr=>first | (go_simp; done) | (go_simp; rfl)); intro gb606 hg w30 hbox hb; have n0_:=ve_ HO583 hg hb; have n1_:=ve_ HO586 hg hb; have n2_:=ve_ HO592 hg hb; have n3_:=ve_ HO595 hg hb; have n4_:=ve_ HO602 hg hb; have n5_:=ve_ HO605 hg hb; have n6_:=kb_ BK588 hb; have n7_:=kb_ BK596 hb; have n8_:=bq_ hb; have n9_:=Aside0.mk (hbox); have n11_:=bz_ hg; have n12_:=Aside0.mk ((by rw [hg]; exact Nat.ne_of_lt (blk_lt (g:=gb588) (o:=.cells #[.bool t580,.slice Ao14 t581.length co14,.slice Ao15 t584.length co15] 50 (0,0)) (by (with_reducible repeat (first | apply kn_ | apply kd_ | apply ka_)); exact BK588.out)) : gb588 ≠ gb606)); have n13_:=Aside0.mk ((by rw [hg]; exact Nat.ne_of_gt (blk_lt (g:=gb588) (o:=.cells #[.bool t580,.slice Ao14 t581.length co14,.slice Ao15 t584.length co15] 50 (0,0)) (by (with_reducible repeat (first | apply kn_ | apply kd_ | apply ka_)); exact BK588.out)) : gb606 ≠ gb588)); have n14_:=Aside0.mk ((by rw [hg]; exact Nat.ne_of_lt (blk_lt (g:=gb596) (o:=.cells #[.bool t589,.slice Ao20 t590.length co20,.slice Ao21 t593.length co21] 50 (0,0)) (by (with_reducible repeat (first | apply kn_ | apply kd_ | apply ka_)); exact BK596.out)) : gb596 ≠ gb606)); have n15_:=Aside0.mk ((by rw [hg]; exact Nat.ne_of_gt (blk_lt (g:=gb596) (o:=.cells #[.bool t589,.slice Ao20 t590.length co20,.slice Ao21 t593.length co21] 50 (0,0)) (by (with_reducible repeat (first | apply kn_ | apply kd_ | apply ka_)); exact BK596.out)) : gb606 ≠ gb596)); clear HO583 HO586 HO592 HO595 HO602 HO605 BK588 BK596 HB; have HO583:=n0_; have HO586:=n1_; have HO592:=n2_; have HO595:=n3_; have HO602:=n4_; have HO605:=n5_; have BK588:=n6_; have BK596:=n7_; have HB:=n8_; have BK606:=n9_; have GE606:=n11_; have NB588_606:=n12_; have NB606_588:=n13_; have NB596_606:=n14_; have NB606_596:=n15_; clear n0_ n1_ n2_ n3_ n4_ n5_ n6_ n7_ n8_ n9_ n11_ n12_ n13_ n14_ n15_; clear hb hbox hg; have hnb31:=NB606_588.out; have hnc31:=NB588_606.out; have hnb32:=NB606_596.out; have hnc32:=NB596_606.out; have hcz33_0 : w30.cell? ⟨gb606,0,none⟩ = some (.bool false):=bc_ BK606 0; have hcz33_1 : w30.cell? ⟨gb606,1,none⟩ = some (.slice none 0 0):=bc_ BK606 1; have hcz33_2 : w30.cell? ⟨gb606,2,none⟩ = some (.slice none 0 0):=bc_ BK606 2; have hfz33_0:=blk_frozen BK606.out 0; have hfz33_1:=blk_frozen BK606.out 1; have hfz33_2:=blk_frozen BK606.out 2; obtain ⟨Ao34,co34,eo34⟩:=Kd.V_slice HO602.out; subst eo34; obtain ⟨Ao35,co35,eo35⟩:=Kd.V_slice HO605.out; subst eo35))
  have n0_ : Aside0 (Kd.V (Kd.int .u32) 123 (((w30.setCell ⟨gb606,0,none⟩ (.bool t599)).setCell ⟨gb606,1,none⟩ (.slice Ao34 t600.length co34)).setCell ⟨gb606,2,none⟩ (.slice Ao35 t603.length co35)) w.heap.size (fun k_=>k_ ≠ gb588 ∧ k_ ≠ gb596 ∧ k_ ≠ gb606) (.slice Ao14 t581.length co14) t581):=⟨by (with_reducible repeat (first | apply va_ | apply vn_ | apply vd_)); exact Kd.V_mono (Kd.V_far (p:=⟨gb606,2,none⟩) (Kd.V_far (p:=⟨gb606,1,none⟩) (Kd.V_far (p:=⟨gb606,0,none⟩) (Kd.V_mono HO583.out (fun k_ hk=>(⟨hk,hk.2⟩ : _ ∧ k_ ≠ gb606))) (fun _ hk=>hk.2) (.bool t599)) (fun _ hk=>hk.2) (.slice Ao34 t600.length co34)) (fun _ hk=>hk.2) (.slice Ao35 t603.length co35)) (fun _ hk=>⟨hk.1.1.1.2,⟨hk.1.1.2,hk.1.2⟩⟩)⟩
  have n1_ : Aside0 (Kd.V (Kd.int .u32) 123 (((w30.setCell ⟨gb606,0,none⟩ (.bool t599)).setCell ⟨gb606,1,none⟩ (.slice Ao34 t600.length co34)).setCell ⟨gb606,2,none⟩ (.slice Ao35 t603.length co35)) w.heap.size (fun k_=>k_ ≠ gb588 ∧ k_ ≠ gb596 ∧ k_ ≠ gb606) (.slice Ao15 t584.length co15) t584):=⟨by (with_reducible repeat (first | apply va_ | apply vn_ | apply vd_)); exact Kd.V_mono (Kd.V_far (p:=⟨gb606,2,none⟩) (Kd.V_far (p:=⟨gb606,1,none⟩) (Kd.V_far (p:=⟨gb606,0,none⟩) (Kd.V_mono HO586.out (fun k_ hk=>(⟨hk,hk.2⟩ : _ ∧ k_ ≠ gb606))) (fun _ hk=>hk.2) (.bool t599)) (fun _ hk=>hk.2) (.slice Ao34 t600.length co34)) (fun _ hk=>hk.2) (.slice Ao35 t603.length co35)) (fun _ hk=>⟨hk.1.1.1.2,⟨hk.1.1.2,hk.1.2⟩⟩)⟩
  have n2_ : Aside0 (Kd.V (Kd.int .u32) 123 (((w30.setCell ⟨gb606,0,none⟩ (.bool t599)).setCell ⟨gb606,1,none⟩ (.slice Ao34 t600.length co34)).setCell ⟨gb606,2,none⟩ (.slice Ao35 t603.length co35)) w.heap.size (fun k_=>k_ ≠ gb588 ∧ k_ ≠ gb596 ∧ k_ ≠ gb606) (.slice Ao20 t590.length co20) t590):=⟨by (with_reducible repeat (first | apply va_ | apply vn_ | apply vd_)); exact Kd.V_mono (Kd.V_far (p:=⟨gb606,2,none⟩) (Kd.V_far (p:=⟨gb606,1,none⟩) (Kd.V_far (p:=⟨gb606,0,none⟩) (Kd.V_mono HO592.out (fun k_ hk=>(⟨hk,hk.2⟩ : _ ∧ k_ ≠ gb606))) (fun _ hk=>hk.2) (.bool t599)) (fun _ hk=>hk.2) (.slice Ao34 t600.length co34)) (fun _ hk=>hk.2) (.slice Ao35 t603.length co35)) (fun _ hk=>⟨hk.1.1.1,⟨hk.1.1.2,hk.1.2⟩⟩)⟩
  have n3_ : Aside0 (Kd.V (Kd.int .u32) 123 (((w30.setCell ⟨gb606,0,none⟩ (.bool t599)).setCell ⟨gb606,1,none⟩ (.slice Ao34 t600.length co34)).setCell ⟨gb606,2,none⟩ (.slice Ao35 t603.length co35)) w.heap.size (fun k_=>k_ ≠ gb588 ∧ k_ ≠ gb596 ∧ k_ ≠ gb606) (.slice Ao21 t593.length co21) t593):=⟨by (with_reducible repeat (first | apply va_ | apply vn_ | apply vd_)); exact Kd.V_mono (Kd.V_far (p:=⟨gb606,2,none⟩) (Kd.V_far (p:=⟨gb606,1,none⟩) (Kd.V_far (p:=⟨gb606,0,none⟩) (Kd.V_mono HO595.out (fun k_ hk=>(⟨hk,hk.2⟩ : _ ∧ k_ ≠ gb606))) (fun _ hk=>hk.2) (.bool t599)) (fun _ hk=>hk.2) (.slice Ao34 t600.length co34)) (fun _ hk=>hk.2) (.slice Ao35 t603.length co35)) (fun _ hk=>⟨hk.1.1.1,⟨hk.1.1.2,hk.1.2⟩⟩)⟩
  have n4_ : Aside0 (Kd.V (Kd.int .u32) 123 (((w30.setCell ⟨gb606,0,none⟩ (.bool t599)).setCell ⟨gb606,1,none⟩ (.slice Ao34 t600.length co34)).setCell ⟨gb606,2,none⟩ (.slice Ao35 t603.length co35)) w.heap.size (fun k_=>k_ ≠ gb588 ∧ k_ ≠ gb596 ∧ k_ ≠ gb606) (.slice Ao34 t600.length co34) t600):=⟨by (with_reducible repeat (first | apply va_ | apply vn_ | apply vd_)); exact Kd.V_mono (Kd.V_far (p:=⟨gb606,2,none⟩) (Kd.V_far (p:=⟨gb606,1,none⟩) (Kd.V_far (p:=⟨gb606,0,none⟩) (Kd.V_mono HO602.out (fun k_ hk=>(⟨hk,hk.2⟩ : _ ∧ k_ ≠ gb606))) (fun _ hk=>hk.2) (.bool t599)) (fun _ hk=>hk.2) (.slice Ao34 t600.length co34)) (fun _ hk=>hk.2) (.slice Ao35 t603.length co35)) (fun _ hk=>⟨hk.1.1.1,⟨hk.1.1.2,hk.1.2⟩⟩)⟩
  have n5_ : Aside0 (Kd.V (Kd.int .u32) 123 (((w30.setCell ⟨gb606,0,none⟩ (.bool t599)).setCell ⟨gb606,1,none⟩ (.slice Ao34 t600.length co34)).setCell ⟨gb606,2,none⟩ (.slice Ao35 t603.length co35)) w.heap.size (fun k_=>k_ ≠ gb588 ∧ k_ ≠ gb596 ∧ k_ ≠ gb606) (.slice Ao35 t603.length co35) t603):=⟨by (with_reducible repeat (first | apply va_ | apply vn_ | apply vd_)); exact Kd.V_mono (Kd.V_far (p:=⟨gb606,2,none⟩) (Kd.V_far (p:=⟨gb606,1,none⟩) (Kd.V_far (p:=⟨gb606,0,none⟩) (Kd.V_mono HO605.out (fun k_ hk=>(⟨hk,hk.2⟩ : _ ∧ k_ ≠ gb606))) (fun _ hk=>hk.2) (.bool t599)) (fun _ hk=>hk.2) (.slice Ao34 t600.length co34)) (fun _ hk=>hk.2) (.slice Ao35 t603.length co35)) (fun _ hk=>⟨hk.1.1.1,⟨hk.1.1.2,hk.1.2⟩⟩)⟩
  have n6_ : Aside0 ((((w30.setCell ⟨gb606,0,none⟩ (.bool t599)).setCell ⟨gb606,1,none⟩ (.slice Ao34 t600.length co34)).setCell ⟨gb606,2,none⟩ (.slice Ao35 t603.length co35)).heap[gb588]? = some (.cells #[.bool t580,.slice Ao14 t581.length co14,.slice Ao15 t584.length co15] 50 (0,0))):=⟨by (with_reducible repeat (first | apply kn_ | apply kd_ | apply ka_)); refine blk_far ?_ NB588_606.out _; (with_reducible repeat (first | apply kn_ | apply kd_ | apply ka_)); refine blk_far ?_ NB588_606.out _; (with_reducible repeat (first | apply kn_ | apply kd_ | apply ka_)); refine blk_far ?_ NB588_606.out _; (with_reducible repeat (first | apply kn_ | apply kd_ | apply ka_)); exact BK588.out⟩
  have n7_ : Aside0 ((((w30.setCell ⟨gb606,0,none⟩ (.bool t599)).setCell ⟨gb606,1,none⟩ (.slice Ao34 t600.length co34)).setCell ⟨gb606,2,none⟩ (.slice Ao35 t603.length co35)).heap[gb596]? = some (.cells #[.bool t589,.slice Ao20 t590.length co20,.slice Ao21 t593.length co21] 50 (0,0))):=⟨by (with_reducible repeat (first | apply kn_ | apply kd_ | apply ka_)); refine blk_far ?_ NB596_606.out _; (with_reducible repeat (first | apply kn_ | apply kd_ | apply ka_)); refine blk_far ?_ NB596_606.out _; (with_reducible repeat (first | apply kn_ | apply kd_ | apply ka_)); refine blk_far ?_ NB596_606.out _; (with_reducible repeat (first | apply kn_ | apply kd_ | apply ka_)); exact BK596.out⟩
  have n8_ : Aside0 ((((w30.setCell ⟨gb606,0,none⟩ (.bool t599)).setCell ⟨gb606,1,none⟩ (.slice Ao34 t600.length co34)).setCell ⟨gb606,2,none⟩ (.slice Ao35 t603.length co35)).heap[gb606]? = some (.cells #[.bool t599,.slice Ao34 t600.length co34,.slice Ao35 t603.length co35] 50 (0,0))):=⟨by (with_reducible repeat (first | apply kn_ | apply kd_ | apply ka_)); refine blk_put (cs:=#[.bool t599,.slice Ao34 t600.length co34,.slice none 0 0]) ?_ 2 _ rfl; (with_reducible repeat (first | apply kn_ | apply kd_ | apply ka_)); refine blk_put (cs:=#[.bool t599,.slice none 0 0,.slice none 0 0]) ?_ 1 _ rfl; (with_reducible repeat (first | apply kn_ | apply kd_ | apply ka_)); refine blk_put (cs:=#[.bool false,.slice none 0 0,.slice none 0 0]) ?_ 0 _ rfl; (with_reducible repeat (first | apply kn_ | apply kd_ | apply ka_)); exact BK606.out⟩
  have n9_ : Aside0 (Below w.heap.size w (((w30.setCell ⟨gb606,0,none⟩ (.bool t599)).setCell ⟨gb606,1,none⟩ (.slice Ao34 t600.length co34)).setCell ⟨gb606,2,none⟩ (.slice Ao35 t603.length co35))):=⟨bh_⟩
  (try clear HO583)
  (try clear HO586)
  (try clear HO592)
  (try clear HO595)
  (try clear HO602)
  (try clear HO605)
  (try clear BK588)
  (try clear BK596)
  (try clear BK606)
  (try clear HB)
  generalize (((w30.setCell ⟨gb606,0,none⟩ (.bool t599)).setCell ⟨gb606,1,none⟩ (.slice Ao34 t600.length co34)).setCell ⟨gb606,2,none⟩ (.slice Ao35 t603.length co35)) = w36 at n0_ n1_ n2_ n3_ n4_ n5_ n6_ n7_ n8_ n9_ ⊢
  have HO583:=n0_
  have HO586:=n1_
  have HO592:=n2_
  have HO595:=n3_
  have HO602:=n4_
  have HO605:=n5_
  have BK588:=n6_
  have BK596:=n7_
  have BK606:=n8_
  have HB:=n9_
  clear n0_ n1_ n2_ n3_ n4_ n5_ n6_ n7_ n8_ n9_
  have n0_:=Aside0.mk (Kd.V_drew HO583.out)
  have n1_:=Aside0.mk (Kd.V_drew HO586.out)
  have n2_:=Aside0.mk (Kd.V_drew HO592.out)
  have n3_:=Aside0.mk (Kd.V_drew HO595.out)
  have n4_:=Aside0.mk (Kd.V_drew HO602.out)
  have n5_:=Aside0.mk (Kd.V_drew HO605.out)
  have n6_:=Aside0.mk (blk_drew BK588.out)
  have n7_:=Aside0.mk (blk_drew BK596.out)
  have n8_:=Aside0.mk (blk_drew BK606.out)
  have n9_:=Aside0.mk (below_drew1 HB.out)
  clear HO583
  clear HO586
  clear HO592
  clear HO595
  clear HO602
  clear HO605
  clear BK588
  clear BK596
  clear BK606
  clear HB
  have HO583:=n0_
  have HO586:=n1_
  have HO592:=n2_
  have HO595:=n3_
  have HO602:=n4_
  have HO605:=n5_
  have BK588:=n6_
  have BK596:=n7_
  have BK606:=n8_
  have HB:=n9_
  clear n0_ n1_ n2_ n3_ n4_ n5_ n6_ n7_ n8_ n9_
  refine start_ (n:=24) (S:=fun w'=>w'.cell? ⟨gb606,0,none⟩ = some (.bool t599) ∧ w'.cell? ⟨gb606,1,none⟩ = some (.slice Ao34 t600.length co34) ∧ w'.cell? ⟨gb606,2,none⟩ = some (.slice Ao35 t603.length co35) ∧ w'.cell? ⟨gb588,0,none⟩ = some (.bool t580) ∧ w'.cell? ⟨gb588,1,none⟩ = some (.slice Ao14 t581.length co14) ∧ w'.cell? ⟨gb588,2,none⟩ = some (.slice Ao15 t584.length co15) ∧ w'.cell? ⟨gb596,0,none⟩ = some (.bool t589) ∧ w'.cell? ⟨gb596,1,none⟩ = some (.slice Ao20 t590.length co20) ∧ w'.cell? ⟨gb596,2,none⟩ = some (.slice Ao21 t593.length co21)) (ds:=[]) #[false,false,false,false,false,false,false,false,false,false,false,false,false,false,false,false,false,false,false,false,false,false,false,false] (by kernel_rfl) rfl rfl ⟨bc_ BK606 0,bc_ BK606 1,bc_ BK606 2,bc_ BK588 0,bc_ BK588 1,bc_ BK588 2,bc_ BK596 0,bc_ BK596 1,bc_ BK596 2⟩ (fun hHeld=>?_); refine with_tabW flyballlaw07_ConvNear.tab11 flyballlaw07_ConvNear.bits11 (fun HT_ HW_=>?_)
  generalize w36.drew = w37 at HO583 HO586 HO592 HO595 HO602 HO605 BK588 BK596 BK606 HB hHeld ⊢
  refine take_ (i:=0) (N:=some 38) (v:=?_) (a':=?_) #[true,false,false,false,false,false,false,false,false,false,false,false,false,false,false,false,false,false,false,false,false,false,false,false] rfl rfl (take_ofW HT_.out HW_.out (by kernel_rfl)) (fun _ _ _ h=>h) (Or.inl ⟨by rfl,?_⟩) hHeld ?_ ?_
  rotate_left
  ·
   rintro w' ⟨s0,s1,s2,s3,s4,s5,s6,s7,s8⟩
   go_simp
   with_reducible rfl
  rotate_left
  ·
   simp only [Act.put,p1_,p2_,p3_,i64_w,i32_w]
   rfl
  refine take_ (i:=1) (N:=some 39) (v:=?_) (a':=?_) #[true,true,false,false,false,false,false,false,false,false,false,false,false,false,false,false,false,false,false,false,false,false,false,false] rfl rfl (take_ofW HT_.out HW_.out (by kernel_rfl)) (fun _ _ _ h=>h) (Or.inl ⟨by rfl,?_⟩) hHeld ?_ ?_
  rotate_left
  ·
   rintro w' ⟨s0,s1,s2,s3,s4,s5,s6,s7,s8⟩
   go_simp
   with_reducible rfl
  rotate_left
  ·
   simp only [Act.put,p1_,p2_,p3_,i64_w,i32_w]
   rfl
  refine take_ (i:=4) (N:=some 42) (v:=?_) (a':=?_) #[true,true,false,false,true,false,false,false,false,false,false,false,false,false,false,false,false,false,false,false,false,false,false,false] rfl rfl (take_ofW HT_.out HW_.out (by kernel_rfl)) (fun _ _ _ h=>h) (Or.inl ⟨by rfl,?_⟩) hHeld ?_ ?_
  rotate_left
  ·
   rintro w' ⟨s0,s1,s2,s3,s4,s5,s6,s7,s8⟩
   go_simp
   with_reducible rfl
  rotate_left
  ·
   simp only [Act.put,p1_,p2_,p3_,i64_w,i32_w]
   rfl
  refine one_ (i:=2) (N:=some 40) #[true,true,true,false,true,false,false,false,false,false,false,false,false,false,false,false,false,false,false,false,false,false,false,false] rfl rfl (one_of HT_.out (by kernel_rfl)) (by decide) (fun K hK=>?_)
  refine goesN_ Try.func42 (by kernel_rfl) rfl [.agg #[.bool t599,.slice Ao34 t600.length co34,.slice Ao35 t603.length co35],.agg #[.bool t580,.slice Ao14 t581.length co14,.slice Ao15 t584.length co15]] (by rfl) rfl rfl (by rfl) ?_
  with_reducible refine (ratio_R_Sub.calls k t599 (fun k_=>(k_ ≠ gb588 ∧ (k_ ≠ gb596 ∧ k_ ≠ gb606))) _ _ t600 (fun k_=>(k_ ≠ gb588 ∧ (k_ ≠ gb596 ∧ k_ ≠ gb606))) _ _ t603 t580 (fun k_=>(k_ ≠ gb588 ∧ (k_ ≠ gb596 ∧ k_ ≠ gb606))) _ _ t581 (fun k_=>(k_ ≠ gb588 ∧ (k_ ≠ gb596 ∧ k_ ≠ gb606))) _ _ t584 t607 t608 t611 _ ?side1 ?side2 ?side3 ?side4 A25.out).mono ?_
  (case side1=>exact HO602.out)
  (case side2=>exact HO605.out)
  (case side3=>exact HO583.out)
  (case side4=>exact HO586.out)
  rintro e w38 ⟨v609,v612,rfl,ho0,ho1,hb⟩
  refine ⟨_,rfl,?_⟩
  have n0_:=vb_ HO583 hb
  have n1_:=vb_ HO586 hb
  have n2_:=vb_ HO592 hb
  have n3_:=vb_ HO595 hb
  have n4_:=vb_ HO602 hb
  have n5_:=vb_ HO605 hb
  have n6_:=Aside0.mk (Kd.V_lower (Kd.V_mono (ok':=fun k_=>k_ ≠ gb588 ∧ k_ ≠ gb596 ∧ k_ ≠ gb606) ho0 (fun k_ hk_=>⟨Or.elim hk_ (fun hs_=>Or.elim hs_ (fun hs_=>hs_.1) (fun hs_=>Or.elim hs_ (fun hs_=>hs_.1) (fun hs_=>Or.elim hs_ (fun hs_=>hs_.1) (fun hs_=>hs_.1)))) (fun hn_=>(fb_ BK588 k_ hn_)),Or.elim hk_ (fun hs_=>Or.elim hs_ (fun hs_=>hs_.2.1) (fun hs_=>Or.elim hs_ (fun hs_=>hs_.2.1) (fun hs_=>Or.elim hs_ (fun hs_=>hs_.2.1) (fun hs_=>hs_.2.1)))) (fun hn_=>(fb_ BK596 k_ hn_)),Or.elim hk_ (fun hs_=>Or.elim hs_ (fun hs_=>hs_.2.2) (fun hs_=>Or.elim hs_ (fun hs_=>hs_.2.2) (fun hs_=>Or.elim hs_ (fun hs_=>hs_.2.2) (fun hs_=>hs_.2.2)))) (fun hn_=>(fb_ BK606 k_ hn_))⟩)) (below_size bh_))
  have n7_:=Aside0.mk (Kd.V_lower (Kd.V_mono (ok':=fun k_=>k_ ≠ gb588 ∧ k_ ≠ gb596 ∧ k_ ≠ gb606) ho1 (fun k_ hk_=>⟨Or.elim hk_ (fun hs_=>Or.elim hs_ (fun hs_=>hs_.1) (fun hs_=>Or.elim hs_ (fun hs_=>hs_.1) (fun hs_=>Or.elim hs_ (fun hs_=>hs_.1) (fun hs_=>hs_.1)))) (fun hn_=>(fb_ BK588 k_ hn_)),Or.elim hk_ (fun hs_=>Or.elim hs_ (fun hs_=>hs_.2.1) (fun hs_=>Or.elim hs_ (fun hs_=>hs_.2.1) (fun hs_=>Or.elim hs_ (fun hs_=>hs_.2.1) (fun hs_=>hs_.2.1)))) (fun hn_=>(fb_ BK596 k_ hn_)),Or.elim hk_ (fun hs_=>Or.elim hs_ (fun hs_=>hs_.2.2) (fun hs_=>Or.elim hs_ (fun hs_=>hs_.2.2) (fun hs_=>Or.elim hs_ (fun hs_=>hs_.2.2) (fun hs_=>hs_.2.2)))) (fun hn_=>(fb_ BK606 k_ hn_))⟩)) (below_size bh_))
  have n8_:=kb_ BK588 hb
  have n9_:=kb_ BK596 hb
  have n10_:=kb_ BK606 hb
  have n11_:=bq_ hb
  clear HO583
  clear HO586
  clear HO592
  clear HO595
  clear HO602
  clear HO605
  clear BK588
  clear BK596
  clear BK606
  clear HB
  have HO583:=n0_
  have HO586:=n1_
  have HO592:=n2_
  have HO595:=n3_
  have HO602:=n4_
  have HO605:=n5_
  have HO610:=n6_
  have HO613:=n7_
  have BK588:=n8_
  have BK596:=n9_
  have BK606:=n10_
  have HB:=n11_
  clear n0_ n1_ n2_ n3_ n4_ n5_ n6_ n7_ n8_ n9_ n10_ n11_
  (try clear hb)
  (try clear hb2)
  (try clear hk)
  (try clear hi)
  (try clear ho0)
  (try clear ho1)
  obtain ⟨Ao39,co39,eo39⟩:=Kd.V_slice HO610.out
  (first | subst eo39 | (injection eo39 with f1_ f2_ f3_; have f4_:=f1_.symm; have f5_:=f3_.symm; clear f1_ f2_ f3_; subst f4_; subst f5_))
  obtain ⟨Ao40,co40,eo40⟩:=Kd.V_slice HO613.out
  (first | subst eo40 | (injection eo40 with f1_ f2_ f3_; have f4_:=f1_.symm; have f5_:=f3_.symm; clear f1_ f2_ f3_; subst f4_; subst f5_))
  refine hK.out _ _ ⟨bc_ BK606 0,bc_ BK606 1,bc_ BK606 2,bc_ BK588 0,bc_ BK588 1,bc_ BK588 2,bc_ BK596 0,bc_ BK596 1,bc_ BK596 2⟩ (fun hHeld=>?_)
  clear hK K
  refine norm_ (a':=?_) ?_ ?_
  rotate_left
  ·
   show Act.put _ (some 40) _ = _
   simp only [Act.put,p1_,p2_,p3_,i64_w,i32_w]
   rfl
  refine one_ (i:=3) (N:=some 41) #[true,true,true,true,true,false,false,false,false,false,false,false,false,false,false,false,false,false,false,false,false,false,false,false] rfl rfl (one_of HT_.out (by kernel_rfl)) (by decide) (fun K hK=>?_)
  refine goesN_ Try.func43 (by kernel_rfl) rfl [.agg #[.bool t607,.slice Ao39 t608.length co39,.slice Ao40 t611.length co40]] (by rfl) rfl rfl (by rfl) ?_
  with_reducible refine (ratio_R_Abs.calls k t607 (fun k_=>(k_ ≠ gb588 ∧ (k_ ≠ gb596 ∧ k_ ≠ gb606))) _ _ t608 (fun k_=>(k_ ≠ gb588 ∧ (k_ ≠ gb596 ∧ k_ ≠ gb606))) _ _ t611 t614 t615 t618 _ ?side1 ?side2 A26.out).mono ?_
  (case side1=>exact HO610.out)
  (case side2=>exact HO613.out)
  rintro e w41 ⟨v616,v619,rfl,ho0,ho1,hb⟩
  refine ⟨_,rfl,?_⟩
  have n0_:=vb_ HO583 hb
  have n1_:=vb_ HO586 hb
  have n2_:=vb_ HO592 hb
  have n3_:=vb_ HO595 hb
  have n4_:=vb_ HO602 hb
  have n5_:=vb_ HO605 hb
  have n8_:=Aside0.mk (Kd.V_lower (Kd.V_mono (ok':=fun k_=>k_ ≠ gb588 ∧ k_ ≠ gb596 ∧ k_ ≠ gb606) ho0 (fun k_ hk_=>⟨Or.elim hk_ (fun hs_=>Or.elim hs_ (fun hs_=>hs_.1) (fun hs_=>hs_.1)) (fun hn_=>(fb_ BK588 k_ hn_)),Or.elim hk_ (fun hs_=>Or.elim hs_ (fun hs_=>hs_.2.1) (fun hs_=>hs_.2.1)) (fun hn_=>(fb_ BK596 k_ hn_)),Or.elim hk_ (fun hs_=>Or.elim hs_ (fun hs_=>hs_.2.2) (fun hs_=>hs_.2.2)) (fun hn_=>(fb_ BK606 k_ hn_))⟩)) (below_size bh_))
  have n9_:=Aside0.mk (Kd.V_lower (Kd.V_mono (ok':=fun k_=>k_ ≠ gb588 ∧ k_ ≠ gb596 ∧ k_ ≠ gb606) ho1 (fun k_ hk_=>⟨Or.elim hk_ (fun hs_=>Or.elim hs_ (fun hs_=>hs_.1) (fun hs_=>hs_.1)) (fun hn_=>(fb_ BK588 k_ hn_)),Or.elim hk_ (fun hs_=>Or.elim hs_ (fun hs_=>hs_.2.1) (fun hs_=>hs_.2.1)) (fun hn_=>(fb_ BK596 k_ hn_)),Or.elim hk_ (fun hs_=>Or.elim hs_ (fun hs_=>hs_.2.2) (fun hs_=>hs_.2.2)) (fun hn_=>(fb_ BK606 k_ hn_))⟩)) (below_size bh_))
  have n10_:=kb_ BK588 hb
  have n11_:=kb_ BK596 hb
  have n12_:=kb_ BK606 hb
  have n13_:=bq_ hb
  (try clear BK588)
  (try clear BK596)
  (try clear BK606)
  (try clear HB)
  (try clear HO583)
  (try clear HO586)
  (try clear HO592)
  (try clear HO595)
  (try clear HO602)
  (try clear HO605)
  have HO583:=n0_
  have HO586:=n1_
  have HO592:=n2_
  have HO595:=n3_
  have HO602:=n4_
  have HO605:=n5_
  have HO617:=n8_
  have HO620:=n9_
  have BK588:=n10_
  have BK596:=n11_
  have BK606:=n12_
  have HB:=n13_
  clear n0_ n1_ n2_ n3_ n4_ n5_ n8_ n9_ n10_ n11_ n12_ n13_
  (try clear hb)
  (try clear hb2)
  (try clear hk)
  (try clear hi)
  (try clear ho0)
  (try clear ho1)
  obtain ⟨Ao42,co42,eo42⟩:=Kd.V_slice HO617.out
  (first | subst eo42 | (injection eo42 with f1_ f2_ f3_; have f4_:=f1_.symm; have f5_:=f3_.symm; clear f1_ f2_ f3_; subst f4_; subst f5_))
  obtain ⟨Ao43,co43,eo43⟩:=Kd.V_slice HO620.out
  (first | subst eo43 | (injection eo43 with f1_ f2_ f3_; have f4_:=f1_.symm; have f5_:=f3_.symm; clear f1_ f2_ f3_; subst f4_; subst f5_))
  refine hK.out _ _ ⟨bc_ BK606 0,bc_ BK606 1,bc_ BK606 2,bc_ BK588 0,bc_ BK588 1,bc_ BK588 2,bc_ BK596 0,bc_ BK596 1,bc_ BK596 2⟩ (fun hHeld=>?_)
  clear hK K
  refine norm_ (a':=?_) ?_ ?_
  rotate_left
  ·
   show Act.put _ (some 41) _ = _
   simp only [Act.put,p1_,p2_,p3_,i64_w,i32_w]
   rfl
  refine one_ (i:=5) (N:=some 43) #[true,true,true,true,true,true,false,false,false,false,false,false,false,false,false,false,false,false,false,false,false,false,false,false] rfl rfl (one_of HT_.out (by kernel_rfl)) (by decide) (fun K hK=>?_)
  refine goesN_ Try.func36 (by kernel_rfl) rfl [.agg #[.bool t614,.slice Ao42 t615.length co42,.slice Ao43 t618.length co43],.agg #[.bool t589,.slice Ao20 t590.length co20,.slice Ao21 t593.length co21]] (by rfl) rfl rfl (by rfl) ?_
  with_reducible refine (ratio_R_Cmp.calls k t614 _ _ t615 _ _ t618 t589 _ _ t590 _ _ t593 t621 _ ?side1 ?side2 ?side3 ?side4 ?side5 ?side6 ?side7 ?side8 A27.out).mono ?_
  (case side1=>repeat first | exact (Kd.V_reads' HO617.out).2.2 | with_reducible first | apply ca_ | apply cn_ | apply cd_)
  (case side2=>exact (Kd.V_reads' HO617.out).2.1)
  (case side3=>repeat first | exact (Kd.V_reads' HO620.out).2.2 | with_reducible first | apply ca_ | apply cn_ | apply cd_)
  (case side4=>exact (Kd.V_reads' HO620.out).2.1)
  (case side5=>repeat first | exact (Kd.V_reads' HO592.out).2.2 | with_reducible first | apply ca_ | apply cn_ | apply cd_)
  (case side6=>exact (Kd.V_reads' HO592.out).2.1)
  (case side7=>repeat first | exact (Kd.V_reads' HO595.out).2.2 | with_reducible first | apply ca_ | apply cn_ | apply cd_)
  (case side8=>exact (Kd.V_reads' HO595.out).2.1)
  rintro e w44 ⟨rfl,hb⟩
  refine ⟨_,rfl,?_⟩
  have n0_:=vb_ HO583 hb
  have n1_:=vb_ HO586 hb
  have n2_:=vb_ HO592 hb
  have n3_:=vb_ HO595 hb
  have n4_:=vb_ HO602 hb
  have n5_:=vb_ HO605 hb
  have n10_:=kb_ BK588 hb
  have n11_:=kb_ BK596 hb
  have n12_:=kb_ BK606 hb
  have n13_:=bq_ hb
  (try clear BK588)
  (try clear BK596)
  (try clear BK606)
  (try clear HB)
  (try clear HO583)
  (try clear HO586)
  (try clear HO592)
  (try clear HO595)
  (try clear HO602)
  (try clear HO605)
  have HO583:=n0_
  have HO586:=n1_
  have HO592:=n2_
  have HO595:=n3_
  have HO602:=n4_
  have HO605:=n5_
  have BK588:=n10_
  have BK596:=n11_
  have BK606:=n12_
  have HB:=n13_
  clear n0_ n1_ n2_ n3_ n4_ n5_ n10_ n11_ n12_ n13_
  (try clear hb)
  (try clear hb2)
  (try clear hk)
  (try clear hi)
  refine hK.out _ _ ⟨bc_ BK606 0,bc_ BK606 1,bc_ BK606 2,bc_ BK588 0,bc_ BK588 1,bc_ BK588 2,bc_ BK596 0,bc_ BK596 1,bc_ BK596 2⟩ (fun hHeld=>?_)
  clear hK K
  refine norm_ (a':=?_) ?_ ?_
  rotate_left
  ·
   show Act.put _ (some 43) _ = _
   simp only [Act.put,p1_,p2_,p3_,i64_w,i32_w]
   rfl
  refine pure_ (i:=6) (N:=some 44) (v:=?_) (a':=?_) #[true,true,true,true,true,true,true,false,false,false,false,false,false,false,false,false,false,false,false,false,false,false,false,false] rfl rfl (any_of HT_.out (by kernel_rfl)) (fun _ _ _ h=>h) (Or.inl ⟨by rfl,?_⟩) ?_ ?_
  rotate_left
  ·
   intro w'
   go_simp
   with_reducible rfl
  rotate_left
  ·
   simp only [Act.put,p1_,p2_,p3_,i64_w,i32_w]
   rfl
  refine pure_ (i:=7) (N:=some 45) (v:=?_) (a':=?_) #[true,true,true,true,true,true,true,true,false,false,false,false,false,false,false,false,false,false,false,false,false,false,false,false] rfl rfl (any_of HT_.out (by kernel_rfl)) (fun _ _ _ h=>h) (Or.inl ⟨by rfl,?_⟩) ?_ ?_
  rotate_left
  ·
   intro w'
   go_simp
   with_reducible rfl
  rotate_left
  ·
   simp only [Act.put,p1_,p2_,p3_,i64_w,i32_w]
   rfl
  have H:=HH1_.out
  clear HH1_
  by_cases c28 : t621 ≥ 0
  case pos =>
   rw [if_pos c28] at H
   have c28b0 : decide (0 ≤ t621) = true:=decide_eq_true c28
   clear c28
   obtain rfl:=Option.some.inj H
   (try simp only [c28b0])
   refine pure_ (i:=8) (N:=some 46) (v:=undef) (a':=?_) #[true,true,true,true,true,true,true,true,true,false,false,false,false,false,false,false,false,false,false,false,false,false,false,false] rfl rfl (any_of HT_.out (by kernel_rfl)) (fun _ _ _ h=>h) (Or.inr ⟨by rfl,rfl⟩) ?_ ?_
   rotate_left
   ·
    simp only [Act.put,p1_,p2_,p3_,i64_w,i32_w]
    rfl
   refine pure_ (i:=9) (N:=some 47) (v:=undef) (a':=?_) #[true,true,true,true,true,true,true,true,true,true,false,false,false,false,false,false,false,false,false,false,false,false,false,false] rfl rfl (any_of HT_.out (by kernel_rfl)) (fun _ _ _ h=>h) (Or.inr ⟨by rfl,rfl⟩) ?_ ?_
   rotate_left
   ·
    simp only [Act.put,p1_,p2_,p3_,i64_w,i32_w]
    rfl
   refine pure_ (i:=10) (N:=some 48) (v:=undef) (a':=?_) #[true,true,true,true,true,true,true,true,true,true,true,false,false,false,false,false,false,false,false,false,false,false,false,false] rfl rfl (any_of HT_.out (by kernel_rfl)) (fun _ _ _ h=>h) (Or.inr ⟨by rfl,rfl⟩) ?_ ?_
   rotate_left
   ·
    simp only [Act.put,p1_,p2_,p3_,i64_w,i32_w]
    rfl
   refine pure_ (i:=11) (N:=some 49) (v:=undef) (a':=?_) #[true,true,true,true,true,true,true,true,true,true,true,true,false,false,false,false,false,false,false,false,false,false,false,false] rfl rfl (any_of HT_.out (by kernel_rfl)) (fun _ _ _ h=>h) (Or.inr ⟨by rfl,rfl⟩) ?_ ?_
   rotate_left
   ·
    simp only [Act.put,p1_,p2_,p3_,i64_w,i32_w]
    rfl
   refine pure_ (i:=12) (N:=some 50) (v:=undef) (a':=?_) #[true,true,true,true,true,true,true,true,true,true,true,true,true,false,false,false,false,false,false,false,false,false,false,false] rfl rfl (any_of HT_.out (by kernel_rfl)) (fun _ _ _ h=>h) (Or.inr ⟨by rfl,rfl⟩) ?_ ?_
   rotate_left
   ·
    simp only [Act.put,p1_,p2_,p3_,i64_w,i32_w]
    rfl
   refine pure_ (i:=13) (N:=some 51) (v:=undef) (a':=?_) #[true,true,true,true,true,true,true,true,true,true,true,true,true,true,false,false,false,false,false,false,false,false,false,false] rfl rfl (any_of HT_.out (by kernel_rfl)) (fun _ _ _ h=>h) (Or.inr ⟨by rfl,rfl⟩) ?_ ?_
   rotate_left
   ·
    simp only [Act.put,p1_,p2_,p3_,i64_w,i32_w]
    rfl
   refine pure_ (i:=14) (N:=some 52) (v:=?_) (a':=?_) #[true,true,true,true,true,true,true,true,true,true,true,true,true,true,true,false,false,false,false,false,false,false,false,false] rfl rfl (any_of HT_.out (by kernel_rfl)) (fun _ _ _ h=>h) (Or.inl ⟨by rfl,?_⟩) ?_ ?_
   rotate_left
   ·
    intro w'
    go_simp
    with_reducible rfl
   rotate_left
   ·
    simp only [Act.put,p1_,p2_,p3_,i64_w,i32_w]
    rfl
   refine pure_ (i:=15) (N:=some 53) (v:=?_) (a':=?_) #[true,true,true,true,true,true,true,true,true,true,true,true,true,true,true,true,false,false,false,false,false,false,false,false] rfl rfl (any_of HT_.out (by kernel_rfl)) (fun _ _ _ h=>h) (Or.inl ⟨by rfl,?_⟩) ?_ ?_
   rotate_left
   ·
    intro w'
    go_simp
    with_reducible rfl
   rotate_left
   ·
    simp only [Act.put,p1_,p2_,p3_,i64_w,i32_w]
    rfl
   refine pure_ (i:=16) (N:=some 54) (v:=undef) (a':=?_) #[true,true,true,true,true,true,true,true,true,true,true,true,true,true,true,true,true,false,false,false,false,false,false,false] rfl rfl (any_of HT_.out (by kernel_rfl)) (fun _ _ _ h=>h) (Or.inr ⟨by rfl,rfl⟩) ?_ ?_
   rotate_left
   ·
    simp only [Act.put,p1_,p2_,p3_,i64_w,i32_w]
    rfl
   refine pure_ (i:=17) (N:=some 55) (v:=undef) (a':=?_) #[true,true,true,true,true,true,true,true,true,true,true,true,true,true,true,true,true,true,false,false,false,false,false,false] rfl rfl (any_of HT_.out (by kernel_rfl)) (fun _ _ _ h=>h) (Or.inr ⟨by rfl,rfl⟩) ?_ ?_
   rotate_left
   ·
    simp only [Act.put,p1_,p2_,p3_,i64_w,i32_w]
    rfl
   refine pure_ (i:=18) (N:=some 56) (v:=undef) (a':=?_) #[true,true,true,true,true,true,true,true,true,true,true,true,true,true,true,true,true,true,true,false,false,false,false,false] rfl rfl (any_of HT_.out (by kernel_rfl)) (fun _ _ _ h=>h) (Or.inr ⟨by rfl,rfl⟩) ?_ ?_
   rotate_left
   ·
    simp only [Act.put,p1_,p2_,p3_,i64_w,i32_w]
    rfl
   refine pure_ (i:=19) (N:=some 57) (v:=undef) (a':=?_) #[true,true,true,true,true,true,true,true,true,true,true,true,true,true,true,true,true,true,true,true,false,false,false,false] rfl rfl (any_of HT_.out (by kernel_rfl)) (fun _ _ _ h=>h) (Or.inr ⟨by rfl,rfl⟩) ?_ ?_
   rotate_left
   ·
    simp only [Act.put,p1_,p2_,p3_,i64_w,i32_w]
    rfl
   refine pure_ (i:=20) (N:=some 58) (v:=undef) (a':=?_) #[true,true,true,true,true,true,true,true,true,true,true,true,true,true,true,true,true,true,true,true,true,false,false,false] rfl rfl (any_of HT_.out (by kernel_rfl)) (fun _ _ _ h=>h) (Or.inr ⟨by rfl,rfl⟩) ?_ ?_
   rotate_left
   ·
    simp only [Act.put,p1_,p2_,p3_,i64_w,i32_w]
    rfl
   refine pure_ (i:=21) (N:=some 59) (v:=undef) (a':=?_) #[true,true,true,true,true,true,true,true,true,true,true,true,true,true,true,true,true,true,true,true,true,true,false,false] rfl rfl (any_of HT_.out (by kernel_rfl)) (fun _ _ _ h=>h) (Or.inr ⟨by rfl,rfl⟩) ?_ ?_
   rotate_left
   ·
    simp only [Act.put,p1_,p2_,p3_,i64_w,i32_w]
    rfl
   refine pure_ (i:=22) (N:=some 60) (v:=undef) (a':=?_) #[true,true,true,true,true,true,true,true,true,true,true,true,true,true,true,true,true,true,true,true,true,true,true,false] rfl rfl (any_of HT_.out (by kernel_rfl)) (fun _ _ _ h=>h) (Or.inr ⟨by rfl,rfl⟩) ?_ ?_
   rotate_left
   ·
    simp only [Act.put,p1_,p2_,p3_,i64_w,i32_w]
    rfl
   refine pure_ (i:=23) (N:=some 61) (v:=?_) (a':=?_) #[true,true,true,true,true,true,true,true,true,true,true,true,true,true,true,true,true,true,true,true,true,true,true,true] rfl rfl (any_of HT_.out (by kernel_rfl)) (fun _ _ _ h=>h) (Or.inl ⟨by rfl,?_⟩) ?_ ?_
   rotate_left
   ·
    intro w'
    go_simp
    with_reducible rfl
   rotate_left
   ·
    simp only [Act.put,p1_,p2_,p3_,i64_w,i32_w]
    rfl
   refine done_ (done_of HT_.out (by kernel_rfl)) ?_
   try go_wp2
   go_ret
   exact ⟨eh_,bh_⟩
  rw [if_neg c28] at H
  have c28b0 : decide (0 ≤ t621) = false:=decide_eq_false c28
  clear c28
  replace H:=Option.bind_eq_some_iff.mp H
  obtain ⟨⟨t622,t623,t626⟩,A450,H⟩:=H
  replace H : ((ratio_R_Abs.f k t580 t581 t584).bind fun bt629=>((ratio_R_Cmp.f k t622 t623 t626 bt629.1 bt629.2.1 bt629.2.2).bind fun t636=>(if t636 > 0 then (some false) else ((ratio_R_Cmp.f k t599 t600 t603 t580 t581 t584).bind fun t637=>(if ((t598 == 1) != (t637 != 0)) = true then (some false) else (flyballlaw07_ConvNear.j0 k a0 a1 true t580 t581 t584 t589 t590 t593)))))) = some r:=H
  have A45:=Aside0.mk A450
  clear A450
  replace H:=Option.bind_eq_some_iff.mp H
  obtain ⟨⟨t629,t630,t633⟩,A460,H⟩:=H
  replace H : ((ratio_R_Cmp.f k t622 t623 t626 t629 t630 t633).bind fun t636=>(if t636 > 0 then (some false) else ((ratio_R_Cmp.f k t599 t600 t603 t580 t581 t584).bind fun t637=>(if ((t598 == 1) != (t637 != 0)) = true then (some false) else (flyballlaw07_ConvNear.j0 k a0 a1 true t580 t581 t584 t589 t590 t593))))) = some r:=H
  have A46:=Aside0.mk A460
  clear A460
  replace H:=Option.bind_eq_some_iff.mp H
  obtain ⟨t636,A470,H⟩:=H
  replace H : (if t636 > 0 then (some false) else ((ratio_R_Cmp.f k t599 t600 t603 t580 t581 t584).bind fun t637=>(if ((t598 == 1) != (t637 != 0)) = true then (some false) else (flyballlaw07_ConvNear.j0 k a0 a1 true t580 t581 t584 t589 t590 t593)))) = some r:=H
  have A47:=Aside0.mk A470
  clear A470
  by_cases c48 : t636 > 0
  case pos =>
   rw [if_pos c48] at H
   have c48b0 : decide (0 < t636) = true:=decide_eq_true c48
   clear c48
   obtain rfl:=Option.some.inj H
   (try simp only [c28b0,c48b0])
   refine take_ (i:=8) (N:=some 46) (v:=?_) (a':=?_) #[true,true,true,true,true,true,true,true,true,false,false,false,false,false,false,false,false,false,false,false,false,false,false,false] rfl rfl (take_ofW HT_.out HW_.out (by kernel_rfl)) (fun _ _ _ h=>h) (Or.inl ⟨by rfl,?_⟩) hHeld ?_ ?_
   rotate_left
   ·
    rintro w' ⟨s0,s1,s2,s3,s4,s5,s6,s7,s8⟩
    go_simp
    with_reducible rfl
   rotate_left
   ·
    simp only [Act.put,p1_,p2_,p3_,i64_w,i32_w]
    rfl
   refine take_ (i:=10) (N:=some 48) (v:=?_) (a':=?_) #[true,true,true,true,true,true,true,true,true,false,true,false,false,false,false,false,false,false,false,false,false,false,false,false] rfl rfl (take_ofW HT_.out HW_.out (by kernel_rfl)) (fun _ _ _ h=>h) (Or.inl ⟨by rfl,?_⟩) hHeld ?_ ?_
   rotate_left
   ·
    rintro w' ⟨s0,s1,s2,s3,s4,s5,s6,s7,s8⟩
    go_simp
    with_reducible rfl
   rotate_left
   ·
    simp only [Act.put,p1_,p2_,p3_,i64_w,i32_w]
    rfl
   refine one_ (i:=9) (N:=some 47) #[true,true,true,true,true,true,true,true,true,true,true,false,false,false,false,false,false,false,false,false,false,false,false,false] rfl rfl (one_of HT_.out (by kernel_rfl)) (by decide) (fun K hK=>?_)
   refine goesN_ Try.func43 (by kernel_rfl) rfl [.agg #[.bool t599,.slice Ao34 t600.length co34,.slice Ao35 t603.length co35]] (by rfl) rfl rfl (by rfl) ?_
   with_reducible refine (ratio_R_Abs.calls k t599 (fun k_=>(k_ ≠ gb588 ∧ (k_ ≠ gb596 ∧ k_ ≠ gb606))) _ _ t600 (fun k_=>(k_ ≠ gb588 ∧ (k_ ≠ gb596 ∧ k_ ≠ gb606))) _ _ t603 t622 t623 t626 _ ?side1 ?side2 A45.out).mono ?_
   (case side1=>exact HO602.out)
   (case side2=>exact HO605.out)
   rintro e w65 ⟨v624,v627,rfl,ho0,ho1,hb⟩
   refine ⟨_,rfl,?_⟩
   have n0_:=vb_ HO583 hb
   have n1_:=vb_ HO586 hb
   have n10_:=Aside0.mk (Kd.V_lower (Kd.V_mono (ok':=fun k_=>k_ ≠ gb588 ∧ k_ ≠ gb596 ∧ k_ ≠ gb606) ho0 (fun k_ hk_=>⟨Or.elim hk_ (fun hs_=>Or.elim hs_ (fun hs_=>hs_.1) (fun hs_=>hs_.1)) (fun hn_=>(fb_ BK588 k_ hn_)),Or.elim hk_ (fun hs_=>Or.elim hs_ (fun hs_=>hs_.2.1) (fun hs_=>hs_.2.1)) (fun hn_=>(fb_ BK596 k_ hn_)),Or.elim hk_ (fun hs_=>Or.elim hs_ (fun hs_=>hs_.2.2) (fun hs_=>hs_.2.2)) (fun hn_=>(fb_ BK606 k_ hn_))⟩)) (below_size bh_))
   have n11_:=Aside0.mk (Kd.V_lower (Kd.V_mono (ok':=fun k_=>k_ ≠ gb588 ∧ k_ ≠ gb596 ∧ k_ ≠ gb606) ho1 (fun k_ hk_=>⟨Or.elim hk_ (fun hs_=>Or.elim hs_ (fun hs_=>hs_.1) (fun hs_=>hs_.1)) (fun hn_=>(fb_ BK588 k_ hn_)),Or.elim hk_ (fun hs_=>Or.elim hs_ (fun hs_=>hs_.2.1) (fun hs_=>hs_.2.1)) (fun hn_=>(fb_ BK596 k_ hn_)),Or.elim hk_ (fun hs_=>Or.elim hs_ (fun hs_=>hs_.2.2) (fun hs_=>hs_.2.2)) (fun hn_=>(fb_ BK606 k_ hn_))⟩)) (below_size bh_))
   have n12_:=kb_ BK588 hb
   have n13_:=kb_ BK596 hb
   have n14_:=kb_ BK606 hb
   have n15_:=bq_ hb
   (try clear BK588)
   (try clear BK596)
   (try clear BK606)
   (try clear HB)
   (try clear HO583)
   (try clear HO586)
   have HO583:=n0_
   have HO586:=n1_
   have HO625:=n10_
   have HO628:=n11_
   have BK588:=n12_
   have BK596:=n13_
   have BK606:=n14_
   have HB:=n15_
   clear n0_ n1_ n10_ n11_ n12_ n13_ n14_ n15_
   (try clear hb)
   (try clear hb2)
   (try clear hk)
   (try clear hi)
   (try clear ho0)
   (try clear ho1)
   refine hK.out _ _ ⟨bc_ BK606 0,bc_ BK606 1,bc_ BK606 2,bc_ BK588 0,bc_ BK588 1,bc_ BK588 2,bc_ BK596 0,bc_ BK596 1,bc_ BK596 2⟩ (fun hHeld=>?_)
   clear hK K
   refine norm_ (a':=?_) ?_ ?_
   rotate_left
   ·
    show Act.put _ (some 47) _ = _
    simp only [Act.put,p1_,p2_,p3_,i64_w,i32_w]
    rfl
   refine one_ (i:=11) (N:=some 49) #[true,true,true,true,true,true,true,true,true,true,true,true,false,false,false,false,false,false,false,false,false,false,false,false] rfl rfl (one_of HT_.out (by kernel_rfl)) (by decide) (fun K hK=>?_)
   refine goesN_ Try.func43 (by kernel_rfl) rfl [.agg #[.bool t580,.slice Ao14 t581.length co14,.slice Ao15 t584.length co15]] (by rfl) rfl rfl (by rfl) ?_
   with_reducible refine (ratio_R_Abs.calls k t580 (fun k_=>(k_ ≠ gb588 ∧ (k_ ≠ gb596 ∧ k_ ≠ gb606))) _ _ t581 (fun k_=>(k_ ≠ gb588 ∧ (k_ ≠ gb596 ∧ k_ ≠ gb606))) _ _ t584 t629 t630 t633 _ ?side1 ?side2 A46.out).mono ?_
   (case side1=>exact HO583.out)
   (case side2=>exact HO586.out)
   rintro e w66 ⟨v631,v634,rfl,ho0,ho1,hb⟩
   refine ⟨_,rfl,?_⟩
   have n10_:=vb_ HO625 hb
   have n11_:=vb_ HO628 hb
   have n12_:=Aside0.mk (Kd.V_lower (Kd.V_mono (ok':=fun k_=>k_ ≠ gb588 ∧ k_ ≠ gb596 ∧ k_ ≠ gb606) ho0 (fun k_ hk_=>⟨Or.elim hk_ (fun hs_=>Or.elim hs_ (fun hs_=>hs_.1) (fun hs_=>hs_.1)) (fun hn_=>(fb_ BK588 k_ hn_)),Or.elim hk_ (fun hs_=>Or.elim hs_ (fun hs_=>hs_.2.1) (fun hs_=>hs_.2.1)) (fun hn_=>(fb_ BK596 k_ hn_)),Or.elim hk_ (fun hs_=>Or.elim hs_ (fun hs_=>hs_.2.2) (fun hs_=>hs_.2.2)) (fun hn_=>(fb_ BK606 k_ hn_))⟩)) (below_size bh_))
   have n13_:=Aside0.mk (Kd.V_lower (Kd.V_mono (ok':=fun k_=>k_ ≠ gb588 ∧ k_ ≠ gb596 ∧ k_ ≠ gb606) ho1 (fun k_ hk_=>⟨Or.elim hk_ (fun hs_=>Or.elim hs_ (fun hs_=>hs_.1) (fun hs_=>hs_.1)) (fun hn_=>(fb_ BK588 k_ hn_)),Or.elim hk_ (fun hs_=>Or.elim hs_ (fun hs_=>hs_.2.1) (fun hs_=>hs_.2.1)) (fun hn_=>(fb_ BK596 k_ hn_)),Or.elim hk_ (fun hs_=>Or.elim hs_ (fun hs_=>hs_.2.2) (fun hs_=>hs_.2.2)) (fun hn_=>(fb_ BK606 k_ hn_))⟩)) (below_size bh_))
   have n14_:=kb_ BK588 hb
   have n15_:=kb_ BK596 hb
   have n16_:=kb_ BK606 hb
   have n17_:=bq_ hb
   (try clear BK588)
   (try clear BK596)
   (try clear BK606)
   (try clear HB)
   (try clear HO625)
   (try clear HO628)
   have HO625:=n10_
   have HO628:=n11_
   have HO632:=n12_
   have HO635:=n13_
   have BK588:=n14_
   have BK596:=n15_
   have BK606:=n16_
   have HB:=n17_
   clear n10_ n11_ n12_ n13_ n14_ n15_ n16_ n17_
   (try clear hb)
   (try clear hb2)
   (try clear hk)
   (try clear hi)
   (try clear ho0)
   (try clear ho1)
   obtain ⟨Ao67,co67,eo67⟩:=Kd.V_slice HO625.out
   (first | subst eo67 | (injection eo67 with f1_ f2_ f3_; have f4_:=f1_.symm; have f5_:=f3_.symm; clear f1_ f2_ f3_; subst f4_; subst f5_))
   obtain ⟨Ao68,co68,eo68⟩:=Kd.V_slice HO628.out
   (first | subst eo68 | (injection eo68 with f1_ f2_ f3_; have f4_:=f1_.symm; have f5_:=f3_.symm; clear f1_ f2_ f3_; subst f4_; subst f5_))
   obtain ⟨Ao69,co69,eo69⟩:=Kd.V_slice HO632.out
   (first | subst eo69 | (injection eo69 with f1_ f2_ f3_; have f4_:=f1_.symm; have f5_:=f3_.symm; clear f1_ f2_ f3_; subst f4_; subst f5_))
   obtain ⟨Ao70,co70,eo70⟩:=Kd.V_slice HO635.out
   (first | subst eo70 | (injection eo70 with f1_ f2_ f3_; have f4_:=f1_.symm; have f5_:=f3_.symm; clear f1_ f2_ f3_; subst f4_; subst f5_))
   refine hK.out _ _ ⟨bc_ BK606 0,bc_ BK606 1,bc_ BK606 2,bc_ BK588 0,bc_ BK588 1,bc_ BK588 2,bc_ BK596 0,bc_ BK596 1,bc_ BK596 2⟩ (fun hHeld=>?_)
   clear hK K
   refine norm_ (a':=?_) ?_ ?_
   rotate_left
   ·
    show Act.put _ (some 49) _ = _
    simp only [Act.put,p1_,p2_,p3_,i64_w,i32_w]
    rfl
   refine one_ (i:=12) (N:=some 50) #[true,true,true,true,true,true,true,true,true,true,true,true,true,false,false,false,false,false,false,false,false,false,false,false] rfl rfl (one_of HT_.out (by kernel_rfl)) (by decide) (fun K hK=>?_)
   refine goesN_ Try.func36 (by kernel_rfl) rfl [.agg #[.bool t622,.slice Ao67 t623.length co67,.slice Ao68 t626.length co68],.agg #[.bool t629,.slice Ao69 t630.length co69,.slice Ao70 t633.length co70]] (by rfl) rfl rfl (by rfl) ?_
   with_reducible refine (ratio_R_Cmp.calls k t622 _ _ t623 _ _ t626 t629 _ _ t630 _ _ t633 t636 _ ?side1 ?side2 ?side3 ?side4 ?side5 ?side6 ?side7 ?side8 A47.out).mono ?_
   (case side1=>repeat first | exact (Kd.V_reads' HO625.out).2.2 | with_reducible first | apply ca_ | apply cn_ | apply cd_)
   (case side2=>exact (Kd.V_reads' HO625.out).2.1)
   (case side3=>repeat first | exact (Kd.V_reads' HO628.out).2.2 | with_reducible first | apply ca_ | apply cn_ | apply cd_)
   (case side4=>exact (Kd.V_reads' HO628.out).2.1)
   (case side5=>repeat first | exact (Kd.V_reads' HO632.out).2.2 | with_reducible first | apply ca_ | apply cn_ | apply cd_)
   (case side6=>exact (Kd.V_reads' HO632.out).2.1)
   (case side7=>repeat first | exact (Kd.V_reads' HO635.out).2.2 | with_reducible first | apply ca_ | apply cn_ | apply cd_)
   (case side8=>exact (Kd.V_reads' HO635.out).2.1)
   rintro e w71 ⟨rfl,hb⟩
   refine ⟨_,rfl,?_⟩
   have n14_:=kb_ BK588 hb
   have n15_:=kb_ BK596 hb
   have n16_:=kb_ BK606 hb
   have n17_:=bq_ hb
   (try clear BK588)
   (try clear BK596)
   (try clear BK606)
   (try clear HB)
   have BK588:=n14_
   have BK596:=n15_
   have BK606:=n16_
   have HB:=n17_
   clear n14_ n15_ n16_ n17_
   (try clear hb)
   (try clear hb2)
   (try clear hk)
   (try clear hi)
   refine hK.out _ _ ⟨bc_ BK606 0,bc_ BK606 1,bc_ BK606 2,bc_ BK588 0,bc_ BK588 1,bc_ BK588 2,bc_ BK596 0,bc_ BK596 1,bc_ BK596 2⟩ (fun hHeld=>?_)
   clear hK K
   refine norm_ (a':=?_) ?_ ?_
   rotate_left
   ·
    show Act.put _ (some 50) _ = _
    simp only [Act.put,p1_,p2_,p3_,i64_w,i32_w]
    rfl
   refine pure_ (i:=13) (N:=some 51) (v:=?_) (a':=?_) #[true,true,true,true,true,true,true,true,true,true,true,true,true,true,false,false,false,false,false,false,false,false,false,false] rfl rfl (any_of HT_.out (by kernel_rfl)) (fun _ _ _ h=>h) (Or.inl ⟨by rfl,?_⟩) ?_ ?_
   rotate_left
   ·
    intro w'
    go_simp
    with_reducible rfl
   rotate_left
   ·
    simp only [Act.put,p1_,p2_,p3_,i64_w,i32_w]
    rfl
   refine pure_ (i:=14) (N:=some 52) (v:=?_) (a':=?_) #[true,true,true,true,true,true,true,true,true,true,true,true,true,true,true,false,false,false,false,false,false,false,false,false] rfl rfl (any_of HT_.out (by kernel_rfl)) (fun _ _ _ h=>h) (Or.inl ⟨by rfl,?_⟩) ?_ ?_
   rotate_left
   ·
    intro w'
    go_simp
    with_reducible rfl
   rotate_left
   ·
    simp only [Act.put,p1_,p2_,p3_,i64_w,i32_w]
    rfl
   refine pure_ (i:=15) (N:=some 53) (v:=?_) (a':=?_) #[true,true,true,true,true,true,true,true,true,true,true,true,true,true,true,true,false,false,false,false,false,false,false,false] rfl rfl (any_of HT_.out (by kernel_rfl)) (fun _ _ _ h=>h) (Or.inl ⟨by rfl,?_⟩) ?_ ?_
   rotate_left
   ·
    intro w'
    go_simp
    with_reducible rfl
   rotate_left
   ·
    simp only [Act.put,p1_,p2_,p3_,i64_w,i32_w]
    rfl
   refine pure_ (i:=16) (N:=some 54) (v:=undef) (a':=?_) #[true,true,true,true,true,true,true,true,true,true,true,true,true,true,true,true,true,false,false,false,false,false,false,false] rfl rfl (any_of HT_.out (by kernel_rfl)) (fun _ _ _ h=>h) (Or.inr ⟨by rfl,rfl⟩) ?_ ?_
   rotate_left
   ·
    simp only [Act.put,p1_,p2_,p3_,i64_w,i32_w]
    rfl
   refine pure_ (i:=17) (N:=some 55) (v:=undef) (a':=?_) #[true,true,true,true,true,true,true,true,true,true,true,true,true,true,true,true,true,true,false,false,false,false,false,false] rfl rfl (any_of HT_.out (by kernel_rfl)) (fun _ _ _ h=>h) (Or.inr ⟨by rfl,rfl⟩) ?_ ?_
   rotate_left
   ·
    simp only [Act.put,p1_,p2_,p3_,i64_w,i32_w]
    rfl
   refine pure_ (i:=18) (N:=some 56) (v:=undef) (a':=?_) #[true,true,true,true,true,true,true,true,true,true,true,true,true,true,true,true,true,true,true,false,false,false,false,false] rfl rfl (any_of HT_.out (by kernel_rfl)) (fun _ _ _ h=>h) (Or.inr ⟨by rfl,rfl⟩) ?_ ?_
   rotate_left
   ·
    simp only [Act.put,p1_,p2_,p3_,i64_w,i32_w]
    rfl
   refine pure_ (i:=19) (N:=some 57) (v:=undef) (a':=?_) #[true,true,true,true,true,true,true,true,true,true,true,true,true,true,true,true,true,true,true,true,false,false,false,false] rfl rfl (any_of HT_.out (by kernel_rfl)) (fun _ _ _ h=>h) (Or.inr ⟨by rfl,rfl⟩) ?_ ?_
   rotate_left
   ·
    simp only [Act.put,p1_,p2_,p3_,i64_w,i32_w]
    rfl
   refine pure_ (i:=20) (N:=some 58) (v:=undef) (a':=?_) #[true,true,true,true,true,true,true,true,true,true,true,true,true,true,true,true,true,true,true,true,true,false,false,false] rfl rfl (any_of HT_.out (by kernel_rfl)) (fun _ _ _ h=>h) (Or.inr ⟨by rfl,rfl⟩) ?_ ?_
   rotate_left
   ·
    simp only [Act.put,p1_,p2_,p3_,i64_w,i32_w]
    rfl
   refine pure_ (i:=21) (N:=some 59) (v:=undef) (a':=?_) #[true,true,true,true,true,true,true,true,true,true,true,true,true,true,true,true,true,true,true,true,true,true,false,false] rfl rfl (any_of HT_.out (by kernel_rfl)) (fun _ _ _ h=>h) (Or.inr ⟨by rfl,rfl⟩) ?_ ?_
   rotate_left
   ·
    simp only [Act.put,p1_,p2_,p3_,i64_w,i32_w]
    rfl
   refine pure_ (i:=22) (N:=some 60) (v:=undef) (a':=?_) #[true,true,true,true,true,true,true,true,true,true,true,true,true,true,true,true,true,true,true,true,true,true,true,false] rfl rfl (any_of HT_.out (by kernel_rfl)) (fun _ _ _ h=>h) (Or.inr ⟨by rfl,rfl⟩) ?_ ?_
   rotate_left
   ·
    simp only [Act.put,p1_,p2_,p3_,i64_w,i32_w]
    rfl
   refine pure_ (i:=23) (N:=some 61) (v:=?_) (a':=?_) #[true,true,true,true,true,true,true,true,true,true,true,true,true,true,true,true,true,true,true,true,true,true,true,true] rfl rfl (any_of HT_.out (by kernel_rfl)) (fun _ _ _ h=>h) (Or.inl ⟨by rfl,?_⟩) ?_ ?_
   rotate_left
   ·
    intro w'
    go_simp
    with_reducible rfl
   rotate_left
   ·
    simp only [Act.put,p1_,p2_,p3_,i64_w,i32_w]
    rfl
   refine done_ (done_of HT_.out (by kernel_rfl)) ?_
   try go_wp2
   go_ret
   exact ⟨eh_,bh_⟩
  rw [if_neg c48] at H
  have c48b0 : decide (0 < t636) = false:=decide_eq_false c48
  clear c48
  replace H:=Option.bind_eq_some_iff.mp H
  obtain ⟨t637,A720,H⟩:=H
  replace H : (if ((t598 == 1) != (t637 != 0)) = true then (some false) else (flyballlaw07_ConvNear.j0 k a0 a1 true t580 t581 t584 t589 t590 t593)) = some r:=H
  have A72:=Aside0.mk A720
  clear A720
  by_cases c73 : ((t598 == 1) != (t637 != 0)) = true
  case pos =>
   rw [if_pos c73] at H
   have c73b0 : ((t598 == 1) != (t637 != 0)) = true:=c73
   (try (have c73b1 : decide ((t598 == 1) = (t637 != 0)) = false:=by simpa using c73))
   (try (have c73b2 : ((t598 == 1) == (t637 != 0)) = false:=by simpa using c73))
   (try (have c73b3 : ¬ ((t598 == 1) = (t637 != 0)):=by simpa using c73))
   clear c73
   obtain rfl:=Option.some.inj H
   (try simp only [c28b0,c48b0,c73b0])
   refine take_ (i:=8) (N:=some 46) (v:=?_) (a':=?_) #[true,true,true,true,true,true,true,true,true,false,false,false,false,false,false,false,false,false,false,false,false,false,false,false] rfl rfl (take_ofW HT_.out HW_.out (by kernel_rfl)) (fun _ _ _ h=>h) (Or.inl ⟨by rfl,?_⟩) hHeld ?_ ?_
   rotate_left
   ·
    rintro w' ⟨s0,s1,s2,s3,s4,s5,s6,s7,s8⟩
    go_simp
    with_reducible rfl
   rotate_left
   ·
    simp only [Act.put,p1_,p2_,p3_,i64_w,i32_w]
    rfl
   refine take_ (i:=10) (N:=some 48) (v:=?_) (a':=?_) #[true,true,true,true,true,true,true,true,true,false,true,false,false,false,false,false,false,false,false,false,false,false,false,false] rfl rfl (take_ofW HT_.out HW_.out (by kernel_rfl)) (fun _ _ _ h=>h) (Or.inl ⟨by rfl,?_⟩) hHeld ?_ ?_
   rotate_left
   ·
    rintro w' ⟨s0,s1,s2,s3,s4,s5,s6,s7,s8⟩
    go_simp
    with_reducible rfl
   rotate_left
   ·
    simp only [Act.put,p1_,p2_,p3_,i64_w,i32_w]
    rfl
   refine one_ (i:=9) (N:=some 47) #[true,true,true,true,true,true,true,true,true,true,true,false,false,false,false,false,false,false,false,false,false,false,false,false] rfl rfl (one_of HT_.out (by kernel_rfl)) (by decide) (fun K hK=>?_)
   refine goesN_ Try.func43 (by kernel_rfl) rfl [.agg #[.bool t599,.slice Ao34 t600.length co34,.slice Ao35 t603.length co35]] (by rfl) rfl rfl (by rfl) ?_
   with_reducible refine (ratio_R_Abs.calls k t599 (fun k_=>(k_ ≠ gb588 ∧ (k_ ≠ gb596 ∧ k_ ≠ gb606))) _ _ t600 (fun k_=>(k_ ≠ gb588 ∧ (k_ ≠ gb596 ∧ k_ ≠ gb606))) _ _ t603 t622 t623 t626 _ ?side1 ?side2 A45.out).mono ?_
   (case side1=>exact HO602.out)
   (case side2=>exact HO605.out)
   rintro e w90 ⟨v624,v627,rfl,ho0,ho1,hb⟩
   refine ⟨_,rfl,?_⟩
   have n0_:=vb_ HO583 hb
   have n1_:=vb_ HO586 hb
   have n4_:=vb_ HO602 hb
   have n5_:=vb_ HO605 hb
   have n10_:=Aside0.mk (Kd.V_lower (Kd.V_mono (ok':=fun k_=>k_ ≠ gb588 ∧ k_ ≠ gb596 ∧ k_ ≠ gb606) ho0 (fun k_ hk_=>⟨Or.elim hk_ (fun hs_=>Or.elim hs_ (fun hs_=>hs_.1) (fun hs_=>hs_.1)) (fun hn_=>(fb_ BK588 k_ hn_)),Or.elim hk_ (fun hs_=>Or.elim hs_ (fun hs_=>hs_.2.1) (fun hs_=>hs_.2.1)) (fun hn_=>(fb_ BK596 k_ hn_)),Or.elim hk_ (fun hs_=>Or.elim hs_ (fun hs_=>hs_.2.2) (fun hs_=>hs_.2.2)) (fun hn_=>(fb_ BK606 k_ hn_))⟩)) (below_size bh_))
   have n11_:=Aside0.mk (Kd.V_lower (Kd.V_mono (ok':=fun k_=>k_ ≠ gb588 ∧ k_ ≠ gb596 ∧ k_ ≠ gb606) ho1 (fun k_ hk_=>⟨Or.elim hk_ (fun hs_=>Or.elim hs_ (fun hs_=>hs_.1) (fun hs_=>hs_.1)) (fun hn_=>(fb_ BK588 k_ hn_)),Or.elim hk_ (fun hs_=>Or.elim hs_ (fun hs_=>hs_.2.1) (fun hs_=>hs_.2.1)) (fun hn_=>(fb_ BK596 k_ hn_)),Or.elim hk_ (fun hs_=>Or.elim hs_ (fun hs_=>hs_.2.2) (fun hs_=>hs_.2.2)) (fun hn_=>(fb_ BK606 k_ hn_))⟩)) (below_size bh_))
   have n12_:=kb_ BK588 hb
   have n13_:=kb_ BK596 hb
   have n14_:=kb_ BK606 hb
   have n15_:=bq_ hb
   (try clear BK588)
   (try clear BK596)
   (try clear BK606)
   (try clear HB)
   (try clear HO583)
   (try clear HO586)
   (try clear HO602)
   (try clear HO605)
   have HO583:=n0_
   have HO586:=n1_
   have HO602:=n4_
   have HO605:=n5_
   have HO625:=n10_
   have HO628:=n11_
   have BK588:=n12_
   have BK596:=n13_
   have BK606:=n14_
   have HB:=n15_
   clear n0_ n1_ n4_ n5_ n10_ n11_ n12_ n13_ n14_ n15_
   (try clear hb)
   (try clear hb2)
   (try clear hk)
   (try clear hi)
   (try clear ho0)
   (try clear ho1)
   refine hK.out _ _ ⟨bc_ BK606 0,bc_ BK606 1,bc_ BK606 2,bc_ BK588 0,bc_ BK588 1,bc_ BK588 2,bc_ BK596 0,bc_ BK596 1,bc_ BK596 2⟩ (fun hHeld=>?_)
   clear hK K
   refine norm_ (a':=?_) ?_ ?_
   rotate_left
   ·
    show Act.put _ (some 47) _ = _
    simp only [Act.put,p1_,p2_,p3_,i64_w,i32_w]
    rfl
   refine one_ (i:=11) (N:=some 49) #[true,true,true,true,true,true,true,true,true,true,true,true,false,false,false,false,false,false,false,false,false,false,false,false] rfl rfl (one_of HT_.out (by kernel_rfl)) (by decide) (fun K hK=>?_)
   refine goesN_ Try.func43 (by kernel_rfl) rfl [.agg #[.bool t580,.slice Ao14 t581.length co14,.slice Ao15 t584.length co15]] (by rfl) rfl rfl (by rfl) ?_
   with_reducible refine (ratio_R_Abs.calls k t580 (fun k_=>(k_ ≠ gb588 ∧ (k_ ≠ gb596 ∧ k_ ≠ gb606))) _ _ t581 (fun k_=>(k_ ≠ gb588 ∧ (k_ ≠ gb596 ∧ k_ ≠ gb606))) _ _ t584 t629 t630 t633 _ ?side1 ?side2 A46.out).mono ?_
   (case side1=>exact HO583.out)
   (case side2=>exact HO586.out)
   rintro e w91 ⟨v631,v634,rfl,ho0,ho1,hb⟩
   refine ⟨_,rfl,?_⟩
   have n0_:=vb_ HO583 hb
   have n1_:=vb_ HO586 hb
   have n4_:=vb_ HO602 hb
   have n5_:=vb_ HO605 hb
   have n10_:=vb_ HO625 hb
   have n11_:=vb_ HO628 hb
   have n12_:=Aside0.mk (Kd.V_lower (Kd.V_mono (ok':=fun k_=>k_ ≠ gb588 ∧ k_ ≠ gb596 ∧ k_ ≠ gb606) ho0 (fun k_ hk_=>⟨Or.elim hk_ (fun hs_=>Or.elim hs_ (fun hs_=>hs_.1) (fun hs_=>hs_.1)) (fun hn_=>(fb_ BK588 k_ hn_)),Or.elim hk_ (fun hs_=>Or.elim hs_ (fun hs_=>hs_.2.1) (fun hs_=>hs_.2.1)) (fun hn_=>(fb_ BK596 k_ hn_)),Or.elim hk_ (fun hs_=>Or.elim hs_ (fun hs_=>hs_.2.2) (fun hs_=>hs_.2.2)) (fun hn_=>(fb_ BK606 k_ hn_))⟩)) (below_size bh_))
   have n13_:=Aside0.mk (Kd.V_lower (Kd.V_mono (ok':=fun k_=>k_ ≠ gb588 ∧ k_ ≠ gb596 ∧ k_ ≠ gb606) ho1 (fun k_ hk_=>⟨Or.elim hk_ (fun hs_=>Or.elim hs_ (fun hs_=>hs_.1) (fun hs_=>hs_.1)) (fun hn_=>(fb_ BK588 k_ hn_)),Or.elim hk_ (fun hs_=>Or.elim hs_ (fun hs_=>hs_.2.1) (fun hs_=>hs_.2.1)) (fun hn_=>(fb_ BK596 k_ hn_)),Or.elim hk_ (fun hs_=>Or.elim hs_ (fun hs_=>hs_.2.2) (fun hs_=>hs_.2.2)) (fun hn_=>(fb_ BK606 k_ hn_))⟩)) (below_size bh_))
   have n14_:=kb_ BK588 hb
   have n15_:=kb_ BK596 hb
   have n16_:=kb_ BK606 hb
   have n17_:=bq_ hb
   (try clear BK588)
   (try clear BK596)
   (try clear BK606)
   (try clear HB)
   (try clear HO583)
   (try clear HO586)
   (try clear HO602)
   (try clear HO605)
   (try clear HO625)
   (try clear HO628)
   have HO583:=n0_
   have HO586:=n1_
   have HO602:=n4_
   have HO605:=n5_
   have HO625:=n10_
   have HO628:=n11_
   have HO632:=n12_
   have HO635:=n13_
   have BK588:=n14_
   have BK596:=n15_
   have BK606:=n16_
   have HB:=n17_
   clear n0_ n1_ n4_ n5_ n10_ n11_ n12_ n13_ n14_ n15_ n16_ n17_
   (try clear hb)
   (try clear hb2)
   (try clear hk)
   (try clear hi)
   (try clear ho0)
   (try clear ho1)
   obtain ⟨Ao92,co92,eo92⟩:=Kd.V_slice HO625.out
   (first | subst eo92 | (injection eo92 with f1_ f2_ f3_; have f4_:=f1_.symm; have f5_:=f3_.symm; clear f1_ f2_ f3_; subst f4_; subst f5_))
   obtain ⟨Ao93,co93,eo93⟩:=Kd.V_slice HO628.out
   (first | subst eo93 | (injection eo93 with f1_ f2_ f3_; have f4_:=f1_.symm; have f5_:=f3_.symm; clear f1_ f2_ f3_; subst f4_; subst f5_))
   obtain ⟨Ao94,co94,eo94⟩:=Kd.V_slice HO632.out
   (first | subst eo94 | (injection eo94 with f1_ f2_ f3_; have f4_:=f1_.symm; have f5_:=f3_.symm; clear f1_ f2_ f3_; subst f4_; subst f5_))
   obtain ⟨Ao95,co95,eo95⟩:=Kd.V_slice HO635.out
   (first | subst eo95 | (injection eo95 with f1_ f2_ f3_; have f4_:=f1_.symm; have f5_:=f3_.symm; clear f1_ f2_ f3_; subst f4_; subst f5_))
   refine hK.out _ _ ⟨bc_ BK606 0,bc_ BK606 1,bc_ BK606 2,bc_ BK588 0,bc_ BK588 1,bc_ BK588 2,bc_ BK596 0,bc_ BK596 1,bc_ BK596 2⟩ (fun hHeld=>?_)
   clear hK K
   refine norm_ (a':=?_) ?_ ?_
   rotate_left
   ·
    show Act.put _ (some 49) _ = _
    simp only [Act.put,p1_,p2_,p3_,i64_w,i32_w]
    rfl
   refine one_ (i:=12) (N:=some 50) #[true,true,true,true,true,true,true,true,true,true,true,true,true,false,false,false,false,false,false,false,false,false,false,false] rfl rfl (one_of HT_.out (by kernel_rfl)) (by decide) (fun K hK=>?_)
   refine goesN_ Try.func36 (by kernel_rfl) rfl [.agg #[.bool t622,.slice Ao92 t623.length co92,.slice Ao93 t626.length co93],.agg #[.bool t629,.slice Ao94 t630.length co94,.slice Ao95 t633.length co95]] (by rfl) rfl rfl (by rfl) ?_
   with_reducible refine (ratio_R_Cmp.calls k t622 _ _ t623 _ _ t626 t629 _ _ t630 _ _ t633 t636 _ ?side1 ?side2 ?side3 ?side4 ?side5 ?side6 ?side7 ?side8 A47.out).mono ?_
   (case side1=>repeat first | exact (Kd.V_reads' HO625.out).2.2 | with_reducible first | apply ca_ | apply cn_ | apply cd_)
   (case side2=>exact (Kd.V_reads' HO625.out).2.1)
   (case side3=>repeat first | exact (Kd.V_reads' HO628.out).2.2 | with_reducible first | apply ca_ | apply cn_ | apply cd_)
   (case side4=>exact (Kd.V_reads' HO628.out).2.1)
   (case side5=>repeat first | exact (Kd.V_reads' HO632.out).2.2 | with_reducible first | apply ca_ | apply cn_ | apply cd_)
   (case side6=>exact (Kd.V_reads' HO632.out).2.1)
   (case side7=>repeat first | exact (Kd.V_reads' HO635.out).2.2 | with_reducible first | apply ca_ | apply cn_ | apply cd_)
   (case side8=>exact (Kd.V_reads' HO635.out).2.1)
   rintro e w96 ⟨rfl,hb⟩
   refine ⟨_,rfl,?_⟩
   have n0_:=vb_ HO583 hb
   have n1_:=vb_ HO586 hb
   have n4_:=vb_ HO602 hb
   have n5_:=vb_ HO605 hb
   have n14_:=kb_ BK588 hb
   have n15_:=kb_ BK596 hb
   have n16_:=kb_ BK606 hb
   have n17_:=bq_ hb
   (try clear BK588)
   (try clear BK596)
   (try clear BK606)
   (try clear HB)
   (try clear HO583)
   (try clear HO586)
   (try clear HO602)
   (try clear HO605)
   have HO583:=n0_
   have HO586:=n1_
   have HO602:=n4_
   have HO605:=n5_
   have BK588:=n14_
   have BK596:=n15_
   have BK606:=n16_
   have HB:=n17_
   clear n0_ n1_ n4_ n5_ n14_ n15_ n16_ n17_
   (try clear hb)
   (try clear hb2)
   (try clear hk)
   (try clear hi)
   refine hK.out _ _ ⟨bc_ BK606 0,bc_ BK606 1,bc_ BK606 2,bc_ BK588 0,bc_ BK588 1,bc_ BK588 2,bc_ BK596 0,bc_ BK596 1,bc_ BK596 2⟩ (fun hHeld=>?_)
   clear hK K
   refine norm_ (a':=?_) ?_ ?_
   rotate_left
   ·
    show Act.put _ (some 50) _ = _
    simp only [Act.put,p1_,p2_,p3_,i64_w,i32_w]
    rfl
   refine pure_ (i:=13) (N:=some 51) (v:=?_) (a':=?_) #[true,true,true,true,true,true,true,true,true,true,true,true,true,true,false,false,false,false,false,false,false,false,false,false] rfl rfl (any_of HT_.out (by kernel_rfl)) (fun _ _ _ h=>h) (Or.inl ⟨by rfl,?_⟩) ?_ ?_
   rotate_left
   ·
    intro w'
    go_simp
    with_reducible rfl
   rotate_left
   ·
    simp only [Act.put,p1_,p2_,p3_,i64_w,i32_w]
    rfl
   refine pure_ (i:=14) (N:=some 52) (v:=?_) (a':=?_) #[true,true,true,true,true,true,true,true,true,true,true,true,true,true,true,false,false,false,false,false,false,false,false,false] rfl rfl (any_of HT_.out (by kernel_rfl)) (fun _ _ _ h=>h) (Or.inl ⟨by rfl,?_⟩) ?_ ?_
   rotate_left
   ·
    intro w'
    go_simp
    with_reducible rfl
   rotate_left
   ·
    simp only [Act.put,p1_,p2_,p3_,i64_w,i32_w]
    rfl
   refine pure_ (i:=15) (N:=some 53) (v:=?_) (a':=?_) #[true,true,true,true,true,true,true,true,true,true,true,true,true,true,true,true,false,false,false,false,false,false,false,false] rfl rfl (any_of HT_.out (by kernel_rfl)) (fun _ _ _ h=>h) (Or.inl ⟨by rfl,?_⟩) ?_ ?_
   rotate_left
   ·
    intro w'
    go_simp
    with_reducible rfl
   rotate_left
   ·
    simp only [Act.put,p1_,p2_,p3_,i64_w,i32_w]
    rfl
   refine pure_ (i:=16) (N:=some 54) (v:=?_) (a':=?_) #[true,true,true,true,true,true,true,true,true,true,true,true,true,true,true,true,true,false,false,false,false,false,false,false] rfl rfl (any_of HT_.out (by kernel_rfl)) (fun _ _ _ h=>h) (Or.inl ⟨by rfl,?_⟩) ?_ ?_
   rotate_left
   ·
    intro w'
    go_simp
    with_reducible rfl
   rotate_left
   ·
    simp only [Act.put,p1_,p2_,p3_,i64_w,i32_w]
    rfl
   refine pure_ (i:=17) (N:=some 55) (v:=?_) (a':=?_) #[true,true,true,true,true,true,true,true,true,true,true,true,true,true,true,true,true,true,false,false,false,false,false,false] rfl rfl (any_of HT_.out (by kernel_rfl)) (fun _ _ _ h=>h) (Or.inl ⟨by rfl,?_⟩) ?_ ?_
   rotate_left
   ·
    intro w'
    go_simp
    with_reducible rfl
   rotate_left
   ·
    simp only [Act.put,p1_,p2_,p3_,i64_w,i32_w]
    rfl
   refine take_ (i:=18) (N:=some 56) (v:=?_) (a':=?_) #[true,true,true,true,true,true,true,true,true,true,true,true,true,true,true,true,true,true,true,false,false,false,false,false] rfl rfl (take_ofW HT_.out HW_.out (by kernel_rfl)) (fun _ _ _ h=>h) (Or.inl ⟨by rfl,?_⟩) hHeld ?_ ?_
   rotate_left
   ·
    rintro w' ⟨s0,s1,s2,s3,s4,s5,s6,s7,s8⟩
    go_simp
    with_reducible rfl
   rotate_left
   ·
    simp only [Act.put,p1_,p2_,p3_,i64_w,i32_w]
    rfl
   refine take_ (i:=19) (N:=some 57) (v:=?_) (a':=?_) #[true,true,true,true,true,true,true,true,true,true,true,true,true,true,true,true,true,true,true,true,false,false,false,false] rfl rfl (take_ofW HT_.out HW_.out (by kernel_rfl)) (fun _ _ _ h=>h) (Or.inl ⟨by rfl,?_⟩) hHeld ?_ ?_
   rotate_left
   ·
    rintro w' ⟨s0,s1,s2,s3,s4,s5,s6,s7,s8⟩
    go_simp
    with_reducible rfl
   rotate_left
   ·
    simp only [Act.put,p1_,p2_,p3_,i64_w,i32_w]
    rfl
   refine one_ (i:=20) (N:=some 58) #[true,true,true,true,true,true,true,true,true,true,true,true,true,true,true,true,true,true,true,true,true,false,false,false] rfl rfl (one_of HT_.out (by kernel_rfl)) (by decide) (fun K hK=>?_)
   refine goesN_ Try.func36 (by kernel_rfl) rfl [.agg #[.bool t599,.slice Ao34 t600.length co34,.slice Ao35 t603.length co35],.agg #[.bool t580,.slice Ao14 t581.length co14,.slice Ao15 t584.length co15]] (by rfl) rfl rfl (by rfl) ?_
   with_reducible refine (ratio_R_Cmp.calls k t599 _ _ t600 _ _ t603 t580 _ _ t581 _ _ t584 t637 _ ?side1 ?side2 ?side3 ?side4 ?side5 ?side6 ?side7 ?side8 A72.out).mono ?_
   (case side1=>repeat first | exact (Kd.V_reads' HO602.out).2.2 | with_reducible first | apply ca_ | apply cn_ | apply cd_)
   (case side2=>exact (Kd.V_reads' HO602.out).2.1)
   (case side3=>repeat first | exact (Kd.V_reads' HO605.out).2.2 | with_reducible first | apply ca_ | apply cn_ | apply cd_)
   (case side4=>exact (Kd.V_reads' HO605.out).2.1)
   (case side5=>repeat first | exact (Kd.V_reads' HO583.out).2.2 | with_reducible first | apply ca_ | apply cn_ | apply cd_)
   (case side6=>exact (Kd.V_reads' HO583.out).2.1)
   (case side7=>repeat first | exact (Kd.V_reads' HO586.out).2.2 | with_reducible first | apply ca_ | apply cn_ | apply cd_)
   (case side8=>exact (Kd.V_reads' HO586.out).2.1)
   rintro e w97 ⟨rfl,hb⟩
   refine ⟨_,rfl,?_⟩
   have n14_:=kb_ BK588 hb
   have n15_:=kb_ BK596 hb
   have n16_:=kb_ BK606 hb
   have n17_:=bq_ hb
   (try clear BK588)
   (try clear BK596)
   (try clear BK606)
   (try clear HB)
   have BK588:=n14_
   have BK596:=n15_
   have BK606:=n16_
   have HB:=n17_
   clear n14_ n15_ n16_ n17_
   (try clear hb)
   (try clear hb2)
   (try clear hk)
   (try clear hi)
   refine hK.out _ _ ⟨bc_ BK606 0,bc_ BK606 1,bc_ BK606 2,bc_ BK588 0,bc_ BK588 1,bc_ BK588 2,bc_ BK596 0,bc_ BK596 1,bc_ BK596 2⟩ (fun hHeld=>?_)
   clear hK K
   refine norm_ (a':=?_) ?_ ?_
   rotate_left
   ·
    show Act.put _ (some 58) _ = _
    simp only [Act.put,p1_,p2_,p3_,i64_w,i32_w]
    rfl
   refine pure_ (i:=21) (N:=some 59) (v:=?_) (a':=?_) #[true,true,true,true,true,true,true,true,true,true,true,true,true,true,true,true,true,true,true,true,true,true,false,false] rfl rfl (any_of HT_.out (by kernel_rfl)) (fun _ _ _ h=>h) (Or.inl ⟨by rfl,?_⟩) ?_ ?_
   rotate_left
   ·
    intro w'
    go_simp
    with_reducible rfl
   rotate_left
   ·
    simp only [Act.put,p1_,p2_,p3_,i64_w,i32_w]
    rfl
   refine pure_ (i:=22) (N:=some 60) (v:=?_) (a':=?_) #[true,true,true,true,true,true,true,true,true,true,true,true,true,true,true,true,true,true,true,true,true,true,true,false] rfl rfl (any_of HT_.out (by kernel_rfl)) (fun _ _ _ h=>h) (Or.inl ⟨by rfl,?_⟩) ?_ ?_
   rotate_left
   ·
    intro w'
    go_simp
    with_reducible rfl
   rotate_left
   ·
    simp only [Act.put,p1_,p2_,p3_,i64_w,i32_w]
    rfl
   refine pure_ (i:=23) (N:=some 61) (v:=?_) (a':=?_) #[true,true,true,true,true,true,true,true,true,true,true,true,true,true,true,true,true,true,true,true,true,true,true,true] rfl rfl (any_of HT_.out (by kernel_rfl)) (fun _ _ _ h=>h) (Or.inl ⟨by rfl,?_⟩) ?_ ?_
   rotate_left
   ·
    intro w'
    go_simp
    with_reducible rfl
   rotate_left
   ·
    simp only [Act.put,p1_,p2_,p3_,i64_w,i32_w]
    rfl
   refine done_ (done_of HT_.out (by kernel_rfl)) ?_
   try go_wp2
   go_ret
   exact ⟨eh_,bh_⟩
  rw [if_neg c73] at H
  have c73b0 : ((t598 == 1) != (t637 != 0)) = false:=by simpa using c73
  (try (have c73b1 : decide ((t598 == 1) = (t637 != 0)) = true:=by simpa using c73))
  (try (have c73b2 : ((t598 == 1) == (t637 != 0)) = true:=by simpa using c73))
  clear c73
  have H':=Aside0.mk H
  clear H
  (try simp only [c28b0,c48b0,c73b0])
  refine take_ (i:=8) (N:=some 46) (v:=?_) (a':=?_) #[true,true,true,true,true,true,true,true,true,false,false,false,false,false,false,false,false,false,false,false,false,false,false,false] rfl rfl (take_ofW HT_.out HW_.out (by kernel_rfl)) (fun _ _ _ h=>h) (Or.inl ⟨by rfl,?_⟩) hHeld ?_ ?_
  rotate_left
  ·
   rintro w' ⟨s0,s1,s2,s3,s4,s5,s6,s7,s8⟩
   go_simp
   with_reducible rfl
  rotate_left
  ·
   simp only [Act.put,p1_,p2_,p3_,i64_w,i32_w]
   rfl
  refine take_ (i:=10) (N:=some 48) (v:=?_) (a':=?_) #[true,true,true,true,true,true,true,true,true,false,true,false,false,false,false,false,false,false,false,false,false,false,false,false] rfl rfl (take_ofW HT_.out HW_.out (by kernel_rfl)) (fun _ _ _ h=>h) (Or.inl ⟨by rfl,?_⟩) hHeld ?_ ?_
  rotate_left
  ·
   rintro w' ⟨s0,s1,s2,s3,s4,s5,s6,s7,s8⟩
   go_simp
   with_reducible rfl
  rotate_left
  ·
   simp only [Act.put,p1_,p2_,p3_,i64_w,i32_w]
   rfl
  refine one_ (i:=9) (N:=some 47) #[true,true,true,true,true,true,true,true,true,true,true,false,false,false,false,false,false,false,false,false,false,false,false,false] rfl rfl (one_of HT_.out (by kernel_rfl)) (by decide) (fun K hK=>?_)
  refine goesN_ Try.func43 (by kernel_rfl) rfl [.agg #[.bool t599,.slice Ao34 t600.length co34,.slice Ao35 t603.length co35]] (by rfl) rfl rfl (by rfl) ?_
  with_reducible refine (ratio_R_Abs.calls k t599 (fun k_=>(k_ ≠ gb588 ∧ (k_ ≠ gb596 ∧ k_ ≠ gb606))) _ _ t600 (fun k_=>(k_ ≠ gb588 ∧ (k_ ≠ gb596 ∧ k_ ≠ gb606))) _ _ t603 t622 t623 t626 _ ?side1 ?side2 A45.out).mono ?_
  (case side1=>exact HO602.out)
  (case side2=>exact HO605.out)
  rintro e w114 ⟨v624,v627,rfl,ho0,ho1,hb⟩
  refine ⟨_,rfl,?_⟩
  have n0_:=vb_ HO583 hb
  have n1_:=vb_ HO586 hb
  have n2_:=vb_ HO592 hb
  have n3_:=vb_ HO595 hb
  have n4_:=vb_ HO602 hb
  have n5_:=vb_ HO605 hb
  have n10_:=Aside0.mk (Kd.V_lower (Kd.V_mono (ok':=fun k_=>k_ ≠ gb588 ∧ k_ ≠ gb596 ∧ k_ ≠ gb606) ho0 (fun k_ hk_=>⟨Or.elim hk_ (fun hs_=>Or.elim hs_ (fun hs_=>hs_.1) (fun hs_=>hs_.1)) (fun hn_=>(fb_ BK588 k_ hn_)),Or.elim hk_ (fun hs_=>Or.elim hs_ (fun hs_=>hs_.2.1) (fun hs_=>hs_.2.1)) (fun hn_=>(fb_ BK596 k_ hn_)),Or.elim hk_ (fun hs_=>Or.elim hs_ (fun hs_=>hs_.2.2) (fun hs_=>hs_.2.2)) (fun hn_=>(fb_ BK606 k_ hn_))⟩)) (below_size bh_))
  have n11_:=Aside0.mk (Kd.V_lower (Kd.V_mono (ok':=fun k_=>k_ ≠ gb588 ∧ k_ ≠ gb596 ∧ k_ ≠ gb606) ho1 (fun k_ hk_=>⟨Or.elim hk_ (fun hs_=>Or.elim hs_ (fun hs_=>hs_.1) (fun hs_=>hs_.1)) (fun hn_=>(fb_ BK588 k_ hn_)),Or.elim hk_ (fun hs_=>Or.elim hs_ (fun hs_=>hs_.2.1) (fun hs_=>hs_.2.1)) (fun hn_=>(fb_ BK596 k_ hn_)),Or.elim hk_ (fun hs_=>Or.elim hs_ (fun hs_=>hs_.2.2) (fun hs_=>hs_.2.2)) (fun hn_=>(fb_ BK606 k_ hn_))⟩)) (below_size bh_))
  have n12_:=kb_ BK588 hb
  have n13_:=kb_ BK596 hb
  have n14_:=kb_ BK606 hb
  have n15_:=bq_ hb
  (try clear BK588)
  (try clear BK596)
  (try clear BK606)
  (try clear HB)
  (try clear HO583)
  (try clear HO586)
  (try clear HO592)
  (try clear HO595)
  (try clear HO602)
  (try clear HO605)
  have HO583:=n0_
  have HO586:=n1_
  have HO592:=n2_
  have HO595:=n3_
  have HO602:=n4_
  have HO605:=n5_
  have HO625:=n10_
  have HO628:=n11_
  have BK588:=n12_
  have BK596:=n13_
  have BK606:=n14_
  have HB:=n15_
  clear n0_ n1_ n2_ n3_ n4_ n5_ n10_ n11_ n12_ n13_ n14_ n15_
  (try clear hb)
  (try clear hb2)
  (try clear hk)
  (try clear hi)
  (try clear ho0)
  (try clear ho1)
  refine hK.out _ _ ⟨bc_ BK606 0,bc_ BK606 1,bc_ BK606 2,bc_ BK588 0,bc_ BK588 1,bc_ BK588 2,bc_ BK596 0,bc_ BK596 1,bc_ BK596 2⟩ (fun hHeld=>?_)
  clear hK K
  refine norm_ (a':=?_) ?_ ?_
  rotate_left
  ·
   show Act.put _ (some 47) _ = _
   simp only [Act.put,p1_,p2_,p3_,i64_w,i32_w]
   rfl
  refine one_ (i:=11) (N:=some 49) #[true,true,true,true,true,true,true,true,true,true,true,true,false,false,false,false,false,false,false,false,false,false,false,false] rfl rfl (one_of HT_.out (by kernel_rfl)) (by decide) (fun K hK=>?_)
  refine goesN_ Try.func43 (by kernel_rfl) rfl [.agg #[.bool t580,.slice Ao14 t581.length co14,.slice Ao15 t584.length co15]] (by rfl) rfl rfl (by rfl) ?_
  with_reducible refine (ratio_R_Abs.calls k t580 (fun k_=>(k_ ≠ gb588 ∧ (k_ ≠ gb596 ∧ k_ ≠ gb606))) _ _ t581 (fun k_=>(k_ ≠ gb588 ∧ (k_ ≠ gb596 ∧ k_ ≠ gb606))) _ _ t584 t629 t630 t633 _ ?side1 ?side2 A46.out).mono ?_
  (case side1=>exact HO583.out)
  (case side2=>exact HO586.out)
  rintro e w115 ⟨v631,v634,rfl,ho0,ho1,hb⟩
  refine ⟨_,rfl,?_⟩
  have n0_:=vb_ HO583 hb
  have n1_:=vb_ HO586 hb
  have n2_:=vb_ HO592 hb
  have n3_:=vb_ HO595 hb
  have n4_:=vb_ HO602 hb
  have n5_:=vb_ HO605 hb
  have n10_:=vb_ HO625 hb
  have n11_:=vb_ HO628 hb
  have n12_:=Aside0.mk (Kd.V_lower (Kd.V_mono (ok':=fun k_=>k_ ≠ gb588 ∧ k_ ≠ gb596 ∧ k_ ≠ gb606) ho0 (fun k_ hk_=>⟨Or.elim hk_ (fun hs_=>Or.elim hs_ (fun hs_=>hs_.1) (fun hs_=>hs_.1)) (fun hn_=>(fb_ BK588 k_ hn_)),Or.elim hk_ (fun hs_=>Or.elim hs_ (fun hs_=>hs_.2.1) (fun hs_=>hs_.2.1)) (fun hn_=>(fb_ BK596 k_ hn_)),Or.elim hk_ (fun hs_=>Or.elim hs_ (fun hs_=>hs_.2.2) (fun hs_=>hs_.2.2)) (fun hn_=>(fb_ BK606 k_ hn_))⟩)) (below_size bh_))
  have n13_:=Aside0.mk (Kd.V_lower (Kd.V_mono (ok':=fun k_=>k_ ≠ gb588 ∧ k_ ≠ gb596 ∧ k_ ≠ gb606) ho1 (fun k_ hk_=>⟨Or.elim hk_ (fun hs_=>Or.elim hs_ (fun hs_=>hs_.1) (fun hs_=>hs_.1)) (fun hn_=>(fb_ BK588 k_ hn_)),Or.elim hk_ (fun hs_=>Or.elim hs_ (fun hs_=>hs_.2.1) (fun hs_=>hs_.2.1)) (fun hn_=>(fb_ BK596 k_ hn_)),Or.elim hk_ (fun hs_=>Or.elim hs_ (fun hs_=>hs_.2.2) (fun hs_=>hs_.2.2)) (fun hn_=>(fb_ BK606 k_ hn_))⟩)) (below_size bh_))
  have n14_:=kb_ BK588 hb
  have n15_:=kb_ BK596 hb
  have n16_:=kb_ BK606 hb
  have n17_:=bq_ hb
  (try clear BK588)
  (try clear BK596)
  (try clear BK606)
  (try clear HB)
  (try clear HO583)
  (try clear HO586)
  (try clear HO592)
  (try clear HO595)
  (try clear HO602)
  (try clear HO605)
  (try clear HO625)
  (try clear HO628)
  have HO583:=n0_
  have HO586:=n1_
  have HO592:=n2_
  have HO595:=n3_
  have HO602:=n4_
  have HO605:=n5_
  have HO625:=n10_
  have HO628:=n11_
  have HO632:=n12_
  have HO635:=n13_
  have BK588:=n14_
  have BK596:=n15_
  have BK606:=n16_
  have HB:=n17_
  clear n0_ n1_ n2_ n3_ n4_ n5_ n10_ n11_ n12_ n13_ n14_ n15_ n16_ n17_
  (try clear hb)
  (try clear hb2)
  (try clear hk)
  (try clear hi)
  (try clear ho0)
  (try clear ho1)
  obtain ⟨Ao116,co116,eo116⟩:=Kd.V_slice HO625.out
  (first | subst eo116 | (injection eo116 with f1_ f2_ f3_; have f4_:=f1_.symm; have f5_:=f3_.symm; clear f1_ f2_ f3_; subst f4_; subst f5_))
  obtain ⟨Ao117,co117,eo117⟩:=Kd.V_slice HO628.out
  (first | subst eo117 | (injection eo117 with f1_ f2_ f3_; have f4_:=f1_.symm; have f5_:=f3_.symm; clear f1_ f2_ f3_; subst f4_; subst f5_))
  obtain ⟨Ao118,co118,eo118⟩:=Kd.V_slice HO632.out
  (first | subst eo118 | (injection eo118 with f1_ f2_ f3_; have f4_:=f1_.symm; have f5_:=f3_.symm; clear f1_ f2_ f3_; subst f4_; subst f5_))
  obtain ⟨Ao119,co119,eo119⟩:=Kd.V_slice HO635.out
  (first | subst eo119 | (injection eo119 with f1_ f2_ f3_; have f4_:=f1_.symm; have f5_:=f3_.symm; clear f1_ f2_ f3_; subst f4_; subst f5_))
  refine hK.out _ _ ⟨bc_ BK606 0,bc_ BK606 1,bc_ BK606 2,bc_ BK588 0,bc_ BK588 1,bc_ BK588 2,bc_ BK596 0,bc_ BK596 1,bc_ BK596 2⟩ (fun hHeld=>?_)
  clear hK K
  refine norm_ (a':=?_) ?_ ?_
  rotate_left
  ·
   show Act.put _ (some 49) _ = _
   simp only [Act.put,p1_,p2_,p3_,i64_w,i32_w]
   rfl
  refine one_ (i:=12) (N:=some 50) #[true,true,true,true,true,true,true,true,true,true,true,true,true,false,false,false,false,false,false,false,false,false,false,false] rfl rfl (one_of HT_.out (by kernel_rfl)) (by decide) (fun K hK=>?_)
  refine goesN_ Try.func36 (by kernel_rfl) rfl [.agg #[.bool t622,.slice Ao116 t623.length co116,.slice Ao117 t626.length co117],.agg #[.bool t629,.slice Ao118 t630.length co118,.slice Ao119 t633.length co119]] (by rfl) rfl rfl (by rfl) ?_
  with_reducible refine (ratio_R_Cmp.calls k t622 _ _ t623 _ _ t626 t629 _ _ t630 _ _ t633 t636 _ ?side1 ?side2 ?side3 ?side4 ?side5 ?side6 ?side7 ?side8 A47.out).mono ?_
  (case side1=>repeat first | exact (Kd.V_reads' HO625.out).2.2 | with_reducible first | apply ca_ | apply cn_ | apply cd_)
  (case side2=>exact (Kd.V_reads' HO625.out).2.1)
  (case side3=>repeat first | exact (Kd.V_reads' HO628.out).2.2 | with_reducible first | apply ca_ | apply cn_ | apply cd_)
  (case side4=>exact (Kd.V_reads' HO628.out).2.1)
  (case side5=>repeat first | exact (Kd.V_reads' HO632.out).2.2 | with_reducible first | apply ca_ | apply cn_ | apply cd_)
  (case side6=>exact (Kd.V_reads' HO632.out).2.1)
  (case side7=>repeat first | exact (Kd.V_reads' HO635.out).2.2 | with_reducible first | apply ca_ | apply cn_ | apply cd_)
  (case side8=>exact (Kd.V_reads' HO635.out).2.1)
  rintro e w120 ⟨rfl,hb⟩
  refine ⟨_,rfl,?_⟩
  have n0_:=vb_ HO583 hb
  have n1_:=vb_ HO586 hb
  have n2_:=vb_ HO592 hb
  have n3_:=vb_ HO595 hb
  have n4_:=vb_ HO602 hb
  have n5_:=vb_ HO605 hb
  have n14_:=kb_ BK588 hb
  have n15_:=kb_ BK596 hb
  have n16_:=kb_ BK606 hb
  have n17_:=bq_ hb
  (try clear BK588)
  (try clear BK596)
  (try clear BK606)
  (try clear HB)
  (try clear HO583)
  (try clear HO586)
  (try clear HO592)
  (try clear HO595)
  (try clear HO602)
  (try clear HO605)
  have HO583:=n0_
  have HO586:=n1_
  have HO592:=n2_
  have HO595:=n3_
  have HO602:=n4_
  have HO605:=n5_
  have BK588:=n14_
  have BK596:=n15_
  have BK606:=n16_
  have HB:=n17_
  clear n0_ n1_ n2_ n3_ n4_ n5_ n14_ n15_ n16_ n17_
  (try clear hb)
  (try clear hb2)
  (try clear hk)
  (try clear hi)
  refine hK.out _ _ ⟨bc_ BK606 0,bc_ BK606 1,bc_ BK606 2,bc_ BK588 0,bc_ BK588 1,bc_ BK588 2,bc_ BK596 0,bc_ BK596 1,bc_ BK596 2⟩ (fun hHeld=>?_)
  clear hK K
  refine norm_ (a':=?_) ?_ ?_
  rotate_left
  ·
   show Act.put _ (some 50) _ = _
   simp only [Act.put,p1_,p2_,p3_,i64_w,i32_w]
   rfl
  refine pure_ (i:=13) (N:=some 51) (v:=?_) (a':=?_) #[true,true,true,true,true,true,true,true,true,true,true,true,true,true,false,false,false,false,false,false,false,false,false,false] rfl rfl (any_of HT_.out (by kernel_rfl)) (fun _ _ _ h=>h) (Or.inl ⟨by rfl,?_⟩) ?_ ?_
  rotate_left
  ·
   intro w'
   go_simp
   with_reducible rfl
  rotate_left
  ·
   simp only [Act.put,p1_,p2_,p3_,i64_w,i32_w]
   rfl
  refine pure_ (i:=14) (N:=some 52) (v:=?_) (a':=?_) #[true,true,true,true,true,true,true,true,true,true,true,true,true,true,true,false,false,false,false,false,false,false,false,false] rfl rfl (any_of HT_.out (by kernel_rfl)) (fun _ _ _ h=>h) (Or.inl ⟨by rfl,?_⟩) ?_ ?_
  rotate_left
  ·
   intro w'
   go_simp
   with_reducible rfl
  rotate_left
  ·
   simp only [Act.put,p1_,p2_,p3_,i64_w,i32_w]
   rfl
  refine pure_ (i:=15) (N:=some 53) (v:=?_) (a':=?_) #[true,true,true,true,true,true,true,true,true,true,true,true,true,true,true,true,false,false,false,false,false,false,false,false] rfl rfl (any_of HT_.out (by kernel_rfl)) (fun _ _ _ h=>h) (Or.inl ⟨by rfl,?_⟩) ?_ ?_
  rotate_left
  ·
   intro w'
   go_simp
   with_reducible rfl
  rotate_left
  ·
   simp only [Act.put,p1_,p2_,p3_,i64_w,i32_w]
   rfl
  refine pure_ (i:=16) (N:=some 54) (v:=?_) (a':=?_) #[true,true,true,true,true,true,true,true,true,true,true,true,true,true,true,true,true,false,false,false,false,false,false,false] rfl rfl (any_of HT_.out (by kernel_rfl)) (fun _ _ _ h=>h) (Or.inl ⟨by rfl,?_⟩) ?_ ?_
  rotate_left
  ·
   intro w'
   go_simp
   with_reducible rfl
  rotate_left
  ·
   simp only [Act.put,p1_,p2_,p3_,i64_w,i32_w]
   rfl
  refine pure_ (i:=17) (N:=some 55) (v:=?_) (a':=?_) #[true,true,true,true,true,true,true,true,true,true,true,true,true,true,true,true,true,true,false,false,false,false,false,false] rfl rfl (any_of HT_.out (by kernel_rfl)) (fun _ _ _ h=>h) (Or.inl ⟨by rfl,?_⟩) ?_ ?_
  rotate_left
  ·
   intro w'
   go_simp
   with_reducible rfl
  rotate_left
  ·
   simp only [Act.put,p1_,p2_,p3_,i64_w,i32_w]
   rfl
  refine take_ (i:=18) (N:=some 56) (v:=?_) (a':=?_) #[true,true,true,true,true,true,true,true,true,true,true,true,true,true,true,true,true,true,true,false,false,false,false,false] rfl rfl (take_ofW HT_.out HW_.out (by kernel_rfl)) (fun _ _ _ h=>h) (Or.inl ⟨by rfl,?_⟩) hHeld ?_ ?_
  rotate_left
  ·
   rintro w' ⟨s0,s1,s2,s3,s4,s5,s6,s7,s8⟩
   go_simp
   with_reducible rfl
  rotate_left
  ·
   simp only [Act.put,p1_,p2_,p3_,i64_w,i32_w]
   rfl
  refine take_ (i:=19) (N:=some 57) (v:=?_) (a':=?_) #[true,true,true,true,true,true,true,true,true,true,true,true,true,true,true,true,true,true,true,true,false,false,false,false] rfl rfl (take_ofW HT_.out HW_.out (by kernel_rfl)) (fun _ _ _ h=>h) (Or.inl ⟨by rfl,?_⟩) hHeld ?_ ?_
  rotate_left
  ·
   rintro w' ⟨s0,s1,s2,s3,s4,s5,s6,s7,s8⟩
   go_simp
   with_reducible rfl
  rotate_left
  ·
   simp only [Act.put,p1_,p2_,p3_,i64_w,i32_w]
   rfl
  refine one_ (i:=20) (N:=some 58) #[true,true,true,true,true,true,true,true,true,true,true,true,true,true,true,true,true,true,true,true,true,false,false,false] rfl rfl (one_of HT_.out (by kernel_rfl)) (by decide) (fun K hK=>?_)
  refine goesN_ Try.func36 (by kernel_rfl) rfl [.agg #[.bool t599,.slice Ao34 t600.length co34,.slice Ao35 t603.length co35],.agg #[.bool t580,.slice Ao14 t581.length co14,.slice Ao15 t584.length co15]] (by rfl) rfl rfl (by rfl) ?_
  with_reducible refine (ratio_R_Cmp.calls k t599 _ _ t600 _ _ t603 t580 _ _ t581 _ _ t584 t637 _ ?side1 ?side2 ?side3 ?side4 ?side5 ?side6 ?side7 ?side8 A72.out).mono ?_
  (case side1=>repeat first | exact (Kd.V_reads' HO602.out).2.2 | with_reducible first | apply ca_ | apply cn_ | apply cd_)
  (case side2=>exact (Kd.V_reads' HO602.out).2.1)
  (case side3=>repeat first | exact (Kd.V_reads' HO605.out).2.2 | with_reducible first | apply ca_ | apply cn_ | apply cd_)
  (case side4=>exact (Kd.V_reads' HO605.out).2.1)
  (case side5=>repeat first | exact (Kd.V_reads' HO583.out).2.2 | with_reducible first | apply ca_ | apply cn_ | apply cd_)
  (case side6=>exact (Kd.V_reads' HO583.out).2.1)
  (case side7=>repeat first | exact (Kd.V_reads' HO586.out).2.2 | with_reducible first | apply ca_ | apply cn_ | apply cd_)
  (case side8=>exact (Kd.V_reads' HO586.out).2.1)
  rintro e w121 ⟨rfl,hb⟩
  refine ⟨_,rfl,?_⟩
  have n0_:=vb_ HO583 hb
  have n1_:=vb_ HO586 hb
  have n2_:=vb_ HO592 hb
  have n3_:=vb_ HO595 hb
  have n14_:=kb_ BK588 hb
  have n15_:=kb_ BK596 hb
  have n16_:=kb_ BK606 hb
  have n17_:=bq_ hb
  (try clear BK588)
  (try clear BK596)
  (try clear BK606)
  (try clear HB)
  (try clear HO583)
  (try clear HO586)
  (try clear HO592)
  (try clear HO595)
  have HO583:=n0_
  have HO586:=n1_
  have HO592:=n2_
  have HO595:=n3_
  have BK588:=n14_
  have BK596:=n15_
  have BK606:=n16_
  have HB:=n17_
  clear n0_ n1_ n2_ n3_ n14_ n15_ n16_ n17_
  (try clear hb)
  (try clear hb2)
  (try clear hk)
  (try clear hi)
  refine hK.out _ _ ⟨bc_ BK606 0,bc_ BK606 1,bc_ BK606 2,bc_ BK588 0,bc_ BK588 1,bc_ BK588 2,bc_ BK596 0,bc_ BK596 1,bc_ BK596 2⟩ (fun hHeld=>?_)
  clear hK K
  refine norm_ (a':=?_) ?_ ?_
  rotate_left
  ·
   show Act.put _ (some 58) _ = _
   simp only [Act.put,p1_,p2_,p3_,i64_w,i32_w]
   rfl
  refine pure_ (i:=21) (N:=some 59) (v:=?_) (a':=?_) #[true,true,true,true,true,true,true,true,true,true,true,true,true,true,true,true,true,true,true,true,true,true,false,false] rfl rfl (any_of HT_.out (by kernel_rfl)) (fun _ _ _ h=>h) (Or.inl ⟨by rfl,?_⟩) ?_ ?_
  rotate_left
  ·
   intro w'
   go_simp
   with_reducible rfl
  rotate_left
  ·
   simp only [Act.put,p1_,p2_,p3_,i64_w,i32_w]
   rfl
  refine pure_ (i:=22) (N:=some 60) (v:=?_) (a':=?_) #[true,true,true,true,true,true,true,true,true,true,true,true,true,true,true,true,true,true,true,true,true,true,true,false] rfl rfl (any_of HT_.out (by kernel_rfl)) (fun _ _ _ h=>h) (Or.inl ⟨by rfl,?_⟩) ?_ ?_
  rotate_left
  ·
   intro w'
   go_simp
   with_reducible rfl
  rotate_left
  ·
   simp only [Act.put,p1_,p2_,p3_,i64_w,i32_w]
   rfl
  refine pure_ (i:=23) (N:=some 61) (v:=?_) (a':=?_) #[true,true,true,true,true,true,true,true,true,true,true,true,true,true,true,true,true,true,true,true,true,true,true,true] rfl rfl (any_of HT_.out (by kernel_rfl)) (fun _ _ _ h=>h) (Or.inl ⟨by rfl,?_⟩) ?_ ?_
  rotate_left
  ·
   intro w'
   go_simp
   with_reducible rfl
  rotate_left
  ·
   simp only [Act.put,p1_,p2_,p3_,i64_w,i32_w]
   rfl
  refine done_ (done_of HT_.out (by kernel_rfl)) ?_
  try go_wp2
  go_meet
  case rel=>exact ⟨_,H',⟨by first | omega | exact Nat.le_refl _⟩,⟨by (with_reducible repeat (first | apply va_ | apply vn_ | apply vd_)); exact Kd.V_mono HO583.out (fun _ hk=>⟨hk.1,hk.2.1⟩)⟩,⟨by (with_reducible repeat (first | apply va_ | apply vn_ | apply vd_)); exact Kd.V_mono HO586.out (fun _ hk=>⟨hk.1,hk.2.1⟩)⟩,⟨by (with_reducible repeat (first | apply va_ | apply vn_ | apply vd_)); exact Kd.V_mono HO592.out (fun _ hk=>⟨hk.1,hk.2.1⟩)⟩,⟨by (with_reducible repeat (first | apply va_ | apply vn_ | apply vd_)); exact Kd.V_mono HO595.out (fun _ hk=>⟨hk.1,hk.2.1⟩)⟩,⟨by (with_reducible repeat (first | apply kn_ | apply kd_ | apply ka_)); exact BK588.out⟩,⟨by (with_reducible repeat (first | apply kn_ | apply kd_ | apply ka_)); exact BK596.out⟩,⟨bh_⟩⟩
 case rest =>
  clear HC9
  try clear p2
  try clear c3
  try clear c4
  try clear c36
  try clear c43
  obtain ⟨kq,HA,HJ8,HO_589001,HO_589002,HO_597001,HO_597002,BK588,BK596,HB⟩:=hcut
  cases kq with
  | zero=>exact absurd HA.out (by simp [flyballlaw07_ConvNear.j0])
  | succ kj8 =>
   have H:=HA.out
   clear HA
   simp only [flyballlaw07_ConvNear.j0] at H
   replace H:=Option.bind_eq_some_iff.mp H
   obtain ⟨⟨t638,t639⟩,A1220,H⟩:=H
   replace H : ((pattern_Value.f kj8 t638).bind fun bt640=>(if bt640.2.2.2 = true then ((ratio_R_Sub.f kj8 bt640.1 bt640.2.1 bt640.2.2.1 t580 t581 t584).bind fun bt649=>((ratio_R_Abs.f kj8 bt649.1 bt649.2.1 bt649.2.2).bind fun bt656=>((ratio_R_Cmp.f kj8 bt656.1 bt656.2.1 bt656.2.2 t589 t590 t593).bind fun t663=>(if t663 ≥ 0 then (some false) else ((ratio_R_Cmp.f kj8 bt640.1 bt640.2.1 bt640.2.2.1 t580 t581 t584).bind fun t664=>(if ((t639 == 1) != (t664 != 0)) = true then (some false) else ((ratio_R_Cmp.f kj8 bt640.1 bt640.2.1 bt640.2.2.1 t580 t581 t584).bind fun t665=>(if true = true then (if a1 = 1 then (if t665 ≥ 0 then (if a1 = 2 then (some (decide (t665 ≤ 0))) else (some true)) else (some false)) else (if a1 = 2 then (some (decide (t665 ≤ 0))) else (some true))) else (some false))))))))) else (some false))) = some r:=H
   have A122:=Aside0.mk A1220
   clear A1220
   replace H:=Option.bind_eq_some_iff.mp H
   obtain ⟨⟨t640,t641,t644,t647⟩,A1230,H⟩:=H
   replace H : (if t647 = true then ((ratio_R_Sub.f kj8 t640 t641 t644 t580 t581 t584).bind fun bt649=>((ratio_R_Abs.f kj8 bt649.1 bt649.2.1 bt649.2.2).bind fun bt656=>((ratio_R_Cmp.f kj8 bt656.1 bt656.2.1 bt656.2.2 t589 t590 t593).bind fun t663=>(if t663 ≥ 0 then (some false) else ((ratio_R_Cmp.f kj8 t640 t641 t644 t580 t581 t584).bind fun t664=>(if ((t639 == 1) != (t664 != 0)) = true then (some false) else ((ratio_R_Cmp.f kj8 t640 t641 t644 t580 t581 t584).bind fun t665=>(if true = true then (if a1 = 1 then (if t665 ≥ 0 then (if a1 = 2 then (some (decide (t665 ≤ 0))) else (some true)) else (some false)) else (if a1 = 2 then (some (decide (t665 ≤ 0))) else (some true))) else (some false))))))))) else (some false)) = some r:=H
   have A123:=Aside0.mk A1230
   clear A1230
   by_cases c124 : t647 = true
   case neg =>
    replace c124:=Bool.eq_false_iff.mpr c124
    subst c124
    have H1 : (some false) = some r:=by rw [if_neg (show ¬ (false = true) by decide)] at H; exact H
    clear H
    have H:=H1
    clear H1
    obtain rfl:=Option.some.inj H
    try go_wp2_with (first | ((with_reducible refine gc_ 20 rfl ?_); refine gM_ (some 65) Try.func20 [.int .u64 a0,.int .u8 a1] ?_; (with_reducible refine (conv_Whole.calls kj8 a0 a1 t638 t639 _ A122.out).mono ?_); rintro e w304 ⟨rfl,hb⟩; refine ⟨_,rfl,?_⟩; replace HO_589001:=vb_ HO_589001 hb; replace HO_589002:=vb_ HO_589002 hb; replace HO_597001:=vb_ HO_597001 hb; replace HO_597002:=vb_ HO_597002 hb; replace BK588:=kb_ BK588 hb; replace BK596:=kb_ BK596 hb; replace HB:=bq_ hb) | ((with_reducible refine gc_ 34 rfl ?_); refine gM_ (some 70) Try.func34 [.int .u64 t638] ?_; (with_reducible refine (pattern_Value.calls kj8 t638 t640 t641 t644 false _ A123.out).mono ?_); rintro e w305 ⟨v642,v645,rfl,ho0,ho1,hb⟩; refine ⟨_,rfl,?_⟩; replace HO_589001:=vb_ HO_589001 hb; replace HO_589002:=vb_ HO_589002 hb; replace HO_597001:=vb_ HO_597001 hb; replace HO_597002:=vb_ HO_597002 hb; have HO643:=Aside0.mk (Kd.V_lower (Kd.V_mono (ok':=fun k_=>k_ ≠ gb588 ∧ k_ ≠ gb596) ho0 (fun k_ hk_=>⟨(fb_ BK588 k_ hk_),(fb_ BK596 k_ hk_)⟩)) (below_size bh_)); have HO646:=Aside0.mk (Kd.V_lower (Kd.V_mono (ok':=fun k_=>k_ ≠ gb588 ∧ k_ ≠ gb596) ho1 (fun k_ hk_=>⟨(fb_ BK588 k_ hk_),(fb_ BK596 k_ hk_)⟩)) (below_size bh_)); replace BK588:=kb_ BK588 hb; replace BK596:=kb_ BK596 hb; replace HB:=bq_ hb) | ((with_reducible refine gate_dst (N:=14) rfl ?_); refine box_event ?hg (N:=14) ?hd (cs:=#[.bool false,.slice none 0 0,.slice none 0 0]) (t:=50) ?hr ?_; (case hd=>rfl); (case hg=>rfl); (case hr=>first | (go_simp; done) | (go_simp; rfl)); intro gb648 hg w306 hbox hb; have n0_:=ve_ HO_589001 hg hb; have n1_:=ve_ HO_589002 hg hb; have n2_:=ve_ HO_597001 hg hb; have n3_:=ve_ HO_597002 hg hb; have n4_:=ve_ HO643 hg hb; have n5_:=ve_ HO646 hg hb; have n6_:=kb_ BK588 hb; have n7_:=kb_ BK596 hb; have n8_:=bq_ hb; have n9_:=Aside0.mk (hbox); have n11_:=bz_ hg; have n12_:=Aside0.mk ((by rw [hg]; exact Nat.ne_of_lt (blk_lt (g:=gb588) (o:=.cells #[.bool t580,.slice Ao14 t581.length co14,.slice Ao15 t584.length co15] 50 (0,0)) (by (with_reducible repeat (first | apply kn_ | apply kd_ | apply ka_)); exact BK588.out)) : gb588 ≠ gb648)); have n13_:=Aside0.mk ((by rw [hg]; exact Nat.ne_of_gt (blk_lt (g:=gb588) (o:=.cells #[.bool t580,.slice Ao14 t581.length co14,.slice Ao15 t584.length co15] 50 (0,0)) (by (with_reducible repeat (first | apply kn_ | apply kd_ | apply ka_)); exact BK588.out)) : gb648 ≠ gb588)); have n14_:=Aside0.mk ((by rw [hg]; exact Nat.ne_of_lt (blk_lt (g:=gb596) (o:=.cells #[.bool t589,.slice Ao20 t590.length co20,.slice Ao21 t593.length co21] 50 (0,0)) (by (with_reducible repeat (first | apply kn_ | apply kd_ | apply ka_)); exact BK596.out)) : gb596 ≠ gb648)); have n15_:=Aside0.mk ((by rw [hg]; exact Nat.ne_of_gt (blk_lt (g:=gb596) (o:=.cells #[.bool t589,.slice Ao20 t590.length co20,.slice Ao21 t593.length co21] 50 (0,0)) (by (with_reducible repeat (first | apply kn_ | apply kd_ | apply ka_)); exact BK596.out)) : gb648 ≠ gb596)); clear HO_589001 HO_589002 HO_597001 HO_597002 HO643 HO646 BK588 BK596 HB; have HO_589001:=n0_; have HO_589002:=n1_; have HO_597001:=n2_; have HO_597002:=n3_; have HO643:=n4_; have HO646:=n5_; have BK588:=n6_; have BK596:=n7_; have HB:=n8_; have BK648:=n9_; have GE648:=n11_; have NB588_648:=n12_; have NB648_588:=n13_; have NB596_648:=n14_; have NB648_596:=n15_; clear n0_ n1_ n2_ n3_ n4_ n5_ n6_ n7_ n8_ n9_ n11_ n12_ n13_ n14_ n15_; clear hb hbox hg; have hnb307:=NB648_588.out; have hnc307:=NB588_648.out; have hnb308:=NB648_596.out; have hnc308:=NB596_648.out; have hcz309_0 : w306.cell? ⟨gb648,0,none⟩ = some (.bool false):=bc_ BK648 0; have hcz309_1 : w306.cell? ⟨gb648,1,none⟩ = some (.slice none 0 0):=bc_ BK648 1; have hcz309_2 : w306.cell? ⟨gb648,2,none⟩ = some (.slice none 0 0):=bc_ BK648 2; have hfz309_0:=blk_frozen BK648.out 0; have hfz309_1:=blk_frozen BK648.out 1; have hfz309_2:=blk_frozen BK648.out 2; obtain ⟨Ao310,co310,eo310⟩:=Kd.V_slice HO643.out; subst eo310; obtain ⟨Ao311,co311,eo311⟩:=Kd.V_slice HO646.out; subst eo311))
    have n0_ : Aside0 (Kd.V (Kd.int .u32) 123 (((w306.setCell ⟨gb648,0,none⟩ (.bool t640)).setCell ⟨gb648,1,none⟩ (.slice Ao310 t641.length co310)).setCell ⟨gb648,2,none⟩ (.slice Ao311 t644.length co311)) w.heap.size (fun k_=>k_ ≠ gb588 ∧ k_ ≠ gb596 ∧ k_ ≠ gb648) (.slice Ao14 t581.length co14) t581):=⟨by (with_reducible repeat (first | apply va_ | apply vn_ | apply vd_)); exact Kd.V_mono (Kd.V_far (p:=⟨gb648,2,none⟩) (Kd.V_far (p:=⟨gb648,1,none⟩) (Kd.V_far (p:=⟨gb648,0,none⟩) (Kd.V_mono HO_589001.out (fun k_ hk=>(⟨hk,hk.2⟩ : _ ∧ k_ ≠ gb648))) (fun _ hk=>hk.2) (.bool t640)) (fun _ hk=>hk.2) (.slice Ao310 t641.length co310)) (fun _ hk=>hk.2) (.slice Ao311 t644.length co311)) (fun _ hk=>⟨hk.1.1.1,⟨hk.1.1.2,hk.1.2⟩⟩)⟩
    have n1_ : Aside0 (Kd.V (Kd.int .u32) 123 (((w306.setCell ⟨gb648,0,none⟩ (.bool t640)).setCell ⟨gb648,1,none⟩ (.slice Ao310 t641.length co310)).setCell ⟨gb648,2,none⟩ (.slice Ao311 t644.length co311)) w.heap.size (fun k_=>k_ ≠ gb588 ∧ k_ ≠ gb596 ∧ k_ ≠ gb648) (.slice Ao15 t584.length co15) t584):=⟨by (with_reducible repeat (first | apply va_ | apply vn_ | apply vd_)); exact Kd.V_mono (Kd.V_far (p:=⟨gb648,2,none⟩) (Kd.V_far (p:=⟨gb648,1,none⟩) (Kd.V_far (p:=⟨gb648,0,none⟩) (Kd.V_mono HO_589002.out (fun k_ hk=>(⟨hk,hk.2⟩ : _ ∧ k_ ≠ gb648))) (fun _ hk=>hk.2) (.bool t640)) (fun _ hk=>hk.2) (.slice Ao310 t641.length co310)) (fun _ hk=>hk.2) (.slice Ao311 t644.length co311)) (fun _ hk=>⟨hk.1.1.1,⟨hk.1.1.2,hk.1.2⟩⟩)⟩
    have n2_ : Aside0 (Kd.V (Kd.int .u32) 123 (((w306.setCell ⟨gb648,0,none⟩ (.bool t640)).setCell ⟨gb648,1,none⟩ (.slice Ao310 t641.length co310)).setCell ⟨gb648,2,none⟩ (.slice Ao311 t644.length co311)) w.heap.size (fun k_=>k_ ≠ gb588 ∧ k_ ≠ gb596 ∧ k_ ≠ gb648) (.slice Ao20 t590.length co20) t590):=⟨by (with_reducible repeat (first | apply va_ | apply vn_ | apply vd_)); exact Kd.V_mono (Kd.V_far (p:=⟨gb648,2,none⟩) (Kd.V_far (p:=⟨gb648,1,none⟩) (Kd.V_far (p:=⟨gb648,0,none⟩) (Kd.V_mono HO_597001.out (fun k_ hk=>(⟨hk,hk.2⟩ : _ ∧ k_ ≠ gb648))) (fun _ hk=>hk.2) (.bool t640)) (fun _ hk=>hk.2) (.slice Ao310 t641.length co310)) (fun _ hk=>hk.2) (.slice Ao311 t644.length co311)) (fun _ hk=>⟨hk.1.1.1,⟨hk.1.1.2,hk.1.2⟩⟩)⟩
    have n3_ : Aside0 (Kd.V (Kd.int .u32) 123 (((w306.setCell ⟨gb648,0,none⟩ (.bool t640)).setCell ⟨gb648,1,none⟩ (.slice Ao310 t641.length co310)).setCell ⟨gb648,2,none⟩ (.slice Ao311 t644.length co311)) w.heap.size (fun k_=>k_ ≠ gb588 ∧ k_ ≠ gb596 ∧ k_ ≠ gb648) (.slice Ao21 t593.length co21) t593):=⟨by (with_reducible repeat (first | apply va_ | apply vn_ | apply vd_)); exact Kd.V_mono (Kd.V_far (p:=⟨gb648,2,none⟩) (Kd.V_far (p:=⟨gb648,1,none⟩) (Kd.V_far (p:=⟨gb648,0,none⟩) (Kd.V_mono HO_597002.out (fun k_ hk=>(⟨hk,hk.2⟩ : _ ∧ k_ ≠ gb648))) (fun _ hk=>hk.2) (.bool t640)) (fun _ hk=>hk.2) (.slice Ao310 t641.length co310)) (fun _ hk=>hk.2) (.slice Ao311 t644.length co311)) (fun _ hk=>⟨hk.1.1.1,⟨hk.1.1.2,hk.1.2⟩⟩)⟩
    have n4_ : Aside0 (Kd.V (Kd.int .u32) 123 (((w306.setCell ⟨gb648,0,none⟩ (.bool t640)).setCell ⟨gb648,1,none⟩ (.slice Ao310 t641.length co310)).setCell ⟨gb648,2,none⟩ (.slice Ao311 t644.length co311)) w.heap.size (fun k_=>k_ ≠ gb588 ∧ k_ ≠ gb596 ∧ k_ ≠ gb648) (.slice Ao310 t641.length co310) t641):=⟨by (with_reducible repeat (first | apply va_ | apply vn_ | apply vd_)); exact Kd.V_mono (Kd.V_far (p:=⟨gb648,2,none⟩) (Kd.V_far (p:=⟨gb648,1,none⟩) (Kd.V_far (p:=⟨gb648,0,none⟩) (Kd.V_mono HO643.out (fun k_ hk=>(⟨hk,hk.2⟩ : _ ∧ k_ ≠ gb648))) (fun _ hk=>hk.2) (.bool t640)) (fun _ hk=>hk.2) (.slice Ao310 t641.length co310)) (fun _ hk=>hk.2) (.slice Ao311 t644.length co311)) (fun _ hk=>⟨hk.1.1.1,⟨hk.1.1.2,hk.1.2⟩⟩)⟩
    have n5_ : Aside0 (Kd.V (Kd.int .u32) 123 (((w306.setCell ⟨gb648,0,none⟩ (.bool t640)).setCell ⟨gb648,1,none⟩ (.slice Ao310 t641.length co310)).setCell ⟨gb648,2,none⟩ (.slice Ao311 t644.length co311)) w.heap.size (fun k_=>k_ ≠ gb588 ∧ k_ ≠ gb596 ∧ k_ ≠ gb648) (.slice Ao311 t644.length co311) t644):=⟨by (with_reducible repeat (first | apply va_ | apply vn_ | apply vd_)); exact Kd.V_mono (Kd.V_far (p:=⟨gb648,2,none⟩) (Kd.V_far (p:=⟨gb648,1,none⟩) (Kd.V_far (p:=⟨gb648,0,none⟩) (Kd.V_mono HO646.out (fun k_ hk=>(⟨hk,hk.2⟩ : _ ∧ k_ ≠ gb648))) (fun _ hk=>hk.2) (.bool t640)) (fun _ hk=>hk.2) (.slice Ao310 t641.length co310)) (fun _ hk=>hk.2) (.slice Ao311 t644.length co311)) (fun _ hk=>⟨hk.1.1.1,⟨hk.1.1.2,hk.1.2⟩⟩)⟩
    have n6_ : Aside0 ((((w306.setCell ⟨gb648,0,none⟩ (.bool t640)).setCell ⟨gb648,1,none⟩ (.slice Ao310 t641.length co310)).setCell ⟨gb648,2,none⟩ (.slice Ao311 t644.length co311)).heap[gb588]? = some (.cells #[.bool t580,.slice Ao14 t581.length co14,.slice Ao15 t584.length co15] 50 (0,0))):=⟨by (with_reducible repeat (first | apply kn_ | apply kd_ | apply ka_)); refine blk_far ?_ NB588_648.out _; (with_reducible repeat (first | apply kn_ | apply kd_ | apply ka_)); refine blk_far ?_ NB588_648.out _; (with_reducible repeat (first | apply kn_ | apply kd_ | apply ka_)); refine blk_far ?_ NB588_648.out _; (with_reducible repeat (first | apply kn_ | apply kd_ | apply ka_)); exact BK588.out⟩
    have n7_ : Aside0 ((((w306.setCell ⟨gb648,0,none⟩ (.bool t640)).setCell ⟨gb648,1,none⟩ (.slice Ao310 t641.length co310)).setCell ⟨gb648,2,none⟩ (.slice Ao311 t644.length co311)).heap[gb596]? = some (.cells #[.bool t589,.slice Ao20 t590.length co20,.slice Ao21 t593.length co21] 50 (0,0))):=⟨by (with_reducible repeat (first | apply kn_ | apply kd_ | apply ka_)); refine blk_far ?_ NB596_648.out _; (with_reducible repeat (first | apply kn_ | apply kd_ | apply ka_)); refine blk_far ?_ NB596_648.out _; (with_reducible repeat (first | apply kn_ | apply kd_ | apply ka_)); refine blk_far ?_ NB596_648.out _; (with_reducible repeat (first | apply kn_ | apply kd_ | apply ka_)); exact BK596.out⟩
    have n8_ : Aside0 ((((w306.setCell ⟨gb648,0,none⟩ (.bool t640)).setCell ⟨gb648,1,none⟩ (.slice Ao310 t641.length co310)).setCell ⟨gb648,2,none⟩ (.slice Ao311 t644.length co311)).heap[gb648]? = some (.cells #[.bool t640,.slice Ao310 t641.length co310,.slice Ao311 t644.length co311] 50 (0,0))):=⟨by (with_reducible repeat (first | apply kn_ | apply kd_ | apply ka_)); refine blk_put (cs:=#[.bool t640,.slice Ao310 t641.length co310,.slice none 0 0]) ?_ 2 _ rfl; (with_reducible repeat (first | apply kn_ | apply kd_ | apply ka_)); refine blk_put (cs:=#[.bool t640,.slice none 0 0,.slice none 0 0]) ?_ 1 _ rfl; (with_reducible repeat (first | apply kn_ | apply kd_ | apply ka_)); refine blk_put (cs:=#[.bool false,.slice none 0 0,.slice none 0 0]) ?_ 0 _ rfl; (with_reducible repeat (first | apply kn_ | apply kd_ | apply ka_)); exact BK648.out⟩
    have n9_ : Aside0 (Below w.heap.size w (((w306.setCell ⟨gb648,0,none⟩ (.bool t640)).setCell ⟨gb648,1,none⟩ (.slice Ao310 t641.length co310)).setCell ⟨gb648,2,none⟩ (.slice Ao311 t644.length co311))):=⟨bh_⟩
    (try clear HO_589001)
    (try clear HO_589002)
    (try clear HO_597001)
    (try clear HO_597002)
    (try clear HO643)
    (try clear HO646)
    (try clear BK588)
    (try clear BK596)
    (try clear BK648)
    (try clear HB)
    generalize (((w306.setCell ⟨gb648,0,none⟩ (.bool t640)).setCell ⟨gb648,1,none⟩ (.slice Ao310 t641.length co310)).setCell ⟨gb648,2,none⟩ (.slice Ao311 t644.length co311)) = w312 at n0_ n1_ n2_ n3_ n4_ n5_ n6_ n7_ n8_ n9_ ⊢
    have HO_589001:=n0_
    have HO_589002:=n1_
    have HO_597001:=n2_
    have HO_597002:=n3_
    have HO643:=n4_
    have HO646:=n5_
    have BK588:=n6_
    have BK596:=n7_
    have BK648:=n8_
    have HB:=n9_
    clear n0_ n1_ n2_ n3_ n4_ n5_ n6_ n7_ n8_ n9_
    have n0_:=Aside0.mk (Kd.V_drew HO_589001.out)
    have n1_:=Aside0.mk (Kd.V_drew HO_589002.out)
    have n2_:=Aside0.mk (Kd.V_drew HO_597001.out)
    have n3_:=Aside0.mk (Kd.V_drew HO_597002.out)
    have n4_:=Aside0.mk (Kd.V_drew HO643.out)
    have n5_:=Aside0.mk (Kd.V_drew HO646.out)
    have n6_:=Aside0.mk (blk_drew BK588.out)
    have n7_:=Aside0.mk (blk_drew BK596.out)
    have n8_:=Aside0.mk (blk_drew BK648.out)
    have n9_:=Aside0.mk (below_drew1 HB.out)
    clear HO_589001
    clear HO_589002
    clear HO_597001
    clear HO_597002
    clear HO643
    clear HO646
    clear BK588
    clear BK596
    clear BK648
    clear HB
    have HO_589001:=n0_
    have HO_589002:=n1_
    have HO_597001:=n2_
    have HO_597002:=n3_
    have HO643:=n4_
    have HO646:=n5_
    have BK588:=n6_
    have BK596:=n7_
    have BK648:=n8_
    have HB:=n9_
    clear n0_ n1_ n2_ n3_ n4_ n5_ n6_ n7_ n8_ n9_
    refine start_ (n:=20) (S:=fun w'=>True) (ds:=[]) #[false,false,false,false,false,false,false,false,false,false,false,false,false,false,false,false,false,false,false,false] (by kernel_rfl) rfl rfl trivial (fun hHeld=>?_); refine with_tabW flyballlaw07_ConvNear.tab15 flyballlaw07_ConvNear.bits15 (fun HT_ HW_=>?_)
    generalize w312.drew = w313 at HO_589001 HO_589002 HO_597001 HO_597002 HO643 HO646 BK588 BK596 BK648 HB hHeld ⊢
    refine pure_ (i:=0) (N:=some 73) (v:=?_) (a':=?_) #[true,false,false,false,false,false,false,false,false,false,false,false,false,false,false,false,false,false,false,false] rfl rfl (any_of HT_.out (by kernel_rfl)) (fun _ _ _ h=>h) (Or.inl ⟨by rfl,?_⟩) ?_ ?_
    rotate_left
    ·
     intro w'
     go_simp
     with_reducible rfl
    rotate_left
    ·
     simp only [Act.put,p1_,p2_,p3_,i64_w,i32_w]
     rfl
    refine pure_ (i:=1) (N:=some 74) (v:=?_) (a':=?_) #[true,true,false,false,false,false,false,false,false,false,false,false,false,false,false,false,false,false,false,false] rfl rfl (any_of HT_.out (by kernel_rfl)) (fun _ _ _ h=>h) (Or.inl ⟨by rfl,?_⟩) ?_ ?_
    rotate_left
    ·
     intro w'
     go_simp
     with_reducible rfl
    rotate_left
    ·
     simp only [Act.put,p1_,p2_,p3_,i64_w,i32_w]
     rfl
    refine pure_ (i:=2) (N:=some 75) (v:=?_) (a':=?_) #[true,true,true,false,false,false,false,false,false,false,false,false,false,false,false,false,false,false,false,false] rfl rfl (any_of HT_.out (by kernel_rfl)) (fun _ _ _ h=>h) (Or.inl ⟨by rfl,?_⟩) ?_ ?_
    rotate_left
    ·
     intro w'
     go_simp
     with_reducible rfl
    rotate_left
    ·
     simp only [Act.put,p1_,p2_,p3_,i64_w,i32_w]
     rfl
    refine pure_ (i:=3) (N:=some 76) (v:=undef) (a':=?_) #[true,true,true,true,false,false,false,false,false,false,false,false,false,false,false,false,false,false,false,false] rfl rfl (any_of HT_.out (by kernel_rfl)) (fun _ _ _ h=>h) (Or.inr ⟨by rfl,rfl⟩) ?_ ?_
    rotate_left
    ·
     simp only [Act.put,p1_,p2_,p3_,i64_w,i32_w]
     rfl
    refine pure_ (i:=4) (N:=some 77) (v:=undef) (a':=?_) #[true,true,true,true,true,false,false,false,false,false,false,false,false,false,false,false,false,false,false,false] rfl rfl (any_of HT_.out (by kernel_rfl)) (fun _ _ _ h=>h) (Or.inr ⟨by rfl,rfl⟩) ?_ ?_
    rotate_left
    ·
     simp only [Act.put,p1_,p2_,p3_,i64_w,i32_w]
     rfl
    refine pure_ (i:=5) (N:=some 78) (v:=undef) (a':=?_) #[true,true,true,true,true,true,false,false,false,false,false,false,false,false,false,false,false,false,false,false] rfl rfl (any_of HT_.out (by kernel_rfl)) (fun _ _ _ h=>h) (Or.inr ⟨by rfl,rfl⟩) ?_ ?_
    rotate_left
    ·
     simp only [Act.put,p1_,p2_,p3_,i64_w,i32_w]
     rfl
    refine pure_ (i:=6) (N:=some 79) (v:=undef) (a':=?_) #[true,true,true,true,true,true,true,false,false,false,false,false,false,false,false,false,false,false,false,false] rfl rfl (any_of HT_.out (by kernel_rfl)) (fun _ _ _ h=>h) (Or.inr ⟨by rfl,rfl⟩) ?_ ?_
    rotate_left
    ·
     simp only [Act.put,p1_,p2_,p3_,i64_w,i32_w]
     rfl
    refine pure_ (i:=7) (N:=some 80) (v:=undef) (a':=?_) #[true,true,true,true,true,true,true,true,false,false,false,false,false,false,false,false,false,false,false,false] rfl rfl (any_of HT_.out (by kernel_rfl)) (fun _ _ _ h=>h) (Or.inr ⟨by rfl,rfl⟩) ?_ ?_
    rotate_left
    ·
     simp only [Act.put,p1_,p2_,p3_,i64_w,i32_w]
     rfl
    refine pure_ (i:=8) (N:=some 81) (v:=undef) (a':=?_) #[true,true,true,true,true,true,true,true,true,false,false,false,false,false,false,false,false,false,false,false] rfl rfl (any_of HT_.out (by kernel_rfl)) (fun _ _ _ h=>h) (Or.inr ⟨by rfl,rfl⟩) ?_ ?_
    rotate_left
    ·
     simp only [Act.put,p1_,p2_,p3_,i64_w,i32_w]
     rfl
    refine pure_ (i:=9) (N:=some 82) (v:=undef) (a':=?_) #[true,true,true,true,true,true,true,true,true,true,false,false,false,false,false,false,false,false,false,false] rfl rfl (any_of HT_.out (by kernel_rfl)) (fun _ _ _ h=>h) (Or.inr ⟨by rfl,rfl⟩) ?_ ?_
    rotate_left
    ·
     simp only [Act.put,p1_,p2_,p3_,i64_w,i32_w]
     rfl
    refine pure_ (i:=10) (N:=some 83) (v:=?_) (a':=?_) #[true,true,true,true,true,true,true,true,true,true,true,false,false,false,false,false,false,false,false,false] rfl rfl (any_of HT_.out (by kernel_rfl)) (fun _ _ _ h=>h) (Or.inl ⟨by rfl,?_⟩) ?_ ?_
    rotate_left
    ·
     intro w'
     go_simp
     with_reducible rfl
    rotate_left
    ·
     simp only [Act.put,p1_,p2_,p3_,i64_w,i32_w]
     rfl
    refine pure_ (i:=11) (N:=some 84) (v:=?_) (a':=?_) #[true,true,true,true,true,true,true,true,true,true,true,true,false,false,false,false,false,false,false,false] rfl rfl (any_of HT_.out (by kernel_rfl)) (fun _ _ _ h=>h) (Or.inl ⟨by rfl,?_⟩) ?_ ?_
    rotate_left
    ·
     intro w'
     go_simp
     with_reducible rfl
    rotate_left
    ·
     simp only [Act.put,p1_,p2_,p3_,i64_w,i32_w]
     rfl
    refine pure_ (i:=12) (N:=some 85) (v:=undef) (a':=?_) #[true,true,true,true,true,true,true,true,true,true,true,true,true,false,false,false,false,false,false,false] rfl rfl (any_of HT_.out (by kernel_rfl)) (fun _ _ _ h=>h) (Or.inr ⟨by rfl,rfl⟩) ?_ ?_
    rotate_left
    ·
     simp only [Act.put,p1_,p2_,p3_,i64_w,i32_w]
     rfl
    refine pure_ (i:=13) (N:=some 86) (v:=undef) (a':=?_) #[true,true,true,true,true,true,true,true,true,true,true,true,true,true,false,false,false,false,false,false] rfl rfl (any_of HT_.out (by kernel_rfl)) (fun _ _ _ h=>h) (Or.inr ⟨by rfl,rfl⟩) ?_ ?_
    rotate_left
    ·
     simp only [Act.put,p1_,p2_,p3_,i64_w,i32_w]
     rfl
    refine pure_ (i:=14) (N:=some 87) (v:=undef) (a':=?_) #[true,true,true,true,true,true,true,true,true,true,true,true,true,true,true,false,false,false,false,false] rfl rfl (any_of HT_.out (by kernel_rfl)) (fun _ _ _ h=>h) (Or.inr ⟨by rfl,rfl⟩) ?_ ?_
    rotate_left
    ·
     simp only [Act.put,p1_,p2_,p3_,i64_w,i32_w]
     rfl
    refine pure_ (i:=15) (N:=some 88) (v:=undef) (a':=?_) #[true,true,true,true,true,true,true,true,true,true,true,true,true,true,true,true,false,false,false,false] rfl rfl (any_of HT_.out (by kernel_rfl)) (fun _ _ _ h=>h) (Or.inr ⟨by rfl,rfl⟩) ?_ ?_
    rotate_left
    ·
     simp only [Act.put,p1_,p2_,p3_,i64_w,i32_w]
     rfl
    refine pure_ (i:=16) (N:=some 89) (v:=undef) (a':=?_) #[true,true,true,true,true,true,true,true,true,true,true,true,true,true,true,true,true,false,false,false] rfl rfl (any_of HT_.out (by kernel_rfl)) (fun _ _ _ h=>h) (Or.inr ⟨by rfl,rfl⟩) ?_ ?_
    rotate_left
    ·
     simp only [Act.put,p1_,p2_,p3_,i64_w,i32_w]
     rfl
    refine pure_ (i:=17) (N:=some 90) (v:=undef) (a':=?_) #[true,true,true,true,true,true,true,true,true,true,true,true,true,true,true,true,true,true,false,false] rfl rfl (any_of HT_.out (by kernel_rfl)) (fun _ _ _ h=>h) (Or.inr ⟨by rfl,rfl⟩) ?_ ?_
    rotate_left
    ·
     simp only [Act.put,p1_,p2_,p3_,i64_w,i32_w]
     rfl
    refine pure_ (i:=18) (N:=some 91) (v:=undef) (a':=?_) #[true,true,true,true,true,true,true,true,true,true,true,true,true,true,true,true,true,true,true,false] rfl rfl (any_of HT_.out (by kernel_rfl)) (fun _ _ _ h=>h) (Or.inr ⟨by rfl,rfl⟩) ?_ ?_
    rotate_left
    ·
     simp only [Act.put,p1_,p2_,p3_,i64_w,i32_w]
     rfl
    refine pure_ (i:=19) (N:=some 92) (v:=?_) (a':=?_) #[true,true,true,true,true,true,true,true,true,true,true,true,true,true,true,true,true,true,true,true] rfl rfl (any_of HT_.out (by kernel_rfl)) (fun _ _ _ h=>h) (Or.inl ⟨by rfl,?_⟩) ?_ ?_
    rotate_left
    ·
     intro w'
     go_simp
     with_reducible rfl
    rotate_left
    ·
     simp only [Act.put,p1_,p2_,p3_,i64_w,i32_w]
     rfl
    refine done_ (done_of HT_.out (by kernel_rfl)) ?_
    try go_wp2
    go_ret
    exact ⟨eh_,bh_⟩
   subst c124
   have H1 : ((ratio_R_Sub.f kj8 t640 t641 t644 t580 t581 t584).bind fun bt649=>((ratio_R_Abs.f kj8 bt649.1 bt649.2.1 bt649.2.2).bind fun bt656=>((ratio_R_Cmp.f kj8 bt656.1 bt656.2.1 bt656.2.2 t589 t590 t593).bind fun t663=>(if t663 ≥ 0 then (some false) else ((ratio_R_Cmp.f kj8 t640 t641 t644 t580 t581 t584).bind fun t664=>(if ((t639 == 1) != (t664 != 0)) = true then (some false) else ((ratio_R_Cmp.f kj8 t640 t641 t644 t580 t581 t584).bind fun t665=>(if true = true then (if a1 = 1 then (if t665 ≥ 0 then (if a1 = 2 then (some (decide (t665 ≤ 0))) else (some true)) else (some false)) else (if a1 = 2 then (some (decide (t665 ≤ 0))) else (some true))) else (some false))))))))) = some r:=by rw [if_pos rfl] at H; exact H
   clear H
   have H:=H1
   clear H1
   replace H:=Option.bind_eq_some_iff.mp H
   obtain ⟨⟨t649,t650,t653⟩,A1250,H⟩:=H
   replace H : ((ratio_R_Abs.f kj8 t649 t650 t653).bind fun bt656=>((ratio_R_Cmp.f kj8 bt656.1 bt656.2.1 bt656.2.2 t589 t590 t593).bind fun t663=>(if t663 ≥ 0 then (some false) else ((ratio_R_Cmp.f kj8 t640 t641 t644 t580 t581 t584).bind fun t664=>(if ((t639 == 1) != (t664 != 0)) = true then (some false) else ((ratio_R_Cmp.f kj8 t640 t641 t644 t580 t581 t584).bind fun t665=>(if true = true then (if a1 = 1 then (if t665 ≥ 0 then (if a1 = 2 then (some (decide (t665 ≤ 0))) else (some true)) else (some false)) else (if a1 = 2 then (some (decide (t665 ≤ 0))) else (some true))) else (some false)))))))) = some r:=H
   have A125:=Aside0.mk A1250
   clear A1250
   replace H:=Option.bind_eq_some_iff.mp H
   obtain ⟨⟨t656,t657,t660⟩,A1260,H⟩:=H
   replace H : ((ratio_R_Cmp.f kj8 t656 t657 t660 t589 t590 t593).bind fun t663=>(if t663 ≥ 0 then (some false) else ((ratio_R_Cmp.f kj8 t640 t641 t644 t580 t581 t584).bind fun t664=>(if ((t639 == 1) != (t664 != 0)) = true then (some false) else ((ratio_R_Cmp.f kj8 t640 t641 t644 t580 t581 t584).bind fun t665=>(if true = true then (if a1 = 1 then (if t665 ≥ 0 then (if a1 = 2 then (some (decide (t665 ≤ 0))) else (some true)) else (some false)) else (if a1 = 2 then (some (decide (t665 ≤ 0))) else (some true))) else (some false))))))) = some r:=H
   have A126:=Aside0.mk A1260
   clear A1260
   replace H:=Option.bind_eq_some_iff.mp H
   obtain ⟨t663,A1270,H⟩:=H
   replace H : (if t663 ≥ 0 then (some false) else ((ratio_R_Cmp.f kj8 t640 t641 t644 t580 t581 t584).bind fun t664=>(if ((t639 == 1) != (t664 != 0)) = true then (some false) else ((ratio_R_Cmp.f kj8 t640 t641 t644 t580 t581 t584).bind fun t665=>(if true = true then (if a1 = 1 then (if t665 ≥ 0 then (if a1 = 2 then (some (decide (t665 ≤ 0))) else (some true)) else (some false)) else (if a1 = 2 then (some (decide (t665 ≤ 0))) else (some true))) else (some false)))))) = some r:=H
   have A127:=Aside0.mk A1270
   clear A1270
   have HH2_:=Aside0.mk H
   clear H
   try go_wp2_with (first | ((with_reducible refine gc_ 20 rfl ?_); refine gM_ (some 65) Try.func20 [.int .u64 a0,.int .u8 a1] ?_; (with_reducible refine (conv_Whole.calls kj8 a0 a1 t638 t639 _ A122.out).mono ?_); rintro e w129 ⟨rfl,hb⟩; refine ⟨_,rfl,?_⟩; replace HO_589001:=vb_ HO_589001 hb; replace HO_589002:=vb_ HO_589002 hb; replace HO_597001:=vb_ HO_597001 hb; replace HO_597002:=vb_ HO_597002 hb; replace BK588:=kb_ BK588 hb; replace BK596:=kb_ BK596 hb; replace HB:=bq_ hb) | ((with_reducible refine gc_ 34 rfl ?_); refine gM_ (some 70) Try.func34 [.int .u64 t638] ?_; (with_reducible refine (pattern_Value.calls kj8 t638 t640 t641 t644 true _ A123.out).mono ?_); rintro e w130 ⟨v642,v645,rfl,ho0,ho1,hb⟩; refine ⟨_,rfl,?_⟩; replace HO_589001:=vb_ HO_589001 hb; replace HO_589002:=vb_ HO_589002 hb; replace HO_597001:=vb_ HO_597001 hb; replace HO_597002:=vb_ HO_597002 hb; have HO643:=Aside0.mk (Kd.V_lower (Kd.V_mono (ok':=fun k_=>k_ ≠ gb588 ∧ k_ ≠ gb596) ho0 (fun k_ hk_=>⟨(fb_ BK588 k_ hk_),(fb_ BK596 k_ hk_)⟩)) (below_size bh_)); have HO646:=Aside0.mk (Kd.V_lower (Kd.V_mono (ok':=fun k_=>k_ ≠ gb588 ∧ k_ ≠ gb596) ho1 (fun k_ hk_=>⟨(fb_ BK588 k_ hk_),(fb_ BK596 k_ hk_)⟩)) (below_size bh_)); replace BK588:=kb_ BK588 hb; replace BK596:=kb_ BK596 hb; replace HB:=bq_ hb) | ((with_reducible refine gate_dst (N:=14) rfl ?_); refine box_event ?hg (N:=14) ?hd (cs:=#[.bool false,.slice none 0 0,.slice none 0 0]) (t:=50) ?hr ?_; (case hd=>rfl); (case hg=>rfl); (case hr=>first | (go_simp; done) | (go_simp; rfl)); intro gb648 hg w131 hbox hb; have n0_:=ve_ HO_589001 hg hb; have n1_:=ve_ HO_589002 hg hb; have n2_:=ve_ HO_597001 hg hb; have n3_:=ve_ HO_597002 hg hb; have n4_:=ve_ HO643 hg hb; have n5_:=ve_ HO646 hg hb; have n6_:=kb_ BK588 hb; have n7_:=kb_ BK596 hb; have n8_:=bq_ hb; have n9_:=Aside0.mk (hbox); have n11_:=bz_ hg; have n12_:=Aside0.mk ((by rw [hg]; exact Nat.ne_of_lt (blk_lt (g:=gb588) (o:=.cells #[.bool t580,.slice Ao14 t581.length co14,.slice Ao15 t584.length co15] 50 (0,0)) (by (with_reducible repeat (first | apply kn_ | apply kd_ | apply ka_)); exact BK588.out)) : gb588 ≠ gb648)); have n13_:=Aside0.mk ((by rw [hg]; exact Nat.ne_of_gt (blk_lt (g:=gb588) (o:=.cells #[.bool t580,.slice Ao14 t581.length co14,.slice Ao15 t584.length co15] 50 (0,0)) (by (with_reducible repeat (first | apply kn_ | apply kd_ | apply ka_)); exact BK588.out)) : gb648 ≠ gb588)); have n14_:=Aside0.mk ((by rw [hg]; exact Nat.ne_of_lt (blk_lt (g:=gb596) (o:=.cells #[.bool t589,.slice Ao20 t590.length co20,.slice Ao21 t593.length co21] 50 (0,0)) (by (with_reducible repeat (first | apply kn_ | apply kd_ | apply ka_)); exact BK596.out)) : gb596 ≠ gb648)); have n15_:=Aside0.mk ((by rw [hg]; exact Nat.ne_of_gt (blk_lt (g:=gb596) (o:=.cells #[.bool t589,.slice Ao20 t590.length co20,.slice Ao21 t593.length co21] 50 (0,0)) (by (with_reducible repeat (first | apply kn_ | apply kd_ | apply ka_)); exact BK596.out)) : gb648 ≠ gb596)); clear HO_589001 HO_589002 HO_597001 HO_597002 HO643 HO646 BK588 BK596 HB; have HO_589001:=n0_; have HO_589002:=n1_; have HO_597001:=n2_; have HO_597002:=n3_; have HO643:=n4_; have HO646:=n5_; have BK588:=n6_; have BK596:=n7_; have HB:=n8_; have BK648:=n9_; have GE648:=n11_; have NB588_648:=n12_; have NB648_588:=n13_; have NB596_648:=n14_; have NB648_596:=n15_; clear n0_ n1_ n2_ n3_ n4_ n5_ n6_ n7_ n8_ n9_ n11_ n12_ n13_ n14_ n15_; clear hb hbox hg; have hnb132:=NB648_588.out; have hnc132:=NB588_648.out; have hnb133:=NB648_596.out; have hnc133:=NB596_648.out; have hcz134_0 : w131.cell? ⟨gb648,0,none⟩ = some (.bool false):=bc_ BK648 0; have hcz134_1 : w131.cell? ⟨gb648,1,none⟩ = some (.slice none 0 0):=bc_ BK648 1; have hcz134_2 : w131.cell? ⟨gb648,2,none⟩ = some (.slice none 0 0):=bc_ BK648 2; have hfz134_0:=blk_frozen BK648.out 0; have hfz134_1:=blk_frozen BK648.out 1; have hfz134_2:=blk_frozen BK648.out 2; obtain ⟨Ao135,co135,eo135⟩:=Kd.V_slice HO643.out; subst eo135; obtain ⟨Ao136,co136,eo136⟩:=Kd.V_slice HO646.out; subst eo136))
   have n0_ : Aside0 (Kd.V (Kd.int .u32) 123 (((w131.setCell ⟨gb648,0,none⟩ (.bool t640)).setCell ⟨gb648,1,none⟩ (.slice Ao135 t641.length co135)).setCell ⟨gb648,2,none⟩ (.slice Ao136 t644.length co136)) w.heap.size (fun k_=>k_ ≠ gb588 ∧ k_ ≠ gb596 ∧ k_ ≠ gb648) (.slice Ao14 t581.length co14) t581):=⟨by (with_reducible repeat (first | apply va_ | apply vn_ | apply vd_)); exact Kd.V_mono (Kd.V_far (p:=⟨gb648,2,none⟩) (Kd.V_far (p:=⟨gb648,1,none⟩) (Kd.V_far (p:=⟨gb648,0,none⟩) (Kd.V_mono HO_589001.out (fun k_ hk=>(⟨hk,hk.2⟩ : _ ∧ k_ ≠ gb648))) (fun _ hk=>hk.2) (.bool t640)) (fun _ hk=>hk.2) (.slice Ao135 t641.length co135)) (fun _ hk=>hk.2) (.slice Ao136 t644.length co136)) (fun _ hk=>⟨hk.1.1.1,⟨hk.1.1.2,hk.1.2⟩⟩)⟩
   have n1_ : Aside0 (Kd.V (Kd.int .u32) 123 (((w131.setCell ⟨gb648,0,none⟩ (.bool t640)).setCell ⟨gb648,1,none⟩ (.slice Ao135 t641.length co135)).setCell ⟨gb648,2,none⟩ (.slice Ao136 t644.length co136)) w.heap.size (fun k_=>k_ ≠ gb588 ∧ k_ ≠ gb596 ∧ k_ ≠ gb648) (.slice Ao15 t584.length co15) t584):=⟨by (with_reducible repeat (first | apply va_ | apply vn_ | apply vd_)); exact Kd.V_mono (Kd.V_far (p:=⟨gb648,2,none⟩) (Kd.V_far (p:=⟨gb648,1,none⟩) (Kd.V_far (p:=⟨gb648,0,none⟩) (Kd.V_mono HO_589002.out (fun k_ hk=>(⟨hk,hk.2⟩ : _ ∧ k_ ≠ gb648))) (fun _ hk=>hk.2) (.bool t640)) (fun _ hk=>hk.2) (.slice Ao135 t641.length co135)) (fun _ hk=>hk.2) (.slice Ao136 t644.length co136)) (fun _ hk=>⟨hk.1.1.1,⟨hk.1.1.2,hk.1.2⟩⟩)⟩
   have n2_ : Aside0 (Kd.V (Kd.int .u32) 123 (((w131.setCell ⟨gb648,0,none⟩ (.bool t640)).setCell ⟨gb648,1,none⟩ (.slice Ao135 t641.length co135)).setCell ⟨gb648,2,none⟩ (.slice Ao136 t644.length co136)) w.heap.size (fun k_=>k_ ≠ gb588 ∧ k_ ≠ gb596 ∧ k_ ≠ gb648) (.slice Ao20 t590.length co20) t590):=⟨by (with_reducible repeat (first | apply va_ | apply vn_ | apply vd_)); exact Kd.V_mono (Kd.V_far (p:=⟨gb648,2,none⟩) (Kd.V_far (p:=⟨gb648,1,none⟩) (Kd.V_far (p:=⟨gb648,0,none⟩) (Kd.V_mono HO_597001.out (fun k_ hk=>(⟨hk,hk.2⟩ : _ ∧ k_ ≠ gb648))) (fun _ hk=>hk.2) (.bool t640)) (fun _ hk=>hk.2) (.slice Ao135 t641.length co135)) (fun _ hk=>hk.2) (.slice Ao136 t644.length co136)) (fun _ hk=>⟨hk.1.1.1,⟨hk.1.1.2,hk.1.2⟩⟩)⟩
   have n3_ : Aside0 (Kd.V (Kd.int .u32) 123 (((w131.setCell ⟨gb648,0,none⟩ (.bool t640)).setCell ⟨gb648,1,none⟩ (.slice Ao135 t641.length co135)).setCell ⟨gb648,2,none⟩ (.slice Ao136 t644.length co136)) w.heap.size (fun k_=>k_ ≠ gb588 ∧ k_ ≠ gb596 ∧ k_ ≠ gb648) (.slice Ao21 t593.length co21) t593):=⟨by (with_reducible repeat (first | apply va_ | apply vn_ | apply vd_)); exact Kd.V_mono (Kd.V_far (p:=⟨gb648,2,none⟩) (Kd.V_far (p:=⟨gb648,1,none⟩) (Kd.V_far (p:=⟨gb648,0,none⟩) (Kd.V_mono HO_597002.out (fun k_ hk=>(⟨hk,hk.2⟩ : _ ∧ k_ ≠ gb648))) (fun _ hk=>hk.2) (.bool t640)) (fun _ hk=>hk.2) (.slice Ao135 t641.length co135)) (fun _ hk=>hk.2) (.slice Ao136 t644.length co136)) (fun _ hk=>⟨hk.1.1.1,⟨hk.1.1.2,hk.1.2⟩⟩)⟩
   have n4_ : Aside0 (Kd.V (Kd.int .u32) 123 (((w131.setCell ⟨gb648,0,none⟩ (.bool t640)).setCell ⟨gb648,1,none⟩ (.slice Ao135 t641.length co135)).setCell ⟨gb648,2,none⟩ (.slice Ao136 t644.length co136)) w.heap.size (fun k_=>k_ ≠ gb588 ∧ k_ ≠ gb596 ∧ k_ ≠ gb648) (.slice Ao135 t641.length co135) t641):=⟨by (with_reducible repeat (first | apply va_ | apply vn_ | apply vd_)); exact Kd.V_mono (Kd.V_far (p:=⟨gb648,2,none⟩) (Kd.V_far (p:=⟨gb648,1,none⟩) (Kd.V_far (p:=⟨gb648,0,none⟩) (Kd.V_mono HO643.out (fun k_ hk=>(⟨hk,hk.2⟩ : _ ∧ k_ ≠ gb648))) (fun _ hk=>hk.2) (.bool t640)) (fun _ hk=>hk.2) (.slice Ao135 t641.length co135)) (fun _ hk=>hk.2) (.slice Ao136 t644.length co136)) (fun _ hk=>⟨hk.1.1.1,⟨hk.1.1.2,hk.1.2⟩⟩)⟩
   have n5_ : Aside0 (Kd.V (Kd.int .u32) 123 (((w131.setCell ⟨gb648,0,none⟩ (.bool t640)).setCell ⟨gb648,1,none⟩ (.slice Ao135 t641.length co135)).setCell ⟨gb648,2,none⟩ (.slice Ao136 t644.length co136)) w.heap.size (fun k_=>k_ ≠ gb588 ∧ k_ ≠ gb596 ∧ k_ ≠ gb648) (.slice Ao136 t644.length co136) t644):=⟨by (with_reducible repeat (first | apply va_ | apply vn_ | apply vd_)); exact Kd.V_mono (Kd.V_far (p:=⟨gb648,2,none⟩) (Kd.V_far (p:=⟨gb648,1,none⟩) (Kd.V_far (p:=⟨gb648,0,none⟩) (Kd.V_mono HO646.out (fun k_ hk=>(⟨hk,hk.2⟩ : _ ∧ k_ ≠ gb648))) (fun _ hk=>hk.2) (.bool t640)) (fun _ hk=>hk.2) (.slice Ao135 t641.length co135)) (fun _ hk=>hk.2) (.slice Ao136 t644.length co136)) (fun _ hk=>⟨hk.1.1.1,⟨hk.1.1.2,hk.1.2⟩⟩)⟩
   have n6_ : Aside0 ((((w131.setCell ⟨gb648,0,none⟩ (.bool t640)).setCell ⟨gb648,1,none⟩ (.slice Ao135 t641.length co135)).setCell ⟨gb648,2,none⟩ (.slice Ao136 t644.length co136)).heap[gb588]? = some (.cells #[.bool t580,.slice Ao14 t581.length co14,.slice Ao15 t584.length co15] 50 (0,0))):=⟨by (with_reducible repeat (first | apply kn_ | apply kd_ | apply ka_)); refine blk_far ?_ NB588_648.out _; (with_reducible repeat (first | apply kn_ | apply kd_ | apply ka_)); refine blk_far ?_ NB588_648.out _; (with_reducible repeat (first | apply kn_ | apply kd_ | apply ka_)); refine blk_far ?_ NB588_648.out _; (with_reducible repeat (first | apply kn_ | apply kd_ | apply ka_)); exact BK588.out⟩
   have n7_ : Aside0 ((((w131.setCell ⟨gb648,0,none⟩ (.bool t640)).setCell ⟨gb648,1,none⟩ (.slice Ao135 t641.length co135)).setCell ⟨gb648,2,none⟩ (.slice Ao136 t644.length co136)).heap[gb596]? = some (.cells #[.bool t589,.slice Ao20 t590.length co20,.slice Ao21 t593.length co21] 50 (0,0))):=⟨by (with_reducible repeat (first | apply kn_ | apply kd_ | apply ka_)); refine blk_far ?_ NB596_648.out _; (with_reducible repeat (first | apply kn_ | apply kd_ | apply ka_)); refine blk_far ?_ NB596_648.out _; (with_reducible repeat (first | apply kn_ | apply kd_ | apply ka_)); refine blk_far ?_ NB596_648.out _; (with_reducible repeat (first | apply kn_ | apply kd_ | apply ka_)); exact BK596.out⟩
   have n8_ : Aside0 ((((w131.setCell ⟨gb648,0,none⟩ (.bool t640)).setCell ⟨gb648,1,none⟩ (.slice Ao135 t641.length co135)).setCell ⟨gb648,2,none⟩ (.slice Ao136 t644.length co136)).heap[gb648]? = some (.cells #[.bool t640,.slice Ao135 t641.length co135,.slice Ao136 t644.length co136] 50 (0,0))):=⟨by (with_reducible repeat (first | apply kn_ | apply kd_ | apply ka_)); refine blk_put (cs:=#[.bool t640,.slice Ao135 t641.length co135,.slice none 0 0]) ?_ 2 _ rfl; (with_reducible repeat (first | apply kn_ | apply kd_ | apply ka_)); refine blk_put (cs:=#[.bool t640,.slice none 0 0,.slice none 0 0]) ?_ 1 _ rfl; (with_reducible repeat (first | apply kn_ | apply kd_ | apply ka_)); refine blk_put (cs:=#[.bool false,.slice none 0 0,.slice none 0 0]) ?_ 0 _ rfl; (with_reducible repeat (first | apply kn_ | apply kd_ | apply ka_)); exact BK648.out⟩
   have n9_ : Aside0 (Below w.heap.size w (((w131.setCell ⟨gb648,0,none⟩ (.bool t640)).setCell ⟨gb648,1,none⟩ (.slice Ao135 t641.length co135)).setCell ⟨gb648,2,none⟩ (.slice Ao136 t644.length co136))):=⟨bh_⟩
   (try clear HO_589001)
   (try clear HO_589002)
   (try clear HO_597001)
   (try clear HO_597002)
   (try clear HO643)
   (try clear HO646)
   (try clear BK588)
   (try clear BK596)
   (try clear BK648)
   (try clear HB)
   generalize (((w131.setCell ⟨gb648,0,none⟩ (.bool t640)).setCell ⟨gb648,1,none⟩ (.slice Ao135 t641.length co135)).setCell ⟨gb648,2,none⟩ (.slice Ao136 t644.length co136)) = w137 at n0_ n1_ n2_ n3_ n4_ n5_ n6_ n7_ n8_ n9_ ⊢
   have HO_589001:=n0_
   have HO_589002:=n1_
   have HO_597001:=n2_
   have HO_597002:=n3_
   have HO643:=n4_
   have HO646:=n5_
   have BK588:=n6_
   have BK596:=n7_
   have BK648:=n8_
   have HB:=n9_
   clear n0_ n1_ n2_ n3_ n4_ n5_ n6_ n7_ n8_ n9_
   have n0_:=Aside0.mk (Kd.V_drew HO_589001.out)
   have n1_:=Aside0.mk (Kd.V_drew HO_589002.out)
   have n2_:=Aside0.mk (Kd.V_drew HO_597001.out)
   have n3_:=Aside0.mk (Kd.V_drew HO_597002.out)
   have n4_:=Aside0.mk (Kd.V_drew HO643.out)
   have n5_:=Aside0.mk (Kd.V_drew HO646.out)
   have n6_:=Aside0.mk (blk_drew BK588.out)
   have n7_:=Aside0.mk (blk_drew BK596.out)
   have n8_:=Aside0.mk (blk_drew BK648.out)
   have n9_:=Aside0.mk (below_drew1 HB.out)
   clear HO_589001
   clear HO_589002
   clear HO_597001
   clear HO_597002
   clear HO643
   clear HO646
   clear BK588
   clear BK596
   clear BK648
   clear HB
   have HO_589001:=n0_
   have HO_589002:=n1_
   have HO_597001:=n2_
   have HO_597002:=n3_
   have HO643:=n4_
   have HO646:=n5_
   have BK588:=n6_
   have BK596:=n7_
   have BK648:=n8_
   have HB:=n9_
   clear n0_ n1_ n2_ n3_ n4_ n5_ n6_ n7_ n8_ n9_
   refine start_ (n:=20) (S:=fun w'=>w'.cell? ⟨gb648,0,none⟩ = some (.bool t640) ∧ w'.cell? ⟨gb648,1,none⟩ = some (.slice Ao135 t641.length co135) ∧ w'.cell? ⟨gb648,2,none⟩ = some (.slice Ao136 t644.length co136) ∧ w'.cell? ⟨gb588,0,none⟩ = some (.bool t580) ∧ w'.cell? ⟨gb588,1,none⟩ = some (.slice Ao14 t581.length co14) ∧ w'.cell? ⟨gb588,2,none⟩ = some (.slice Ao15 t584.length co15) ∧ w'.cell? ⟨gb596,0,none⟩ = some (.bool t589) ∧ w'.cell? ⟨gb596,1,none⟩ = some (.slice Ao20 t590.length co20) ∧ w'.cell? ⟨gb596,2,none⟩ = some (.slice Ao21 t593.length co21)) (ds:=[]) #[false,false,false,false,false,false,false,false,false,false,false,false,false,false,false,false,false,false,false,false] (by kernel_rfl) rfl rfl ⟨bc_ BK648 0,bc_ BK648 1,bc_ BK648 2,bc_ BK588 0,bc_ BK588 1,bc_ BK588 2,bc_ BK596 0,bc_ BK596 1,bc_ BK596 2⟩ (fun hHeld=>?_); refine with_tabW flyballlaw07_ConvNear.tab15 flyballlaw07_ConvNear.bits15 (fun HT_ HW_=>?_)
   generalize w137.drew = w138 at HO_589001 HO_589002 HO_597001 HO_597002 HO643 HO646 BK588 BK596 BK648 HB hHeld ⊢
   refine pure_ (i:=0) (N:=some 73) (v:=?_) (a':=?_) #[true,false,false,false,false,false,false,false,false,false,false,false,false,false,false,false,false,false,false,false] rfl rfl (any_of HT_.out (by kernel_rfl)) (fun _ _ _ h=>h) (Or.inl ⟨by rfl,?_⟩) ?_ ?_
   rotate_left
   ·
    intro w'
    go_simp
    with_reducible rfl
   rotate_left
   ·
    simp only [Act.put,p1_,p2_,p3_,i64_w,i32_w]
    rfl
   refine pure_ (i:=1) (N:=some 74) (v:=?_) (a':=?_) #[true,true,false,false,false,false,false,false,false,false,false,false,false,false,false,false,false,false,false,false] rfl rfl (any_of HT_.out (by kernel_rfl)) (fun _ _ _ h=>h) (Or.inl ⟨by rfl,?_⟩) ?_ ?_
   rotate_left
   ·
    intro w'
    go_simp
    with_reducible rfl
   rotate_left
   ·
    simp only [Act.put,p1_,p2_,p3_,i64_w,i32_w]
    rfl
   refine pure_ (i:=2) (N:=some 75) (v:=?_) (a':=?_) #[true,true,true,false,false,false,false,false,false,false,false,false,false,false,false,false,false,false,false,false] rfl rfl (any_of HT_.out (by kernel_rfl)) (fun _ _ _ h=>h) (Or.inl ⟨by rfl,?_⟩) ?_ ?_
   rotate_left
   ·
    intro w'
    go_simp
    with_reducible rfl
   rotate_left
   ·
    simp only [Act.put,p1_,p2_,p3_,i64_w,i32_w]
    rfl
   refine take_ (i:=3) (N:=some 76) (v:=?_) (a':=?_) #[true,true,true,true,false,false,false,false,false,false,false,false,false,false,false,false,false,false,false,false] rfl rfl (take_ofW HT_.out HW_.out (by kernel_rfl)) (fun _ _ _ h=>h) (Or.inl ⟨by rfl,?_⟩) hHeld ?_ ?_
   rotate_left
   ·
    rintro w' ⟨s0,s1,s2,s3,s4,s5,s6,s7,s8⟩
    go_simp
    with_reducible rfl
   rotate_left
   ·
    simp only [Act.put,p1_,p2_,p3_,i64_w,i32_w]
    rfl
   refine take_ (i:=4) (N:=some 77) (v:=?_) (a':=?_) #[true,true,true,true,true,false,false,false,false,false,false,false,false,false,false,false,false,false,false,false] rfl rfl (take_ofW HT_.out HW_.out (by kernel_rfl)) (fun _ _ _ h=>h) (Or.inl ⟨by rfl,?_⟩) hHeld ?_ ?_
   rotate_left
   ·
    rintro w' ⟨s0,s1,s2,s3,s4,s5,s6,s7,s8⟩
    go_simp
    with_reducible rfl
   rotate_left
   ·
    simp only [Act.put,p1_,p2_,p3_,i64_w,i32_w]
    rfl
   refine take_ (i:=7) (N:=some 80) (v:=?_) (a':=?_) #[true,true,true,true,true,false,false,true,false,false,false,false,false,false,false,false,false,false,false,false] rfl rfl (take_ofW HT_.out HW_.out (by kernel_rfl)) (fun _ _ _ h=>h) (Or.inl ⟨by rfl,?_⟩) hHeld ?_ ?_
   rotate_left
   ·
    rintro w' ⟨s0,s1,s2,s3,s4,s5,s6,s7,s8⟩
    go_simp
    with_reducible rfl
   rotate_left
   ·
    simp only [Act.put,p1_,p2_,p3_,i64_w,i32_w]
    rfl
   refine one_ (i:=5) (N:=some 78) #[true,true,true,true,true,true,false,true,false,false,false,false,false,false,false,false,false,false,false,false] rfl rfl (one_of HT_.out (by kernel_rfl)) (by decide) (fun K hK=>?_)
   refine goesN_ Try.func42 (by kernel_rfl) rfl [.agg #[.bool t640,.slice Ao135 t641.length co135,.slice Ao136 t644.length co136],.agg #[.bool t580,.slice Ao14 t581.length co14,.slice Ao15 t584.length co15]] (by rfl) rfl rfl (by rfl) ?_
   with_reducible refine (ratio_R_Sub.calls kj8 t640 (fun k_=>(k_ ≠ gb588 ∧ (k_ ≠ gb596 ∧ k_ ≠ gb648))) _ _ t641 (fun k_=>(k_ ≠ gb588 ∧ (k_ ≠ gb596 ∧ k_ ≠ gb648))) _ _ t644 t580 (fun k_=>(k_ ≠ gb588 ∧ (k_ ≠ gb596 ∧ k_ ≠ gb648))) _ _ t581 (fun k_=>(k_ ≠ gb588 ∧ (k_ ≠ gb596 ∧ k_ ≠ gb648))) _ _ t584 t649 t650 t653 _ ?side1 ?side2 ?side3 ?side4 A125.out).mono ?_
   (case side1=>exact HO643.out)
   (case side2=>exact HO646.out)
   (case side3=>exact HO_589001.out)
   (case side4=>exact HO_589002.out)
   rintro e w139 ⟨v651,v654,rfl,ho0,ho1,hb⟩
   refine ⟨_,rfl,?_⟩
   have n0_:=vb_ HO_589001 hb
   have n1_:=vb_ HO_589002 hb
   have n2_:=vb_ HO_597001 hb
   have n3_:=vb_ HO_597002 hb
   have n4_:=vb_ HO643 hb
   have n5_:=vb_ HO646 hb
   have n6_:=Aside0.mk (Kd.V_lower (Kd.V_mono (ok':=fun k_=>k_ ≠ gb588 ∧ k_ ≠ gb596 ∧ k_ ≠ gb648) ho0 (fun k_ hk_=>⟨Or.elim hk_ (fun hs_=>Or.elim hs_ (fun hs_=>hs_.1) (fun hs_=>Or.elim hs_ (fun hs_=>hs_.1) (fun hs_=>Or.elim hs_ (fun hs_=>hs_.1) (fun hs_=>hs_.1)))) (fun hn_=>(fb_ BK588 k_ hn_)),Or.elim hk_ (fun hs_=>Or.elim hs_ (fun hs_=>hs_.2.1) (fun hs_=>Or.elim hs_ (fun hs_=>hs_.2.1) (fun hs_=>Or.elim hs_ (fun hs_=>hs_.2.1) (fun hs_=>hs_.2.1)))) (fun hn_=>(fb_ BK596 k_ hn_)),Or.elim hk_ (fun hs_=>Or.elim hs_ (fun hs_=>hs_.2.2) (fun hs_=>Or.elim hs_ (fun hs_=>hs_.2.2) (fun hs_=>Or.elim hs_ (fun hs_=>hs_.2.2) (fun hs_=>hs_.2.2)))) (fun hn_=>(fb_ BK648 k_ hn_))⟩)) (below_size bh_))
   have n7_:=Aside0.mk (Kd.V_lower (Kd.V_mono (ok':=fun k_=>k_ ≠ gb588 ∧ k_ ≠ gb596 ∧ k_ ≠ gb648) ho1 (fun k_ hk_=>⟨Or.elim hk_ (fun hs_=>Or.elim hs_ (fun hs_=>hs_.1) (fun hs_=>Or.elim hs_ (fun hs_=>hs_.1) (fun hs_=>Or.elim hs_ (fun hs_=>hs_.1) (fun hs_=>hs_.1)))) (fun hn_=>(fb_ BK588 k_ hn_)),Or.elim hk_ (fun hs_=>Or.elim hs_ (fun hs_=>hs_.2.1) (fun hs_=>Or.elim hs_ (fun hs_=>hs_.2.1) (fun hs_=>Or.elim hs_ (fun hs_=>hs_.2.1) (fun hs_=>hs_.2.1)))) (fun hn_=>(fb_ BK596 k_ hn_)),Or.elim hk_ (fun hs_=>Or.elim hs_ (fun hs_=>hs_.2.2) (fun hs_=>Or.elim hs_ (fun hs_=>hs_.2.2) (fun hs_=>Or.elim hs_ (fun hs_=>hs_.2.2) (fun hs_=>hs_.2.2)))) (fun hn_=>(fb_ BK648 k_ hn_))⟩)) (below_size bh_))
   have n8_:=kb_ BK588 hb
   have n9_:=kb_ BK596 hb
   have n10_:=kb_ BK648 hb
   have n11_:=bq_ hb
   clear HO_589001
   clear HO_589002
   clear HO_597001
   clear HO_597002
   clear HO643
   clear HO646
   clear BK588
   clear BK596
   clear BK648
   clear HB
   have HO_589001:=n0_
   have HO_589002:=n1_
   have HO_597001:=n2_
   have HO_597002:=n3_
   have HO643:=n4_
   have HO646:=n5_
   have HO652:=n6_
   have HO655:=n7_
   have BK588:=n8_
   have BK596:=n9_
   have BK648:=n10_
   have HB:=n11_
   clear n0_ n1_ n2_ n3_ n4_ n5_ n6_ n7_ n8_ n9_ n10_ n11_
   (try clear hb)
   (try clear hb2)
   (try clear hk)
   (try clear hi)
   (try clear ho0)
   (try clear ho1)
   obtain ⟨Ao140,co140,eo140⟩:=Kd.V_slice HO652.out
   (first | subst eo140 | (injection eo140 with f1_ f2_ f3_; have f4_:=f1_.symm; have f5_:=f3_.symm; clear f1_ f2_ f3_; subst f4_; subst f5_))
   obtain ⟨Ao141,co141,eo141⟩:=Kd.V_slice HO655.out
   (first | subst eo141 | (injection eo141 with f1_ f2_ f3_; have f4_:=f1_.symm; have f5_:=f3_.symm; clear f1_ f2_ f3_; subst f4_; subst f5_))
   refine hK.out _ _ ⟨bc_ BK648 0,bc_ BK648 1,bc_ BK648 2,bc_ BK588 0,bc_ BK588 1,bc_ BK588 2,bc_ BK596 0,bc_ BK596 1,bc_ BK596 2⟩ (fun hHeld=>?_)
   clear hK K
   refine norm_ (a':=?_) ?_ ?_
   rotate_left
   ·
    show Act.put _ (some 78) _ = _
    simp only [Act.put,p1_,p2_,p3_,i64_w,i32_w]
    rfl
   refine one_ (i:=6) (N:=some 79) #[true,true,true,true,true,true,true,true,false,false,false,false,false,false,false,false,false,false,false,false] rfl rfl (one_of HT_.out (by kernel_rfl)) (by decide) (fun K hK=>?_)
   refine goesN_ Try.func43 (by kernel_rfl) rfl [.agg #[.bool t649,.slice Ao140 t650.length co140,.slice Ao141 t653.length co141]] (by rfl) rfl rfl (by rfl) ?_
   with_reducible refine (ratio_R_Abs.calls kj8 t649 (fun k_=>(k_ ≠ gb588 ∧ (k_ ≠ gb596 ∧ k_ ≠ gb648))) _ _ t650 (fun k_=>(k_ ≠ gb588 ∧ (k_ ≠ gb596 ∧ k_ ≠ gb648))) _ _ t653 t656 t657 t660 _ ?side1 ?side2 A126.out).mono ?_
   (case side1=>exact HO652.out)
   (case side2=>exact HO655.out)
   rintro e w142 ⟨v658,v661,rfl,ho0,ho1,hb⟩
   refine ⟨_,rfl,?_⟩
   have n0_:=vb_ HO_589001 hb
   have n1_:=vb_ HO_589002 hb
   have n2_:=vb_ HO_597001 hb
   have n3_:=vb_ HO_597002 hb
   have n4_:=vb_ HO643 hb
   have n5_:=vb_ HO646 hb
   have n6_:=vb_ HO652 hb
   have n7_:=vb_ HO655 hb
   have n8_:=Aside0.mk (Kd.V_lower (Kd.V_mono (ok':=fun k_=>k_ ≠ gb588 ∧ k_ ≠ gb596 ∧ k_ ≠ gb648) ho0 (fun k_ hk_=>⟨Or.elim hk_ (fun hs_=>Or.elim hs_ (fun hs_=>hs_.1) (fun hs_=>hs_.1)) (fun hn_=>(fb_ BK588 k_ hn_)),Or.elim hk_ (fun hs_=>Or.elim hs_ (fun hs_=>hs_.2.1) (fun hs_=>hs_.2.1)) (fun hn_=>(fb_ BK596 k_ hn_)),Or.elim hk_ (fun hs_=>Or.elim hs_ (fun hs_=>hs_.2.2) (fun hs_=>hs_.2.2)) (fun hn_=>(fb_ BK648 k_ hn_))⟩)) (below_size bh_))
   have n9_:=Aside0.mk (Kd.V_lower (Kd.V_mono (ok':=fun k_=>k_ ≠ gb588 ∧ k_ ≠ gb596 ∧ k_ ≠ gb648) ho1 (fun k_ hk_=>⟨Or.elim hk_ (fun hs_=>Or.elim hs_ (fun hs_=>hs_.1) (fun hs_=>hs_.1)) (fun hn_=>(fb_ BK588 k_ hn_)),Or.elim hk_ (fun hs_=>Or.elim hs_ (fun hs_=>hs_.2.1) (fun hs_=>hs_.2.1)) (fun hn_=>(fb_ BK596 k_ hn_)),Or.elim hk_ (fun hs_=>Or.elim hs_ (fun hs_=>hs_.2.2) (fun hs_=>hs_.2.2)) (fun hn_=>(fb_ BK648 k_ hn_))⟩)) (below_size bh_))
   have n10_:=kb_ BK588 hb
   have n11_:=kb_ BK596 hb
   have n12_:=kb_ BK648 hb
   have n13_:=bq_ hb
   clear HO_589001
   clear HO_589002
   clear HO_597001
   clear HO_597002
   clear HO643
   clear HO646
   clear HO652
   clear HO655
   clear BK588
   clear BK596
   clear BK648
   clear HB
   have HO_589001:=n0_
   have HO_589002:=n1_
   have HO_597001:=n2_
   have HO_597002:=n3_
   have HO643:=n4_
   have HO646:=n5_
   have HO652:=n6_
   have HO655:=n7_
   have HO659:=n8_
   have HO662:=n9_
   have BK588:=n10_
   have BK596:=n11_
   have BK648:=n12_
   have HB:=n13_
   clear n0_ n1_ n2_ n3_ n4_ n5_ n6_ n7_ n8_ n9_ n10_ n11_ n12_ n13_
   (try clear hb)
   (try clear hb2)
   (try clear hk)
   (try clear hi)
   (try clear ho0)
   (try clear ho1)
   obtain ⟨Ao143,co143,eo143⟩:=Kd.V_slice HO659.out
   (first | subst eo143 | (injection eo143 with f1_ f2_ f3_; have f4_:=f1_.symm; have f5_:=f3_.symm; clear f1_ f2_ f3_; subst f4_; subst f5_))
   obtain ⟨Ao144,co144,eo144⟩:=Kd.V_slice HO662.out
   (first | subst eo144 | (injection eo144 with f1_ f2_ f3_; have f4_:=f1_.symm; have f5_:=f3_.symm; clear f1_ f2_ f3_; subst f4_; subst f5_))
   refine hK.out _ _ ⟨bc_ BK648 0,bc_ BK648 1,bc_ BK648 2,bc_ BK588 0,bc_ BK588 1,bc_ BK588 2,bc_ BK596 0,bc_ BK596 1,bc_ BK596 2⟩ (fun hHeld=>?_)
   clear hK K
   refine norm_ (a':=?_) ?_ ?_
   rotate_left
   ·
    show Act.put _ (some 79) _ = _
    simp only [Act.put,p1_,p2_,p3_,i64_w,i32_w]
    rfl
   refine one_ (i:=8) (N:=some 81) #[true,true,true,true,true,true,true,true,true,false,false,false,false,false,false,false,false,false,false,false] rfl rfl (one_of HT_.out (by kernel_rfl)) (by decide) (fun K hK=>?_)
   refine goesN_ Try.func36 (by kernel_rfl) rfl [.agg #[.bool t656,.slice Ao143 t657.length co143,.slice Ao144 t660.length co144],.agg #[.bool t589,.slice Ao20 t590.length co20,.slice Ao21 t593.length co21]] (by rfl) rfl rfl (by rfl) ?_
   with_reducible refine (ratio_R_Cmp.calls kj8 t656 _ _ t657 _ _ t660 t589 _ _ t590 _ _ t593 t663 _ ?side1 ?side2 ?side3 ?side4 ?side5 ?side6 ?side7 ?side8 A127.out).mono ?_
   (case side1=>repeat first | exact (Kd.V_reads' HO659.out).2.2 | with_reducible first | apply ca_ | apply cn_ | apply cd_)
   (case side2=>exact (Kd.V_reads' HO659.out).2.1)
   (case side3=>repeat first | exact (Kd.V_reads' HO662.out).2.2 | with_reducible first | apply ca_ | apply cn_ | apply cd_)
   (case side4=>exact (Kd.V_reads' HO662.out).2.1)
   (case side5=>repeat first | exact (Kd.V_reads' HO_597001.out).2.2 | with_reducible first | apply ca_ | apply cn_ | apply cd_)
   (case side6=>exact (Kd.V_reads' HO_597001.out).2.1)
   (case side7=>repeat first | exact (Kd.V_reads' HO_597002.out).2.2 | with_reducible first | apply ca_ | apply cn_ | apply cd_)
   (case side8=>exact (Kd.V_reads' HO_597002.out).2.1)
   rintro e w145 ⟨rfl,hb⟩
   refine ⟨_,rfl,?_⟩
   have n0_:=vb_ HO_589001 hb
   have n1_:=vb_ HO_589002 hb
   have n2_:=vb_ HO_597001 hb
   have n3_:=vb_ HO_597002 hb
   have n4_:=vb_ HO643 hb
   have n5_:=vb_ HO646 hb
   have n6_:=vb_ HO652 hb
   have n7_:=vb_ HO655 hb
   have n8_:=vb_ HO659 hb
   have n9_:=vb_ HO662 hb
   have n10_:=kb_ BK588 hb
   have n11_:=kb_ BK596 hb
   have n12_:=kb_ BK648 hb
   have n13_:=bq_ hb
   clear HO_589001
   clear HO_589002
   clear HO_597001
   clear HO_597002
   clear HO643
   clear HO646
   clear HO652
   clear HO655
   clear HO659
   clear HO662
   clear BK588
   clear BK596
   clear BK648
   clear HB
   have HO_589001:=n0_
   have HO_589002:=n1_
   have HO_597001:=n2_
   have HO_597002:=n3_
   have HO643:=n4_
   have HO646:=n5_
   have HO652:=n6_
   have HO655:=n7_
   have HO659:=n8_
   have HO662:=n9_
   have BK588:=n10_
   have BK596:=n11_
   have BK648:=n12_
   have HB:=n13_
   clear n0_ n1_ n2_ n3_ n4_ n5_ n6_ n7_ n8_ n9_ n10_ n11_ n12_ n13_
   (try clear hb)
   (try clear hb2)
   (try clear hk)
   (try clear hi)
   refine hK.out _ _ ⟨bc_ BK648 0,bc_ BK648 1,bc_ BK648 2,bc_ BK588 0,bc_ BK588 1,bc_ BK588 2,bc_ BK596 0,bc_ BK596 1,bc_ BK596 2⟩ (fun hHeld=>?_)
   clear hK K
   refine norm_ (a':=?_) ?_ ?_
   rotate_left
   ·
    show Act.put _ (some 81) _ = _
    simp only [Act.put,p1_,p2_,p3_,i64_w,i32_w]
    rfl
   refine pure_ (i:=9) (N:=some 82) (v:=?_) (a':=?_) #[true,true,true,true,true,true,true,true,true,true,false,false,false,false,false,false,false,false,false,false] rfl rfl (any_of HT_.out (by kernel_rfl)) (fun _ _ _ h=>h) (Or.inl ⟨by rfl,?_⟩) ?_ ?_
   rotate_left
   ·
    intro w'
    go_simp
    with_reducible rfl
   rotate_left
   ·
    simp only [Act.put,p1_,p2_,p3_,i64_w,i32_w]
    rfl
   refine pure_ (i:=10) (N:=some 83) (v:=?_) (a':=?_) #[true,true,true,true,true,true,true,true,true,true,true,false,false,false,false,false,false,false,false,false] rfl rfl (any_of HT_.out (by kernel_rfl)) (fun _ _ _ h=>h) (Or.inl ⟨by rfl,?_⟩) ?_ ?_
   rotate_left
   ·
    intro w'
    go_simp
    with_reducible rfl
   rotate_left
   ·
    simp only [Act.put,p1_,p2_,p3_,i64_w,i32_w]
    rfl
   refine pure_ (i:=11) (N:=some 84) (v:=?_) (a':=?_) #[true,true,true,true,true,true,true,true,true,true,true,true,false,false,false,false,false,false,false,false] rfl rfl (any_of HT_.out (by kernel_rfl)) (fun _ _ _ h=>h) (Or.inl ⟨by rfl,?_⟩) ?_ ?_
   rotate_left
   ·
    intro w'
    go_simp
    with_reducible rfl
   rotate_left
   ·
    simp only [Act.put,p1_,p2_,p3_,i64_w,i32_w]
    rfl
   have H:=HH2_.out
   clear HH2_
   by_cases c128 : t663 ≥ 0
   case pos =>
    rw [if_pos c128] at H
    have c128b0 : decide (0 ≤ t663) = true:=decide_eq_true c128
    clear c128
    obtain rfl:=Option.some.inj H
    (try simp only [c128b0])
    refine pure_ (i:=12) (N:=some 85) (v:=undef) (a':=?_) #[true,true,true,true,true,true,true,true,true,true,true,true,true,false,false,false,false,false,false,false] rfl rfl (any_of HT_.out (by kernel_rfl)) (fun _ _ _ h=>h) (Or.inr ⟨by rfl,rfl⟩) ?_ ?_
    rotate_left
    ·
     simp only [Act.put,p1_,p2_,p3_,i64_w,i32_w]
     rfl
    refine pure_ (i:=13) (N:=some 86) (v:=undef) (a':=?_) #[true,true,true,true,true,true,true,true,true,true,true,true,true,true,false,false,false,false,false,false] rfl rfl (any_of HT_.out (by kernel_rfl)) (fun _ _ _ h=>h) (Or.inr ⟨by rfl,rfl⟩) ?_ ?_
    rotate_left
    ·
     simp only [Act.put,p1_,p2_,p3_,i64_w,i32_w]
     rfl
    refine pure_ (i:=14) (N:=some 87) (v:=undef) (a':=?_) #[true,true,true,true,true,true,true,true,true,true,true,true,true,true,true,false,false,false,false,false] rfl rfl (any_of HT_.out (by kernel_rfl)) (fun _ _ _ h=>h) (Or.inr ⟨by rfl,rfl⟩) ?_ ?_
    rotate_left
    ·
     simp only [Act.put,p1_,p2_,p3_,i64_w,i32_w]
     rfl
    refine pure_ (i:=15) (N:=some 88) (v:=undef) (a':=?_) #[true,true,true,true,true,true,true,true,true,true,true,true,true,true,true,true,false,false,false,false] rfl rfl (any_of HT_.out (by kernel_rfl)) (fun _ _ _ h=>h) (Or.inr ⟨by rfl,rfl⟩) ?_ ?_
    rotate_left
    ·
     simp only [Act.put,p1_,p2_,p3_,i64_w,i32_w]
     rfl
    refine pure_ (i:=16) (N:=some 89) (v:=undef) (a':=?_) #[true,true,true,true,true,true,true,true,true,true,true,true,true,true,true,true,true,false,false,false] rfl rfl (any_of HT_.out (by kernel_rfl)) (fun _ _ _ h=>h) (Or.inr ⟨by rfl,rfl⟩) ?_ ?_
    rotate_left
    ·
     simp only [Act.put,p1_,p2_,p3_,i64_w,i32_w]
     rfl
    refine pure_ (i:=17) (N:=some 90) (v:=undef) (a':=?_) #[true,true,true,true,true,true,true,true,true,true,true,true,true,true,true,true,true,true,false,false] rfl rfl (any_of HT_.out (by kernel_rfl)) (fun _ _ _ h=>h) (Or.inr ⟨by rfl,rfl⟩) ?_ ?_
    rotate_left
    ·
     simp only [Act.put,p1_,p2_,p3_,i64_w,i32_w]
     rfl
    refine pure_ (i:=18) (N:=some 91) (v:=undef) (a':=?_) #[true,true,true,true,true,true,true,true,true,true,true,true,true,true,true,true,true,true,true,false] rfl rfl (any_of HT_.out (by kernel_rfl)) (fun _ _ _ h=>h) (Or.inr ⟨by rfl,rfl⟩) ?_ ?_
    rotate_left
    ·
     simp only [Act.put,p1_,p2_,p3_,i64_w,i32_w]
     rfl
    refine pure_ (i:=19) (N:=some 92) (v:=?_) (a':=?_) #[true,true,true,true,true,true,true,true,true,true,true,true,true,true,true,true,true,true,true,true] rfl rfl (any_of HT_.out (by kernel_rfl)) (fun _ _ _ h=>h) (Or.inl ⟨by rfl,?_⟩) ?_ ?_
    rotate_left
    ·
     intro w'
     go_simp
     with_reducible rfl
    rotate_left
    ·
     simp only [Act.put,p1_,p2_,p3_,i64_w,i32_w]
     rfl
    refine done_ (done_of HT_.out (by kernel_rfl)) ?_
    try go_wp2
    go_ret
    exact ⟨eh_,bh_⟩
   rw [if_neg c128] at H
   have c128b0 : decide (0 ≤ t663) = false:=decide_eq_false c128
   clear c128
   replace H:=Option.bind_eq_some_iff.mp H
   obtain ⟨t664,A1460,H⟩:=H
   replace H : (if ((t639 == 1) != (t664 != 0)) = true then (some false) else ((ratio_R_Cmp.f kj8 t640 t641 t644 t580 t581 t584).bind fun t665=>(if true = true then (if a1 = 1 then (if t665 ≥ 0 then (if a1 = 2 then (some (decide (t665 ≤ 0))) else (some true)) else (some false)) else (if a1 = 2 then (some (decide (t665 ≤ 0))) else (some true))) else (some false)))) = some r:=H
   have A146:=Aside0.mk A1460
   clear A1460
   by_cases c147 : ((t639 == 1) != (t664 != 0)) = true
   case pos =>
    rw [if_pos c147] at H
    have c147b0 : ((t639 == 1) != (t664 != 0)) = true:=c147
    (try (have c147b1 : decide ((t639 == 1) = (t664 != 0)) = false:=by simpa using c147))
    (try (have c147b2 : ((t639 == 1) == (t664 != 0)) = false:=by simpa using c147))
    (try (have c147b3 : ¬ ((t639 == 1) = (t664 != 0)):=by simpa using c147))
    clear c147
    obtain rfl:=Option.some.inj H
    (try simp only [c128b0,c147b0])
    refine pure_ (i:=12) (N:=some 85) (v:=?_) (a':=?_) #[true,true,true,true,true,true,true,true,true,true,true,true,true,false,false,false,false,false,false,false] rfl rfl (any_of HT_.out (by kernel_rfl)) (fun _ _ _ h=>h) (Or.inl ⟨by rfl,?_⟩) ?_ ?_
    rotate_left
    ·
     intro w'
     go_simp
     with_reducible rfl
    rotate_left
    ·
     simp only [Act.put,p1_,p2_,p3_,i64_w,i32_w]
     rfl
    refine pure_ (i:=13) (N:=some 86) (v:=?_) (a':=?_) #[true,true,true,true,true,true,true,true,true,true,true,true,true,true,false,false,false,false,false,false] rfl rfl (any_of HT_.out (by kernel_rfl)) (fun _ _ _ h=>h) (Or.inl ⟨by rfl,?_⟩) ?_ ?_
    rotate_left
    ·
     intro w'
     go_simp
     with_reducible rfl
    rotate_left
    ·
     simp only [Act.put,p1_,p2_,p3_,i64_w,i32_w]
     rfl
    refine take_ (i:=14) (N:=some 87) (v:=?_) (a':=?_) #[true,true,true,true,true,true,true,true,true,true,true,true,true,true,true,false,false,false,false,false] rfl rfl (take_ofW HT_.out HW_.out (by kernel_rfl)) (fun _ _ _ h=>h) (Or.inl ⟨by rfl,?_⟩) hHeld ?_ ?_
    rotate_left
    ·
     rintro w' ⟨s0,s1,s2,s3,s4,s5,s6,s7,s8⟩
     go_simp
     with_reducible rfl
    rotate_left
    ·
     simp only [Act.put,p1_,p2_,p3_,i64_w,i32_w]
     rfl
    refine take_ (i:=15) (N:=some 88) (v:=?_) (a':=?_) #[true,true,true,true,true,true,true,true,true,true,true,true,true,true,true,true,false,false,false,false] rfl rfl (take_ofW HT_.out HW_.out (by kernel_rfl)) (fun _ _ _ h=>h) (Or.inl ⟨by rfl,?_⟩) hHeld ?_ ?_
    rotate_left
    ·
     rintro w' ⟨s0,s1,s2,s3,s4,s5,s6,s7,s8⟩
     go_simp
     with_reducible rfl
    rotate_left
    ·
     simp only [Act.put,p1_,p2_,p3_,i64_w,i32_w]
     rfl
    refine one_ (i:=16) (N:=some 89) #[true,true,true,true,true,true,true,true,true,true,true,true,true,true,true,true,true,false,false,false] rfl rfl (one_of HT_.out (by kernel_rfl)) (by decide) (fun K hK=>?_)
    refine goesN_ Try.func36 (by kernel_rfl) rfl [.agg #[.bool t640,.slice Ao135 t641.length co135,.slice Ao136 t644.length co136],.agg #[.bool t580,.slice Ao14 t581.length co14,.slice Ao15 t584.length co15]] (by rfl) rfl rfl (by rfl) ?_
    with_reducible refine (ratio_R_Cmp.calls kj8 t640 _ _ t641 _ _ t644 t580 _ _ t581 _ _ t584 t664 _ ?side1 ?side2 ?side3 ?side4 ?side5 ?side6 ?side7 ?side8 A146.out).mono ?_
    (case side1=>repeat first | exact (Kd.V_reads' HO643.out).2.2 | with_reducible first | apply ca_ | apply cn_ | apply cd_)
    (case side2=>exact (Kd.V_reads' HO643.out).2.1)
    (case side3=>repeat first | exact (Kd.V_reads' HO646.out).2.2 | with_reducible first | apply ca_ | apply cn_ | apply cd_)
    (case side4=>exact (Kd.V_reads' HO646.out).2.1)
    (case side5=>repeat first | exact (Kd.V_reads' HO_589001.out).2.2 | with_reducible first | apply ca_ | apply cn_ | apply cd_)
    (case side6=>exact (Kd.V_reads' HO_589001.out).2.1)
    (case side7=>repeat first | exact (Kd.V_reads' HO_589002.out).2.2 | with_reducible first | apply ca_ | apply cn_ | apply cd_)
    (case side8=>exact (Kd.V_reads' HO_589002.out).2.1)
    rintro e w165 ⟨rfl,hb⟩
    refine ⟨_,rfl,?_⟩
    have n10_:=kb_ BK588 hb
    have n11_:=kb_ BK596 hb
    have n12_:=kb_ BK648 hb
    have n13_:=bq_ hb
    (try clear BK588)
    (try clear BK596)
    (try clear BK648)
    (try clear HB)
    have BK588:=n10_
    have BK596:=n11_
    have BK648:=n12_
    have HB:=n13_
    clear n10_ n11_ n12_ n13_
    (try clear hb)
    (try clear hb2)
    (try clear hk)
    (try clear hi)
    refine hK.out _ _ ⟨bc_ BK648 0,bc_ BK648 1,bc_ BK648 2,bc_ BK588 0,bc_ BK588 1,bc_ BK588 2,bc_ BK596 0,bc_ BK596 1,bc_ BK596 2⟩ (fun hHeld=>?_)
    clear hK K
    refine norm_ (a':=?_) ?_ ?_
    rotate_left
    ·
     show Act.put _ (some 89) _ = _
     simp only [Act.put,p1_,p2_,p3_,i64_w,i32_w]
     rfl
    refine pure_ (i:=17) (N:=some 90) (v:=?_) (a':=?_) #[true,true,true,true,true,true,true,true,true,true,true,true,true,true,true,true,true,true,false,false] rfl rfl (any_of HT_.out (by kernel_rfl)) (fun _ _ _ h=>h) (Or.inl ⟨by rfl,?_⟩) ?_ ?_
    rotate_left
    ·
     intro w'
     go_simp
     with_reducible rfl
    rotate_left
    ·
     simp only [Act.put,p1_,p2_,p3_,i64_w,i32_w]
     rfl
    refine pure_ (i:=18) (N:=some 91) (v:=?_) (a':=?_) #[true,true,true,true,true,true,true,true,true,true,true,true,true,true,true,true,true,true,true,false] rfl rfl (any_of HT_.out (by kernel_rfl)) (fun _ _ _ h=>h) (Or.inl ⟨by rfl,?_⟩) ?_ ?_
    rotate_left
    ·
     intro w'
     go_simp
     with_reducible rfl
    rotate_left
    ·
     simp only [Act.put,p1_,p2_,p3_,i64_w,i32_w]
     rfl
    refine pure_ (i:=19) (N:=some 92) (v:=?_) (a':=?_) #[true,true,true,true,true,true,true,true,true,true,true,true,true,true,true,true,true,true,true,true] rfl rfl (any_of HT_.out (by kernel_rfl)) (fun _ _ _ h=>h) (Or.inl ⟨by rfl,?_⟩) ?_ ?_
    rotate_left
    ·
     intro w'
     go_simp
     with_reducible rfl
    rotate_left
    ·
     simp only [Act.put,p1_,p2_,p3_,i64_w,i32_w]
     rfl
    refine done_ (done_of HT_.out (by kernel_rfl)) ?_
    try go_wp2
    go_ret
    exact ⟨eh_,bh_⟩
   rw [if_neg c147] at H
   have c147b0 : ((t639 == 1) != (t664 != 0)) = false:=by simpa using c147
   (try (have c147b1 : decide ((t639 == 1) = (t664 != 0)) = true:=by simpa using c147))
   (try (have c147b2 : ((t639 == 1) == (t664 != 0)) = true:=by simpa using c147))
   clear c147
   replace H:=Option.bind_eq_some_iff.mp H
   obtain ⟨t665,A1660,H⟩:=H
   replace H : (if true = true then (if a1 = 1 then (if t665 ≥ 0 then (if a1 = 2 then (some (decide (t665 ≤ 0))) else (some true)) else (some false)) else (if a1 = 2 then (some (decide (t665 ≤ 0))) else (some true))) else (some false)) = some r:=H
   have A166:=Aside0.mk A1660
   clear A1660
   by_cases c167 : true = true
   case neg =>
    exact absurd rfl c167
   clear c167
   have H1 : (if a1 = 1 then (if t665 ≥ 0 then (if a1 = 2 then (some (decide (t665 ≤ 0))) else (some true)) else (some false)) else (if a1 = 2 then (some (decide (t665 ≤ 0))) else (some true))) = some r:=by rw [if_pos rfl] at H; exact H
   clear H
   have H:=H1
   clear H1
   by_cases c168 : a1 = 1
   case neg =>
    rw [if_neg c168] at H
    have c168b0 : (a1 == 1) = false:=beq_eq_false_iff_ne.mpr c168
    have c168b1 : (a1 != 1) = true:=bne_iff_ne.mpr c168
    by_cases c237 : a1 = 2
    case neg =>
     rw [if_neg c237] at H
     have c237b0 : (a1 == 2) = false:=beq_eq_false_iff_ne.mpr c237
     have c237b1 : (a1 != 2) = true:=bne_iff_ne.mpr c237
     obtain rfl:=Option.some.inj H
     (try simp only [c128b0,c147b0,c168b0,c168b1,c237b0,c237b1])
     refine pure_ (i:=12) (N:=some 85) (v:=?_) (a':=?_) #[true,true,true,true,true,true,true,true,true,true,true,true,true,false,false,false,false,false,false,false] rfl rfl (any_of HT_.out (by kernel_rfl)) (fun _ _ _ h=>h) (Or.inl ⟨by rfl,?_⟩) ?_ ?_
     rotate_left
     ·
      intro w'
      go_simp
      with_reducible rfl
     rotate_left
     ·
      simp only [Act.put,p1_,p2_,p3_,i64_w,i32_w]
      rfl
     refine pure_ (i:=13) (N:=some 86) (v:=?_) (a':=?_) #[true,true,true,true,true,true,true,true,true,true,true,true,true,true,false,false,false,false,false,false] rfl rfl (any_of HT_.out (by kernel_rfl)) (fun _ _ _ h=>h) (Or.inl ⟨by rfl,?_⟩) ?_ ?_
     rotate_left
     ·
      intro w'
      go_simp
      with_reducible rfl
     rotate_left
     ·
      simp only [Act.put,p1_,p2_,p3_,i64_w,i32_w]
      rfl
     refine take_ (i:=14) (N:=some 87) (v:=?_) (a':=?_) #[true,true,true,true,true,true,true,true,true,true,true,true,true,true,true,false,false,false,false,false] rfl rfl (take_ofW HT_.out HW_.out (by kernel_rfl)) (fun _ _ _ h=>h) (Or.inl ⟨by rfl,?_⟩) hHeld ?_ ?_
     rotate_left
     ·
      rintro w' ⟨s0,s1,s2,s3,s4,s5,s6,s7,s8⟩
      go_simp
      with_reducible rfl
     rotate_left
     ·
      simp only [Act.put,p1_,p2_,p3_,i64_w,i32_w]
      rfl
     refine take_ (i:=15) (N:=some 88) (v:=?_) (a':=?_) #[true,true,true,true,true,true,true,true,true,true,true,true,true,true,true,true,false,false,false,false] rfl rfl (take_ofW HT_.out HW_.out (by kernel_rfl)) (fun _ _ _ h=>h) (Or.inl ⟨by rfl,?_⟩) hHeld ?_ ?_
     rotate_left
     ·
      rintro w' ⟨s0,s1,s2,s3,s4,s5,s6,s7,s8⟩
      go_simp
      with_reducible rfl
     rotate_left
     ·
      simp only [Act.put,p1_,p2_,p3_,i64_w,i32_w]
      rfl
     refine one_ (i:=16) (N:=some 89) #[true,true,true,true,true,true,true,true,true,true,true,true,true,true,true,true,true,false,false,false] rfl rfl (one_of HT_.out (by kernel_rfl)) (by decide) (fun K hK=>?_)
     refine goesN_ Try.func36 (by kernel_rfl) rfl [.agg #[.bool t640,.slice Ao135 t641.length co135,.slice Ao136 t644.length co136],.agg #[.bool t580,.slice Ao14 t581.length co14,.slice Ao15 t584.length co15]] (by rfl) rfl rfl (by rfl) ?_
     with_reducible refine (ratio_R_Cmp.calls kj8 t640 _ _ t641 _ _ t644 t580 _ _ t581 _ _ t584 t664 _ ?side1 ?side2 ?side3 ?side4 ?side5 ?side6 ?side7 ?side8 A146.out).mono ?_
     (case side1=>repeat first | exact (Kd.V_reads' HO643.out).2.2 | with_reducible first | apply ca_ | apply cn_ | apply cd_)
     (case side2=>exact (Kd.V_reads' HO643.out).2.1)
     (case side3=>repeat first | exact (Kd.V_reads' HO646.out).2.2 | with_reducible first | apply ca_ | apply cn_ | apply cd_)
     (case side4=>exact (Kd.V_reads' HO646.out).2.1)
     (case side5=>repeat first | exact (Kd.V_reads' HO_589001.out).2.2 | with_reducible first | apply ca_ | apply cn_ | apply cd_)
     (case side6=>exact (Kd.V_reads' HO_589001.out).2.1)
     (case side7=>repeat first | exact (Kd.V_reads' HO_589002.out).2.2 | with_reducible first | apply ca_ | apply cn_ | apply cd_)
     (case side8=>exact (Kd.V_reads' HO_589002.out).2.1)
     rintro e w277 ⟨rfl,hb⟩
     refine ⟨_,rfl,?_⟩
     have n0_:=vb_ HO_589001 hb
     have n1_:=vb_ HO_589002 hb
     have n2_:=vb_ HO_597001 hb
     have n3_:=vb_ HO_597002 hb
     have n4_:=vb_ HO643 hb
     have n5_:=vb_ HO646 hb
     have n10_:=kb_ BK588 hb
     have n11_:=kb_ BK596 hb
     have n12_:=kb_ BK648 hb
     have n13_:=bq_ hb
     (try clear BK588)
     (try clear BK596)
     (try clear BK648)
     (try clear HB)
     (try clear HO643)
     (try clear HO646)
     (try clear HO_589001)
     (try clear HO_589002)
     (try clear HO_597001)
     (try clear HO_597002)
     have HO_589001:=n0_
     have HO_589002:=n1_
     have HO_597001:=n2_
     have HO_597002:=n3_
     have HO643:=n4_
     have HO646:=n5_
     have BK588:=n10_
     have BK596:=n11_
     have BK648:=n12_
     have HB:=n13_
     clear n0_ n1_ n2_ n3_ n4_ n5_ n10_ n11_ n12_ n13_
     (try clear hb)
     (try clear hb2)
     (try clear hk)
     (try clear hi)
     refine hK.out _ _ ⟨bc_ BK648 0,bc_ BK648 1,bc_ BK648 2,bc_ BK588 0,bc_ BK588 1,bc_ BK588 2,bc_ BK596 0,bc_ BK596 1,bc_ BK596 2⟩ (fun hHeld=>?_)
     clear hK K
     refine norm_ (a':=?_) ?_ ?_
     rotate_left
     ·
      show Act.put _ (some 89) _ = _
      simp only [Act.put,p1_,p2_,p3_,i64_w,i32_w]
      rfl
     refine pure_ (i:=17) (N:=some 90) (v:=?_) (a':=?_) #[true,true,true,true,true,true,true,true,true,true,true,true,true,true,true,true,true,true,false,false] rfl rfl (any_of HT_.out (by kernel_rfl)) (fun _ _ _ h=>h) (Or.inl ⟨by rfl,?_⟩) ?_ ?_
     rotate_left
     ·
      intro w'
      go_simp
      with_reducible rfl
     rotate_left
     ·
      simp only [Act.put,p1_,p2_,p3_,i64_w,i32_w]
      rfl
     refine pure_ (i:=18) (N:=some 91) (v:=?_) (a':=?_) #[true,true,true,true,true,true,true,true,true,true,true,true,true,true,true,true,true,true,true,false] rfl rfl (any_of HT_.out (by kernel_rfl)) (fun _ _ _ h=>h) (Or.inl ⟨by rfl,?_⟩) ?_ ?_
     rotate_left
     ·
      intro w'
      go_simp
      with_reducible rfl
     rotate_left
     ·
      simp only [Act.put,p1_,p2_,p3_,i64_w,i32_w]
      rfl
     refine pure_ (i:=19) (N:=some 92) (v:=?_) (a':=?_) #[true,true,true,true,true,true,true,true,true,true,true,true,true,true,true,true,true,true,true,true] rfl rfl (any_of HT_.out (by kernel_rfl)) (fun _ _ _ h=>h) (Or.inl ⟨by rfl,?_⟩) ?_ ?_
     rotate_left
     ·
      intro w'
      go_simp
      with_reducible rfl
     rotate_left
     ·
      simp only [Act.put,p1_,p2_,p3_,i64_w,i32_w]
      rfl
     refine done_ (done_of HT_.out (by kernel_rfl)) ?_
     have hcz278_0 : w277.cell? ⟨gb648,0,none⟩ = some (.bool t640):=bc_ BK648 0
     have hcz278_1 : w277.cell? ⟨gb648,1,none⟩ = some (.slice Ao135 t641.length co135):=bc_ BK648 1
     have hcz278_2 : w277.cell? ⟨gb648,2,none⟩ = some (.slice Ao136 t644.length co136):=bc_ BK648 2
     have hfz278_0:=blk_frozen BK648.out 0
     have hfz278_1:=blk_frozen BK648.out 1
     have hfz278_2:=blk_frozen BK648.out 2
     have hnb279:=NB588_596.out
     have hnc279:=NB596_588.out
     have hcz280_0 : w277.cell? ⟨gb588,0,none⟩ = some (.bool t580):=bc_ BK588 0
     have hcz280_1 : w277.cell? ⟨gb588,1,none⟩ = some (.slice Ao14 t581.length co14):=bc_ BK588 1
     have hcz280_2 : w277.cell? ⟨gb588,2,none⟩ = some (.slice Ao15 t584.length co15):=bc_ BK588 2
     have hfz280_0:=blk_frozen BK588.out 0
     have hfz280_1:=blk_frozen BK588.out 1
     have hfz280_2:=blk_frozen BK588.out 2
     try go_wp2_with (first | ((with_reducible refine gc_ 36 rfl ?_); refine gM_ (some 95) Try.func36 [.agg #[.bool t640,.slice Ao135 t641.length co135,.slice Ao136 t644.length co136],.agg #[.bool t580,.slice Ao14 t581.length co14,.slice Ao15 t584.length co15]] ?_; (with_reducible refine (ratio_R_Cmp.calls kj8 t640 _ _ t641 _ _ t644 t580 _ _ t581 _ _ t584 t665 _ ?side1 ?side2 ?side3 ?side4 ?side5 ?side6 ?side7 ?side8 A166.out).mono ?_); (case side1=>repeat first | exact (Kd.V_reads' HO643.out).2.2 | with_reducible first | apply ca_ | apply cn_ | apply cd_); (case side2=>exact (Kd.V_reads' HO643.out).2.1); (case side3=>repeat first | exact (Kd.V_reads' HO646.out).2.2 | with_reducible first | apply ca_ | apply cn_ | apply cd_); (case side4=>exact (Kd.V_reads' HO646.out).2.1); (case side5=>repeat first | exact (Kd.V_reads' HO_589001.out).2.2 | with_reducible first | apply ca_ | apply cn_ | apply cd_); (case side6=>exact (Kd.V_reads' HO_589001.out).2.1); (case side7=>repeat first | exact (Kd.V_reads' HO_589002.out).2.2 | with_reducible first | apply ca_ | apply cn_ | apply cd_); (case side8=>exact (Kd.V_reads' HO_589002.out).2.1); rintro e w281 ⟨rfl,hb⟩; refine ⟨_,rfl,?_⟩; replace HO_589001:=vb_ HO_589001 hb; replace HO_589002:=vb_ HO_589002 hb; replace HO_597001:=vb_ HO_597001 hb; replace HO_597002:=vb_ HO_597002 hb; replace HO643:=vb_ HO643 hb; replace HO646:=vb_ HO646 hb; replace BK588:=kb_ BK588 hb; replace BK596:=kb_ BK596 hb; replace BK648:=kb_ BK648 hb; replace HB:=bq_ hb))
     go_ret
     exact ⟨eh_,bh_⟩
    rw [if_pos c237] at H
    have c237b0 : (a1 == 2) = true:=beq_iff_eq.mpr c237
    have c237b1 : (a1 != 2) = false:=bne_eq_false_iff_eq.mpr c237
    clear c237
    obtain rfl:=Option.some.inj H
    (try simp only [c128b0,c147b0,c168b0,c168b1,c237b0,c237b1])
    refine pure_ (i:=12) (N:=some 85) (v:=?_) (a':=?_) #[true,true,true,true,true,true,true,true,true,true,true,true,true,false,false,false,false,false,false,false] rfl rfl (any_of HT_.out (by kernel_rfl)) (fun _ _ _ h=>h) (Or.inl ⟨by rfl,?_⟩) ?_ ?_
    rotate_left
    ·
     intro w'
     go_simp
     with_reducible rfl
    rotate_left
    ·
     simp only [Act.put,p1_,p2_,p3_,i64_w,i32_w]
     rfl
    refine pure_ (i:=13) (N:=some 86) (v:=?_) (a':=?_) #[true,true,true,true,true,true,true,true,true,true,true,true,true,true,false,false,false,false,false,false] rfl rfl (any_of HT_.out (by kernel_rfl)) (fun _ _ _ h=>h) (Or.inl ⟨by rfl,?_⟩) ?_ ?_
    rotate_left
    ·
     intro w'
     go_simp
     with_reducible rfl
    rotate_left
    ·
     simp only [Act.put,p1_,p2_,p3_,i64_w,i32_w]
     rfl
    refine take_ (i:=14) (N:=some 87) (v:=?_) (a':=?_) #[true,true,true,true,true,true,true,true,true,true,true,true,true,true,true,false,false,false,false,false] rfl rfl (take_ofW HT_.out HW_.out (by kernel_rfl)) (fun _ _ _ h=>h) (Or.inl ⟨by rfl,?_⟩) hHeld ?_ ?_
    rotate_left
    ·
     rintro w' ⟨s0,s1,s2,s3,s4,s5,s6,s7,s8⟩
     go_simp
     with_reducible rfl
    rotate_left
    ·
     simp only [Act.put,p1_,p2_,p3_,i64_w,i32_w]
     rfl
    refine take_ (i:=15) (N:=some 88) (v:=?_) (a':=?_) #[true,true,true,true,true,true,true,true,true,true,true,true,true,true,true,true,false,false,false,false] rfl rfl (take_ofW HT_.out HW_.out (by kernel_rfl)) (fun _ _ _ h=>h) (Or.inl ⟨by rfl,?_⟩) hHeld ?_ ?_
    rotate_left
    ·
     rintro w' ⟨s0,s1,s2,s3,s4,s5,s6,s7,s8⟩
     go_simp
     with_reducible rfl
    rotate_left
    ·
     simp only [Act.put,p1_,p2_,p3_,i64_w,i32_w]
     rfl
    refine one_ (i:=16) (N:=some 89) #[true,true,true,true,true,true,true,true,true,true,true,true,true,true,true,true,true,false,false,false] rfl rfl (one_of HT_.out (by kernel_rfl)) (by decide) (fun K hK=>?_)
    refine goesN_ Try.func36 (by kernel_rfl) rfl [.agg #[.bool t640,.slice Ao135 t641.length co135,.slice Ao136 t644.length co136],.agg #[.bool t580,.slice Ao14 t581.length co14,.slice Ao15 t584.length co15]] (by rfl) rfl rfl (by rfl) ?_
    with_reducible refine (ratio_R_Cmp.calls kj8 t640 _ _ t641 _ _ t644 t580 _ _ t581 _ _ t584 t664 _ ?side1 ?side2 ?side3 ?side4 ?side5 ?side6 ?side7 ?side8 A146.out).mono ?_
    (case side1=>repeat first | exact (Kd.V_reads' HO643.out).2.2 | with_reducible first | apply ca_ | apply cn_ | apply cd_)
    (case side2=>exact (Kd.V_reads' HO643.out).2.1)
    (case side3=>repeat first | exact (Kd.V_reads' HO646.out).2.2 | with_reducible first | apply ca_ | apply cn_ | apply cd_)
    (case side4=>exact (Kd.V_reads' HO646.out).2.1)
    (case side5=>repeat first | exact (Kd.V_reads' HO_589001.out).2.2 | with_reducible first | apply ca_ | apply cn_ | apply cd_)
    (case side6=>exact (Kd.V_reads' HO_589001.out).2.1)
    (case side7=>repeat first | exact (Kd.V_reads' HO_589002.out).2.2 | with_reducible first | apply ca_ | apply cn_ | apply cd_)
    (case side8=>exact (Kd.V_reads' HO_589002.out).2.1)
    rintro e w255 ⟨rfl,hb⟩
    refine ⟨_,rfl,?_⟩
    have n0_:=vb_ HO_589001 hb
    have n1_:=vb_ HO_589002 hb
    have n2_:=vb_ HO_597001 hb
    have n3_:=vb_ HO_597002 hb
    have n4_:=vb_ HO643 hb
    have n5_:=vb_ HO646 hb
    have n6_:=vb_ HO652 hb
    have n7_:=vb_ HO655 hb
    have n8_:=vb_ HO659 hb
    have n9_:=vb_ HO662 hb
    have n10_:=kb_ BK588 hb
    have n11_:=kb_ BK596 hb
    have n12_:=kb_ BK648 hb
    have n13_:=bq_ hb
    clear HO_589001
    clear HO_589002
    clear HO_597001
    clear HO_597002
    clear HO643
    clear HO646
    clear HO652
    clear HO655
    clear HO659
    clear HO662
    clear BK588
    clear BK596
    clear BK648
    clear HB
    have HO_589001:=n0_
    have HO_589002:=n1_
    have HO_597001:=n2_
    have HO_597002:=n3_
    have HO643:=n4_
    have HO646:=n5_
    have HO652:=n6_
    have HO655:=n7_
    have HO659:=n8_
    have HO662:=n9_
    have BK588:=n10_
    have BK596:=n11_
    have BK648:=n12_
    have HB:=n13_
    clear n0_ n1_ n2_ n3_ n4_ n5_ n6_ n7_ n8_ n9_ n10_ n11_ n12_ n13_
    (try clear hb)
    (try clear hb2)
    (try clear hk)
    (try clear hi)
    refine hK.out _ _ ⟨bc_ BK648 0,bc_ BK648 1,bc_ BK648 2,bc_ BK588 0,bc_ BK588 1,bc_ BK588 2,bc_ BK596 0,bc_ BK596 1,bc_ BK596 2⟩ (fun hHeld=>?_)
    clear hK K
    refine norm_ (a':=?_) ?_ ?_
    rotate_left
    ·
     show Act.put _ (some 89) _ = _
     simp only [Act.put,p1_,p2_,p3_,i64_w,i32_w]
     rfl
    refine pure_ (i:=17) (N:=some 90) (v:=?_) (a':=?_) #[true,true,true,true,true,true,true,true,true,true,true,true,true,true,true,true,true,true,false,false] rfl rfl (any_of HT_.out (by kernel_rfl)) (fun _ _ _ h=>h) (Or.inl ⟨by rfl,?_⟩) ?_ ?_
    rotate_left
    ·
     intro w'
     go_simp
     with_reducible rfl
    rotate_left
    ·
     simp only [Act.put,p1_,p2_,p3_,i64_w,i32_w]
     rfl
    refine pure_ (i:=18) (N:=some 91) (v:=?_) (a':=?_) #[true,true,true,true,true,true,true,true,true,true,true,true,true,true,true,true,true,true,true,false] rfl rfl (any_of HT_.out (by kernel_rfl)) (fun _ _ _ h=>h) (Or.inl ⟨by rfl,?_⟩) ?_ ?_
    rotate_left
    ·
     intro w'
     go_simp
     with_reducible rfl
    rotate_left
    ·
     simp only [Act.put,p1_,p2_,p3_,i64_w,i32_w]
     rfl
    refine pure_ (i:=19) (N:=some 92) (v:=?_) (a':=?_) #[true,true,true,true,true,true,true,true,true,true,true,true,true,true,true,true,true,true,true,true] rfl rfl (any_of HT_.out (by kernel_rfl)) (fun _ _ _ h=>h) (Or.inl ⟨by rfl,?_⟩) ?_ ?_
    rotate_left
    ·
     intro w'
     go_simp
     with_reducible rfl
    rotate_left
    ·
     simp only [Act.put,p1_,p2_,p3_,i64_w,i32_w]
     rfl
    refine done_ (done_of HT_.out (by kernel_rfl)) ?_
    have hcz256_0 : w255.cell? ⟨gb648,0,none⟩ = some (.bool t640):=bc_ BK648 0
    have hcz256_1 : w255.cell? ⟨gb648,1,none⟩ = some (.slice Ao135 t641.length co135):=bc_ BK648 1
    have hcz256_2 : w255.cell? ⟨gb648,2,none⟩ = some (.slice Ao136 t644.length co136):=bc_ BK648 2
    have hfz256_0:=blk_frozen BK648.out 0
    have hfz256_1:=blk_frozen BK648.out 1
    have hfz256_2:=blk_frozen BK648.out 2
    have hnb257:=NB588_596.out
    have hnc257:=NB596_588.out
    have hcz258_0 : w255.cell? ⟨gb588,0,none⟩ = some (.bool t580):=bc_ BK588 0
    have hcz258_1 : w255.cell? ⟨gb588,1,none⟩ = some (.slice Ao14 t581.length co14):=bc_ BK588 1
    have hcz258_2 : w255.cell? ⟨gb588,2,none⟩ = some (.slice Ao15 t584.length co15):=bc_ BK588 2
    have hfz258_0:=blk_frozen BK588.out 0
    have hfz258_1:=blk_frozen BK588.out 1
    have hfz258_2:=blk_frozen BK588.out 2
    try go_wp2_with (first | ((with_reducible refine gc_ 36 rfl ?_); refine gM_ (some 95) Try.func36 [.agg #[.bool t640,.slice Ao135 t641.length co135,.slice Ao136 t644.length co136],.agg #[.bool t580,.slice Ao14 t581.length co14,.slice Ao15 t584.length co15]] ?_; (with_reducible refine (ratio_R_Cmp.calls kj8 t640 _ _ t641 _ _ t644 t580 _ _ t581 _ _ t584 t665 _ ?side1 ?side2 ?side3 ?side4 ?side5 ?side6 ?side7 ?side8 A166.out).mono ?_); (case side1=>repeat first | exact (Kd.V_reads' HO643.out).2.2 | with_reducible first | apply ca_ | apply cn_ | apply cd_); (case side2=>exact (Kd.V_reads' HO643.out).2.1); (case side3=>repeat first | exact (Kd.V_reads' HO646.out).2.2 | with_reducible first | apply ca_ | apply cn_ | apply cd_); (case side4=>exact (Kd.V_reads' HO646.out).2.1); (case side5=>repeat first | exact (Kd.V_reads' HO_589001.out).2.2 | with_reducible first | apply ca_ | apply cn_ | apply cd_); (case side6=>exact (Kd.V_reads' HO_589001.out).2.1); (case side7=>repeat first | exact (Kd.V_reads' HO_589002.out).2.2 | with_reducible first | apply ca_ | apply cn_ | apply cd_); (case side8=>exact (Kd.V_reads' HO_589002.out).2.1); rintro e w259 ⟨rfl,hb⟩; refine ⟨_,rfl,?_⟩; replace HO_589001:=vb_ HO_589001 hb; replace HO_589002:=vb_ HO_589002 hb; replace HO_597001:=vb_ HO_597001 hb; replace HO_597002:=vb_ HO_597002 hb; replace HO643:=vb_ HO643 hb; replace HO646:=vb_ HO646 hb; replace HO652:=vb_ HO652 hb; replace HO655:=vb_ HO655 hb; replace HO659:=vb_ HO659 hb; replace HO662:=vb_ HO662 hb; replace BK588:=kb_ BK588 hb; replace BK596:=kb_ BK596 hb; replace BK648:=kb_ BK648 hb; replace HB:=bq_ hb))
    go_ret
    exact ⟨eh_,bh_⟩
   rw [if_pos c168] at H
   have c168b0 : (a1 == 1) = true:=beq_iff_eq.mpr c168
   have c168b1 : (a1 != 1) = false:=bne_eq_false_iff_eq.mpr c168
   clear c168
   by_cases c169 : t665 ≥ 0
   case neg =>
    rw [if_neg c169] at H
    have c169b0 : decide (0 ≤ t665) = false:=decide_eq_false c169
    clear c169
    obtain rfl:=Option.some.inj H
    (try simp only [c128b0,c147b0,c168b0,c168b1,c169b0])
    refine pure_ (i:=12) (N:=some 85) (v:=?_) (a':=?_) #[true,true,true,true,true,true,true,true,true,true,true,true,true,false,false,false,false,false,false,false] rfl rfl (any_of HT_.out (by kernel_rfl)) (fun _ _ _ h=>h) (Or.inl ⟨by rfl,?_⟩) ?_ ?_
    rotate_left
    ·
     intro w'
     go_simp
     with_reducible rfl
    rotate_left
    ·
     simp only [Act.put,p1_,p2_,p3_,i64_w,i32_w]
     rfl
    refine pure_ (i:=13) (N:=some 86) (v:=?_) (a':=?_) #[true,true,true,true,true,true,true,true,true,true,true,true,true,true,false,false,false,false,false,false] rfl rfl (any_of HT_.out (by kernel_rfl)) (fun _ _ _ h=>h) (Or.inl ⟨by rfl,?_⟩) ?_ ?_
    rotate_left
    ·
     intro w'
     go_simp
     with_reducible rfl
    rotate_left
    ·
     simp only [Act.put,p1_,p2_,p3_,i64_w,i32_w]
     rfl
    refine take_ (i:=14) (N:=some 87) (v:=?_) (a':=?_) #[true,true,true,true,true,true,true,true,true,true,true,true,true,true,true,false,false,false,false,false] rfl rfl (take_ofW HT_.out HW_.out (by kernel_rfl)) (fun _ _ _ h=>h) (Or.inl ⟨by rfl,?_⟩) hHeld ?_ ?_
    rotate_left
    ·
     rintro w' ⟨s0,s1,s2,s3,s4,s5,s6,s7,s8⟩
     go_simp
     with_reducible rfl
    rotate_left
    ·
     simp only [Act.put,p1_,p2_,p3_,i64_w,i32_w]
     rfl
    refine take_ (i:=15) (N:=some 88) (v:=?_) (a':=?_) #[true,true,true,true,true,true,true,true,true,true,true,true,true,true,true,true,false,false,false,false] rfl rfl (take_ofW HT_.out HW_.out (by kernel_rfl)) (fun _ _ _ h=>h) (Or.inl ⟨by rfl,?_⟩) hHeld ?_ ?_
    rotate_left
    ·
     rintro w' ⟨s0,s1,s2,s3,s4,s5,s6,s7,s8⟩
     go_simp
     with_reducible rfl
    rotate_left
    ·
     simp only [Act.put,p1_,p2_,p3_,i64_w,i32_w]
     rfl
    refine one_ (i:=16) (N:=some 89) #[true,true,true,true,true,true,true,true,true,true,true,true,true,true,true,true,true,false,false,false] rfl rfl (one_of HT_.out (by kernel_rfl)) (by decide) (fun K hK=>?_)
    refine goesN_ Try.func36 (by kernel_rfl) rfl [.agg #[.bool t640,.slice Ao135 t641.length co135,.slice Ao136 t644.length co136],.agg #[.bool t580,.slice Ao14 t581.length co14,.slice Ao15 t584.length co15]] (by rfl) rfl rfl (by rfl) ?_
    with_reducible refine (ratio_R_Cmp.calls kj8 t640 _ _ t641 _ _ t644 t580 _ _ t581 _ _ t584 t664 _ ?side1 ?side2 ?side3 ?side4 ?side5 ?side6 ?side7 ?side8 A146.out).mono ?_
    (case side1=>repeat first | exact (Kd.V_reads' HO643.out).2.2 | with_reducible first | apply ca_ | apply cn_ | apply cd_)
    (case side2=>exact (Kd.V_reads' HO643.out).2.1)
    (case side3=>repeat first | exact (Kd.V_reads' HO646.out).2.2 | with_reducible first | apply ca_ | apply cn_ | apply cd_)
    (case side4=>exact (Kd.V_reads' HO646.out).2.1)
    (case side5=>repeat first | exact (Kd.V_reads' HO_589001.out).2.2 | with_reducible first | apply ca_ | apply cn_ | apply cd_)
    (case side6=>exact (Kd.V_reads' HO_589001.out).2.1)
    (case side7=>repeat first | exact (Kd.V_reads' HO_589002.out).2.2 | with_reducible first | apply ca_ | apply cn_ | apply cd_)
    (case side8=>exact (Kd.V_reads' HO_589002.out).2.1)
    rintro e w232 ⟨rfl,hb⟩
    refine ⟨_,rfl,?_⟩
    have n0_:=vb_ HO_589001 hb
    have n1_:=vb_ HO_589002 hb
    have n2_:=vb_ HO_597001 hb
    have n3_:=vb_ HO_597002 hb
    have n4_:=vb_ HO643 hb
    have n5_:=vb_ HO646 hb
    have n6_:=vb_ HO652 hb
    have n7_:=vb_ HO655 hb
    have n8_:=vb_ HO659 hb
    have n9_:=vb_ HO662 hb
    have n10_:=kb_ BK588 hb
    have n11_:=kb_ BK596 hb
    have n12_:=kb_ BK648 hb
    have n13_:=bq_ hb
    clear HO_589001
    clear HO_589002
    clear HO_597001
    clear HO_597002
    clear HO643
    clear HO646
    clear HO652
    clear HO655
    clear HO659
    clear HO662
    clear BK588
    clear BK596
    clear BK648
    clear HB
    have HO_589001:=n0_
    have HO_589002:=n1_
    have HO_597001:=n2_
    have HO_597002:=n3_
    have HO643:=n4_
    have HO646:=n5_
    have HO652:=n6_
    have HO655:=n7_
    have HO659:=n8_
    have HO662:=n9_
    have BK588:=n10_
    have BK596:=n11_
    have BK648:=n12_
    have HB:=n13_
    clear n0_ n1_ n2_ n3_ n4_ n5_ n6_ n7_ n8_ n9_ n10_ n11_ n12_ n13_
    (try clear hb)
    (try clear hb2)
    (try clear hk)
    (try clear hi)
    refine hK.out _ _ ⟨bc_ BK648 0,bc_ BK648 1,bc_ BK648 2,bc_ BK588 0,bc_ BK588 1,bc_ BK588 2,bc_ BK596 0,bc_ BK596 1,bc_ BK596 2⟩ (fun hHeld=>?_)
    clear hK K
    refine norm_ (a':=?_) ?_ ?_
    rotate_left
    ·
     show Act.put _ (some 89) _ = _
     simp only [Act.put,p1_,p2_,p3_,i64_w,i32_w]
     rfl
    refine pure_ (i:=17) (N:=some 90) (v:=?_) (a':=?_) #[true,true,true,true,true,true,true,true,true,true,true,true,true,true,true,true,true,true,false,false] rfl rfl (any_of HT_.out (by kernel_rfl)) (fun _ _ _ h=>h) (Or.inl ⟨by rfl,?_⟩) ?_ ?_
    rotate_left
    ·
     intro w'
     go_simp
     with_reducible rfl
    rotate_left
    ·
     simp only [Act.put,p1_,p2_,p3_,i64_w,i32_w]
     rfl
    refine pure_ (i:=18) (N:=some 91) (v:=?_) (a':=?_) #[true,true,true,true,true,true,true,true,true,true,true,true,true,true,true,true,true,true,true,false] rfl rfl (any_of HT_.out (by kernel_rfl)) (fun _ _ _ h=>h) (Or.inl ⟨by rfl,?_⟩) ?_ ?_
    rotate_left
    ·
     intro w'
     go_simp
     with_reducible rfl
    rotate_left
    ·
     simp only [Act.put,p1_,p2_,p3_,i64_w,i32_w]
     rfl
    refine pure_ (i:=19) (N:=some 92) (v:=?_) (a':=?_) #[true,true,true,true,true,true,true,true,true,true,true,true,true,true,true,true,true,true,true,true] rfl rfl (any_of HT_.out (by kernel_rfl)) (fun _ _ _ h=>h) (Or.inl ⟨by rfl,?_⟩) ?_ ?_
    rotate_left
    ·
     intro w'
     go_simp
     with_reducible rfl
    rotate_left
    ·
     simp only [Act.put,p1_,p2_,p3_,i64_w,i32_w]
     rfl
    refine done_ (done_of HT_.out (by kernel_rfl)) ?_
    have hcz233_0 : w232.cell? ⟨gb648,0,none⟩ = some (.bool t640):=bc_ BK648 0
    have hcz233_1 : w232.cell? ⟨gb648,1,none⟩ = some (.slice Ao135 t641.length co135):=bc_ BK648 1
    have hcz233_2 : w232.cell? ⟨gb648,2,none⟩ = some (.slice Ao136 t644.length co136):=bc_ BK648 2
    have hfz233_0:=blk_frozen BK648.out 0
    have hfz233_1:=blk_frozen BK648.out 1
    have hfz233_2:=blk_frozen BK648.out 2
    have hnb234:=NB588_596.out
    have hnc234:=NB596_588.out
    have hcz235_0 : w232.cell? ⟨gb588,0,none⟩ = some (.bool t580):=bc_ BK588 0
    have hcz235_1 : w232.cell? ⟨gb588,1,none⟩ = some (.slice Ao14 t581.length co14):=bc_ BK588 1
    have hcz235_2 : w232.cell? ⟨gb588,2,none⟩ = some (.slice Ao15 t584.length co15):=bc_ BK588 2
    have hfz235_0:=blk_frozen BK588.out 0
    have hfz235_1:=blk_frozen BK588.out 1
    have hfz235_2:=blk_frozen BK588.out 2
    try go_wp2_with (first | ((with_reducible refine gc_ 36 rfl ?_); refine gM_ (some 95) Try.func36 [.agg #[.bool t640,.slice Ao135 t641.length co135,.slice Ao136 t644.length co136],.agg #[.bool t580,.slice Ao14 t581.length co14,.slice Ao15 t584.length co15]] ?_; (with_reducible refine (ratio_R_Cmp.calls kj8 t640 _ _ t641 _ _ t644 t580 _ _ t581 _ _ t584 t665 _ ?side1 ?side2 ?side3 ?side4 ?side5 ?side6 ?side7 ?side8 A166.out).mono ?_); (case side1=>repeat first | exact (Kd.V_reads' HO643.out).2.2 | with_reducible first | apply ca_ | apply cn_ | apply cd_); (case side2=>exact (Kd.V_reads' HO643.out).2.1); (case side3=>repeat first | exact (Kd.V_reads' HO646.out).2.2 | with_reducible first | apply ca_ | apply cn_ | apply cd_); (case side4=>exact (Kd.V_reads' HO646.out).2.1); (case side5=>repeat first | exact (Kd.V_reads' HO_589001.out).2.2 | with_reducible first | apply ca_ | apply cn_ | apply cd_); (case side6=>exact (Kd.V_reads' HO_589001.out).2.1); (case side7=>repeat first | exact (Kd.V_reads' HO_589002.out).2.2 | with_reducible first | apply ca_ | apply cn_ | apply cd_); (case side8=>exact (Kd.V_reads' HO_589002.out).2.1); rintro e w236 ⟨rfl,hb⟩; refine ⟨_,rfl,?_⟩; replace HO_589001:=vb_ HO_589001 hb; replace HO_589002:=vb_ HO_589002 hb; replace HO_597001:=vb_ HO_597001 hb; replace HO_597002:=vb_ HO_597002 hb; replace HO643:=vb_ HO643 hb; replace HO646:=vb_ HO646 hb; replace HO652:=vb_ HO652 hb; replace HO655:=vb_ HO655 hb; replace HO659:=vb_ HO659 hb; replace HO662:=vb_ HO662 hb; replace BK588:=kb_ BK588 hb; replace BK596:=kb_ BK596 hb; replace BK648:=kb_ BK648 hb; replace HB:=bq_ hb))
    go_ret
    exact ⟨eh_,bh_⟩
   rw [if_pos c169] at H
   have c169b0 : decide (0 ≤ t665) = true:=decide_eq_true c169
   clear c169
   by_cases c170 : a1 = 2
   case neg =>
    rw [if_neg c170] at H
    have c170b0 : (a1 == 2) = false:=beq_eq_false_iff_ne.mpr c170
    have c170b1 : (a1 != 2) = true:=bne_iff_ne.mpr c170
    obtain rfl:=Option.some.inj H
    (try simp only [c128b0,c147b0,c168b0,c168b1,c169b0,c170b0,c170b1])
    refine pure_ (i:=12) (N:=some 85) (v:=?_) (a':=?_) #[true,true,true,true,true,true,true,true,true,true,true,true,true,false,false,false,false,false,false,false] rfl rfl (any_of HT_.out (by kernel_rfl)) (fun _ _ _ h=>h) (Or.inl ⟨by rfl,?_⟩) ?_ ?_
    rotate_left
    ·
     intro w'
     go_simp
     with_reducible rfl
    rotate_left
    ·
     simp only [Act.put,p1_,p2_,p3_,i64_w,i32_w]
     rfl
    refine pure_ (i:=13) (N:=some 86) (v:=?_) (a':=?_) #[true,true,true,true,true,true,true,true,true,true,true,true,true,true,false,false,false,false,false,false] rfl rfl (any_of HT_.out (by kernel_rfl)) (fun _ _ _ h=>h) (Or.inl ⟨by rfl,?_⟩) ?_ ?_
    rotate_left
    ·
     intro w'
     go_simp
     with_reducible rfl
    rotate_left
    ·
     simp only [Act.put,p1_,p2_,p3_,i64_w,i32_w]
     rfl
    refine take_ (i:=14) (N:=some 87) (v:=?_) (a':=?_) #[true,true,true,true,true,true,true,true,true,true,true,true,true,true,true,false,false,false,false,false] rfl rfl (take_ofW HT_.out HW_.out (by kernel_rfl)) (fun _ _ _ h=>h) (Or.inl ⟨by rfl,?_⟩) hHeld ?_ ?_
    rotate_left
    ·
     rintro w' ⟨s0,s1,s2,s3,s4,s5,s6,s7,s8⟩
     go_simp
     with_reducible rfl
    rotate_left
    ·
     simp only [Act.put,p1_,p2_,p3_,i64_w,i32_w]
     rfl
    refine take_ (i:=15) (N:=some 88) (v:=?_) (a':=?_) #[true,true,true,true,true,true,true,true,true,true,true,true,true,true,true,true,false,false,false,false] rfl rfl (take_ofW HT_.out HW_.out (by kernel_rfl)) (fun _ _ _ h=>h) (Or.inl ⟨by rfl,?_⟩) hHeld ?_ ?_
    rotate_left
    ·
     rintro w' ⟨s0,s1,s2,s3,s4,s5,s6,s7,s8⟩
     go_simp
     with_reducible rfl
    rotate_left
    ·
     simp only [Act.put,p1_,p2_,p3_,i64_w,i32_w]
     rfl
    refine one_ (i:=16) (N:=some 89) #[true,true,true,true,true,true,true,true,true,true,true,true,true,true,true,true,true,false,false,false] rfl rfl (one_of HT_.out (by kernel_rfl)) (by decide) (fun K hK=>?_)
    refine goesN_ Try.func36 (by kernel_rfl) rfl [.agg #[.bool t640,.slice Ao135 t641.length co135,.slice Ao136 t644.length co136],.agg #[.bool t580,.slice Ao14 t581.length co14,.slice Ao15 t584.length co15]] (by rfl) rfl rfl (by rfl) ?_
    with_reducible refine (ratio_R_Cmp.calls kj8 t640 _ _ t641 _ _ t644 t580 _ _ t581 _ _ t584 t664 _ ?side1 ?side2 ?side3 ?side4 ?side5 ?side6 ?side7 ?side8 A146.out).mono ?_
    (case side1=>repeat first | exact (Kd.V_reads' HO643.out).2.2 | with_reducible first | apply ca_ | apply cn_ | apply cd_)
    (case side2=>exact (Kd.V_reads' HO643.out).2.1)
    (case side3=>repeat first | exact (Kd.V_reads' HO646.out).2.2 | with_reducible first | apply ca_ | apply cn_ | apply cd_)
    (case side4=>exact (Kd.V_reads' HO646.out).2.1)
    (case side5=>repeat first | exact (Kd.V_reads' HO_589001.out).2.2 | with_reducible first | apply ca_ | apply cn_ | apply cd_)
    (case side6=>exact (Kd.V_reads' HO_589001.out).2.1)
    (case side7=>repeat first | exact (Kd.V_reads' HO_589002.out).2.2 | with_reducible first | apply ca_ | apply cn_ | apply cd_)
    (case side8=>exact (Kd.V_reads' HO_589002.out).2.1)
    rintro e w210 ⟨rfl,hb⟩
    refine ⟨_,rfl,?_⟩
    have n0_:=vb_ HO_589001 hb
    have n1_:=vb_ HO_589002 hb
    have n2_:=vb_ HO_597001 hb
    have n3_:=vb_ HO_597002 hb
    have n4_:=vb_ HO643 hb
    have n5_:=vb_ HO646 hb
    have n6_:=vb_ HO652 hb
    have n7_:=vb_ HO655 hb
    have n8_:=vb_ HO659 hb
    have n9_:=vb_ HO662 hb
    have n10_:=kb_ BK588 hb
    have n11_:=kb_ BK596 hb
    have n12_:=kb_ BK648 hb
    have n13_:=bq_ hb
    clear HO_589001
    clear HO_589002
    clear HO_597001
    clear HO_597002
    clear HO643
    clear HO646
    clear HO652
    clear HO655
    clear HO659
    clear HO662
    clear BK588
    clear BK596
    clear BK648
    clear HB
    have HO_589001:=n0_
    have HO_589002:=n1_
    have HO_597001:=n2_
    have HO_597002:=n3_
    have HO643:=n4_
    have HO646:=n5_
    have HO652:=n6_
    have HO655:=n7_
    have HO659:=n8_
    have HO662:=n9_
    have BK588:=n10_
    have BK596:=n11_
    have BK648:=n12_
    have HB:=n13_
    clear n0_ n1_ n2_ n3_ n4_ n5_ n6_ n7_ n8_ n9_ n10_ n11_ n12_ n13_
    (try clear hb)
    (try clear hb2)
    (try clear hk)
    (try clear hi)
    refine hK.out _ _ ⟨bc_ BK648 0,bc_ BK648 1,bc_ BK648 2,bc_ BK588 0,bc_ BK588 1,bc_ BK588 2,bc_ BK596 0,bc_ BK596 1,bc_ BK596 2⟩ (fun hHeld=>?_)
    clear hK K
    refine norm_ (a':=?_) ?_ ?_
    rotate_left
    ·
     show Act.put _ (some 89) _ = _
     simp only [Act.put,p1_,p2_,p3_,i64_w,i32_w]
     rfl
    refine pure_ (i:=17) (N:=some 90) (v:=?_) (a':=?_) #[true,true,true,true,true,true,true,true,true,true,true,true,true,true,true,true,true,true,false,false] rfl rfl (any_of HT_.out (by kernel_rfl)) (fun _ _ _ h=>h) (Or.inl ⟨by rfl,?_⟩) ?_ ?_
    rotate_left
    ·
     intro w'
     go_simp
     with_reducible rfl
    rotate_left
    ·
     simp only [Act.put,p1_,p2_,p3_,i64_w,i32_w]
     rfl
    refine pure_ (i:=18) (N:=some 91) (v:=?_) (a':=?_) #[true,true,true,true,true,true,true,true,true,true,true,true,true,true,true,true,true,true,true,false] rfl rfl (any_of HT_.out (by kernel_rfl)) (fun _ _ _ h=>h) (Or.inl ⟨by rfl,?_⟩) ?_ ?_
    rotate_left
    ·
     intro w'
     go_simp
     with_reducible rfl
    rotate_left
    ·
     simp only [Act.put,p1_,p2_,p3_,i64_w,i32_w]
     rfl
    refine pure_ (i:=19) (N:=some 92) (v:=?_) (a':=?_) #[true,true,true,true,true,true,true,true,true,true,true,true,true,true,true,true,true,true,true,true] rfl rfl (any_of HT_.out (by kernel_rfl)) (fun _ _ _ h=>h) (Or.inl ⟨by rfl,?_⟩) ?_ ?_
    rotate_left
    ·
     intro w'
     go_simp
     with_reducible rfl
    rotate_left
    ·
     simp only [Act.put,p1_,p2_,p3_,i64_w,i32_w]
     rfl
    refine done_ (done_of HT_.out (by kernel_rfl)) ?_
    have hcz211_0 : w210.cell? ⟨gb648,0,none⟩ = some (.bool t640):=bc_ BK648 0
    have hcz211_1 : w210.cell? ⟨gb648,1,none⟩ = some (.slice Ao135 t641.length co135):=bc_ BK648 1
    have hcz211_2 : w210.cell? ⟨gb648,2,none⟩ = some (.slice Ao136 t644.length co136):=bc_ BK648 2
    have hfz211_0:=blk_frozen BK648.out 0
    have hfz211_1:=blk_frozen BK648.out 1
    have hfz211_2:=blk_frozen BK648.out 2
    have hnb212:=NB588_596.out
    have hnc212:=NB596_588.out
    have hcz213_0 : w210.cell? ⟨gb588,0,none⟩ = some (.bool t580):=bc_ BK588 0
    have hcz213_1 : w210.cell? ⟨gb588,1,none⟩ = some (.slice Ao14 t581.length co14):=bc_ BK588 1
    have hcz213_2 : w210.cell? ⟨gb588,2,none⟩ = some (.slice Ao15 t584.length co15):=bc_ BK588 2
    have hfz213_0:=blk_frozen BK588.out 0
    have hfz213_1:=blk_frozen BK588.out 1
    have hfz213_2:=blk_frozen BK588.out 2
    try go_wp2_with (first | ((with_reducible refine gc_ 36 rfl ?_); refine gM_ (some 95) Try.func36 [.agg #[.bool t640,.slice Ao135 t641.length co135,.slice Ao136 t644.length co136],.agg #[.bool t580,.slice Ao14 t581.length co14,.slice Ao15 t584.length co15]] ?_; (with_reducible refine (ratio_R_Cmp.calls kj8 t640 _ _ t641 _ _ t644 t580 _ _ t581 _ _ t584 t665 _ ?side1 ?side2 ?side3 ?side4 ?side5 ?side6 ?side7 ?side8 A166.out).mono ?_); (case side1=>repeat first | exact (Kd.V_reads' HO643.out).2.2 | with_reducible first | apply ca_ | apply cn_ | apply cd_); (case side2=>exact (Kd.V_reads' HO643.out).2.1); (case side3=>repeat first | exact (Kd.V_reads' HO646.out).2.2 | with_reducible first | apply ca_ | apply cn_ | apply cd_); (case side4=>exact (Kd.V_reads' HO646.out).2.1); (case side5=>repeat first | exact (Kd.V_reads' HO_589001.out).2.2 | with_reducible first | apply ca_ | apply cn_ | apply cd_); (case side6=>exact (Kd.V_reads' HO_589001.out).2.1); (case side7=>repeat first | exact (Kd.V_reads' HO_589002.out).2.2 | with_reducible first | apply ca_ | apply cn_ | apply cd_); (case side8=>exact (Kd.V_reads' HO_589002.out).2.1); rintro e w214 ⟨rfl,hb⟩; refine ⟨_,rfl,?_⟩; replace HO_589001:=vb_ HO_589001 hb; replace HO_589002:=vb_ HO_589002 hb; replace HO_597001:=vb_ HO_597001 hb; replace HO_597002:=vb_ HO_597002 hb; replace HO643:=vb_ HO643 hb; replace HO646:=vb_ HO646 hb; replace HO652:=vb_ HO652 hb; replace HO655:=vb_ HO655 hb; replace HO659:=vb_ HO659 hb; replace HO662:=vb_ HO662 hb; replace BK588:=kb_ BK588 hb; replace BK596:=kb_ BK596 hb; replace BK648:=kb_ BK648 hb; replace HB:=bq_ hb))
    go_ret
    exact ⟨eh_,bh_⟩
   rw [if_pos c170] at H
   have c170b0 : (a1 == 2) = true:=beq_iff_eq.mpr c170
   have c170b1 : (a1 != 2) = false:=bne_eq_false_iff_eq.mpr c170
   clear c170
   obtain rfl:=Option.some.inj H
   (try simp only [c128b0,c147b0,c168b0,c168b1,c169b0,c170b0,c170b1])
   refine pure_ (i:=12) (N:=some 85) (v:=?_) (a':=?_) #[true,true,true,true,true,true,true,true,true,true,true,true,true,false,false,false,false,false,false,false] rfl rfl (any_of HT_.out (by kernel_rfl)) (fun _ _ _ h=>h) (Or.inl ⟨by rfl,?_⟩) ?_ ?_
   rotate_left
   ·
    intro w'
    go_simp
    with_reducible rfl
   rotate_left
   ·
    simp only [Act.put,p1_,p2_,p3_,i64_w,i32_w]
    rfl
   refine pure_ (i:=13) (N:=some 86) (v:=?_) (a':=?_) #[true,true,true,true,true,true,true,true,true,true,true,true,true,true,false,false,false,false,false,false] rfl rfl (any_of HT_.out (by kernel_rfl)) (fun _ _ _ h=>h) (Or.inl ⟨by rfl,?_⟩) ?_ ?_
   rotate_left
   ·
    intro w'
    go_simp
    with_reducible rfl
   rotate_left
   ·
    simp only [Act.put,p1_,p2_,p3_,i64_w,i32_w]
    rfl
   refine take_ (i:=14) (N:=some 87) (v:=?_) (a':=?_) #[true,true,true,true,true,true,true,true,true,true,true,true,true,true,true,false,false,false,false,false] rfl rfl (take_ofW HT_.out HW_.out (by kernel_rfl)) (fun _ _ _ h=>h) (Or.inl ⟨by rfl,?_⟩) hHeld ?_ ?_
   rotate_left
   ·
    rintro w' ⟨s0,s1,s2,s3,s4,s5,s6,s7,s8⟩
    go_simp
    with_reducible rfl
   rotate_left
   ·
    simp only [Act.put,p1_,p2_,p3_,i64_w,i32_w]
    rfl
   refine take_ (i:=15) (N:=some 88) (v:=?_) (a':=?_) #[true,true,true,true,true,true,true,true,true,true,true,true,true,true,true,true,false,false,false,false] rfl rfl (take_ofW HT_.out HW_.out (by kernel_rfl)) (fun _ _ _ h=>h) (Or.inl ⟨by rfl,?_⟩) hHeld ?_ ?_
   rotate_left
   ·
    rintro w' ⟨s0,s1,s2,s3,s4,s5,s6,s7,s8⟩
    go_simp
    with_reducible rfl
   rotate_left
   ·
    simp only [Act.put,p1_,p2_,p3_,i64_w,i32_w]
    rfl
   refine one_ (i:=16) (N:=some 89) #[true,true,true,true,true,true,true,true,true,true,true,true,true,true,true,true,true,false,false,false] rfl rfl (one_of HT_.out (by kernel_rfl)) (by decide) (fun K hK=>?_)
   refine goesN_ Try.func36 (by kernel_rfl) rfl [.agg #[.bool t640,.slice Ao135 t641.length co135,.slice Ao136 t644.length co136],.agg #[.bool t580,.slice Ao14 t581.length co14,.slice Ao15 t584.length co15]] (by rfl) rfl rfl (by rfl) ?_
   with_reducible refine (ratio_R_Cmp.calls kj8 t640 _ _ t641 _ _ t644 t580 _ _ t581 _ _ t584 t664 _ ?side1 ?side2 ?side3 ?side4 ?side5 ?side6 ?side7 ?side8 A146.out).mono ?_
   (case side1=>repeat first | exact (Kd.V_reads' HO643.out).2.2 | with_reducible first | apply ca_ | apply cn_ | apply cd_)
   (case side2=>exact (Kd.V_reads' HO643.out).2.1)
   (case side3=>repeat first | exact (Kd.V_reads' HO646.out).2.2 | with_reducible first | apply ca_ | apply cn_ | apply cd_)
   (case side4=>exact (Kd.V_reads' HO646.out).2.1)
   (case side5=>repeat first | exact (Kd.V_reads' HO_589001.out).2.2 | with_reducible first | apply ca_ | apply cn_ | apply cd_)
   (case side6=>exact (Kd.V_reads' HO_589001.out).2.1)
   (case side7=>repeat first | exact (Kd.V_reads' HO_589002.out).2.2 | with_reducible first | apply ca_ | apply cn_ | apply cd_)
   (case side8=>exact (Kd.V_reads' HO_589002.out).2.1)
   rintro e w188 ⟨rfl,hb⟩
   refine ⟨_,rfl,?_⟩
   have n0_:=vb_ HO_589001 hb
   have n1_:=vb_ HO_589002 hb
   have n2_:=vb_ HO_597001 hb
   have n3_:=vb_ HO_597002 hb
   have n4_:=vb_ HO643 hb
   have n5_:=vb_ HO646 hb
   have n6_:=vb_ HO652 hb
   have n7_:=vb_ HO655 hb
   have n8_:=vb_ HO659 hb
   have n9_:=vb_ HO662 hb
   have n10_:=kb_ BK588 hb
   have n11_:=kb_ BK596 hb
   have n12_:=kb_ BK648 hb
   have n13_:=bq_ hb
   clear HO_589001
   clear HO_589002
   clear HO_597001
   clear HO_597002
   clear HO643
   clear HO646
   clear HO652
   clear HO655
   clear HO659
   clear HO662
   clear BK588
   clear BK596
   clear BK648
   clear HB
   have HO_589001:=n0_
   have HO_589002:=n1_
   have HO_597001:=n2_
   have HO_597002:=n3_
   have HO643:=n4_
   have HO646:=n5_
   have HO652:=n6_
   have HO655:=n7_
   have HO659:=n8_
   have HO662:=n9_
   have BK588:=n10_
   have BK596:=n11_
   have BK648:=n12_
   have HB:=n13_
   clear n0_ n1_ n2_ n3_ n4_ n5_ n6_ n7_ n8_ n9_ n10_ n11_ n12_ n13_
   (try clear hb)
   (try clear hb2)
   (try clear hk)
   (try clear hi)
   refine hK.out _ _ ⟨bc_ BK648 0,bc_ BK648 1,bc_ BK648 2,bc_ BK588 0,bc_ BK588 1,bc_ BK588 2,bc_ BK596 0,bc_ BK596 1,bc_ BK596 2⟩ (fun hHeld=>?_)
   clear hK K
   refine norm_ (a':=?_) ?_ ?_
   rotate_left
   ·
    show Act.put _ (some 89) _ = _
    simp only [Act.put,p1_,p2_,p3_,i64_w,i32_w]
    rfl
   refine pure_ (i:=17) (N:=some 90) (v:=?_) (a':=?_) #[true,true,true,true,true,true,true,true,true,true,true,true,true,true,true,true,true,true,false,false] rfl rfl (any_of HT_.out (by kernel_rfl)) (fun _ _ _ h=>h) (Or.inl ⟨by rfl,?_⟩) ?_ ?_
   rotate_left
   ·
    intro w'
    go_simp
    with_reducible rfl
   rotate_left
   ·
    simp only [Act.put,p1_,p2_,p3_,i64_w,i32_w]
    rfl
   refine pure_ (i:=18) (N:=some 91) (v:=?_) (a':=?_) #[true,true,true,true,true,true,true,true,true,true,true,true,true,true,true,true,true,true,true,false] rfl rfl (any_of HT_.out (by kernel_rfl)) (fun _ _ _ h=>h) (Or.inl ⟨by rfl,?_⟩) ?_ ?_
   rotate_left
   ·
    intro w'
    go_simp
    with_reducible rfl
   rotate_left
   ·
    simp only [Act.put,p1_,p2_,p3_,i64_w,i32_w]
    rfl
   refine pure_ (i:=19) (N:=some 92) (v:=?_) (a':=?_) #[true,true,true,true,true,true,true,true,true,true,true,true,true,true,true,true,true,true,true,true] rfl rfl (any_of HT_.out (by kernel_rfl)) (fun _ _ _ h=>h) (Or.inl ⟨by rfl,?_⟩) ?_ ?_
   rotate_left
   ·
    intro w'
    go_simp
    with_reducible rfl
   rotate_left
   ·
    simp only [Act.put,p1_,p2_,p3_,i64_w,i32_w]
    rfl
   refine done_ (done_of HT_.out (by kernel_rfl)) ?_
   have hcz189_0 : w188.cell? ⟨gb648,0,none⟩ = some (.bool t640):=bc_ BK648 0
   have hcz189_1 : w188.cell? ⟨gb648,1,none⟩ = some (.slice Ao135 t641.length co135):=bc_ BK648 1
   have hcz189_2 : w188.cell? ⟨gb648,2,none⟩ = some (.slice Ao136 t644.length co136):=bc_ BK648 2
   have hfz189_0:=blk_frozen BK648.out 0
   have hfz189_1:=blk_frozen BK648.out 1
   have hfz189_2:=blk_frozen BK648.out 2
   have hnb190:=NB588_596.out
   have hnc190:=NB596_588.out
   have hcz191_0 : w188.cell? ⟨gb588,0,none⟩ = some (.bool t580):=bc_ BK588 0
   have hcz191_1 : w188.cell? ⟨gb588,1,none⟩ = some (.slice Ao14 t581.length co14):=bc_ BK588 1
   have hcz191_2 : w188.cell? ⟨gb588,2,none⟩ = some (.slice Ao15 t584.length co15):=bc_ BK588 2
   have hfz191_0:=blk_frozen BK588.out 0
   have hfz191_1:=blk_frozen BK588.out 1
   have hfz191_2:=blk_frozen BK588.out 2
   try go_wp2_with (first | ((with_reducible refine gc_ 36 rfl ?_); refine gM_ (some 95) Try.func36 [.agg #[.bool t640,.slice Ao135 t641.length co135,.slice Ao136 t644.length co136],.agg #[.bool t580,.slice Ao14 t581.length co14,.slice Ao15 t584.length co15]] ?_; (with_reducible refine (ratio_R_Cmp.calls kj8 t640 _ _ t641 _ _ t644 t580 _ _ t581 _ _ t584 t665 _ ?side1 ?side2 ?side3 ?side4 ?side5 ?side6 ?side7 ?side8 A166.out).mono ?_); (case side1=>repeat first | exact (Kd.V_reads' HO643.out).2.2 | with_reducible first | apply ca_ | apply cn_ | apply cd_); (case side2=>exact (Kd.V_reads' HO643.out).2.1); (case side3=>repeat first | exact (Kd.V_reads' HO646.out).2.2 | with_reducible first | apply ca_ | apply cn_ | apply cd_); (case side4=>exact (Kd.V_reads' HO646.out).2.1); (case side5=>repeat first | exact (Kd.V_reads' HO_589001.out).2.2 | with_reducible first | apply ca_ | apply cn_ | apply cd_); (case side6=>exact (Kd.V_reads' HO_589001.out).2.1); (case side7=>repeat first | exact (Kd.V_reads' HO_589002.out).2.2 | with_reducible first | apply ca_ | apply cn_ | apply cd_); (case side8=>exact (Kd.V_reads' HO_589002.out).2.1); rintro e w192 ⟨rfl,hb⟩; refine ⟨_,rfl,?_⟩; replace HO_589001:=vb_ HO_589001 hb; replace HO_589002:=vb_ HO_589002 hb; replace HO_597001:=vb_ HO_597001 hb; replace HO_597002:=vb_ HO_597002 hb; replace HO643:=vb_ HO643 hb; replace HO646:=vb_ HO646 hb; replace HO652:=vb_ HO652 hb; replace HO655:=vb_ HO655 hb; replace HO659:=vb_ HO659 hb; replace HO662:=vb_ HO662 hb; replace BK588:=kb_ BK588 hb; replace BK596:=kb_ BK596 hb; replace BK648:=kb_ BK648 hb; replace HB:=bq_ hb))
   go_ret
   exact ⟨eh_,bh_⟩
/-- THE ONE PURE STATEMENT of flyballlaw07_ConvNear: yours. -/
def flyballlaw07_ConvNear.Pure : Prop:=∀ (a0 : Int) (a1 : Int),(Lit.int .u64 a0).wf = true → (Lit.int .u8 a1).wf = true → ∃ k,flyballlaw07_ConvNear.f k a0 a1 = some true
theorem flyballlaw07_ConvNear.walk (P : flyballlaw07_ConvNear.Pure) (a0 : Int) (a1 : Int) (w : World) (w0 : (Lit.int .u64 a0).wf = true) (w1 : (Lit.int .u8 a1).wf = true) :
  Calls Try.prog 13 #[.int .u64 a0,.int .u8 a1] w fun e w'=>e = .returned (.bool true) ∧ Below w.heap.size w w':=by
 obtain ⟨k,h⟩:=P a0 a1 w0 w1
 refine (flyballlaw07_ConvNear.calls k a0 a1 true w h).mono ?_
 rintro e w' ⟨rfl,hd⟩
 exact ⟨rfl,hd⟩

end Go.Proofs.Ytfglpaaeipblcaa.P
