/- Walks of one package: what each function returns, wherever the Lean function beside it has an answer. -/
import Derived.Test.YtfglpaaeipblcaaP0
import Derived.Test.YtfglpaaeipblcaaPPattern1
import Derived.Test.YtfglpaaeipblcaaPRatio1
namespace Go.Proofs.Ytfglpaaeipblcaa.P
open Go.RowKit Go.Proofs.YtfglpaaeipblcaaW.PrintWords Go.Proofs.YtfglpaaeipblcaaW.PrintLast Go.Proofs.YtfglpaaeipblcaaW.PrintMore
attribute [local go_sem] max2_int min2_int max_two min_two max_three min_three max_four min_four   -- for this text's walks alone
set_option linter.unusedVariables false
set_option linter.unusedSimpArgs false

/-! ### pattern_Value: function 34 -/
def pattern_Value.j0 : Nat → Int → Bool → Option (Bool × List Int × List Int × Bool)
 | 0,_,_=>none
 | k + 1,x0,x10=>if x10 = true then (some (false,([] : List Int),([] : List Int),false)) else ((pattern_Split.f k x0).bind fun bt385=>((ratio_Dyad.f k ((x0 / 9223372036854775808) == 1) bt385.1 bt385.2).bind fun bt387=>(some (bt387.1,bt387.2.1,bt387.2.2.1,true))))
def pattern_Value.f (k : Nat) (a0 : Int) : Option (Bool × List Int × List Int × Bool):=(pattern_Class.f k a0).bind fun t384=>(if t384 = 3 then (pattern_Value.j0 k a0 (t384 == 3)) else (pattern_Value.j0 k a0 (t384 == 4)))
theorem pattern_Value.mono_l : ∀ k,(∀ y0 y1,LeO (pattern_Value.j0 k y0 y1) (pattern_Value.j0 (k + 1) y0 y1))
 | 0=>fun _ _ r h=>by simp [pattern_Value.j0] at h
 | k + 1=>by
  have ih0:=pattern_Value.mono_l k
  ·
   intro y0 y1
   unfold pattern_Value.j0
   repeat' with_reducible first | exact ih0 _ _ | exact pattern_Class.mono _ _ | exact pattern_Split.mono _ _ | exact ratio_Dyad.mono _ _ _ _ | exact LeO.refl _ | exact LeO.none _ | refine LeO.ite ?_ ?_ | refine LeO.bind ?_ (fun _=>?_)
theorem pattern_Value.mono : ∀ a0 k,LeO (pattern_Value.f k a0) (pattern_Value.f (k + 1) a0):=by
 intro a0 k
 have ih0:=pattern_Value.mono_l k
 unfold pattern_Value.f
 repeat' with_reducible first | exact ih0 _ _ | exact pattern_Class.mono _ _ | exact pattern_Split.mono _ _ | exact ratio_Dyad.mono _ _ _ _ | exact LeO.refl _ | exact LeO.none _ | refine LeO.ite ?_ ?_ | refine LeO.bind ?_ (fun _=>?_)
set_option maxHeartbeats 8000000 in
set_option maxRecDepth 100000 in
theorem pattern_Value.calls (k : Nat) (a0 : Int) (r1 : Bool) (r2 : List Int) (r3 : List Int) (r4 : Bool) (w : World) (h : pattern_Value.f k a0 = some (r1,r2,r3,r4)) :
  Calls Try.prog 34 #[.int .u64 a0] w fun e w'=>∃ v1_ v2_ : Value,e = .returned (.tuple #[.agg #[.bool r1,v1_,v2_],.bool r4]) ∧ Kd.V (Kd.int .u32) 123 w' w.heap.size (fun k_=>(w.heap.size ≤ k_)) v1_ r2 ∧ Kd.V (Kd.int .u32) 123 w' w.heap.size (fun k_=>(w.heap.size ≤ k_)) v2_ r3 ∧ Below w.heap.size w w':=by
 have hu50:=Try.underlying50
 have HB:=Aside0.mk (Below.refl w.heap.size w)
 have H : ((pattern_Class.f k a0).bind fun t384=>(if t384 = 3 then (pattern_Value.j0 k a0 (t384 == 3)) else (pattern_Value.j0 k a0 (t384 == 4)))) = some (r1,r2,r3,r4):=h
 clear h
 replace H:=Option.bind_eq_some_iff.mp H
 obtain ⟨t384,A20,H⟩:=H
 replace H : (if t384 = 3 then (pattern_Value.j0 k a0 (t384 == 3)) else (pattern_Value.j0 k a0 (t384 == 4))) = some (r1,r2,r3,r4):=H
 have A2:=Aside0.mk A20
 clear A20
 have HC3:=Aside0.mk H
 clear H
 go_enter Try.func34,Try.ntmps34
 go_upto_if 10 with (first | ((with_reducible refine gate_dst (N:=2) rfl ?_); refine box_event ?hg (N:=2) ?hd (cs:=#[.bool false,.slice none 0 0,.slice none 0 0]) (t:=50) ?hr ?_; (case hd=>rfl); (case hg=>rfl); (case hr=>first | (go_simp; done) | (go_simp; rfl)); intro gb383 hg w4 hbox hb; have n0_:=bq_ hb; have n1_:=Aside0.mk (hbox); have n3_:=bz_ hg; clear HB; have HB:=n0_; have BK383:=n1_; have GE383:=n3_; clear n0_ n1_ n3_; clear hb hbox hg) | ((with_reducible refine gc_ 50 rfl ?_); refine gM_ (some 9) Try.func50 [.int .u64 a0] ?_; (with_reducible refine (pattern_Class.calls k a0 t384 _ A2.out).mono ?_); rintro e w' ⟨rfl,⟨nd,rfl⟩⟩; refine ⟨_,rfl,?_⟩))
 (try simp only [Act.put,p1_,p2_,p3_])
 go_cut [10] (fun v10 wc=>∃ (kq : Nat) (x10_2 : Bool),v10 = .bool x10_2 ∧ Aside0 (pattern_Value.j0 kq a0 x10_2 = some (r1,r2,r3,r4)) ∧ Aside0 (kq ≤ k) ∧ Aside0 (wc.heap[gb383]? = some (.cells #[.bool false,(.slice none 0 0),(.slice none 0 0)] 50 (0,0))) ∧ Aside0 (Below w.heap.size w wc))
 case first =>
  have H:=HC3.out
  clear HC3
  by_cases c5 : t384 = 3
  case neg =>
   rw [if_neg c5] at H
   have c5b0 : (t384 == 3) = false:=beq_eq_false_iff_ne.mpr c5
   have c5b1 : (t384 != 3) = true:=bne_iff_ne.mpr c5
   (first | rw [c5b0] | (simp only [i64_w,i32_w]; rw [c5b0]) | skip)
   have H':=Aside0.mk H
   clear H
   go_wp2
   go_meet
   case rel=>exact ⟨_,((t384 == 4)),(sh_),H',⟨by first | omega | exact Nat.le_refl _⟩,⟨by (with_reducible repeat (first | apply kn_ | apply kd_ | apply ka_)); exact BK383.out⟩,⟨bh_⟩⟩
  rw [if_pos c5] at H
  have c5b0 : (t384 == 3) = true:=beq_iff_eq.mpr c5
  have c5b1 : (t384 != 3) = false:=bne_eq_false_iff_eq.mpr c5
  clear c5
  (first | rw [c5b0] | (simp only [i64_w,i32_w]; rw [c5b0]) | skip)
  have H':=Aside0.mk H
  clear H
  go_wp2
  go_meet
  case rel=>exact ⟨_,((t384 == 3)),(sh_),H',⟨by first | omega | exact Nat.le_refl _⟩,⟨by (with_reducible repeat (first | apply kn_ | apply kd_ | apply ka_)); exact BK383.out⟩,⟨bh_⟩⟩
 case rest =>
  clear HC3
  try clear p2
  try clear c3
  try clear c5
  try clear c5b0
  try clear c5b1
  obtain ⟨kq,x10_2,rfl,HA,HJ2,BK383,HB⟩:=hcut
  cases kq with
  | zero=>exact absurd HA.out (by simp [pattern_Value.j0])
  | succ kj2 =>
   have H:=HA.out
   clear HA
   simp only [pattern_Value.j0] at H
   by_cases c6 : x10_2 = true
   case pos =>
    subst c6
    have H1 : (some (false,([] : List Int),([] : List Int),false)) = some (r1,r2,r3,r4):=by rw [if_pos rfl] at H; exact H
    clear H
    have H:=H1
    clear H1
    simp only [Option.some.injEq,Prod.mk.injEq] at H
    obtain ⟨rfl,rfl,rfl,rfl⟩:=H
    have hcz7_0 : wc.cell? ⟨gb383,0,none⟩ = some (.bool false):=bc_ BK383 0
    have hcz7_1 : wc.cell? ⟨gb383,1,none⟩ = some (.slice none 0 0):=bc_ BK383 1
    have hcz7_2 : wc.cell? ⟨gb383,2,none⟩ = some (.slice none 0 0):=bc_ BK383 2
    have hfz7_0:=blk_frozen BK383.out 0
    have hfz7_1:=blk_frozen BK383.out 1
    have hfz7_2:=blk_frozen BK383.out 2
    go_wp2
    refine bodyPost_ret (results_ct rfl _ _ gb383 50 #[.bool false,.slice none 0 0,.slice none 0 0] (0,0) _ rfl (by (with_reducible repeat (first | apply kn_ | apply kd_ | apply ka_)); refine blk_put (cs:=#[.bool false,.slice none 0 0,.slice none 0 0]) ?_ 2 _ rfl; (with_reducible repeat (first | apply kn_ | apply kd_ | apply ka_)); refine blk_put (cs:=#[.bool false,.slice none 0 0,.slice none 0 0]) ?_ 1 _ rfl; (with_reducible repeat (first | apply kn_ | apply kd_ | apply ka_)); refine blk_put (cs:=#[.bool false,.slice none 0 0,.slice none 0 0]) ?_ 0 _ rfl; (with_reducible repeat (first | apply kn_ | apply kd_ | apply ka_)); exact BK383.out) Try.underlying50 rfl (by kernel_rfl)) rfl ?_
    exact ⟨_,_,eh_,Kd.R_V (base:=0) (by first | exact Kd.R_nil _ _ _ _ _ | exact Kd.N_nil _ _ _ _ _ | exact Kd.V_nil _ _ _ _ _ | exact Kd.Q_nil _ _ _ _ _ | exact Kd.S_nil _ _ _ _ _),Kd.R_V (base:=0) (by first | exact Kd.R_nil _ _ _ _ _ | exact Kd.N_nil _ _ _ _ _ | exact Kd.V_nil _ _ _ _ _ | exact Kd.Q_nil _ _ _ _ _ | exact Kd.S_nil _ _ _ _ _),bh_⟩
   replace c6:=Bool.eq_false_iff.mpr c6
   subst c6
   have H1 : ((pattern_Split.f kj2 a0).bind fun bt385=>((ratio_Dyad.f kj2 ((a0 / 9223372036854775808) == 1) bt385.1 bt385.2).bind fun bt387=>(some (bt387.1,bt387.2.1,bt387.2.2.1,true)))) = some (r1,r2,r3,r4):=by rw [if_neg (show ¬ (false = true) by decide)] at H; exact H
   clear H
   have H:=H1
   clear H1
   replace H:=Option.bind_eq_some_iff.mp H
   obtain ⟨⟨t385,t386⟩,A80,H⟩:=H
   replace H : ((ratio_Dyad.f kj2 ((a0 / 9223372036854775808) == 1) t385 t386).bind fun bt387=>(some (bt387.1,bt387.2.1,bt387.2.2.1,true))) = some (r1,r2,r3,r4):=H
   have A8:=Aside0.mk A80
   clear A80
   replace H:=Option.bind_eq_some_iff.mp H
   obtain ⟨⟨t387,t388,t391,t394⟩,A90,H⟩:=H
   replace H : (some (t387,t388,t391,true)) = some (r1,r2,r3,r4):=H
   have A9:=Aside0.mk A90
   clear A90
   simp only [Option.some.injEq,Prod.mk.injEq] at H
   obtain ⟨rfl,rfl,rfl,rfl⟩:=H
   go_wp2_with (first | ((with_reducible refine gc_ 51 rfl ?_); refine gM_ (some 16) Try.func51 [.int .u64 a0] ?_; (with_reducible refine (pattern_Split.calls kj2 a0 t385 t386 _ A8.out).mono ?_); rintro e w' ⟨rfl,⟨nd,rfl⟩⟩; refine ⟨_,rfl,?_⟩; (try (rw [drewN_self wc]; generalize hq_ : World.drewN wc _ = wc; have n0_ : Aside0 (wc.heap[gb383]? = some (.cells #[.bool false,.slice none 0 0,.slice none 0 0] 50 (0,0))):=⟨by rw [← hq_]; exact (by (with_reducible repeat (first | apply kn_ | apply kd_ | apply ka_)); exact BK383.out)⟩; have n1_ : Aside0 (Below w.heap.size w wc):=⟨by rw [← hq_]; exact bh_⟩; clear BK383 HB hq_; have BK383:=n0_; have HB:=n1_; clear n0_ n1_))) | ((with_reducible refine gc_ 35 rfl ?_); refine gM_ (some 25) Try.func35 [.bool ((a0 / 9223372036854775808) == 1),.int .u64 t385,.int .i64 t386] ?_; (with_reducible refine (ratio_Dyad.calls kj2 ((a0 / 9223372036854775808) == 1) t385 t386 t387 t388 t391 t394 _ A9.out).mono ?_); rintro e w10 ⟨v389,v392,rfl,ho0,ho1,hb⟩; refine ⟨_,rfl,?_⟩; have HO390:=Aside0.mk (Kd.V_lower (Kd.V_mono (ok':=fun k_=>(w.heap.size ≤ k_) ∧ k_ ≠ gb383) ho0 (fun k_ hk_=>⟨(Nat.le_trans (below_size bh_) hk_),(fb_ BK383 k_ hk_)⟩)) (below_size bh_)); have HO393:=Aside0.mk (Kd.V_lower (Kd.V_mono (ok':=fun k_=>(w.heap.size ≤ k_) ∧ k_ ≠ gb383) ho1 (fun k_ hk_=>⟨(Nat.le_trans (below_size bh_) hk_),(fb_ BK383 k_ hk_)⟩)) (below_size bh_)); replace BK383:=kb_ BK383 hb; replace HB:=bq_ hb) | ((with_reducible refine gate_dst (N:=6) rfl ?_); refine box_event ?hg (N:=6) ?hd (cs:=#[.bool false,.slice none 0 0,.slice none 0 0]) (t:=50) ?hr ?_; (case hd=>rfl); (case hg=>rfl); (case hr=>first | (go_simp; done) | (go_simp; rfl)); intro gb395 hg w11 hbox hb; have n0_:=ve_ HO390 hg hb; have n1_:=ve_ HO393 hg hb; have n2_:=kb_ BK383 hb; have n3_:=bq_ hb; have n4_:=Aside0.mk (hbox); have n6_:=bz_ hg; have n7_:=Aside0.mk ((by rw [hg]; exact Nat.ne_of_lt (blk_lt (g:=gb383) (o:=.cells #[.bool false,.slice none 0 0,.slice none 0 0] 50 (0,0)) (by (with_reducible repeat (first | apply kn_ | apply kd_ | apply ka_)); exact BK383.out)) : gb383 ≠ gb395)); have n8_:=Aside0.mk ((by rw [hg]; exact Nat.ne_of_gt (blk_lt (g:=gb383) (o:=.cells #[.bool false,.slice none 0 0,.slice none 0 0] 50 (0,0)) (by (with_reducible repeat (first | apply kn_ | apply kd_ | apply ka_)); exact BK383.out)) : gb395 ≠ gb383)); clear HO390 HO393 BK383 HB; have HO390:=n0_; have HO393:=n1_; have BK383:=n2_; have HB:=n3_; have BK395:=n4_; have GE395:=n6_; have NB383_395:=n7_; have NB395_383:=n8_; clear n0_ n1_ n2_ n3_ n4_ n6_ n7_ n8_; clear hb hbox hg; have hnb12:=NB395_383.out; have hnc12:=NB383_395.out; have hcz13_0 : w11.cell? ⟨gb395,0,none⟩ = some (.bool false):=bc_ BK395 0; have hcz13_1 : w11.cell? ⟨gb395,1,none⟩ = some (.slice none 0 0):=bc_ BK395 1; have hcz13_2 : w11.cell? ⟨gb395,2,none⟩ = some (.slice none 0 0):=bc_ BK395 2; have hfz13_0:=blk_frozen BK395.out 0; have hfz13_1:=blk_frozen BK395.out 1; have hfz13_2:=blk_frozen BK395.out 2; obtain ⟨Ao14,co14,eo14⟩:=Kd.V_slice HO390.out; subst eo14; obtain ⟨Ao15,co15,eo15⟩:=Kd.V_slice HO393.out; subst eo15; have hcz16_0 : w11.cell? ⟨gb383,0,none⟩ = some (.bool false):=bc_ BK383 0; have hcz16_1 : w11.cell? ⟨gb383,1,none⟩ = some (.slice none 0 0):=bc_ BK383 1; have hcz16_2 : w11.cell? ⟨gb383,2,none⟩ = some (.slice none 0 0):=bc_ BK383 2; have hfz16_0:=blk_frozen BK383.out 0; have hfz16_1:=blk_frozen BK383.out 1; have hfz16_2:=blk_frozen BK383.out 2))
   refine bodyPost_ret (results_ct rfl _ _ gb383 50 #[.bool t387,.slice Ao14 t388.length co14,.slice Ao15 t391.length co15] (0,0) _ rfl (by (with_reducible repeat (first | apply kn_ | apply kd_ | apply ka_)); refine blk_put (cs:=#[.bool t387,.slice Ao14 t388.length co14,.slice none 0 0]) ?_ 2 _ rfl; (with_reducible repeat (first | apply kn_ | apply kd_ | apply ka_)); refine blk_put (cs:=#[.bool t387,.slice none 0 0,.slice none 0 0]) ?_ 1 _ rfl; (with_reducible repeat (first | apply kn_ | apply kd_ | apply ka_)); refine blk_put (cs:=#[.bool false,.slice none 0 0,.slice none 0 0]) ?_ 0 _ rfl; (with_reducible repeat (first | apply kn_ | apply kd_ | apply ka_)); refine blk_far ?_ NB383_395.out _; (with_reducible repeat (first | apply kn_ | apply kd_ | apply ka_)); refine blk_far ?_ NB383_395.out _; (with_reducible repeat (first | apply kn_ | apply kd_ | apply ka_)); refine blk_far ?_ NB383_395.out _; (with_reducible repeat (first | apply kn_ | apply kd_ | apply ka_)); exact BK383.out) Try.underlying50 rfl (by kernel_rfl)) rfl ?_
   exact ⟨_,_,eh_,by (with_reducible repeat (first | apply va_ | apply vn_ | apply vd_)); exact Kd.V_mono (Kd.V_far (p:=⟨gb383,2,none⟩) (Kd.V_far (p:=⟨gb383,1,none⟩) (Kd.V_far (p:=⟨gb383,0,none⟩) (Kd.V_far (p:=⟨gb395,2,none⟩) (Kd.V_far (p:=⟨gb395,1,none⟩) (Kd.V_far (p:=⟨gb395,0,none⟩) (Kd.V_mono (Kd.V_mono HO390.out (fun k_ hk=>(⟨hk,hk.2⟩ : _ ∧ k_ ≠ gb395))) (fun k_ hk=>(⟨hk,hk.1.1.2⟩ : _ ∧ k_ ≠ gb383))) (fun _ hk=>hk.1.2) (.bool t387)) (fun _ hk=>hk.1.2) (.slice Ao14 t388.length co14)) (fun _ hk=>hk.1.2) (.slice Ao15 t391.length co15)) (fun _ hk=>hk.2) (.bool t387)) (fun _ hk=>hk.2) (.slice Ao14 t388.length co14)) (fun _ hk=>hk.2) (.slice Ao15 t391.length co15)) (fun _ hk=>hk.1.1.1.1),by (with_reducible repeat (first | apply va_ | apply vn_ | apply vd_)); exact Kd.V_mono (Kd.V_far (p:=⟨gb383,2,none⟩) (Kd.V_far (p:=⟨gb383,1,none⟩) (Kd.V_far (p:=⟨gb383,0,none⟩) (Kd.V_far (p:=⟨gb395,2,none⟩) (Kd.V_far (p:=⟨gb395,1,none⟩) (Kd.V_far (p:=⟨gb395,0,none⟩) (Kd.V_mono (Kd.V_mono HO393.out (fun k_ hk=>(⟨hk,hk.2⟩ : _ ∧ k_ ≠ gb395))) (fun k_ hk=>(⟨hk,hk.1.1.2⟩ : _ ∧ k_ ≠ gb383))) (fun _ hk=>hk.1.2) (.bool t387)) (fun _ hk=>hk.1.2) (.slice Ao14 t388.length co14)) (fun _ hk=>hk.1.2) (.slice Ao15 t391.length co15)) (fun _ hk=>hk.2) (.bool t387)) (fun _ hk=>hk.2) (.slice Ao14 t388.length co14)) (fun _ hk=>hk.2) (.slice Ao15 t391.length co15)) (fun _ hk=>hk.1.1.1.1),bh_⟩

end Go.Proofs.Ytfglpaaeipblcaa.P
