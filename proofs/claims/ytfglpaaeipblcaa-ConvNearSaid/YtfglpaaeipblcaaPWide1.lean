/- Walks of one package: what each function returns, wherever the Lean function beside it has an answer. -/
import Derived.Test.YtfglpaaeipblcaaP0
import Derived.Test.YtfglpaaeipblcaaPEq1
import Derived.Test.YtfglpaaeipblcaaPBits1
namespace Go.Proofs.Ytfglpaaeipblcaa.P
open Go.RowKit Go.Proofs.YtfglpaaeipblcaaW.PrintWords Go.Proofs.YtfglpaaeipblcaaW.PrintLast Go.Proofs.YtfglpaaeipblcaaW.PrintMore
attribute [local go_sem] max2_int min2_int max_two min_two max_three min_three max_four min_four   -- for this text's walks alone
set_option linter.unusedVariables false
set_option linter.unusedSimpArgs false

attribute [local go_sem high] eqA40
/-! ### wide_U128_Len: function 57 -/
def wide_U128_Len.f (a0_0 : Int) (a0_1 : Int) : Option (Int):=if a0_0 > 0 then ((bits_Len64.f a0_0).bind fun t102=>(some (wrap64 (64 + t102)))) else ((bits_Len64.f a0_1).bind fun t103=>(some t103))
set_option maxHeartbeats 8000000 in
set_option maxRecDepth 100000 in
theorem wide_U128_Len.calls (a0_0 : Int) (a0_1 : Int) (r : Int) (w : World) (h : wide_U128_Len.f a0_0 a0_1 = some r) :
  Calls Try.prog 57 #[.agg #[.int .u64 a0_0,.int .u64 a0_1]] w fun e w'=>e = .returned (.int .i64 r) ∧ Below w.heap.size w w':=by
 have hu40:=Try.underlying40
 have HB:=Aside0.mk (Below.refl w.heap.size w)
 have H : (if a0_0 > 0 then ((bits_Len64.f a0_0).bind fun t102=>(some (wrap64 (64 + t102)))) else ((bits_Len64.f a0_1).bind fun t103=>(some t103))) = some r:=h
 clear h
 by_cases c2 : a0_0 > 0
 case neg =>
  rw [if_neg c2] at H
  have c2b0 : decide (0 < a0_0) = false:=decide_eq_false c2
  clear c2
  replace H:=Option.bind_eq_some_iff.mp H
  obtain ⟨t103,A60,H⟩:=H
  replace H : (some t103) = some r:=H
  have A6:=Aside0.mk A60
  clear A60
  obtain rfl:=Option.some.inj H
  go_enter Try.func57,Try.ntmps57
  go_wp2_with (first | ((with_reducible refine gate_dst (N:=1) rfl ?_); refine box_event ?hg (N:=1) ?hd (cs:=#[.int .u64 a0_0,.int .u64 a0_1]) (t:=40) ?hr ?_; (case hd=>rfl); (case hg=>rfl); (case hr=>first | (go_simp; done) | (go_simp; rfl)); intro gb101 hg w7 hbox hb; have n0_:=bq_ hb; have n1_:=Aside0.mk (hbox); have n3_:=bz_ hg; clear HB; have HB:=n0_; have BK101:=n1_; have GE101:=n3_; clear n0_ n1_ n3_; clear hb hbox hg; have hcz8_0 : w7.cell? ⟨gb101,0,none⟩ = some (.int .u64 a0_0):=bc_ BK101 0; have hcz8_1 : w7.cell? ⟨gb101,1,none⟩ = some (.int .u64 a0_1):=bc_ BK101 1; have hfz8_0:=blk_frozen BK101.out 0; have hfz8_1:=blk_frozen BK101.out 1) | ((with_reducible refine gc_ 86 rfl ?_); refine gM_ (some 12) Try.func86 [.int .u64 a0_1] ?_; (with_reducible refine (bits_Len64.calls a0_1 t103 _ A6.out).mono ?_); rintro e w' ⟨rfl,⟨nd,rfl⟩⟩; refine ⟨_,rfl,?_⟩))
  go_ret
  exact ⟨eh_,bh_⟩
 rw [if_pos c2] at H
 have c2b0 : decide (0 < a0_0) = true:=decide_eq_true c2
 clear c2
 replace H:=Option.bind_eq_some_iff.mp H
 obtain ⟨t102,A30,H⟩:=H
 replace H : (some (wrap64 (64 + t102))) = some r:=H
 have A3:=Aside0.mk A30
 clear A30
 obtain rfl:=Option.some.inj H
 go_enter Try.func57,Try.ntmps57
 go_wp2_with (first | ((with_reducible refine gate_dst (N:=1) rfl ?_); refine box_event ?hg (N:=1) ?hd (cs:=#[.int .u64 a0_0,.int .u64 a0_1]) (t:=40) ?hr ?_; (case hd=>rfl); (case hg=>rfl); (case hr=>first | (go_simp; done) | (go_simp; rfl)); intro gb101 hg w4 hbox hb; have n0_:=bq_ hb; have n1_:=Aside0.mk (hbox); have n3_:=bz_ hg; clear HB; have HB:=n0_; have BK101:=n1_; have GE101:=n3_; clear n0_ n1_ n3_; clear hb hbox hg; have hcz5_0 : w4.cell? ⟨gb101,0,none⟩ = some (.int .u64 a0_0):=bc_ BK101 0; have hcz5_1 : w4.cell? ⟨gb101,1,none⟩ = some (.int .u64 a0_1):=bc_ BK101 1; have hfz5_0:=blk_frozen BK101.out 0; have hfz5_1:=blk_frozen BK101.out 1) | ((with_reducible refine gc_ 86 rfl ?_); refine gM_ (some 8) Try.func86 [.int .u64 a0_0] ?_; (with_reducible refine (bits_Len64.calls a0_0 t102 _ A3.out).mono ?_); rintro e w' ⟨rfl,⟨nd,rfl⟩⟩; refine ⟨_,rfl,?_⟩))
 go_ret
 exact ⟨eh_,bh_⟩

/-! ### wide_U128_Shl: function 83 -/
def wide_U128_Shl.l0 : Nat → Int → Int → Int → Option (Int × Int)
 | 0,_,_,_=>none
 | k + 1,x1,x105000,x105001=>if x1 ≥ 64 then (if (x105001 == 0) = true then (some (x105001,0)) else (wide_U128_Shl.l0 k (wrap64 (x1 - 64)) x105001 0)) else (if x1 ≤ 0 then (some (x105000,x105001)) else (if 0 ≤ x1 then (if 0 ≤ (wrap64 (64 - x1)) then (some (Go.bits .or .u64 (shl .u64 x105000 x1) (shr .u64 x105001 (wrap64 (64 - x1))),shl .u64 x105001 x1)) else (none)) else (none)))
def wide_U128_Shl.f (k : Nat) (a0_0 : Int) (a0_1 : Int) (a1 : Int) : Option (Int × Int):=wide_U128_Shl.l0 k a1 a0_0 a0_1
theorem wide_U128_Shl.mono_l : ∀ k,(∀ y0 y1 y2,LeO (wide_U128_Shl.l0 k y0 y1 y2) (wide_U128_Shl.l0 (k + 1) y0 y1 y2))
 | 0=>fun _ _ _ r h=>by simp [wide_U128_Shl.l0] at h
 | k + 1=>by
  have ih0:=wide_U128_Shl.mono_l k
  ·
   intro y0 y1 y2
   unfold wide_U128_Shl.l0
   repeat' with_reducible first | exact ih0 _ _ _ | exact LeO.refl _ | exact LeO.none _ | refine LeO.ite ?_ ?_ | refine LeO.bind ?_ (fun _=>?_)
theorem wide_U128_Shl.mono : ∀ a0 a1 a2 k,LeO (wide_U128_Shl.f k a0 a1 a2) (wide_U128_Shl.f (k + 1) a0 a1 a2):=by
 intro a0 a1 a2 k
 have ih0:=wide_U128_Shl.mono_l k
 unfold wide_U128_Shl.f
 repeat' with_reducible first | exact ih0 _ _ _ | exact LeO.refl _ | exact LeO.none _ | refine LeO.ite ?_ ?_ | refine LeO.bind ?_ (fun _=>?_)
def wide_U128_Shl.T8 : Bool × List (List Nat × List Nat):=(true,[([],[]),([0],[0]),([],[]),([1,2],[1,2]),([],[]),([4],[4]),([],[]),([6],[6]),([5,7],[5,7]),([3,8],[3,8]),([],[]),([10],[10]),([],[]),([11,12],[11,12]),([9,13],[9,13]),([14,0,1,2,3,4,5,6,7,8,9,10,11,12,13,14],[14])])
def wide_U128_Shl.B8 : List Nat:=[0,1,0,7,0,16,0,64,240,511,0,1024,0,7168,16383,32767]
theorem wide_U128_Shl.tab8 : rtab .any (opsOf Try.f83 8) = wide_U128_Shl.T8:=by kernel_rfl
theorem wide_U128_Shl.bits8 : waitsOk wide_U128_Shl.T8.2 wide_U128_Shl.B8 = true:=by kernel_rfl
set_option maxHeartbeats 8000000 in
set_option maxRecDepth 100000 in
theorem wide_U128_Shl.calls (k : Nat) (a0_0 : Int) (a0_1 : Int) (a1 : Int) (r1 : Int) (r2 : Int) (w : World) (h : wide_U128_Shl.f k a0_0 a0_1 a1 = some (r1,r2)) :
  Calls Try.prog 83 #[.agg #[.int .u64 a0_0,.int .u64 a0_1],.int .i64 a1] w fun e w'=>e = .returned (.agg #[.int .u64 r1,.int .u64 r2]) ∧ Below w.heap.size w w':=by
 have hu40:=Try.underlying40
 have HB:=Aside0.mk (Below.refl w.heap.size w)
 have H : (wide_U128_Shl.l0 k a1 a0_0 a0_1) = some (r1,r2):=h
 clear h
 have H':=Aside0.mk H
 clear H
 go_enter Try.func83,Try.ntmps83
 go_wp2_with (first | ((with_reducible refine gate_dst (N:=2) rfl ?_); refine box_event ?hg (N:=2) ?hd (cs:=#[.int .u64 a0_0,.int .u64 a0_1]) (t:=40) ?hr ?_; (case hd=>rfl); (case hg=>rfl); (case hr=>first | (go_simp; done) | (go_simp; rfl)); intro gb104 hg w3 hbox hb; have n0_:=bq_ hb; have n1_:=Aside0.mk (hbox); have n3_:=bz_ hg; clear HB; have HB:=n0_; have BK104:=n1_; have GE104:=n3_; clear n0_ n1_ n3_; clear hb hbox hg) | ((with_reducible refine gate_dst (N:=4) rfl ?_); refine box_event ?hg (N:=4) ?hd (cs:=#[.int .u64 0,.int .u64 0]) (t:=40) ?hr ?_; (case hd=>rfl); (case hg=>rfl); (case hr=>first | (go_simp; done) | (go_simp; rfl)); intro gb105 hg w4 hbox hb; have n0_:=kb_ BK104 hb; have n1_:=bq_ hb; have n2_:=Aside0.mk (hbox); have n4_:=bz_ hg; have n5_:=Aside0.mk ((by rw [hg]; exact Nat.ne_of_lt (blk_lt (g:=gb104) (o:=.cells #[.int .u64 a0_0,.int .u64 a0_1] 40 (0,0)) (by (with_reducible repeat (first | apply kn_ | apply kd_ | apply ka_)); exact BK104.out)) : gb104 ≠ gb105)); have n6_:=Aside0.mk ((by rw [hg]; exact Nat.ne_of_gt (blk_lt (g:=gb104) (o:=.cells #[.int .u64 a0_0,.int .u64 a0_1] 40 (0,0)) (by (with_reducible repeat (first | apply kn_ | apply kd_ | apply ka_)); exact BK104.out)) : gb105 ≠ gb104)); clear BK104 HB; have BK104:=n0_; have HB:=n1_; have BK105:=n2_; have GE105:=n4_; have NB104_105:=n5_; have NB105_104:=n6_; clear n0_ n1_ n2_ n4_ n5_ n6_; clear hb hbox hg))
 (try simp only [Act.put,p1_,p2_,p3_])
 go_loopg [1] k (fun kq v1 w'=>∃ (x1_1 : Int) (x105000_1 : Int) (x105001_1 : Int) (x106000_1 : Int) (x106001_1 : Int),v1 = .int .i64 x1_1 ∧ Aside0 (wide_U128_Shl.l0 kq x1_1 x105000_1 x105001_1 = some (r1,r2)) ∧ Aside0 (kq ≤ k) ∧ Aside0 (w'.heap[gb104]? = some (.cells #[.int .u64 x105000_1,.int .u64 x105001_1] 40 (0,0))) ∧ Aside0 (w'.heap[gb105]? = some (.cells #[.int .u64 x106000_1,.int .u64 x106001_1] 40 (0,0))) ∧ Aside0 (Below w.heap.size w w'))
 case atStart=>exact ⟨(a1),(a0_0),(a0_1),(0),(0),(sh_),H',⟨Nat.le_refl _⟩,⟨by (with_reducible repeat (first | apply kn_ | apply kd_ | apply ka_)); exact BK104.out⟩,⟨by (with_reducible repeat (first | apply kn_ | apply kd_ | apply ka_)); exact BK105.out⟩,⟨bh_⟩⟩
 case round =>
  clear H'
  try clear p2
  obtain ⟨x1_1,x105000_1,x105001_1,x106000_1,x106001_1,rfl,HA,HK1,BK104,BK105,HB⟩:=hrel
  cases gk with
  | zero=>exact absurd HA.out (by simp [wide_U128_Shl.l0])
  | succ k1 =>
   have H:=HA.out
   clear HA
   simp only [wide_U128_Shl.l0] at H
   by_cases c5 : x1_1 ≥ 64
   case pos =>
    rw [if_pos c5] at H
    have c5b0 : decide (64 ≤ x1_1) = true:=decide_eq_true c5
    clear c5
    by_cases c6 : (x105001_1 == 0) = true
    case neg =>
     rw [if_neg c6] at H
     have c6b0 : (x105001_1 == 0) = false:=by simpa using c6
     (try (have c6b1 : decide (x105001_1 = 0) = false:=by simpa using c6))
     (try (have c6b2 : (x105001_1 == 0) = false:=by simpa using c6))
     (try (have c6b3 : ¬ (x105001_1 = 0):=by simpa using c6))
     clear c6
     have H':=Aside0.mk H
     clear H
     have hnb10:=NB104_105.out
     have hnc10:=NB105_104.out
     have hcz11_0 : wr.cell? ⟨gb104,0,none⟩ = some (.int .u64 x105000_1):=bc_ BK104 0
     have hcz11_1 : wr.cell? ⟨gb104,1,none⟩ = some (.int .u64 x105001_1):=bc_ BK104 1
     have hfz11_0:=blk_frozen BK104.out 0
     have hfz11_1:=blk_frozen BK104.out 1
     go_wp2
     go_roundg k1
     case measure=>have:=HK1.out; omega
     case rel=>exact ⟨(wrap64 (x1_1 - 64)),(x105001_1),(0),(x106000_1),(x106001_1),(sh_),H',⟨by have:=HK1.out; omega⟩,⟨by (with_reducible repeat (first | apply kn_ | apply kd_ | apply ka_)); refine blk_put (cs:=#[.int .u64 x105001_1,.int .u64 x105001_1]) ?_ 1 _ rfl; (with_reducible repeat (first | apply kn_ | apply kd_ | apply ka_)); refine blk_put (cs:=#[.int .u64 x105000_1,.int .u64 x105001_1]) ?_ 0 _ rfl; (with_reducible repeat (first | apply kn_ | apply kd_ | apply ka_)); exact BK104.out⟩,⟨by (with_reducible repeat (first | apply kn_ | apply kd_ | apply ka_)); refine blk_far ?_ NB105_104.out _; (with_reducible repeat (first | apply kn_ | apply kd_ | apply ka_)); refine blk_far ?_ NB105_104.out _; (with_reducible repeat (first | apply kn_ | apply kd_ | apply ka_)); exact BK105.out⟩,⟨bh_⟩⟩
    rw [if_pos c6] at H
    have c6b0 : (x105001_1 == 0) = true:=c6
    (try (have c6b1 : decide (x105001_1 = 0) = true:=by simpa using c6))
    (try (have c6b2 : (x105001_1 == 0) = true:=by simpa using c6))
    clear c6
    simp only [Option.some.injEq,Prod.mk.injEq] at H
    obtain ⟨rfl,rfl⟩:=H
    have hnb7:=NB104_105.out
    have hnc7:=NB105_104.out
    have hcz8_0 : wr.cell? ⟨gb104,0,none⟩ = some (.int .u64 x105000_1):=bc_ BK104 0
    have hcz8_1 : wr.cell? ⟨gb104,1,none⟩ = some (.int .u64 x105001_1):=bc_ BK104 1
    have hfz8_0:=blk_frozen BK104.out 0
    have hfz8_1:=blk_frozen BK104.out 1
    have hcz9_0 : wr.cell? ⟨gb105,0,none⟩ = some (.int .u64 x106000_1):=bc_ BK105 0
    have hcz9_1 : wr.cell? ⟨gb105,1,none⟩ = some (.int .u64 x106001_1):=bc_ BK105 1
    have hfz9_0:=blk_frozen BK105.out 0
    have hfz9_1:=blk_frozen BK105.out 1
    go_wp2
    refine bodyPost_ret (results_cell_row rfl _ _ gb105 40 #[.int .u64 x105001_1,.int .u64 0] (0,0) _ rfl (by (with_reducible repeat (first | apply kn_ | apply kd_ | apply ka_)); refine blk_put (cs:=#[.int .u64 x105001_1,.int .u64 x106001_1]) ?_ 1 _ rfl; (with_reducible repeat (first | apply kn_ | apply kd_ | apply ka_)); refine blk_put (cs:=#[.int .u64 x106000_1,.int .u64 x106001_1]) ?_ 0 _ rfl; (with_reducible repeat (first | apply kn_ | apply kd_ | apply ka_)); refine blk_far ?_ NB105_104.out _; (with_reducible repeat (first | apply kn_ | apply kd_ | apply ka_)); refine blk_far ?_ NB105_104.out _; (with_reducible repeat (first | apply kn_ | apply kd_ | apply ka_)); exact BK105.out) Try.underlying40 rfl (by kernel_rfl)) rfl ?_
    exact ⟨eh_,bh_⟩
   rw [if_neg c5] at H
   have c5b0 : decide (64 ≤ x1_1) = false:=decide_eq_false c5
   clear c5
   by_cases c12 : x1_1 ≤ 0
   case pos =>
    rw [if_pos c12] at H
    have c12b0 : decide (x1_1 ≤ 0) = true:=decide_eq_true c12
    clear c12
    simp only [Option.some.injEq,Prod.mk.injEq] at H
    obtain ⟨rfl,rfl⟩:=H
    have hnb13:=NB104_105.out
    have hnc13:=NB105_104.out
    have hcz14_0 : wr.cell? ⟨gb104,0,none⟩ = some (.int .u64 x105000_1):=bc_ BK104 0
    have hcz14_1 : wr.cell? ⟨gb104,1,none⟩ = some (.int .u64 x105001_1):=bc_ BK104 1
    have hfz14_0:=blk_frozen BK104.out 0
    have hfz14_1:=blk_frozen BK104.out 1
    have hcz15_0 : wr.cell? ⟨gb105,0,none⟩ = some (.int .u64 x106000_1):=bc_ BK105 0
    have hcz15_1 : wr.cell? ⟨gb105,1,none⟩ = some (.int .u64 x106001_1):=bc_ BK105 1
    have hfz15_0:=blk_frozen BK105.out 0
    have hfz15_1:=blk_frozen BK105.out 1
    go_wp2
    refine bodyPost_ret (results_cell_row rfl _ _ gb105 40 #[.int .u64 x105000_1,.int .u64 x105001_1] (0,0) _ rfl (by (with_reducible repeat (first | apply kn_ | apply kd_ | apply ka_)); refine blk_put (cs:=#[.int .u64 x105000_1,.int .u64 x106001_1]) ?_ 1 _ rfl; (with_reducible repeat (first | apply kn_ | apply kd_ | apply ka_)); refine blk_put (cs:=#[.int .u64 x106000_1,.int .u64 x106001_1]) ?_ 0 _ rfl; (with_reducible repeat (first | apply kn_ | apply kd_ | apply ka_)); exact BK105.out) Try.underlying40 rfl (by kernel_rfl)) rfl ?_
    exact ⟨eh_,bh_⟩
   rw [if_neg c12] at H
   have c12b0 : decide (x1_1 ≤ 0) = false:=decide_eq_false c12
   clear c12
   by_cases c16 : 0 ≤ x1_1
   case neg =>
    rw [if_neg c16] at H
    exact absurd H (by simp)
   rw [if_pos c16] at H
   have c16b0:=eq_true c16
   have c16b1 : decide (0 ≤ x1_1) = true:=decide_eq_true c16
   clear c16
   obtain ⟨ji17,hji17⟩ : ∃ j_ : Int,(shl .u64 x105000_1 x1_1) = j_:=⟨_,rfl⟩
   replace H : (if 0 ≤ (wrap64 (64 - x1_1)) then (some (Go.bits .or .u64 (ji17) (shr .u64 x105001_1 (wrap64 (64 - x1_1))),shl .u64 x105001_1 x1_1)) else (none)) = some (r1,r2):=by first | (rw [hji17] at H; exact H) | (simp only [hji17] at H ⊢; exact H)
   have hji17_ : (IntKind.u64.wrap (x105000_1 * 2 ^ min x1_1.toNat 64)) = ji17:=hji17
   have hji17z : x1_1 ≤ 64 → (IntKind.u64.wrap (x105000_1 * 2 ^ x1_1.toNat)) = ji17:=shl_small hji17
   obtain ⟨ji18,hji18⟩ : ∃ j_ : Int,(wrap64 (64 - x1_1)) = j_:=⟨_,rfl⟩
   replace H : (if 0 ≤ (ji18) then (some (Go.bits .or .u64 (ji17) (shr .u64 x105001_1 (ji18)),shl .u64 x105001_1 x1_1)) else (none)) = some (r1,r2):=by first | (rw [hji18] at H; exact H) | (simp only [hji18] at H ⊢; exact H)
   have hji18w : (IntKind.i64.wrap (64 - x1_1)) = ji18:=(i64_w _).trans hji18
   by_cases c19 : 0 ≤ (ji18)
   case neg =>
    rw [if_neg c19] at H
    exact absurd H (by simp)
   rw [if_pos c19] at H
   have c19b0:=eq_true c19
   have c19b1 : decide (0 ≤ (ji18)) = true:=decide_eq_true c19
   clear c19
   obtain ⟨ji20,hji20⟩ : ∃ j_ : Int,(shr .u64 x105001_1 (ji18)) = j_:=⟨_,rfl⟩
   replace H : (some (Go.bits .or .u64 (ji17) (ji20),shl .u64 x105001_1 x1_1)) = some (r1,r2):=by first | (rw [hji20] at H; exact H) | (simp only [hji20] at H ⊢; exact H)
   have hji20_ : (x105001_1 / 2 ^ min (ji18).toNat 64) = ji20:=hji20
   have hji20z : (ji18) ≤ 64 → (x105001_1 / 2 ^ (ji18).toNat) = ji20:=shr_small hji20
   have c21b0:=eq_true (of_decide_eq_true (by first | (with_reducible assumption) | assumption) : 0 ≤ x1_1)
   obtain ⟨ji22,hji22⟩ : ∃ j_ : Int,(shl .u64 x105001_1 x1_1) = j_:=⟨_,rfl⟩
   replace H : (some (Go.bits .or .u64 (ji17) (ji20),ji22)) = some (r1,r2):=by first | (rw [hji22] at H; exact H) | (simp only [hji22] at H ⊢; exact H)
   have hji22_ : (IntKind.u64.wrap (x105001_1 * 2 ^ min x1_1.toNat 64)) = ji22:=hji22
   have hji22z : x1_1 ≤ 64 → (IntKind.u64.wrap (x105001_1 * 2 ^ x1_1.toNat)) = ji22:=shl_small hji22
   simp only [Option.some.injEq,Prod.mk.injEq] at H
   obtain ⟨rfl,rfl⟩:=H
   try go_wp2
   have n0_:=Aside0.mk (blk_drew BK104.out)
   have n1_:=Aside0.mk (blk_drew BK105.out)
   have n2_:=Aside0.mk (below_drew1 HB.out)
   clear BK104
   clear BK105
   clear HB
   have BK104:=n0_
   have BK105:=n1_
   have HB:=n2_
   clear n0_ n1_ n2_
   refine start_ (n:=16) (S:=fun w'=>w'.cell? ⟨gb104,0,none⟩ = some (.int .u64 x105000_1) ∧ w'.cell? ⟨gb104,1,none⟩ = some (.int .u64 x105001_1)) (ds:=[]) #[false,false,false,false,false,false,false,false,false,false,false,false,false,false,false,false] (by kernel_rfl) rfl rfl ⟨bc_ BK104 0,bc_ BK104 1⟩ (fun hHeld=>?_); refine with_tabW wide_U128_Shl.tab8 wide_U128_Shl.bits8 (fun HT_ HW_=>?_)
   generalize wr.drew = w23 at BK104 BK105 HB hHeld ⊢
   refine pure_ (i:=0) (N:=some 19) (v:=?_) (a':=?_) #[true,false,false,false,false,false,false,false,false,false,false,false,false,false,false,false] rfl rfl (any_of HT_.out (by kernel_rfl)) (fun _ _ _ h=>h) (Or.inl ⟨by rfl,?_⟩) ?_ ?_
   rotate_left
   ·
    intro w'
    go_simp
    with_reducible rfl
   rotate_left
   ·
    simp only [Act.put,p1_,p2_,p3_,i64_w,i32_w]
    rfl
   refine pure_ (i:=2) (N:=some 21) (v:=?_) (a':=?_) #[true,false,true,false,false,false,false,false,false,false,false,false,false,false,false,false] rfl rfl (any_of HT_.out (by kernel_rfl)) (fun _ _ _ h=>h) (Or.inl ⟨by rfl,?_⟩) ?_ ?_
   rotate_left
   ·
    intro w'
    go_simp
    with_reducible rfl
   rotate_left
   ·
    simp only [Act.put,p1_,p2_,p3_,i64_w,i32_w]
    rfl
   refine pure_ (i:=4) (N:=some 23) (v:=?_) (a':=?_) #[true,false,true,false,true,false,false,false,false,false,false,false,false,false,false,false] rfl rfl (any_of HT_.out (by kernel_rfl)) (fun _ _ _ h=>h) (Or.inl ⟨by rfl,?_⟩) ?_ ?_
   rotate_left
   ·
    intro w'
    go_simp
    with_reducible rfl
   rotate_left
   ·
    simp only [Act.put,p1_,p2_,p3_,i64_w,i32_w]
    rfl
   refine pure_ (i:=6) (N:=some 25) (v:=?_) (a':=?_) #[true,false,true,false,true,false,true,false,false,false,false,false,false,false,false,false] rfl rfl (any_of HT_.out (by kernel_rfl)) (fun _ _ _ h=>h) (Or.inl ⟨by rfl,?_⟩) ?_ ?_
   rotate_left
   ·
    intro w'
    go_simp
    with_reducible rfl
   rotate_left
   ·
    simp only [Act.put,p1_,p2_,p3_,i64_w,i32_w]
    rfl
   refine pure_ (i:=7) (N:=some 26) (v:=?_) (a':=?_) #[true,false,true,false,true,false,true,true,false,false,false,false,false,false,false,false] rfl rfl (any_of HT_.out (by kernel_rfl)) (fun _ _ _ h=>h) (Or.inl ⟨by rfl,?_⟩) ?_ ?_
   rotate_left
   ·
    intro w'
    go_simp
    with_reducible rfl
   rotate_left
   ·
    simp only [Act.put,p1_,p2_,p3_,i64_w,i32_w]
    rfl
   refine pure_ (i:=10) (N:=some 29) (v:=?_) (a':=?_) #[true,false,true,false,true,false,true,true,false,false,true,false,false,false,false,false] rfl rfl (any_of HT_.out (by kernel_rfl)) (fun _ _ _ h=>h) (Or.inl ⟨by rfl,?_⟩) ?_ ?_
   rotate_left
   ·
    intro w'
    go_simp
    with_reducible rfl
   rotate_left
   ·
    simp only [Act.put,p1_,p2_,p3_,i64_w,i32_w]
    rfl
   refine pure_ (i:=12) (N:=some 31) (v:=?_) (a':=?_) #[true,false,true,false,true,false,true,true,false,false,true,false,true,false,false,false] rfl rfl (any_of HT_.out (by kernel_rfl)) (fun _ _ _ h=>h) (Or.inl ⟨by rfl,?_⟩) ?_ ?_
   rotate_left
   ·
    intro w'
    go_simp
    with_reducible rfl
   rotate_left
   ·
    simp only [Act.put,p1_,p2_,p3_,i64_w,i32_w]
    rfl
   refine take_ (i:=1) (N:=some 20) (v:=?_) (a':=?_) #[true,true,true,false,true,false,true,true,false,false,true,false,true,false,false,false] rfl rfl (take_ofW HT_.out HW_.out (by kernel_rfl)) (fun _ _ _ h=>h) (Or.inl ⟨by rfl,?_⟩) hHeld ?_ ?_
   rotate_left
   ·
    rintro w' ⟨s0,s1⟩
    go_simp
    with_reducible rfl
   rotate_left
   ·
    simp only [Act.put,p1_,p2_,p3_,i64_w,i32_w]
    rfl
   refine pure_ (i:=3) (N:=some 22) (v:=?_) (a':=?_) #[true,true,true,true,true,false,true,true,false,false,true,false,true,false,false,false] rfl rfl (any_of HT_.out (by kernel_rfl)) (fun _ _ _ h=>h) (Or.inl ⟨by rfl,?_⟩) ?_ ?_
   rotate_left
   ·
    intro w'
    go_simp
    with_reducible rfl
   rotate_left
   ·
    simp only [Act.put,p1_,p2_,p3_,i64_w,i32_w]
    rfl
   refine take_ (i:=5) (N:=some 24) (v:=?_) (a':=?_) #[true,true,true,true,true,true,true,true,false,false,true,false,true,false,false,false] rfl rfl (take_ofW HT_.out HW_.out (by kernel_rfl)) (fun _ _ _ h=>h) (Or.inl ⟨by rfl,?_⟩) hHeld ?_ ?_
   rotate_left
   ·
    rintro w' ⟨s0,s1⟩
    go_simp
    with_reducible rfl
   rotate_left
   ·
    simp only [Act.put,p1_,p2_,p3_,i64_w,i32_w]
    rfl
   refine pure_ (i:=8) (N:=some 27) (v:=?_) (a':=?_) #[true,true,true,true,true,true,true,true,true,false,true,false,true,false,false,false] rfl rfl (any_of HT_.out (by kernel_rfl)) (fun _ _ _ h=>h) (Or.inl ⟨by rfl,?_⟩) ?_ ?_
   rotate_left
   ·
    intro w'
    go_simp
    with_reducible rfl
   rotate_left
   ·
    simp only [Act.put,p1_,p2_,p3_,i64_w,i32_w]
    rfl
   refine pure_ (i:=9) (N:=some 28) (v:=?_) (a':=?_) #[true,true,true,true,true,true,true,true,true,true,true,false,true,false,false,false] rfl rfl (any_of HT_.out (by kernel_rfl)) (fun _ _ _ h=>h) (Or.inl ⟨by rfl,?_⟩) ?_ ?_
   rotate_left
   ·
    intro w'
    go_simp
    with_reducible rfl
   rotate_left
   ·
    simp only [Act.put,p1_,p2_,p3_,i64_w,i32_w]
    rfl
   refine take_ (i:=11) (N:=some 30) (v:=?_) (a':=?_) #[true,true,true,true,true,true,true,true,true,true,true,true,true,false,false,false] rfl rfl (take_ofW HT_.out HW_.out (by kernel_rfl)) (fun _ _ _ h=>h) (Or.inl ⟨by rfl,?_⟩) hHeld ?_ ?_
   rotate_left
   ·
    rintro w' ⟨s0,s1⟩
    go_simp
    with_reducible rfl
   rotate_left
   ·
    simp only [Act.put,p1_,p2_,p3_,i64_w,i32_w]
    rfl
   refine pure_ (i:=13) (N:=some 32) (v:=?_) (a':=?_) #[true,true,true,true,true,true,true,true,true,true,true,true,true,true,false,false] rfl rfl (any_of HT_.out (by kernel_rfl)) (fun _ _ _ h=>h) (Or.inl ⟨by rfl,?_⟩) ?_ ?_
   rotate_left
   ·
    intro w'
    go_simp
    with_reducible rfl
   rotate_left
   ·
    simp only [Act.put,p1_,p2_,p3_,i64_w,i32_w]
    rfl
   refine pure_ (i:=14) (N:=some 33) (v:=?_) (a':=?_) #[true,true,true,true,true,true,true,true,true,true,true,true,true,true,true,false] rfl rfl (any_of HT_.out (by kernel_rfl)) (fun _ _ _ h=>h) (Or.inl ⟨by rfl,?_⟩) ?_ ?_
   rotate_left
   ·
    intro w'
    go_simp
    with_reducible rfl
   rotate_left
   ·
    simp only [Act.put,p1_,p2_,p3_,i64_w,i32_w]
    rfl
   refine one_ (i:=15) (N:=none) #[true,true,true,true,true,true,true,true,true,true,true,true,true,true,true,true] rfl rfl (one_of HT_.out (by kernel_rfl)) (by decide) (fun K hK=>?_)
   have hs24 : w23.cell? ⟨gb105,0,none⟩ = some (.int .u64 x106000_1):=bc_ BK105 0
   have hfs24:=blk_frozen BK105.out 0
   have hns24_0:=NB104_105.out
   have hms24_0:=NB105_104.out
   have hs25 : w23.cell? ⟨gb105,1,none⟩ = some (.int .u64 x106001_1):=bc_ BK105 1
   have hfs25:=blk_frozen BK105.out 1
   have hns25_0:=NB104_105.out
   have hms25_0:=NB105_104.out
   refine skip_ (w1:=?_) (by rfl) rfl ?_ ?_
   rotate_left
   ·
    go_simp
    rfl
   refine hK.out _ _ ⟨((cell_far (p:=⟨gb105,_,none⟩) NB104_105.out _).trans (((cell_far (p:=⟨gb105,_,none⟩) NB104_105.out _).trans (hHeld.1)))),((cell_far (p:=⟨gb105,_,none⟩) NB104_105.out _).trans (((cell_far (p:=⟨gb105,_,none⟩) NB104_105.out _).trans (hHeld.2))))⟩ (fun hHeld=>?_)
   clear hK K
   refine done_ (done_of HT_.out (by kernel_rfl)) ?_
   try go_wp2
   refine bodyPost_ret (results_cell_row rfl _ _ gb105 40 #[.int .u64 (Go.bits .or .u64 (ji17) (ji20)),.int .u64 ji22] (0,0) _ rfl (by (with_reducible repeat (first | apply kn_ | apply kd_ | apply ka_)); refine blk_put (cs:=#[.int .u64 (Go.bits .or .u64 (ji17) (ji20)),.int .u64 x106001_1]) ?_ 1 _ rfl; (with_reducible repeat (first | apply kn_ | apply kd_ | apply ka_)); refine blk_put (cs:=#[.int .u64 x106000_1,.int .u64 x106001_1]) ?_ 0 _ rfl; (with_reducible repeat (first | apply kn_ | apply kd_ | apply ka_)); exact BK105.out) Try.underlying40 rfl (by kernel_rfl)) rfl ?_
   exact ⟨by first | rfl | (simp [errW_none,errW_some] <;> rfl) | (simp only [← hji17,← hji18,← hji20,← hji22]; first | rfl | (simp [errW_none,errW_some] <;> rfl)) | (simp [*,errW_none,errW_some] <;> rfl),bh_⟩

/-! ### wide_U128_Shr: function 84 -/
def wide_U128_Shr.l0 : Nat → Int → Bool → Int → Int → Option (Int × Int × Bool)
 | 0,_,_,_,_=>none
 | k + 1,x1,x6,x107000,x107001=>if x1 ≥ 64 then (if x6 = true then (if (x107000 == 0) = true then (some (0,x107000,true)) else (wide_U128_Shr.l0 k (wrap64 (x1 - 64)) true 0 x107000)) else (if (x107000 == 0) = true then (some (0,x107000,(x107001 != 0))) else (wide_U128_Shr.l0 k (wrap64 (x1 - 64)) (x107001 != 0) 0 x107000))) else (if x1 ≤ 0 then (some (x107000,x107001,x6)) else (if 0 ≤ x1 then (if 0 ≤ (wrap64 (64 - x1)) then (if x6 = true then (some (shr .u64 x107000 x1,Go.bits .or .u64 (shr .u64 x107001 x1) (shl .u64 x107000 (wrap64 (64 - x1))),true)) else (some (shr .u64 x107000 x1,Go.bits .or .u64 (shr .u64 x107001 x1) (shl .u64 x107000 (wrap64 (64 - x1))),((shl .u64 x107001 (wrap64 (64 - x1))) != 0)))) else (none)) else (none)))
def wide_U128_Shr.f (k : Nat) (a0_0 : Int) (a0_1 : Int) (a1 : Int) : Option (Int × Int × Bool):=wide_U128_Shr.l0 k a1 false a0_0 a0_1
theorem wide_U128_Shr.mono_l : ∀ k,(∀ y0 y1 y2 y3,LeO (wide_U128_Shr.l0 k y0 y1 y2 y3) (wide_U128_Shr.l0 (k + 1) y0 y1 y2 y3))
 | 0=>fun _ _ _ _ r h=>by simp [wide_U128_Shr.l0] at h
 | k + 1=>by
  have ih0:=wide_U128_Shr.mono_l k
  ·
   intro y0 y1 y2 y3
   unfold wide_U128_Shr.l0
   repeat' with_reducible first | exact ih0 _ _ _ _ | exact LeO.refl _ | exact LeO.none _ | refine LeO.ite ?_ ?_ | refine LeO.bind ?_ (fun _=>?_)
theorem wide_U128_Shr.mono : ∀ a0 a1 a2 k,LeO (wide_U128_Shr.f k a0 a1 a2) (wide_U128_Shr.f (k + 1) a0 a1 a2):=by
 intro a0 a1 a2 k
 have ih0:=wide_U128_Shr.mono_l k
 unfold wide_U128_Shr.f
 repeat' with_reducible first | exact ih0 _ _ _ _ | exact LeO.refl _ | exact LeO.none _ | refine LeO.ite ?_ ?_ | refine LeO.bind ?_ (fun _=>?_)
def wide_U128_Shr.T10 : Bool × List (List Nat × List Nat):=(true,[([],[]),([0],[0]),([],[]),([1,2],[1,2]),([],[]),([4],[4]),([],[]),([5,6],[5,6]),([],[]),([8],[8]),([],[]),([10],[10]),([9,11],[9,11]),([7,12],[7,12]),([3,13],[3,13]),([],[]),([15],[15]),([16],[16]),([17,16],[16,17]),([16],[16]),([19,16],[16,19]),([18,20,16],[16,18,20]),([21,16],[16,21]),([16,22],[16,22]),([14,16,0,1,2,3,4,5,6,7,8,9,10,11,12,13,14],[14]),([23,24,0,1,2,3,4,5,6,7,8,9,10,11,12,13,14,15,16,17,18,19,20,21,22,23,24],[23])])
def wide_U128_Shr.B10 : List Nat:=[0,1,0,7,0,16,0,112,0,256,0,1024,3840,8176,16383,0,32768,98304,229376,98304,622592,2064384,4161536,8355840,131071,33554431]
theorem wide_U128_Shr.tab10 : rtab .any (opsOf Try.f84 10) = wide_U128_Shr.T10:=by kernel_rfl
theorem wide_U128_Shr.bits10 : waitsOk wide_U128_Shr.T10.2 wide_U128_Shr.B10 = true:=by kernel_rfl
set_option maxHeartbeats 8000000 in
set_option maxRecDepth 100000 in
theorem wide_U128_Shr.calls (k : Nat) (a0_0 : Int) (a0_1 : Int) (a1 : Int) (r1 : Int) (r2 : Int) (r3 : Bool) (w : World) (h : wide_U128_Shr.f k a0_0 a0_1 a1 = some (r1,r2,r3)) :
  Calls Try.prog 84 #[.agg #[.int .u64 a0_0,.int .u64 a0_1],.int .i64 a1] w fun e w'=>e = .returned (.tuple #[.agg #[.int .u64 r1,.int .u64 r2],.bool r3]) ∧ Below w.heap.size w w':=by
 have hu40:=Try.underlying40
 have HB:=Aside0.mk (Below.refl w.heap.size w)
 have H : (wide_U128_Shr.l0 k a1 false a0_0 a0_1) = some (r1,r2,r3):=h
 clear h
 have H':=Aside0.mk H
 clear H
 go_enter Try.func84,Try.ntmps84
 go_wp2_with (first | ((with_reducible refine gate_dst (N:=2) rfl ?_); refine box_event ?hg (N:=2) ?hd (cs:=#[.int .u64 a0_0,.int .u64 a0_1]) (t:=40) ?hr ?_; (case hd=>rfl); (case hg=>rfl); (case hr=>first | (go_simp; done) | (go_simp; rfl)); intro gb106 hg w3 hbox hb; have n0_:=bq_ hb; have n1_:=Aside0.mk (hbox); have n3_:=bz_ hg; clear HB; have HB:=n0_; have BK106:=n1_; have GE106:=n3_; clear n0_ n1_ n3_; clear hb hbox hg) | ((with_reducible refine gate_dst (N:=4) rfl ?_); refine box_event ?hg (N:=4) ?hd (cs:=#[.int .u64 0,.int .u64 0]) (t:=40) ?hr ?_; (case hd=>rfl); (case hg=>rfl); (case hr=>first | (go_simp; done) | (go_simp; rfl)); intro gb107 hg w4 hbox hb; have n0_:=kb_ BK106 hb; have n1_:=bq_ hb; have n2_:=Aside0.mk (hbox); have n4_:=bz_ hg; have n5_:=Aside0.mk ((by rw [hg]; exact Nat.ne_of_lt (blk_lt (g:=gb106) (o:=.cells #[.int .u64 a0_0,.int .u64 a0_1] 40 (0,0)) (by (with_reducible repeat (first | apply kn_ | apply kd_ | apply ka_)); exact BK106.out)) : gb106 ≠ gb107)); have n6_:=Aside0.mk ((by rw [hg]; exact Nat.ne_of_gt (blk_lt (g:=gb106) (o:=.cells #[.int .u64 a0_0,.int .u64 a0_1] 40 (0,0)) (by (with_reducible repeat (first | apply kn_ | apply kd_ | apply ka_)); exact BK106.out)) : gb107 ≠ gb106)); clear BK106 HB; have BK106:=n0_; have HB:=n1_; have BK107:=n2_; have GE107:=n4_; have NB106_107:=n5_; have NB107_106:=n6_; clear n0_ n1_ n2_ n4_ n5_ n6_; clear hb hbox hg))
 (try simp only [Act.put,p1_,p2_,p3_])
 go_loopg [1,6] k (fun kq v1 v6 w'=>∃ (x1_1 : Int) (x6_1 : Bool) (x107000_1 : Int) (x107001_1 : Int) (x108000_1 : Int) (x108001_1 : Int),v1 = .int .i64 x1_1 ∧ v6 = .bool x6_1 ∧ Aside0 (wide_U128_Shr.l0 kq x1_1 x6_1 x107000_1 x107001_1 = some (r1,r2,r3)) ∧ Aside0 (kq ≤ k) ∧ Aside0 (w'.heap[gb106]? = some (.cells #[.int .u64 x107000_1,.int .u64 x107001_1] 40 (0,0))) ∧ Aside0 (w'.heap[gb107]? = some (.cells #[.int .u64 x108000_1,.int .u64 x108001_1] 40 (0,0))) ∧ Aside0 (Below w.heap.size w w'))
 case atStart=>exact ⟨(a1),(false),(a0_0),(a0_1),(0),(0),(sh_),(sh_),H',⟨Nat.le_refl _⟩,⟨by (with_reducible repeat (first | apply kn_ | apply kd_ | apply ka_)); exact BK106.out⟩,⟨by (with_reducible repeat (first | apply kn_ | apply kd_ | apply ka_)); exact BK107.out⟩,⟨bh_⟩⟩
 case round =>
  clear H'
  try clear p2
  obtain ⟨x1_1,x6_1,x107000_1,x107001_1,x108000_1,x108001_1,rfl,rfl,HA,HK1,BK106,BK107,HB⟩:=hrel
  cases gk with
  | zero=>exact absurd HA.out (by simp [wide_U128_Shr.l0])
  | succ k1 =>
   have H:=HA.out
   clear HA
   simp only [wide_U128_Shr.l0] at H
   by_cases c5 : x1_1 ≥ 64
   case pos =>
    rw [if_pos c5] at H
    have c5b0 : decide (64 ≤ x1_1) = true:=decide_eq_true c5
    clear c5
    by_cases c6 : x6_1 = true
    case pos =>
     subst c6
     have H1 : (if (x107000_1 == 0) = true then (some (0,x107000_1,true)) else (wide_U128_Shr.l0 k1 (wrap64 (x1_1 - 64)) true 0 x107000_1)) = some (r1,r2,r3):=by rw [if_pos rfl] at H; exact H
     clear H
     have H:=H1
     clear H1
     by_cases c7 : (x107000_1 == 0) = true
     case neg =>
      rw [if_neg c7] at H
      have c7b0 : (x107000_1 == 0) = false:=by simpa using c7
      (try (have c7b1 : decide (x107000_1 = 0) = false:=by simpa using c7))
      (try (have c7b2 : (x107000_1 == 0) = false:=by simpa using c7))
      (try (have c7b3 : ¬ (x107000_1 = 0):=by simpa using c7))
      clear c7
      have H':=Aside0.mk H
      clear H
      have hnb11:=NB106_107.out
      have hnc11:=NB107_106.out
      have hcz12_0 : wr.cell? ⟨gb106,0,none⟩ = some (.int .u64 x107000_1):=bc_ BK106 0
      have hcz12_1 : wr.cell? ⟨gb106,1,none⟩ = some (.int .u64 x107001_1):=bc_ BK106 1
      have hfz12_0:=blk_frozen BK106.out 0
      have hfz12_1:=blk_frozen BK106.out 1
      go_wp2
      go_roundg k1
      case measure=>have:=HK1.out; omega
      case rel=>exact ⟨(wrap64 (x1_1 - 64)),(true),(0),(x107000_1),(x108000_1),(x108001_1),(sh_),(sh_),H',⟨by have:=HK1.out; omega⟩,⟨by (with_reducible repeat (first | apply kn_ | apply kd_ | apply ka_)); refine blk_put (cs:=#[.int .u64 0,.int .u64 x107001_1]) ?_ 1 _ rfl; (with_reducible repeat (first | apply kn_ | apply kd_ | apply ka_)); refine blk_put (cs:=#[.int .u64 x107000_1,.int .u64 x107001_1]) ?_ 0 _ rfl; (with_reducible repeat (first | apply kn_ | apply kd_ | apply ka_)); exact BK106.out⟩,⟨by (with_reducible repeat (first | apply kn_ | apply kd_ | apply ka_)); refine blk_far ?_ NB107_106.out _; (with_reducible repeat (first | apply kn_ | apply kd_ | apply ka_)); refine blk_far ?_ NB107_106.out _; (with_reducible repeat (first | apply kn_ | apply kd_ | apply ka_)); exact BK107.out⟩,⟨bh_⟩⟩
     rw [if_pos c7] at H
     have c7b0 : (x107000_1 == 0) = true:=c7
     (try (have c7b1 : decide (x107000_1 = 0) = true:=by simpa using c7))
     (try (have c7b2 : (x107000_1 == 0) = true:=by simpa using c7))
     clear c7
     simp only [Option.some.injEq,Prod.mk.injEq] at H
     obtain ⟨rfl,rfl,rfl⟩:=H
     have hnb8:=NB106_107.out
     have hnc8:=NB107_106.out
     have hcz9_0 : wr.cell? ⟨gb106,0,none⟩ = some (.int .u64 x107000_1):=bc_ BK106 0
     have hcz9_1 : wr.cell? ⟨gb106,1,none⟩ = some (.int .u64 x107001_1):=bc_ BK106 1
     have hfz9_0:=blk_frozen BK106.out 0
     have hfz9_1:=blk_frozen BK106.out 1
     have hcz10_0 : wr.cell? ⟨gb107,0,none⟩ = some (.int .u64 x108000_1):=bc_ BK107 0
     have hcz10_1 : wr.cell? ⟨gb107,1,none⟩ = some (.int .u64 x108001_1):=bc_ BK107 1
     have hfz10_0:=blk_frozen BK107.out 0
     have hfz10_1:=blk_frozen BK107.out 1
     go_wp2
     refine bodyPost_ret (results_ct rfl _ _ gb107 40 #[.int .u64 0,.int .u64 x107000_1] (0,0) _ rfl (by (with_reducible repeat (first | apply kn_ | apply kd_ | apply ka_)); refine blk_put (cs:=#[.int .u64 0,.int .u64 x108001_1]) ?_ 1 _ rfl; (with_reducible repeat (first | apply kn_ | apply kd_ | apply ka_)); refine blk_put (cs:=#[.int .u64 x108000_1,.int .u64 x108001_1]) ?_ 0 _ rfl; (with_reducible repeat (first | apply kn_ | apply kd_ | apply ka_)); refine blk_far ?_ NB107_106.out _; (with_reducible repeat (first | apply kn_ | apply kd_ | apply ka_)); refine blk_far ?_ NB107_106.out _; (with_reducible repeat (first | apply kn_ | apply kd_ | apply ka_)); exact BK107.out) Try.underlying40 rfl (by kernel_rfl)) rfl ?_
     exact ⟨eh_,bh_⟩
    replace c6:=Bool.eq_false_iff.mpr c6
    subst c6
    have H1 : (if (x107000_1 == 0) = true then (some (0,x107000_1,(x107001_1 != 0))) else (wide_U128_Shr.l0 k1 (wrap64 (x1_1 - 64)) (x107001_1 != 0) 0 x107000_1)) = some (r1,r2,r3):=by rw [if_neg (show ¬ (false = true) by decide)] at H; exact H
    clear H
    have H:=H1
    clear H1
    by_cases c13 : (x107000_1 == 0) = true
    case neg =>
     rw [if_neg c13] at H
     have c13b0 : (x107000_1 == 0) = false:=by simpa using c13
     (try (have c13b1 : decide (x107000_1 = 0) = false:=by simpa using c13))
     (try (have c13b2 : (x107000_1 == 0) = false:=by simpa using c13))
     (try (have c13b3 : ¬ (x107000_1 = 0):=by simpa using c13))
     clear c13
     have H':=Aside0.mk H
     clear H
     have hnb17:=NB106_107.out
     have hnc17:=NB107_106.out
     have hcz18_0 : wr.cell? ⟨gb106,0,none⟩ = some (.int .u64 x107000_1):=bc_ BK106 0
     have hcz18_1 : wr.cell? ⟨gb106,1,none⟩ = some (.int .u64 x107001_1):=bc_ BK106 1
     have hfz18_0:=blk_frozen BK106.out 0
     have hfz18_1:=blk_frozen BK106.out 1
     go_wp2
     go_roundg k1
     case measure=>have:=HK1.out; omega
     case rel=>exact ⟨(wrap64 (x1_1 - 64)),((x107001_1 != 0)),(0),(x107000_1),(x108000_1),(x108001_1),(sh_),(sh_),H',⟨by have:=HK1.out; omega⟩,⟨by (with_reducible repeat (first | apply kn_ | apply kd_ | apply ka_)); refine blk_put (cs:=#[.int .u64 0,.int .u64 x107001_1]) ?_ 1 _ rfl; (with_reducible repeat (first | apply kn_ | apply kd_ | apply ka_)); refine blk_put (cs:=#[.int .u64 x107000_1,.int .u64 x107001_1]) ?_ 0 _ rfl; (with_reducible repeat (first | apply kn_ | apply kd_ | apply ka_)); exact BK106.out⟩,⟨by (with_reducible repeat (first | apply kn_ | apply kd_ | apply ka_)); refine blk_far ?_ NB107_106.out _; (with_reducible repeat (first | apply kn_ | apply kd_ | apply ka_)); refine blk_far ?_ NB107_106.out _; (with_reducible repeat (first | apply kn_ | apply kd_ | apply ka_)); exact BK107.out⟩,⟨bh_⟩⟩
    rw [if_pos c13] at H
    have c13b0 : (x107000_1 == 0) = true:=c13
    (try (have c13b1 : decide (x107000_1 = 0) = true:=by simpa using c13))
    (try (have c13b2 : (x107000_1 == 0) = true:=by simpa using c13))
    clear c13
    simp only [Option.some.injEq,Prod.mk.injEq] at H
    obtain ⟨rfl,rfl,rfl⟩:=H
    have hnb14:=NB106_107.out
    have hnc14:=NB107_106.out
    have hcz15_0 : wr.cell? ⟨gb106,0,none⟩ = some (.int .u64 x107000_1):=bc_ BK106 0
    have hcz15_1 : wr.cell? ⟨gb106,1,none⟩ = some (.int .u64 x107001_1):=bc_ BK106 1
    have hfz15_0:=blk_frozen BK106.out 0
    have hfz15_1:=blk_frozen BK106.out 1
    have hcz16_0 : wr.cell? ⟨gb107,0,none⟩ = some (.int .u64 x108000_1):=bc_ BK107 0
    have hcz16_1 : wr.cell? ⟨gb107,1,none⟩ = some (.int .u64 x108001_1):=bc_ BK107 1
    have hfz16_0:=blk_frozen BK107.out 0
    have hfz16_1:=blk_frozen BK107.out 1
    go_wp2
    refine bodyPost_ret (results_ct rfl _ _ gb107 40 #[.int .u64 0,.int .u64 x107000_1] (0,0) _ rfl (by (with_reducible repeat (first | apply kn_ | apply kd_ | apply ka_)); refine blk_put (cs:=#[.int .u64 0,.int .u64 x108001_1]) ?_ 1 _ rfl; (with_reducible repeat (first | apply kn_ | apply kd_ | apply ka_)); refine blk_put (cs:=#[.int .u64 x108000_1,.int .u64 x108001_1]) ?_ 0 _ rfl; (with_reducible repeat (first | apply kn_ | apply kd_ | apply ka_)); refine blk_far ?_ NB107_106.out _; (with_reducible repeat (first | apply kn_ | apply kd_ | apply ka_)); refine blk_far ?_ NB107_106.out _; (with_reducible repeat (first | apply kn_ | apply kd_ | apply ka_)); exact BK107.out) Try.underlying40 rfl (by kernel_rfl)) rfl ?_
    exact ⟨eh_,bh_⟩
   rw [if_neg c5] at H
   have c5b0 : decide (64 ≤ x1_1) = false:=decide_eq_false c5
   clear c5
   by_cases c19 : x1_1 ≤ 0
   case pos =>
    rw [if_pos c19] at H
    have c19b0 : decide (x1_1 ≤ 0) = true:=decide_eq_true c19
    clear c19
    simp only [Option.some.injEq,Prod.mk.injEq] at H
    obtain ⟨rfl,rfl,rfl⟩:=H
    have hnb20:=NB106_107.out
    have hnc20:=NB107_106.out
    have hcz21_0 : wr.cell? ⟨gb106,0,none⟩ = some (.int .u64 x107000_1):=bc_ BK106 0
    have hcz21_1 : wr.cell? ⟨gb106,1,none⟩ = some (.int .u64 x107001_1):=bc_ BK106 1
    have hfz21_0:=blk_frozen BK106.out 0
    have hfz21_1:=blk_frozen BK106.out 1
    have hcz22_0 : wr.cell? ⟨gb107,0,none⟩ = some (.int .u64 x108000_1):=bc_ BK107 0
    have hcz22_1 : wr.cell? ⟨gb107,1,none⟩ = some (.int .u64 x108001_1):=bc_ BK107 1
    have hfz22_0:=blk_frozen BK107.out 0
    have hfz22_1:=blk_frozen BK107.out 1
    go_wp2
    refine bodyPost_ret (results_ct rfl _ _ gb107 40 #[.int .u64 x107000_1,.int .u64 x107001_1] (0,0) _ rfl (by (with_reducible repeat (first | apply kn_ | apply kd_ | apply ka_)); refine blk_put (cs:=#[.int .u64 x107000_1,.int .u64 x108001_1]) ?_ 1 _ rfl; (with_reducible repeat (first | apply kn_ | apply kd_ | apply ka_)); refine blk_put (cs:=#[.int .u64 x108000_1,.int .u64 x108001_1]) ?_ 0 _ rfl; (with_reducible repeat (first | apply kn_ | apply kd_ | apply ka_)); exact BK107.out) Try.underlying40 rfl (by kernel_rfl)) rfl ?_
    exact ⟨eh_,bh_⟩
   rw [if_neg c19] at H
   have c19b0 : decide (x1_1 ≤ 0) = false:=decide_eq_false c19
   clear c19
   by_cases c23 : 0 ≤ x1_1
   case neg =>
    rw [if_neg c23] at H
    exact absurd H (by simp)
   rw [if_pos c23] at H
   have c23b0:=eq_true c23
   have c23b1 : decide (0 ≤ x1_1) = true:=decide_eq_true c23
   clear c23
   obtain ⟨ji24,hji24⟩ : ∃ j_ : Int,(shr .u64 x107000_1 x1_1) = j_:=⟨_,rfl⟩
   replace H : (if 0 ≤ (wrap64 (64 - x1_1)) then (if x6_1 = true then (some (ji24,Go.bits .or .u64 (shr .u64 x107001_1 x1_1) (shl .u64 x107000_1 (wrap64 (64 - x1_1))),true)) else (some (ji24,Go.bits .or .u64 (shr .u64 x107001_1 x1_1) (shl .u64 x107000_1 (wrap64 (64 - x1_1))),((shl .u64 x107001_1 (wrap64 (64 - x1_1))) != 0)))) else (none)) = some (r1,r2,r3):=by first | (rw [hji24] at H; exact H) | (simp only [hji24] at H ⊢; exact H)
   have hji24_ : (x107000_1 / 2 ^ min x1_1.toNat 64) = ji24:=hji24
   have hji24z : x1_1 ≤ 64 → (x107000_1 / 2 ^ x1_1.toNat) = ji24:=shr_small hji24
   have c25b0:=eq_true (of_decide_eq_true (by first | (with_reducible assumption) | assumption) : 0 ≤ x1_1)
   obtain ⟨ji26,hji26⟩ : ∃ j_ : Int,(shr .u64 x107001_1 x1_1) = j_:=⟨_,rfl⟩
   replace H : (if 0 ≤ (wrap64 (64 - x1_1)) then (if x6_1 = true then (some (ji24,Go.bits .or .u64 (ji26) (shl .u64 x107000_1 (wrap64 (64 - x1_1))),true)) else (some (ji24,Go.bits .or .u64 (ji26) (shl .u64 x107000_1 (wrap64 (64 - x1_1))),((shl .u64 x107001_1 (wrap64 (64 - x1_1))) != 0)))) else (none)) = some (r1,r2,r3):=by first | (rw [hji26] at H; exact H) | (simp only [hji26] at H ⊢; exact H)
   have hji26_ : (x107001_1 / 2 ^ min x1_1.toNat 64) = ji26:=hji26
   have hji26z : x1_1 ≤ 64 → (x107001_1 / 2 ^ x1_1.toNat) = ji26:=shr_small hji26
   obtain ⟨ji27,hji27⟩ : ∃ j_ : Int,(wrap64 (64 - x1_1)) = j_:=⟨_,rfl⟩
   replace H : (if 0 ≤ (ji27) then (if x6_1 = true then (some (ji24,Go.bits .or .u64 (ji26) (shl .u64 x107000_1 (ji27)),true)) else (some (ji24,Go.bits .or .u64 (ji26) (shl .u64 x107000_1 (ji27)),((shl .u64 x107001_1 (ji27)) != 0)))) else (none)) = some (r1,r2,r3):=by first | (rw [hji27] at H; exact H) | (simp only [hji27] at H ⊢; exact H)
   have hji27w : (IntKind.i64.wrap (64 - x1_1)) = ji27:=(i64_w _).trans hji27
   by_cases c28 : 0 ≤ (ji27)
   case neg =>
    rw [if_neg c28] at H
    exact absurd H (by simp)
   rw [if_pos c28] at H
   have c28b0:=eq_true c28
   have c28b1 : decide (0 ≤ (ji27)) = true:=decide_eq_true c28
   clear c28
   obtain ⟨ji29,hji29⟩ : ∃ j_ : Int,(shl .u64 x107000_1 (ji27)) = j_:=⟨_,rfl⟩
   replace H : (if x6_1 = true then (some (ji24,Go.bits .or .u64 (ji26) (ji29),true)) else (some (ji24,Go.bits .or .u64 (ji26) (ji29),((shl .u64 x107001_1 (ji27)) != 0)))) = some (r1,r2,r3):=by first | (rw [hji29] at H; exact H) | (simp only [hji29] at H ⊢; exact H)
   have hji29_ : (IntKind.u64.wrap (x107000_1 * 2 ^ min (ji27).toNat 64)) = ji29:=hji29
   have hji29z : (ji27) ≤ 64 → (IntKind.u64.wrap (x107000_1 * 2 ^ (ji27).toNat)) = ji29:=shl_small hji29
   by_cases c30 : x6_1 = true
   case pos =>
    subst c30
    have H1 : (some (ji24,Go.bits .or .u64 (ji26) (ji29),true)) = some (r1,r2,r3):=by rw [if_pos rfl] at H; exact H
    clear H
    have H:=H1
    clear H1
    simp only [Option.some.injEq,Prod.mk.injEq] at H
    obtain ⟨rfl,rfl,rfl⟩:=H
    try go_wp2
    have n0_:=Aside0.mk (blk_drew BK106.out)
    have n1_:=Aside0.mk (blk_drew BK107.out)
    have n2_:=Aside0.mk (below_drew1 HB.out)
    clear BK106
    clear BK107
    clear HB
    have BK106:=n0_
    have BK107:=n1_
    have HB:=n2_
    clear n0_ n1_ n2_
    refine start_ (n:=26) (S:=fun w'=>w'.cell? ⟨gb106,0,none⟩ = some (.int .u64 x107000_1) ∧ w'.cell? ⟨gb106,1,none⟩ = some (.int .u64 x107001_1)) (ds:=[]) #[false,false,false,false,false,false,false,false,false,false,false,false,false,false,false,false,false,false,false,false,false,false,false,false,false,false] (by kernel_rfl) rfl rfl ⟨bc_ BK106 0,bc_ BK106 1⟩ (fun hHeld=>?_); refine with_tabW wide_U128_Shr.tab10 wide_U128_Shr.bits10 (fun HT_ HW_=>?_)
    generalize wr.drew = w31 at BK106 BK107 HB hHeld ⊢
    refine pure_ (i:=0) (N:=some 29) (v:=?_) (a':=?_) #[true,false,false,false,false,false,false,false,false,false,false,false,false,false,false,false,false,false,false,false,false,false,false,false,false,false] rfl rfl (any_of HT_.out (by kernel_rfl)) (fun _ _ _ h=>h) (Or.inl ⟨by rfl,?_⟩) ?_ ?_
    rotate_left
    ·
     intro w'
     go_simp
     with_reducible rfl
    rotate_left
    ·
     simp only [Act.put,p1_,p2_,p3_,i64_w,i32_w]
     rfl
    refine pure_ (i:=2) (N:=some 31) (v:=?_) (a':=?_) #[true,false,true,false,false,false,false,false,false,false,false,false,false,false,false,false,false,false,false,false,false,false,false,false,false,false] rfl rfl (any_of HT_.out (by kernel_rfl)) (fun _ _ _ h=>h) (Or.inl ⟨by rfl,?_⟩) ?_ ?_
    rotate_left
    ·
     intro w'
     go_simp
     with_reducible rfl
    rotate_left
    ·
     simp only [Act.put,p1_,p2_,p3_,i64_w,i32_w]
     rfl
    refine pure_ (i:=4) (N:=some 33) (v:=?_) (a':=?_) #[true,false,true,false,true,false,false,false,false,false,false,false,false,false,false,false,false,false,false,false,false,false,false,false,false,false] rfl rfl (any_of HT_.out (by kernel_rfl)) (fun _ _ _ h=>h) (Or.inl ⟨by rfl,?_⟩) ?_ ?_
    rotate_left
    ·
     intro w'
     go_simp
     with_reducible rfl
    rotate_left
    ·
     simp only [Act.put,p1_,p2_,p3_,i64_w,i32_w]
     rfl
    refine pure_ (i:=6) (N:=some 35) (v:=?_) (a':=?_) #[true,false,true,false,true,false,true,false,false,false,false,false,false,false,false,false,false,false,false,false,false,false,false,false,false,false] rfl rfl (any_of HT_.out (by kernel_rfl)) (fun _ _ _ h=>h) (Or.inl ⟨by rfl,?_⟩) ?_ ?_
    rotate_left
    ·
     intro w'
     go_simp
     with_reducible rfl
    rotate_left
    ·
     simp only [Act.put,p1_,p2_,p3_,i64_w,i32_w]
     rfl
    refine pure_ (i:=8) (N:=some 37) (v:=?_) (a':=?_) #[true,false,true,false,true,false,true,false,true,false,false,false,false,false,false,false,false,false,false,false,false,false,false,false,false,false] rfl rfl (any_of HT_.out (by kernel_rfl)) (fun _ _ _ h=>h) (Or.inl ⟨by rfl,?_⟩) ?_ ?_
    rotate_left
    ·
     intro w'
     go_simp
     with_reducible rfl
    rotate_left
    ·
     simp only [Act.put,p1_,p2_,p3_,i64_w,i32_w]
     rfl
    refine pure_ (i:=10) (N:=some 39) (v:=?_) (a':=?_) #[true,false,true,false,true,false,true,false,true,false,true,false,false,false,false,false,false,false,false,false,false,false,false,false,false,false] rfl rfl (any_of HT_.out (by kernel_rfl)) (fun _ _ _ h=>h) (Or.inl ⟨by rfl,?_⟩) ?_ ?_
    rotate_left
    ·
     intro w'
     go_simp
     with_reducible rfl
    rotate_left
    ·
     simp only [Act.put,p1_,p2_,p3_,i64_w,i32_w]
     rfl
    refine pure_ (i:=11) (N:=some 40) (v:=?_) (a':=?_) #[true,false,true,false,true,false,true,false,true,false,true,true,false,false,false,false,false,false,false,false,false,false,false,false,false,false] rfl rfl (any_of HT_.out (by kernel_rfl)) (fun _ _ _ h=>h) (Or.inl ⟨by rfl,?_⟩) ?_ ?_
    rotate_left
    ·
     intro w'
     go_simp
     with_reducible rfl
    rotate_left
    ·
     simp only [Act.put,p1_,p2_,p3_,i64_w,i32_w]
     rfl
    refine pure_ (i:=15) (N:=some 44) (v:=?_) (a':=?_) #[true,false,true,false,true,false,true,false,true,false,true,true,false,false,false,true,false,false,false,false,false,false,false,false,false,false] rfl rfl (any_of HT_.out (by kernel_rfl)) (fun _ _ _ h=>h) (Or.inl ⟨by rfl,?_⟩) ?_ ?_
    rotate_left
    ·
     intro w'
     go_simp
     with_reducible rfl
    rotate_left
    ·
     simp only [Act.put,p1_,p2_,p3_,i64_w,i32_w]
     rfl
    refine pure_ (i:=16) (N:=some 45) (v:=?_) (a':=?_) #[true,false,true,false,true,false,true,false,true,false,true,true,false,false,false,true,true,false,false,false,false,false,false,false,false,false] rfl rfl (any_of HT_.out (by kernel_rfl)) (fun _ _ _ h=>h) (Or.inl ⟨by rfl,?_⟩) ?_ ?_
    rotate_left
    ·
     intro w'
     go_simp
     with_reducible rfl
    rotate_left
    ·
     simp only [Act.put,p1_,p2_,p3_,i64_w,i32_w]
     rfl
    refine pure_ (i:=17) (N:=some 46) (v:=undef) (a':=?_) #[true,false,true,false,true,false,true,false,true,false,true,true,false,false,false,true,true,true,false,false,false,false,false,false,false,false] rfl rfl (any_of HT_.out (by kernel_rfl)) (fun _ _ _ h=>h) (Or.inr ⟨by rfl,rfl⟩) ?_ ?_
    rotate_left
    ·
     simp only [Act.put,p1_,p2_,p3_,i64_w,i32_w]
     rfl
    refine pure_ (i:=18) (N:=some 47) (v:=undef) (a':=?_) #[true,false,true,false,true,false,true,false,true,false,true,true,false,false,false,true,true,true,true,false,false,false,false,false,false,false] rfl rfl (any_of HT_.out (by kernel_rfl)) (fun _ _ _ h=>h) (Or.inr ⟨by rfl,rfl⟩) ?_ ?_
    rotate_left
    ·
     simp only [Act.put,p1_,p2_,p3_,i64_w,i32_w]
     rfl
    refine pure_ (i:=19) (N:=some 48) (v:=undef) (a':=?_) #[true,false,true,false,true,false,true,false,true,false,true,true,false,false,false,true,true,true,true,true,false,false,false,false,false,false] rfl rfl (any_of HT_.out (by kernel_rfl)) (fun _ _ _ h=>h) (Or.inr ⟨by rfl,rfl⟩) ?_ ?_
    rotate_left
    ·
     simp only [Act.put,p1_,p2_,p3_,i64_w,i32_w]
     rfl
    refine pure_ (i:=20) (N:=some 49) (v:=undef) (a':=?_) #[true,false,true,false,true,false,true,false,true,false,true,true,false,false,false,true,true,true,true,true,true,false,false,false,false,false] rfl rfl (any_of HT_.out (by kernel_rfl)) (fun _ _ _ h=>h) (Or.inr ⟨by rfl,rfl⟩) ?_ ?_
    rotate_left
    ·
     simp only [Act.put,p1_,p2_,p3_,i64_w,i32_w]
     rfl
    refine pure_ (i:=21) (N:=some 50) (v:=undef) (a':=?_) #[true,false,true,false,true,false,true,false,true,false,true,true,false,false,false,true,true,true,true,true,true,true,false,false,false,false] rfl rfl (any_of HT_.out (by kernel_rfl)) (fun _ _ _ h=>h) (Or.inr ⟨by rfl,rfl⟩) ?_ ?_
    rotate_left
    ·
     simp only [Act.put,p1_,p2_,p3_,i64_w,i32_w]
     rfl
    refine pure_ (i:=22) (N:=some 51) (v:=undef) (a':=?_) #[true,false,true,false,true,false,true,false,true,false,true,true,false,false,false,true,true,true,true,true,true,true,true,false,false,false] rfl rfl (any_of HT_.out (by kernel_rfl)) (fun _ _ _ h=>h) (Or.inr ⟨by rfl,rfl⟩) ?_ ?_
    rotate_left
    ·
     simp only [Act.put,p1_,p2_,p3_,i64_w,i32_w]
     rfl
    refine pure_ (i:=23) (N:=some 52) (v:=?_) (a':=?_) #[true,false,true,false,true,false,true,false,true,false,true,true,false,false,false,true,true,true,true,true,true,true,true,true,false,false] rfl rfl (any_of HT_.out (by kernel_rfl)) (fun _ _ _ h=>h) (Or.inl ⟨by rfl,?_⟩) ?_ ?_
    rotate_left
    ·
     intro w'
     go_simp
     with_reducible rfl
    rotate_left
    ·
     simp only [Act.put,p1_,p2_,p3_,i64_w,i32_w]
     rfl
    refine take_ (i:=1) (N:=some 30) (v:=?_) (a':=?_) #[true,true,true,false,true,false,true,false,true,false,true,true,false,false,false,true,true,true,true,true,true,true,true,true,false,false] rfl rfl (take_ofW HT_.out HW_.out (by kernel_rfl)) (fun _ _ _ h=>h) (Or.inl ⟨by rfl,?_⟩) hHeld ?_ ?_
    rotate_left
    ·
     rintro w' ⟨s0,s1⟩
     go_simp
     with_reducible rfl
    rotate_left
    ·
     simp only [Act.put,p1_,p2_,p3_,i64_w,i32_w]
     rfl
    refine pure_ (i:=3) (N:=some 32) (v:=?_) (a':=?_) #[true,true,true,true,true,false,true,false,true,false,true,true,false,false,false,true,true,true,true,true,true,true,true,true,false,false] rfl rfl (any_of HT_.out (by kernel_rfl)) (fun _ _ _ h=>h) (Or.inl ⟨by rfl,?_⟩) ?_ ?_
    rotate_left
    ·
     intro w'
     go_simp
     with_reducible rfl
    rotate_left
    ·
     simp only [Act.put,p1_,p2_,p3_,i64_w,i32_w]
     rfl
    refine take_ (i:=5) (N:=some 34) (v:=?_) (a':=?_) #[true,true,true,true,true,true,true,false,true,false,true,true,false,false,false,true,true,true,true,true,true,true,true,true,false,false] rfl rfl (take_ofW HT_.out HW_.out (by kernel_rfl)) (fun _ _ _ h=>h) (Or.inl ⟨by rfl,?_⟩) hHeld ?_ ?_
    rotate_left
    ·
     rintro w' ⟨s0,s1⟩
     go_simp
     with_reducible rfl
    rotate_left
    ·
     simp only [Act.put,p1_,p2_,p3_,i64_w,i32_w]
     rfl
    refine pure_ (i:=7) (N:=some 36) (v:=?_) (a':=?_) #[true,true,true,true,true,true,true,true,true,false,true,true,false,false,false,true,true,true,true,true,true,true,true,true,false,false] rfl rfl (any_of HT_.out (by kernel_rfl)) (fun _ _ _ h=>h) (Or.inl ⟨by rfl,?_⟩) ?_ ?_
    rotate_left
    ·
     intro w'
     go_simp
     with_reducible rfl
    rotate_left
    ·
     simp only [Act.put,p1_,p2_,p3_,i64_w,i32_w]
     rfl
    refine take_ (i:=9) (N:=some 38) (v:=?_) (a':=?_) #[true,true,true,true,true,true,true,true,true,true,true,true,false,false,false,true,true,true,true,true,true,true,true,true,false,false] rfl rfl (take_ofW HT_.out HW_.out (by kernel_rfl)) (fun _ _ _ h=>h) (Or.inl ⟨by rfl,?_⟩) hHeld ?_ ?_
    rotate_left
    ·
     rintro w' ⟨s0,s1⟩
     go_simp
     with_reducible rfl
    rotate_left
    ·
     simp only [Act.put,p1_,p2_,p3_,i64_w,i32_w]
     rfl
    refine pure_ (i:=12) (N:=some 41) (v:=?_) (a':=?_) #[true,true,true,true,true,true,true,true,true,true,true,true,true,false,false,true,true,true,true,true,true,true,true,true,false,false] rfl rfl (any_of HT_.out (by kernel_rfl)) (fun _ _ _ h=>h) (Or.inl ⟨by rfl,?_⟩) ?_ ?_
    rotate_left
    ·
     intro w'
     go_simp
     with_reducible rfl
    rotate_left
    ·
     simp only [Act.put,p1_,p2_,p3_,i64_w,i32_w]
     rfl
    refine pure_ (i:=13) (N:=some 42) (v:=?_) (a':=?_) #[true,true,true,true,true,true,true,true,true,true,true,true,true,true,false,true,true,true,true,true,true,true,true,true,false,false] rfl rfl (any_of HT_.out (by kernel_rfl)) (fun _ _ _ h=>h) (Or.inl ⟨by rfl,?_⟩) ?_ ?_
    rotate_left
    ·
     intro w'
     go_simp
     with_reducible rfl
    rotate_left
    ·
     simp only [Act.put,p1_,p2_,p3_,i64_w,i32_w]
     rfl
    refine pure_ (i:=14) (N:=some 43) (v:=?_) (a':=?_) #[true,true,true,true,true,true,true,true,true,true,true,true,true,true,true,true,true,true,true,true,true,true,true,true,false,false] rfl rfl (any_of HT_.out (by kernel_rfl)) (fun _ _ _ h=>h) (Or.inl ⟨by rfl,?_⟩) ?_ ?_
    rotate_left
    ·
     intro w'
     go_simp
     with_reducible rfl
    rotate_left
    ·
     simp only [Act.put,p1_,p2_,p3_,i64_w,i32_w]
     rfl
    refine one_ (i:=24) (N:=none) #[true,true,true,true,true,true,true,true,true,true,true,true,true,true,true,true,true,true,true,true,true,true,true,true,true,false] rfl rfl (one_of HT_.out (by kernel_rfl)) (by decide) (fun K hK=>?_)
    have hs32 : w31.cell? ⟨gb107,0,none⟩ = some (.int .u64 x108000_1):=bc_ BK107 0
    have hfs32:=blk_frozen BK107.out 0
    have hns32_0:=NB106_107.out
    have hms32_0:=NB107_106.out
    have hs33 : w31.cell? ⟨gb107,1,none⟩ = some (.int .u64 x108001_1):=bc_ BK107 1
    have hfs33:=blk_frozen BK107.out 1
    have hns33_0:=NB106_107.out
    have hms33_0:=NB107_106.out
    refine skip_ (w1:=?_) (by rfl) rfl ?_ ?_
    rotate_left
    ·
     go_simp
     rfl
    refine hK.out _ _ ⟨((cell_far (p:=⟨gb107,_,none⟩) NB106_107.out _).trans (((cell_far (p:=⟨gb107,_,none⟩) NB106_107.out _).trans (hHeld.1)))),((cell_far (p:=⟨gb107,_,none⟩) NB106_107.out _).trans (((cell_far (p:=⟨gb107,_,none⟩) NB106_107.out _).trans (hHeld.2))))⟩ (fun hHeld=>?_)
    clear hK K
    refine pure_ (i:=25) (N:=some 5) (v:=?_) (a':=?_) #[true,true,true,true,true,true,true,true,true,true,true,true,true,true,true,true,true,true,true,true,true,true,true,true,true,true] rfl rfl (any_of HT_.out (by kernel_rfl)) (fun _ _ _ h=>h) (Or.inl ⟨by rfl,?_⟩) ?_ ?_
    rotate_left
    ·
     intro w'
     go_simp
     with_reducible rfl
    rotate_left
    ·
     simp only [Act.put,p1_,p2_,p3_,i64_w,i32_w]
     rfl
    refine done_ (done_of HT_.out (by kernel_rfl)) ?_
    try go_wp2
    refine bodyPost_ret (results_ct rfl _ _ gb107 40 #[.int .u64 ji24,.int .u64 (Go.bits .or .u64 (ji26) (ji29))] (0,0) _ rfl (by (with_reducible repeat (first | apply kn_ | apply kd_ | apply ka_)); refine blk_put (cs:=#[.int .u64 ji24,.int .u64 x108001_1]) ?_ 1 _ rfl; (with_reducible repeat (first | apply kn_ | apply kd_ | apply ka_)); refine blk_put (cs:=#[.int .u64 x108000_1,.int .u64 x108001_1]) ?_ 0 _ rfl; (with_reducible repeat (first | apply kn_ | apply kd_ | apply ka_)); exact BK107.out) Try.underlying40 rfl (by kernel_rfl)) rfl ?_
    exact ⟨by first | rfl | (simp [errW_none,errW_some] <;> rfl) | (simp only [← hji24,← hji26,← hji27,← hji29]; first | rfl | (simp [errW_none,errW_some] <;> rfl)) | (simp [*,errW_none,errW_some] <;> rfl),bh_⟩
   replace c30:=Bool.eq_false_iff.mpr c30
   subst c30
   have H1 : (some (ji24,Go.bits .or .u64 (ji26) (ji29),((shl .u64 x107001_1 (ji27)) != 0))) = some (r1,r2,r3):=by rw [if_neg (show ¬ (false = true) by decide)] at H; exact H
   clear H
   have H:=H1
   clear H1
   have c34b0:=eq_true (of_decide_eq_true (by first | (with_reducible assumption) | assumption) : 0 ≤ (ji27))
   obtain ⟨ji35,hji35⟩ : ∃ j_ : Int,(shl .u64 x107001_1 (ji27)) = j_:=⟨_,rfl⟩
   replace H : (some (ji24,Go.bits .or .u64 (ji26) (ji29),((ji35) != 0))) = some (r1,r2,r3):=by first | (rw [hji35] at H; exact H) | (simp only [hji35] at H ⊢; exact H)
   have hji35_ : (IntKind.u64.wrap (x107001_1 * 2 ^ min (ji27).toNat 64)) = ji35:=hji35
   have hji35z : (ji27) ≤ 64 → (IntKind.u64.wrap (x107001_1 * 2 ^ (ji27).toNat)) = ji35:=shl_small hji35
   simp only [Option.some.injEq,Prod.mk.injEq] at H
   obtain ⟨rfl,rfl,rfl⟩:=H
   try go_wp2
   have n0_:=Aside0.mk (blk_drew BK106.out)
   have n1_:=Aside0.mk (blk_drew BK107.out)
   have n2_:=Aside0.mk (below_drew1 HB.out)
   clear BK106
   clear BK107
   clear HB
   have BK106:=n0_
   have BK107:=n1_
   have HB:=n2_
   clear n0_ n1_ n2_
   refine start_ (n:=26) (S:=fun w'=>w'.cell? ⟨gb106,0,none⟩ = some (.int .u64 x107000_1) ∧ w'.cell? ⟨gb106,1,none⟩ = some (.int .u64 x107001_1)) (ds:=[]) #[false,false,false,false,false,false,false,false,false,false,false,false,false,false,false,false,false,false,false,false,false,false,false,false,false,false] (by kernel_rfl) rfl rfl ⟨bc_ BK106 0,bc_ BK106 1⟩ (fun hHeld=>?_); refine with_tabW wide_U128_Shr.tab10 wide_U128_Shr.bits10 (fun HT_ HW_=>?_)
   generalize wr.drew = w36 at BK106 BK107 HB hHeld ⊢
   refine pure_ (i:=0) (N:=some 29) (v:=?_) (a':=?_) #[true,false,false,false,false,false,false,false,false,false,false,false,false,false,false,false,false,false,false,false,false,false,false,false,false,false] rfl rfl (any_of HT_.out (by kernel_rfl)) (fun _ _ _ h=>h) (Or.inl ⟨by rfl,?_⟩) ?_ ?_
   rotate_left
   ·
    intro w'
    go_simp
    with_reducible rfl
   rotate_left
   ·
    simp only [Act.put,p1_,p2_,p3_,i64_w,i32_w]
    rfl
   refine pure_ (i:=2) (N:=some 31) (v:=?_) (a':=?_) #[true,false,true,false,false,false,false,false,false,false,false,false,false,false,false,false,false,false,false,false,false,false,false,false,false,false] rfl rfl (any_of HT_.out (by kernel_rfl)) (fun _ _ _ h=>h) (Or.inl ⟨by rfl,?_⟩) ?_ ?_
   rotate_left
   ·
    intro w'
    go_simp
    with_reducible rfl
   rotate_left
   ·
    simp only [Act.put,p1_,p2_,p3_,i64_w,i32_w]
    rfl
   refine pure_ (i:=4) (N:=some 33) (v:=?_) (a':=?_) #[true,false,true,false,true,false,false,false,false,false,false,false,false,false,false,false,false,false,false,false,false,false,false,false,false,false] rfl rfl (any_of HT_.out (by kernel_rfl)) (fun _ _ _ h=>h) (Or.inl ⟨by rfl,?_⟩) ?_ ?_
   rotate_left
   ·
    intro w'
    go_simp
    with_reducible rfl
   rotate_left
   ·
    simp only [Act.put,p1_,p2_,p3_,i64_w,i32_w]
    rfl
   refine pure_ (i:=6) (N:=some 35) (v:=?_) (a':=?_) #[true,false,true,false,true,false,true,false,false,false,false,false,false,false,false,false,false,false,false,false,false,false,false,false,false,false] rfl rfl (any_of HT_.out (by kernel_rfl)) (fun _ _ _ h=>h) (Or.inl ⟨by rfl,?_⟩) ?_ ?_
   rotate_left
   ·
    intro w'
    go_simp
    with_reducible rfl
   rotate_left
   ·
    simp only [Act.put,p1_,p2_,p3_,i64_w,i32_w]
    rfl
   refine pure_ (i:=8) (N:=some 37) (v:=?_) (a':=?_) #[true,false,true,false,true,false,true,false,true,false,false,false,false,false,false,false,false,false,false,false,false,false,false,false,false,false] rfl rfl (any_of HT_.out (by kernel_rfl)) (fun _ _ _ h=>h) (Or.inl ⟨by rfl,?_⟩) ?_ ?_
   rotate_left
   ·
    intro w'
    go_simp
    with_reducible rfl
   rotate_left
   ·
    simp only [Act.put,p1_,p2_,p3_,i64_w,i32_w]
    rfl
   refine pure_ (i:=10) (N:=some 39) (v:=?_) (a':=?_) #[true,false,true,false,true,false,true,false,true,false,true,false,false,false,false,false,false,false,false,false,false,false,false,false,false,false] rfl rfl (any_of HT_.out (by kernel_rfl)) (fun _ _ _ h=>h) (Or.inl ⟨by rfl,?_⟩) ?_ ?_
   rotate_left
   ·
    intro w'
    go_simp
    with_reducible rfl
   rotate_left
   ·
    simp only [Act.put,p1_,p2_,p3_,i64_w,i32_w]
    rfl
   refine pure_ (i:=11) (N:=some 40) (v:=?_) (a':=?_) #[true,false,true,false,true,false,true,false,true,false,true,true,false,false,false,false,false,false,false,false,false,false,false,false,false,false] rfl rfl (any_of HT_.out (by kernel_rfl)) (fun _ _ _ h=>h) (Or.inl ⟨by rfl,?_⟩) ?_ ?_
   rotate_left
   ·
    intro w'
    go_simp
    with_reducible rfl
   rotate_left
   ·
    simp only [Act.put,p1_,p2_,p3_,i64_w,i32_w]
    rfl
   refine pure_ (i:=15) (N:=some 44) (v:=?_) (a':=?_) #[true,false,true,false,true,false,true,false,true,false,true,true,false,false,false,true,false,false,false,false,false,false,false,false,false,false] rfl rfl (any_of HT_.out (by kernel_rfl)) (fun _ _ _ h=>h) (Or.inl ⟨by rfl,?_⟩) ?_ ?_
   rotate_left
   ·
    intro w'
    go_simp
    with_reducible rfl
   rotate_left
   ·
    simp only [Act.put,p1_,p2_,p3_,i64_w,i32_w]
    rfl
   refine pure_ (i:=16) (N:=some 45) (v:=?_) (a':=?_) #[true,false,true,false,true,false,true,false,true,false,true,true,false,false,false,true,true,false,false,false,false,false,false,false,false,false] rfl rfl (any_of HT_.out (by kernel_rfl)) (fun _ _ _ h=>h) (Or.inl ⟨by rfl,?_⟩) ?_ ?_
   rotate_left
   ·
    intro w'
    go_simp
    with_reducible rfl
   rotate_left
   ·
    simp only [Act.put,p1_,p2_,p3_,i64_w,i32_w]
    rfl
   refine pure_ (i:=17) (N:=some 46) (v:=?_) (a':=?_) #[true,false,true,false,true,false,true,false,true,false,true,true,false,false,false,true,true,true,false,false,false,false,false,false,false,false] rfl rfl (any_of HT_.out (by kernel_rfl)) (fun _ _ _ h=>h) (Or.inl ⟨by rfl,?_⟩) ?_ ?_
   rotate_left
   ·
    intro w'
    go_simp
    with_reducible rfl
   rotate_left
   ·
    simp only [Act.put,p1_,p2_,p3_,i64_w,i32_w]
    rfl
   refine pure_ (i:=19) (N:=some 48) (v:=?_) (a':=?_) #[true,false,true,false,true,false,true,false,true,false,true,true,false,false,false,true,true,true,false,true,false,false,false,false,false,false] rfl rfl (any_of HT_.out (by kernel_rfl)) (fun _ _ _ h=>h) (Or.inl ⟨by rfl,?_⟩) ?_ ?_
   rotate_left
   ·
    intro w'
    go_simp
    with_reducible rfl
   rotate_left
   ·
    simp only [Act.put,p1_,p2_,p3_,i64_w,i32_w]
    rfl
   refine pure_ (i:=20) (N:=some 49) (v:=?_) (a':=?_) #[true,false,true,false,true,false,true,false,true,false,true,true,false,false,false,true,true,true,false,true,true,false,false,false,false,false] rfl rfl (any_of HT_.out (by kernel_rfl)) (fun _ _ _ h=>h) (Or.inl ⟨by rfl,?_⟩) ?_ ?_
   rotate_left
   ·
    intro w'
    go_simp
    with_reducible rfl
   rotate_left
   ·
    simp only [Act.put,p1_,p2_,p3_,i64_w,i32_w]
    rfl
   refine take_ (i:=1) (N:=some 30) (v:=?_) (a':=?_) #[true,true,true,false,true,false,true,false,true,false,true,true,false,false,false,true,true,true,false,true,true,false,false,false,false,false] rfl rfl (take_ofW HT_.out HW_.out (by kernel_rfl)) (fun _ _ _ h=>h) (Or.inl ⟨by rfl,?_⟩) hHeld ?_ ?_
   rotate_left
   ·
    rintro w' ⟨s0,s1⟩
    go_simp
    with_reducible rfl
   rotate_left
   ·
    simp only [Act.put,p1_,p2_,p3_,i64_w,i32_w]
    rfl
   refine pure_ (i:=3) (N:=some 32) (v:=?_) (a':=?_) #[true,true,true,true,true,false,true,false,true,false,true,true,false,false,false,true,true,true,false,true,true,false,false,false,false,false] rfl rfl (any_of HT_.out (by kernel_rfl)) (fun _ _ _ h=>h) (Or.inl ⟨by rfl,?_⟩) ?_ ?_
   rotate_left
   ·
    intro w'
    go_simp
    with_reducible rfl
   rotate_left
   ·
    simp only [Act.put,p1_,p2_,p3_,i64_w,i32_w]
    rfl
   refine take_ (i:=5) (N:=some 34) (v:=?_) (a':=?_) #[true,true,true,true,true,true,true,false,true,false,true,true,false,false,false,true,true,true,false,true,true,false,false,false,false,false] rfl rfl (take_ofW HT_.out HW_.out (by kernel_rfl)) (fun _ _ _ h=>h) (Or.inl ⟨by rfl,?_⟩) hHeld ?_ ?_
   rotate_left
   ·
    rintro w' ⟨s0,s1⟩
    go_simp
    with_reducible rfl
   rotate_left
   ·
    simp only [Act.put,p1_,p2_,p3_,i64_w,i32_w]
    rfl
   refine pure_ (i:=7) (N:=some 36) (v:=?_) (a':=?_) #[true,true,true,true,true,true,true,true,true,false,true,true,false,false,false,true,true,true,false,true,true,false,false,false,false,false] rfl rfl (any_of HT_.out (by kernel_rfl)) (fun _ _ _ h=>h) (Or.inl ⟨by rfl,?_⟩) ?_ ?_
   rotate_left
   ·
    intro w'
    go_simp
    with_reducible rfl
   rotate_left
   ·
    simp only [Act.put,p1_,p2_,p3_,i64_w,i32_w]
    rfl
   refine take_ (i:=9) (N:=some 38) (v:=?_) (a':=?_) #[true,true,true,true,true,true,true,true,true,true,true,true,false,false,false,true,true,true,false,true,true,false,false,false,false,false] rfl rfl (take_ofW HT_.out HW_.out (by kernel_rfl)) (fun _ _ _ h=>h) (Or.inl ⟨by rfl,?_⟩) hHeld ?_ ?_
   rotate_left
   ·
    rintro w' ⟨s0,s1⟩
    go_simp
    with_reducible rfl
   rotate_left
   ·
    simp only [Act.put,p1_,p2_,p3_,i64_w,i32_w]
    rfl
   refine pure_ (i:=12) (N:=some 41) (v:=?_) (a':=?_) #[true,true,true,true,true,true,true,true,true,true,true,true,true,false,false,true,true,true,false,true,true,false,false,false,false,false] rfl rfl (any_of HT_.out (by kernel_rfl)) (fun _ _ _ h=>h) (Or.inl ⟨by rfl,?_⟩) ?_ ?_
   rotate_left
   ·
    intro w'
    go_simp
    with_reducible rfl
   rotate_left
   ·
    simp only [Act.put,p1_,p2_,p3_,i64_w,i32_w]
    rfl
   refine pure_ (i:=13) (N:=some 42) (v:=?_) (a':=?_) #[true,true,true,true,true,true,true,true,true,true,true,true,true,true,false,true,true,true,false,true,true,false,false,false,false,false] rfl rfl (any_of HT_.out (by kernel_rfl)) (fun _ _ _ h=>h) (Or.inl ⟨by rfl,?_⟩) ?_ ?_
   rotate_left
   ·
    intro w'
    go_simp
    with_reducible rfl
   rotate_left
   ·
    simp only [Act.put,p1_,p2_,p3_,i64_w,i32_w]
    rfl
   refine pure_ (i:=14) (N:=some 43) (v:=?_) (a':=?_) #[true,true,true,true,true,true,true,true,true,true,true,true,true,true,true,true,true,true,false,true,true,false,false,false,false,false] rfl rfl (any_of HT_.out (by kernel_rfl)) (fun _ _ _ h=>h) (Or.inl ⟨by rfl,?_⟩) ?_ ?_
   rotate_left
   ·
    intro w'
    go_simp
    with_reducible rfl
   rotate_left
   ·
    simp only [Act.put,p1_,p2_,p3_,i64_w,i32_w]
    rfl
   refine take_ (i:=18) (N:=some 47) (v:=?_) (a':=?_) #[true,true,true,true,true,true,true,true,true,true,true,true,true,true,true,true,true,true,true,true,true,false,false,false,false,false] rfl rfl (take_ofW HT_.out HW_.out (by kernel_rfl)) (fun _ _ _ h=>h) (Or.inl ⟨by rfl,?_⟩) hHeld ?_ ?_
   rotate_left
   ·
    rintro w' ⟨s0,s1⟩
    go_simp
    with_reducible rfl
   rotate_left
   ·
    simp only [Act.put,p1_,p2_,p3_,i64_w,i32_w]
    rfl
   refine pure_ (i:=21) (N:=some 50) (v:=?_) (a':=?_) #[true,true,true,true,true,true,true,true,true,true,true,true,true,true,true,true,true,true,true,true,true,true,false,false,false,false] rfl rfl (any_of HT_.out (by kernel_rfl)) (fun _ _ _ h=>h) (Or.inl ⟨by rfl,?_⟩) ?_ ?_
   rotate_left
   ·
    intro w'
    go_simp
    with_reducible rfl
   rotate_left
   ·
    simp only [Act.put,p1_,p2_,p3_,i64_w,i32_w]
    rfl
   refine pure_ (i:=22) (N:=some 51) (v:=?_) (a':=?_) #[true,true,true,true,true,true,true,true,true,true,true,true,true,true,true,true,true,true,true,true,true,true,true,false,false,false] rfl rfl (any_of HT_.out (by kernel_rfl)) (fun _ _ _ h=>h) (Or.inl ⟨by rfl,?_⟩) ?_ ?_
   rotate_left
   ·
    intro w'
    go_simp
    with_reducible rfl
   rotate_left
   ·
    simp only [Act.put,p1_,p2_,p3_,i64_w,i32_w]
    rfl
   refine pure_ (i:=23) (N:=some 52) (v:=?_) (a':=?_) #[true,true,true,true,true,true,true,true,true,true,true,true,true,true,true,true,true,true,true,true,true,true,true,true,false,false] rfl rfl (any_of HT_.out (by kernel_rfl)) (fun _ _ _ h=>h) (Or.inl ⟨by rfl,?_⟩) ?_ ?_
   rotate_left
   ·
    intro w'
    go_simp
    with_reducible rfl
   rotate_left
   ·
    simp only [Act.put,p1_,p2_,p3_,i64_w,i32_w]
    rfl
   refine one_ (i:=24) (N:=none) #[true,true,true,true,true,true,true,true,true,true,true,true,true,true,true,true,true,true,true,true,true,true,true,true,true,false] rfl rfl (one_of HT_.out (by kernel_rfl)) (by decide) (fun K hK=>?_)
   have hs37 : w36.cell? ⟨gb107,0,none⟩ = some (.int .u64 x108000_1):=bc_ BK107 0
   have hfs37:=blk_frozen BK107.out 0
   have hns37_0:=NB106_107.out
   have hms37_0:=NB107_106.out
   have hs38 : w36.cell? ⟨gb107,1,none⟩ = some (.int .u64 x108001_1):=bc_ BK107 1
   have hfs38:=blk_frozen BK107.out 1
   have hns38_0:=NB106_107.out
   have hms38_0:=NB107_106.out
   refine skip_ (w1:=?_) (by rfl) rfl ?_ ?_
   rotate_left
   ·
    go_simp
    rfl
   refine hK.out _ _ ⟨((cell_far (p:=⟨gb107,_,none⟩) NB106_107.out _).trans (((cell_far (p:=⟨gb107,_,none⟩) NB106_107.out _).trans (hHeld.1)))),((cell_far (p:=⟨gb107,_,none⟩) NB106_107.out _).trans (((cell_far (p:=⟨gb107,_,none⟩) NB106_107.out _).trans (hHeld.2))))⟩ (fun hHeld=>?_)
   clear hK K
   refine pure_ (i:=25) (N:=some 5) (v:=?_) (a':=?_) #[true,true,true,true,true,true,true,true,true,true,true,true,true,true,true,true,true,true,true,true,true,true,true,true,true,true] rfl rfl (any_of HT_.out (by kernel_rfl)) (fun _ _ _ h=>h) (Or.inl ⟨by rfl,?_⟩) ?_ ?_
   rotate_left
   ·
    intro w'
    go_simp
    with_reducible rfl
   rotate_left
   ·
    simp only [Act.put,p1_,p2_,p3_,i64_w,i32_w]
    rfl
   refine done_ (done_of HT_.out (by kernel_rfl)) ?_
   try go_wp2
   refine bodyPost_ret (results_ct rfl _ _ gb107 40 #[.int .u64 ji24,.int .u64 (Go.bits .or .u64 (ji26) (ji29))] (0,0) _ rfl (by (with_reducible repeat (first | apply kn_ | apply kd_ | apply ka_)); refine blk_put (cs:=#[.int .u64 ji24,.int .u64 x108001_1]) ?_ 1 _ rfl; (with_reducible repeat (first | apply kn_ | apply kd_ | apply ka_)); refine blk_put (cs:=#[.int .u64 x108000_1,.int .u64 x108001_1]) ?_ 0 _ rfl; (with_reducible repeat (first | apply kn_ | apply kd_ | apply ka_)); exact BK107.out) Try.underlying40 rfl (by kernel_rfl)) rfl ?_
   exact ⟨by first | rfl | (simp [errW_none,errW_some] <;> rfl) | (simp only [← hji24,← hji26,← hji27,← hji29,← hji35]; first | rfl | (simp [errW_none,errW_some] <;> rfl)) | (simp [*,errW_none,errW_some] <;> rfl),bh_⟩

end Go.Proofs.Ytfglpaaeipblcaa.P
