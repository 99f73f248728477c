/- Walks of one package: what each function returns, wherever the Lean function beside it has an answer. -/
import Derived.Test.YtfglpaaeipblcaaP0
import Derived.Test.YtfglpaaeipblcaaPWide1
import Derived.Test.YtfglpaaeipblcaaPPattern1
namespace Go.Proofs.Ytfglpaaeipblcaa.P
open Go.RowKit Go.Proofs.YtfglpaaeipblcaaW.PrintWords Go.Proofs.YtfglpaaeipblcaaW.PrintLast Go.Proofs.YtfglpaaeipblcaaW.PrintMore
attribute [local go_sem] max2_int min2_int max_two min_two max_three min_three max_four min_four   -- for this text's walks alone
set_option linter.unusedVariables false
set_option linter.unusedSimpArgs false

/-! ### round_number_away: function 106 -/
def round_number_away.f (a0_0 : Bool) (a0_1 : Int) (a0_2 : Int) (a0_3 : Int) (a0_4 : Bool) (a1 : Int) : Option (Bool):=if a1 = 1 then (if a0_0 = true then (if a1 = 2 then (some a0_0) else (some false)) else (some true)) else (if a1 = 2 then (some a0_0) else (some false))
set_option maxHeartbeats 8000000 in
set_option maxRecDepth 100000 in
theorem round_number_away.calls (a0_0 : Bool) (a0_1 : Int) (a0_2 : Int) (a0_3 : Int) (a0_4 : Bool) (a1 : Int) (r : Bool) (w : World) (h : round_number_away.f a0_0 a0_1 a0_2 a0_3 a0_4 a1 = some r) :
  Calls Try.prog 106 #[.agg #[.bool a0_0,.int .u64 a0_1,.int .u64 a0_2,.int .i64 a0_3,.bool a0_4],.int .u8 a1] w fun e w'=>e = .returned (.bool r) ∧ Below w.heap.size w w':=by
 have hu94:=Try.underlying94
 have HB:=Aside0.mk (Below.refl w.heap.size w)
 have H : (if a1 = 1 then (if a0_0 = true then (if a1 = 2 then (some a0_0) else (some false)) else (some true)) else (if a1 = 2 then (some a0_0) else (some false))) = some r:=h
 clear h
 by_cases c3 : a1 = 1
 case neg =>
  rw [if_neg c3] at H
  have c3b0 : (a1 == 1) = false:=beq_eq_false_iff_ne.mpr c3
  have c3b1 : (a1 != 1) = true:=bne_iff_ne.mpr c3
  by_cases c12 : a1 = 2
  case neg =>
   rw [if_neg c12] at H
   have c12b0 : (a1 == 2) = false:=beq_eq_false_iff_ne.mpr c12
   have c12b1 : (a1 != 2) = true:=bne_iff_ne.mpr c12
   obtain rfl:=Option.some.inj H
   go_enter Try.func106,Try.ntmps106
   go_wp2_with (first | ((with_reducible refine gate_dst (N:=2) rfl ?_); refine box_event ?hg (N:=2) ?hd (cs:=#[.bool a0_0,.int .u64 a0_1,.int .u64 a0_2,.int .i64 a0_3,.bool a0_4]) (t:=94) ?hr ?_; (case hd=>rfl); (case hg=>rfl); (case hr=>first | (go_simp; done) | (go_simp; rfl)); intro gb108 hg w15 hbox hb; have n0_:=bq_ hb; have n3_:=bz_ hg; clear HB; have HB:=n0_; have GE108:=n3_; clear n0_ n3_; clear hb hbox hg))
   go_ret
   exact ⟨eh_,bh_⟩
  rw [if_pos c12] at H
  have c12b0 : (a1 == 2) = true:=beq_iff_eq.mpr c12
  have c12b1 : (a1 != 2) = false:=bne_eq_false_iff_eq.mpr c12
  clear c12
  obtain rfl:=Option.some.inj H
  go_enter Try.func106,Try.ntmps106
  go_wp2_with (first | ((with_reducible refine gate_dst (N:=2) rfl ?_); refine box_event ?hg (N:=2) ?hd (cs:=#[.bool a0_0,.int .u64 a0_1,.int .u64 a0_2,.int .i64 a0_3,.bool a0_4]) (t:=94) ?hr ?_; (case hd=>rfl); (case hg=>rfl); (case hr=>first | (go_simp; done) | (go_simp; rfl)); intro gb108 hg w13 hbox hb; have n0_:=bq_ hb; have n1_:=Aside0.mk (hbox); have n3_:=bz_ hg; clear HB; have HB:=n0_; have BK108:=n1_; have GE108:=n3_; clear n0_ n1_ n3_; clear hb hbox hg; have hcz14_0 : w13.cell? ⟨gb108,0,none⟩ = some (.bool a0_0):=bc_ BK108 0; have hcz14_1 : w13.cell? ⟨gb108,1,none⟩ = some (.int .u64 a0_1):=bc_ BK108 1; have hcz14_2 : w13.cell? ⟨gb108,2,none⟩ = some (.int .u64 a0_2):=bc_ BK108 2; have hcz14_3 : w13.cell? ⟨gb108,3,none⟩ = some (.int .i64 a0_3):=bc_ BK108 3; have hcz14_4 : w13.cell? ⟨gb108,4,none⟩ = some (.bool a0_4):=bc_ BK108 4; have hfz14_0:=blk_frozen BK108.out 0; have hfz14_1:=blk_frozen BK108.out 1; have hfz14_2:=blk_frozen BK108.out 2; have hfz14_3:=blk_frozen BK108.out 3; have hfz14_4:=blk_frozen BK108.out 4))
  go_ret
  exact ⟨eh_,bh_⟩
 rw [if_pos c3] at H
 have c3b0 : (a1 == 1) = true:=beq_iff_eq.mpr c3
 have c3b1 : (a1 != 1) = false:=bne_eq_false_iff_eq.mpr c3
 clear c3
 by_cases c4 : a0_0 = true
 case neg =>
  replace c4:=Bool.eq_false_iff.mpr c4
  subst c4
  have H1 : (some true) = some r:=by rw [if_neg (show ¬ (false = true) by decide)] at H; exact H
  clear H
  have H:=H1
  clear H1
  obtain rfl:=Option.some.inj H
  go_enter Try.func106,Try.ntmps106
  go_wp2_with (first | ((with_reducible refine gate_dst (N:=2) rfl ?_); refine box_event ?hg (N:=2) ?hd (cs:=#[.bool false,.int .u64 a0_1,.int .u64 a0_2,.int .i64 a0_3,.bool a0_4]) (t:=94) ?hr ?_; (case hd=>rfl); (case hg=>rfl); (case hr=>first | (go_simp; done) | (go_simp; rfl)); intro gb108 hg w10 hbox hb; have n0_:=bq_ hb; have n1_:=Aside0.mk (hbox); have n3_:=bz_ hg; clear HB; have HB:=n0_; have BK108:=n1_; have GE108:=n3_; clear n0_ n1_ n3_; clear hb hbox hg; have hcz11_0 : w10.cell? ⟨gb108,0,none⟩ = some (.bool false):=bc_ BK108 0; have hcz11_1 : w10.cell? ⟨gb108,1,none⟩ = some (.int .u64 a0_1):=bc_ BK108 1; have hcz11_2 : w10.cell? ⟨gb108,2,none⟩ = some (.int .u64 a0_2):=bc_ BK108 2; have hcz11_3 : w10.cell? ⟨gb108,3,none⟩ = some (.int .i64 a0_3):=bc_ BK108 3; have hcz11_4 : w10.cell? ⟨gb108,4,none⟩ = some (.bool a0_4):=bc_ BK108 4; have hfz11_0:=blk_frozen BK108.out 0; have hfz11_1:=blk_frozen BK108.out 1; have hfz11_2:=blk_frozen BK108.out 2; have hfz11_3:=blk_frozen BK108.out 3; have hfz11_4:=blk_frozen BK108.out 4))
  go_ret
  exact ⟨eh_,bh_⟩
 subst c4
 have H1 : (if a1 = 2 then (some true) else (some false)) = some r:=by rw [if_pos rfl] at H; exact H
 clear H
 have H:=H1
 clear H1
 by_cases c5 : a1 = 2
 case neg =>
  rw [if_neg c5] at H
  have c5b0 : (a1 == 2) = false:=beq_eq_false_iff_ne.mpr c5
  have c5b1 : (a1 != 2) = true:=bne_iff_ne.mpr c5
  obtain rfl:=Option.some.inj H
  go_enter Try.func106,Try.ntmps106
  go_wp2_with (first | ((with_reducible refine gate_dst (N:=2) rfl ?_); refine box_event ?hg (N:=2) ?hd (cs:=#[.bool true,.int .u64 a0_1,.int .u64 a0_2,.int .i64 a0_3,.bool a0_4]) (t:=94) ?hr ?_; (case hd=>rfl); (case hg=>rfl); (case hr=>first | (go_simp; done) | (go_simp; rfl)); intro gb108 hg w8 hbox hb; have n0_:=bq_ hb; have n1_:=Aside0.mk (hbox); have n3_:=bz_ hg; clear HB; have HB:=n0_; have BK108:=n1_; have GE108:=n3_; clear n0_ n1_ n3_; clear hb hbox hg; have hcz9_0 : w8.cell? ⟨gb108,0,none⟩ = some (.bool true):=bc_ BK108 0; have hcz9_1 : w8.cell? ⟨gb108,1,none⟩ = some (.int .u64 a0_1):=bc_ BK108 1; have hcz9_2 : w8.cell? ⟨gb108,2,none⟩ = some (.int .u64 a0_2):=bc_ BK108 2; have hcz9_3 : w8.cell? ⟨gb108,3,none⟩ = some (.int .i64 a0_3):=bc_ BK108 3; have hcz9_4 : w8.cell? ⟨gb108,4,none⟩ = some (.bool a0_4):=bc_ BK108 4; have hfz9_0:=blk_frozen BK108.out 0; have hfz9_1:=blk_frozen BK108.out 1; have hfz9_2:=blk_frozen BK108.out 2; have hfz9_3:=blk_frozen BK108.out 3; have hfz9_4:=blk_frozen BK108.out 4))
  go_ret
  exact ⟨eh_,bh_⟩
 rw [if_pos c5] at H
 have c5b0 : (a1 == 2) = true:=beq_iff_eq.mpr c5
 have c5b1 : (a1 != 2) = false:=bne_eq_false_iff_eq.mpr c5
 clear c5
 obtain rfl:=Option.some.inj H
 go_enter Try.func106,Try.ntmps106
 go_wp2_with (first | ((with_reducible refine gate_dst (N:=2) rfl ?_); refine box_event ?hg (N:=2) ?hd (cs:=#[.bool true,.int .u64 a0_1,.int .u64 a0_2,.int .i64 a0_3,.bool a0_4]) (t:=94) ?hr ?_; (case hd=>rfl); (case hg=>rfl); (case hr=>first | (go_simp; done) | (go_simp; rfl)); intro gb108 hg w6 hbox hb; have n0_:=bq_ hb; have n1_:=Aside0.mk (hbox); have n3_:=bz_ hg; clear HB; have HB:=n0_; have BK108:=n1_; have GE108:=n3_; clear n0_ n1_ n3_; clear hb hbox hg; have hcz7_0 : w6.cell? ⟨gb108,0,none⟩ = some (.bool true):=bc_ BK108 0; have hcz7_1 : w6.cell? ⟨gb108,1,none⟩ = some (.int .u64 a0_1):=bc_ BK108 1; have hcz7_2 : w6.cell? ⟨gb108,2,none⟩ = some (.int .u64 a0_2):=bc_ BK108 2; have hcz7_3 : w6.cell? ⟨gb108,3,none⟩ = some (.int .i64 a0_3):=bc_ BK108 3; have hcz7_4 : w6.cell? ⟨gb108,4,none⟩ = some (.bool a0_4):=bc_ BK108 4; have hfz7_0:=blk_frozen BK108.out 0; have hfz7_1:=blk_frozen BK108.out 1; have hfz7_2:=blk_frozen BK108.out 2; have hfz7_3:=blk_frozen BK108.out 3; have hfz7_4:=blk_frozen BK108.out 4))
 go_ret
 exact ⟨eh_,bh_⟩

/-! ### round_number_towards: function 107 -/
def round_number_towards.f (a0_0 : Bool) (a0_1 : Int) (a0_2 : Int) (a0_3 : Int) (a0_4 : Bool) (a1 : Int) : Option (Bool):=if a1 = 1 then (if a0_0 = true then (some true) else (if a1 = 2 then (some (!a0_0)) else (some false))) else (if a1 = 2 then (some (!a0_0)) else (some false))
set_option maxHeartbeats 8000000 in
set_option maxRecDepth 100000 in
theorem round_number_towards.calls (a0_0 : Bool) (a0_1 : Int) (a0_2 : Int) (a0_3 : Int) (a0_4 : Bool) (a1 : Int) (r : Bool) (w : World) (h : round_number_towards.f a0_0 a0_1 a0_2 a0_3 a0_4 a1 = some r) :
  Calls Try.prog 107 #[.agg #[.bool a0_0,.int .u64 a0_1,.int .u64 a0_2,.int .i64 a0_3,.bool a0_4],.int .u8 a1] w fun e w'=>e = .returned (.bool r) ∧ Below w.heap.size w w':=by
 have hu94:=Try.underlying94
 have HB:=Aside0.mk (Below.refl w.heap.size w)
 have H : (if a1 = 1 then (if a0_0 = true then (some true) else (if a1 = 2 then (some (!a0_0)) else (some false))) else (if a1 = 2 then (some (!a0_0)) else (some false))) = some r:=h
 clear h
 by_cases c3 : a1 = 1
 case neg =>
  rw [if_neg c3] at H
  have c3b0 : (a1 == 1) = false:=beq_eq_false_iff_ne.mpr c3
  have c3b1 : (a1 != 1) = true:=bne_iff_ne.mpr c3
  by_cases c12 : a1 = 2
  case neg =>
   rw [if_neg c12] at H
   have c12b0 : (a1 == 2) = false:=beq_eq_false_iff_ne.mpr c12
   have c12b1 : (a1 != 2) = true:=bne_iff_ne.mpr c12
   obtain rfl:=Option.some.inj H
   go_enter Try.func107,Try.ntmps107
   go_wp2_with (first | ((with_reducible refine gate_dst (N:=2) rfl ?_); refine box_event ?hg (N:=2) ?hd (cs:=#[.bool a0_0,.int .u64 a0_1,.int .u64 a0_2,.int .i64 a0_3,.bool a0_4]) (t:=94) ?hr ?_; (case hd=>rfl); (case hg=>rfl); (case hr=>first | (go_simp; done) | (go_simp; rfl)); intro gb109 hg w15 hbox hb; have n0_:=bq_ hb; have n3_:=bz_ hg; clear HB; have HB:=n0_; have GE109:=n3_; clear n0_ n3_; clear hb hbox hg))
   go_ret
   exact ⟨eh_,bh_⟩
  rw [if_pos c12] at H
  have c12b0 : (a1 == 2) = true:=beq_iff_eq.mpr c12
  have c12b1 : (a1 != 2) = false:=bne_eq_false_iff_eq.mpr c12
  clear c12
  obtain rfl:=Option.some.inj H
  go_enter Try.func107,Try.ntmps107
  go_wp2_with (first | ((with_reducible refine gate_dst (N:=2) rfl ?_); refine box_event ?hg (N:=2) ?hd (cs:=#[.bool a0_0,.int .u64 a0_1,.int .u64 a0_2,.int .i64 a0_3,.bool a0_4]) (t:=94) ?hr ?_; (case hd=>rfl); (case hg=>rfl); (case hr=>first | (go_simp; done) | (go_simp; rfl)); intro gb109 hg w13 hbox hb; have n0_:=bq_ hb; have n1_:=Aside0.mk (hbox); have n3_:=bz_ hg; clear HB; have HB:=n0_; have BK109:=n1_; have GE109:=n3_; clear n0_ n1_ n3_; clear hb hbox hg; have hcz14_0 : w13.cell? ⟨gb109,0,none⟩ = some (.bool a0_0):=bc_ BK109 0; have hcz14_1 : w13.cell? ⟨gb109,1,none⟩ = some (.int .u64 a0_1):=bc_ BK109 1; have hcz14_2 : w13.cell? ⟨gb109,2,none⟩ = some (.int .u64 a0_2):=bc_ BK109 2; have hcz14_3 : w13.cell? ⟨gb109,3,none⟩ = some (.int .i64 a0_3):=bc_ BK109 3; have hcz14_4 : w13.cell? ⟨gb109,4,none⟩ = some (.bool a0_4):=bc_ BK109 4; have hfz14_0:=blk_frozen BK109.out 0; have hfz14_1:=blk_frozen BK109.out 1; have hfz14_2:=blk_frozen BK109.out 2; have hfz14_3:=blk_frozen BK109.out 3; have hfz14_4:=blk_frozen BK109.out 4))
  go_ret
  exact ⟨eh_,bh_⟩
 rw [if_pos c3] at H
 have c3b0 : (a1 == 1) = true:=beq_iff_eq.mpr c3
 have c3b1 : (a1 != 1) = false:=bne_eq_false_iff_eq.mpr c3
 clear c3
 by_cases c4 : a0_0 = true
 case pos =>
  subst c4
  have H1 : (some true) = some r:=by rw [if_pos rfl] at H; exact H
  clear H
  have H:=H1
  clear H1
  obtain rfl:=Option.some.inj H
  go_enter Try.func107,Try.ntmps107
  go_wp2_with (first | ((with_reducible refine gate_dst (N:=2) rfl ?_); refine box_event ?hg (N:=2) ?hd (cs:=#[.bool true,.int .u64 a0_1,.int .u64 a0_2,.int .i64 a0_3,.bool a0_4]) (t:=94) ?hr ?_; (case hd=>rfl); (case hg=>rfl); (case hr=>first | (go_simp; done) | (go_simp; rfl)); intro gb109 hg w5 hbox hb; have n0_:=bq_ hb; have n1_:=Aside0.mk (hbox); have n3_:=bz_ hg; clear HB; have HB:=n0_; have BK109:=n1_; have GE109:=n3_; clear n0_ n1_ n3_; clear hb hbox hg; have hcz6_0 : w5.cell? ⟨gb109,0,none⟩ = some (.bool true):=bc_ BK109 0; have hcz6_1 : w5.cell? ⟨gb109,1,none⟩ = some (.int .u64 a0_1):=bc_ BK109 1; have hcz6_2 : w5.cell? ⟨gb109,2,none⟩ = some (.int .u64 a0_2):=bc_ BK109 2; have hcz6_3 : w5.cell? ⟨gb109,3,none⟩ = some (.int .i64 a0_3):=bc_ BK109 3; have hcz6_4 : w5.cell? ⟨gb109,4,none⟩ = some (.bool a0_4):=bc_ BK109 4; have hfz6_0:=blk_frozen BK109.out 0; have hfz6_1:=blk_frozen BK109.out 1; have hfz6_2:=blk_frozen BK109.out 2; have hfz6_3:=blk_frozen BK109.out 3; have hfz6_4:=blk_frozen BK109.out 4))
  go_ret
  exact ⟨eh_,bh_⟩
 replace c4:=Bool.eq_false_iff.mpr c4
 subst c4
 have H1 : (if a1 = 2 then (some (!false)) else (some false)) = some r:=by rw [if_neg (show ¬ (false = true) by decide)] at H; exact H
 clear H
 have H:=H1
 clear H1
 by_cases c7 : a1 = 2
 case pos =>
  rw [if_pos c7] at H
  have c7b0 : (a1 == 2) = true:=beq_iff_eq.mpr c7
  have c7b1 : (a1 != 2) = false:=bne_eq_false_iff_eq.mpr c7
  clear c7
  obtain rfl:=Option.some.inj H
  go_enter Try.func107,Try.ntmps107
  go_wp2_with (first | ((with_reducible refine gate_dst (N:=2) rfl ?_); refine box_event ?hg (N:=2) ?hd (cs:=#[.bool false,.int .u64 a0_1,.int .u64 a0_2,.int .i64 a0_3,.bool a0_4]) (t:=94) ?hr ?_; (case hd=>rfl); (case hg=>rfl); (case hr=>first | (go_simp; done) | (go_simp; rfl)); intro gb109 hg w8 hbox hb; have n0_:=bq_ hb; have n1_:=Aside0.mk (hbox); have n3_:=bz_ hg; clear HB; have HB:=n0_; have BK109:=n1_; have GE109:=n3_; clear n0_ n1_ n3_; clear hb hbox hg; have hcz9_0 : w8.cell? ⟨gb109,0,none⟩ = some (.bool false):=bc_ BK109 0; have hcz9_1 : w8.cell? ⟨gb109,1,none⟩ = some (.int .u64 a0_1):=bc_ BK109 1; have hcz9_2 : w8.cell? ⟨gb109,2,none⟩ = some (.int .u64 a0_2):=bc_ BK109 2; have hcz9_3 : w8.cell? ⟨gb109,3,none⟩ = some (.int .i64 a0_3):=bc_ BK109 3; have hcz9_4 : w8.cell? ⟨gb109,4,none⟩ = some (.bool a0_4):=bc_ BK109 4; have hfz9_0:=blk_frozen BK109.out 0; have hfz9_1:=blk_frozen BK109.out 1; have hfz9_2:=blk_frozen BK109.out 2; have hfz9_3:=blk_frozen BK109.out 3; have hfz9_4:=blk_frozen BK109.out 4))
  go_ret
  exact ⟨eh_,bh_⟩
 rw [if_neg c7] at H
 have c7b0 : (a1 == 2) = false:=beq_eq_false_iff_ne.mpr c7
 have c7b1 : (a1 != 2) = true:=bne_iff_ne.mpr c7
 obtain rfl:=Option.some.inj H
 go_enter Try.func107,Try.ntmps107
 go_wp2_with (first | ((with_reducible refine gate_dst (N:=2) rfl ?_); refine box_event ?hg (N:=2) ?hd (cs:=#[.bool false,.int .u64 a0_1,.int .u64 a0_2,.int .i64 a0_3,.bool a0_4]) (t:=94) ?hr ?_; (case hd=>rfl); (case hg=>rfl); (case hr=>first | (go_simp; done) | (go_simp; rfl)); intro gb109 hg w10 hbox hb; have n0_:=bq_ hb; have n1_:=Aside0.mk (hbox); have n3_:=bz_ hg; clear HB; have HB:=n0_; have BK109:=n1_; have GE109:=n3_; clear n0_ n1_ n3_; clear hb hbox hg; have hcz11_0 : w10.cell? ⟨gb109,0,none⟩ = some (.bool false):=bc_ BK109 0; have hcz11_1 : w10.cell? ⟨gb109,1,none⟩ = some (.int .u64 a0_1):=bc_ BK109 1; have hcz11_2 : w10.cell? ⟨gb109,2,none⟩ = some (.int .u64 a0_2):=bc_ BK109 2; have hcz11_3 : w10.cell? ⟨gb109,3,none⟩ = some (.int .i64 a0_3):=bc_ BK109 3; have hcz11_4 : w10.cell? ⟨gb109,4,none⟩ = some (.bool a0_4):=bc_ BK109 4; have hfz11_0:=blk_frozen BK109.out 0; have hfz11_1:=blk_frozen BK109.out 1; have hfz11_2:=blk_frozen BK109.out 2; have hfz11_3:=blk_frozen BK109.out 3; have hfz11_4:=blk_frozen BK109.out 4))
 go_ret
 exact ⟨eh_,bh_⟩

/-! ### round_number_up: function 87 -/
def round_number_up.f (a0_0 : Bool) (a0_1 : Int) (a0_2 : Int) (a0_3 : Int) (a0_4 : Bool) (a1 : Int) (a2 : Bool) (a3 : Bool) (a4 : Bool) : Option (Bool):=(round_number_away.f a0_0 a0_1 a0_2 a0_3 a0_4 a1).bind fun t111=>(if t111 = true then (if a3 = true then (some true) else (some a4)) else ((round_number_towards.f a0_0 a0_1 a0_2 a0_3 a0_4 a1).bind fun t112=>(if t112 = true then (some false) else (if a3 = true then (if a4 = true then (some true) else (some a2)) else (some false)))))
set_option maxHeartbeats 8000000 in
set_option maxRecDepth 100000 in
theorem round_number_up.calls (a0_0 : Bool) (a0_1 : Int) (a0_2 : Int) (a0_3 : Int) (a0_4 : Bool) (a1 : Int) (a2 : Bool) (a3 : Bool) (a4 : Bool) (r : Bool) (w : World) (h : round_number_up.f a0_0 a0_1 a0_2 a0_3 a0_4 a1 a2 a3 a4 = some r) :
  Calls Try.prog 87 #[.agg #[.bool a0_0,.int .u64 a0_1,.int .u64 a0_2,.int .i64 a0_3,.bool a0_4],.int .u8 a1,.bool a2,.bool a3,.bool a4] w fun e w'=>e = .returned (.bool r) ∧ Below w.heap.size w w':=by
 have hu94:=Try.underlying94
 have HB:=Aside0.mk (Below.refl w.heap.size w)
 have H : ((round_number_away.f a0_0 a0_1 a0_2 a0_3 a0_4 a1).bind fun t111=>(if t111 = true then (if a3 = true then (some true) else (some a4)) else ((round_number_towards.f a0_0 a0_1 a0_2 a0_3 a0_4 a1).bind fun t112=>(if t112 = true then (some false) else (if a3 = true then (if a4 = true then (some true) else (some a2)) else (some false)))))) = some r:=h
 clear h
 replace H:=Option.bind_eq_some_iff.mp H
 obtain ⟨t111,A60,H⟩:=H
 replace H : (if t111 = true then (if a3 = true then (some true) else (some a4)) else ((round_number_towards.f a0_0 a0_1 a0_2 a0_3 a0_4 a1).bind fun t112=>(if t112 = true then (some false) else (if a3 = true then (if a4 = true then (some true) else (some a2)) else (some false))))) = some r:=H
 have A6:=Aside0.mk A60
 clear A60
 by_cases c7 : t111 = true
 case pos =>
  subst c7
  have H1 : (if a3 = true then (some true) else (some a4)) = some r:=by rw [if_pos rfl] at H; exact H
  clear H
  have H:=H1
  clear H1
  by_cases c8 : a3 = true
  case pos =>
   subst c8
   have H1 : (some true) = some r:=by rw [if_pos rfl] at H; exact H
   clear H
   have H:=H1
   clear H1
   obtain rfl:=Option.some.inj H
   go_enter Try.func87,Try.ntmps87
   go_wp2_with (first | ((with_reducible refine gate_dst (N:=5) rfl ?_); refine box_event ?hg (N:=5) ?hd (cs:=#[.bool a0_0,.int .u64 a0_1,.int .u64 a0_2,.int .i64 a0_3,.bool a0_4]) (t:=94) ?hr ?_; (case hd=>rfl); (case hg=>rfl); (case hr=>first | (go_simp; done) | (go_simp; rfl)); intro gb110 hg w9 hbox hb; have n0_:=bq_ hb; have n1_:=Aside0.mk (hbox); have n3_:=bz_ hg; clear HB; have HB:=n0_; have BK110:=n1_; have GE110:=n3_; clear n0_ n1_ n3_; clear hb hbox hg; have hcz10_0 : w9.cell? ⟨gb110,0,none⟩ = some (.bool a0_0):=bc_ BK110 0; have hcz10_1 : w9.cell? ⟨gb110,1,none⟩ = some (.int .u64 a0_1):=bc_ BK110 1; have hcz10_2 : w9.cell? ⟨gb110,2,none⟩ = some (.int .u64 a0_2):=bc_ BK110 2; have hcz10_3 : w9.cell? ⟨gb110,3,none⟩ = some (.int .i64 a0_3):=bc_ BK110 3; have hcz10_4 : w9.cell? ⟨gb110,4,none⟩ = some (.bool a0_4):=bc_ BK110 4; have hfz10_0:=blk_frozen BK110.out 0; have hfz10_1:=blk_frozen BK110.out 1; have hfz10_2:=blk_frozen BK110.out 2; have hfz10_3:=blk_frozen BK110.out 3; have hfz10_4:=blk_frozen BK110.out 4) | ((with_reducible refine gc_ 106 rfl ?_); refine gM_ (some 14) Try.func106 [.agg #[.bool a0_0,.int .u64 a0_1,.int .u64 a0_2,.int .i64 a0_3,.bool a0_4],.int .u8 a1] ?_; (with_reducible refine (round_number_away.calls a0_0 a0_1 a0_2 a0_3 a0_4 a1 true _ A6.out).mono ?_); rintro e w11 ⟨rfl,hb⟩; refine ⟨_,rfl,?_⟩; replace HB:=bq_ hb))
   go_ret
   exact ⟨eh_,bh_⟩
  replace c8:=Bool.eq_false_iff.mpr c8
  subst c8
  have H1 : (some a4) = some r:=by rw [if_neg (show ¬ (false = true) by decide)] at H; exact H
  clear H
  have H:=H1
  clear H1
  obtain rfl:=Option.some.inj H
  go_enter Try.func87,Try.ntmps87
  go_wp2_with (first | ((with_reducible refine gate_dst (N:=5) rfl ?_); refine box_event ?hg (N:=5) ?hd (cs:=#[.bool a0_0,.int .u64 a0_1,.int .u64 a0_2,.int .i64 a0_3,.bool a0_4]) (t:=94) ?hr ?_; (case hd=>rfl); (case hg=>rfl); (case hr=>first | (go_simp; done) | (go_simp; rfl)); intro gb110 hg w12 hbox hb; have n0_:=bq_ hb; have n1_:=Aside0.mk (hbox); have n3_:=bz_ hg; clear HB; have HB:=n0_; have BK110:=n1_; have GE110:=n3_; clear n0_ n1_ n3_; clear hb hbox hg; have hcz13_0 : w12.cell? ⟨gb110,0,none⟩ = some (.bool a0_0):=bc_ BK110 0; have hcz13_1 : w12.cell? ⟨gb110,1,none⟩ = some (.int .u64 a0_1):=bc_ BK110 1; have hcz13_2 : w12.cell? ⟨gb110,2,none⟩ = some (.int .u64 a0_2):=bc_ BK110 2; have hcz13_3 : w12.cell? ⟨gb110,3,none⟩ = some (.int .i64 a0_3):=bc_ BK110 3; have hcz13_4 : w12.cell? ⟨gb110,4,none⟩ = some (.bool a0_4):=bc_ BK110 4; have hfz13_0:=blk_frozen BK110.out 0; have hfz13_1:=blk_frozen BK110.out 1; have hfz13_2:=blk_frozen BK110.out 2; have hfz13_3:=blk_frozen BK110.out 3; have hfz13_4:=blk_frozen BK110.out 4) | ((with_reducible refine gc_ 106 rfl ?_); refine gM_ (some 14) Try.func106 [.agg #[.bool a0_0,.int .u64 a0_1,.int .u64 a0_2,.int .i64 a0_3,.bool a0_4],.int .u8 a1] ?_; (with_reducible refine (round_number_away.calls a0_0 a0_1 a0_2 a0_3 a0_4 a1 true _ A6.out).mono ?_); rintro e w14 ⟨rfl,hb⟩; refine ⟨_,rfl,?_⟩; replace HB:=bq_ hb))
  go_ret
  exact ⟨eh_,bh_⟩
 replace c7:=Bool.eq_false_iff.mpr c7
 subst c7
 have H1 : ((round_number_towards.f a0_0 a0_1 a0_2 a0_3 a0_4 a1).bind fun t112=>(if t112 = true then (some false) else (if a3 = true then (if a4 = true then (some true) else (some a2)) else (some false)))) = some r:=by rw [if_neg (show ¬ (false = true) by decide)] at H; exact H
 clear H
 have H:=H1
 clear H1
 replace H:=Option.bind_eq_some_iff.mp H
 obtain ⟨t112,A150,H⟩:=H
 replace H : (if t112 = true then (some false) else (if a3 = true then (if a4 = true then (some true) else (some a2)) else (some false))) = some r:=H
 have A15:=Aside0.mk A150
 clear A150
 by_cases c16 : t112 = true
 case pos =>
  subst c16
  have H1 : (some false) = some r:=by rw [if_pos rfl] at H; exact H
  clear H
  have H:=H1
  clear H1
  obtain rfl:=Option.some.inj H
  go_enter Try.func87,Try.ntmps87
  go_wp2_with (first | ((with_reducible refine gate_dst (N:=5) rfl ?_); refine box_event ?hg (N:=5) ?hd (cs:=#[.bool a0_0,.int .u64 a0_1,.int .u64 a0_2,.int .i64 a0_3,.bool a0_4]) (t:=94) ?hr ?_; (case hd=>rfl); (case hg=>rfl); (case hr=>first | (go_simp; done) | (go_simp; rfl)); intro gb110 hg w17 hbox hb; have n0_:=bq_ hb; have n1_:=Aside0.mk (hbox); have n3_:=bz_ hg; clear HB; have HB:=n0_; have BK110:=n1_; have GE110:=n3_; clear n0_ n1_ n3_; clear hb hbox hg; have hcz18_0 : w17.cell? ⟨gb110,0,none⟩ = some (.bool a0_0):=bc_ BK110 0; have hcz18_1 : w17.cell? ⟨gb110,1,none⟩ = some (.int .u64 a0_1):=bc_ BK110 1; have hcz18_2 : w17.cell? ⟨gb110,2,none⟩ = some (.int .u64 a0_2):=bc_ BK110 2; have hcz18_3 : w17.cell? ⟨gb110,3,none⟩ = some (.int .i64 a0_3):=bc_ BK110 3; have hcz18_4 : w17.cell? ⟨gb110,4,none⟩ = some (.bool a0_4):=bc_ BK110 4; have hfz18_0:=blk_frozen BK110.out 0; have hfz18_1:=blk_frozen BK110.out 1; have hfz18_2:=blk_frozen BK110.out 2; have hfz18_3:=blk_frozen BK110.out 3; have hfz18_4:=blk_frozen BK110.out 4) | ((with_reducible refine gc_ 106 rfl ?_); refine gM_ (some 14) Try.func106 [.agg #[.bool a0_0,.int .u64 a0_1,.int .u64 a0_2,.int .i64 a0_3,.bool a0_4],.int .u8 a1] ?_; (with_reducible refine (round_number_away.calls a0_0 a0_1 a0_2 a0_3 a0_4 a1 false _ A6.out).mono ?_); rintro e w19 ⟨rfl,hb⟩; refine ⟨_,rfl,?_⟩; replace BK110:=kb_ BK110 hb; replace HB:=bq_ hb; skip; have hcz20_0 : w19.cell? ⟨gb110,0,none⟩ = some (.bool a0_0):=bc_ BK110 0; have hcz20_1 : w19.cell? ⟨gb110,1,none⟩ = some (.int .u64 a0_1):=bc_ BK110 1; have hcz20_2 : w19.cell? ⟨gb110,2,none⟩ = some (.int .u64 a0_2):=bc_ BK110 2; have hcz20_3 : w19.cell? ⟨gb110,3,none⟩ = some (.int .i64 a0_3):=bc_ BK110 3; have hcz20_4 : w19.cell? ⟨gb110,4,none⟩ = some (.bool a0_4):=bc_ BK110 4; have hfz20_0:=blk_frozen BK110.out 0; have hfz20_1:=blk_frozen BK110.out 1; have hfz20_2:=blk_frozen BK110.out 2; have hfz20_3:=blk_frozen BK110.out 3; have hfz20_4:=blk_frozen BK110.out 4) | ((with_reducible refine gc_ 107 rfl ?_); refine gM_ (some 22) Try.func107 [.agg #[.bool a0_0,.int .u64 a0_1,.int .u64 a0_2,.int .i64 a0_3,.bool a0_4],.int .u8 a1] ?_; (with_reducible refine (round_number_towards.calls a0_0 a0_1 a0_2 a0_3 a0_4 a1 true _ A15.out).mono ?_); rintro e w21 ⟨rfl,hb⟩; refine ⟨_,rfl,?_⟩; replace HB:=bq_ hb))
  go_ret
  exact ⟨eh_,bh_⟩
 replace c16:=Bool.eq_false_iff.mpr c16
 subst c16
 have H1 : (if a3 = true then (if a4 = true then (some true) else (some a2)) else (some false)) = some r:=by rw [if_neg (show ¬ (false = true) by decide)] at H; exact H
 clear H
 have H:=H1
 clear H1
 by_cases c22 : a3 = true
 case neg =>
  replace c22:=Bool.eq_false_iff.mpr c22
  subst c22
  have H1 : (some false) = some r:=by rw [if_neg (show ¬ (false = true) by decide)] at H; exact H
  clear H
  have H:=H1
  clear H1
  obtain rfl:=Option.some.inj H
  go_enter Try.func87,Try.ntmps87
  go_wp2_with (first | ((with_reducible refine gate_dst (N:=5) rfl ?_); refine box_event ?hg (N:=5) ?hd (cs:=#[.bool a0_0,.int .u64 a0_1,.int .u64 a0_2,.int .i64 a0_3,.bool a0_4]) (t:=94) ?hr ?_; (case hd=>rfl); (case hg=>rfl); (case hr=>first | (go_simp; done) | (go_simp; rfl)); intro gb110 hg w34 hbox hb; have n0_:=bq_ hb; have n1_:=Aside0.mk (hbox); have n3_:=bz_ hg; clear HB; have HB:=n0_; have BK110:=n1_; have GE110:=n3_; clear n0_ n1_ n3_; clear hb hbox hg; have hcz35_0 : w34.cell? ⟨gb110,0,none⟩ = some (.bool a0_0):=bc_ BK110 0; have hcz35_1 : w34.cell? ⟨gb110,1,none⟩ = some (.int .u64 a0_1):=bc_ BK110 1; have hcz35_2 : w34.cell? ⟨gb110,2,none⟩ = some (.int .u64 a0_2):=bc_ BK110 2; have hcz35_3 : w34.cell? ⟨gb110,3,none⟩ = some (.int .i64 a0_3):=bc_ BK110 3; have hcz35_4 : w34.cell? ⟨gb110,4,none⟩ = some (.bool a0_4):=bc_ BK110 4; have hfz35_0:=blk_frozen BK110.out 0; have hfz35_1:=blk_frozen BK110.out 1; have hfz35_2:=blk_frozen BK110.out 2; have hfz35_3:=blk_frozen BK110.out 3; have hfz35_4:=blk_frozen BK110.out 4) | ((with_reducible refine gc_ 106 rfl ?_); refine gM_ (some 14) Try.func106 [.agg #[.bool a0_0,.int .u64 a0_1,.int .u64 a0_2,.int .i64 a0_3,.bool a0_4],.int .u8 a1] ?_; (with_reducible refine (round_number_away.calls a0_0 a0_1 a0_2 a0_3 a0_4 a1 false _ A6.out).mono ?_); rintro e w36 ⟨rfl,hb⟩; refine ⟨_,rfl,?_⟩; replace BK110:=kb_ BK110 hb; replace HB:=bq_ hb; skip; have hcz37_0 : w36.cell? ⟨gb110,0,none⟩ = some (.bool a0_0):=bc_ BK110 0; have hcz37_1 : w36.cell? ⟨gb110,1,none⟩ = some (.int .u64 a0_1):=bc_ BK110 1; have hcz37_2 : w36.cell? ⟨gb110,2,none⟩ = some (.int .u64 a0_2):=bc_ BK110 2; have hcz37_3 : w36.cell? ⟨gb110,3,none⟩ = some (.int .i64 a0_3):=bc_ BK110 3; have hcz37_4 : w36.cell? ⟨gb110,4,none⟩ = some (.bool a0_4):=bc_ BK110 4; have hfz37_0:=blk_frozen BK110.out 0; have hfz37_1:=blk_frozen BK110.out 1; have hfz37_2:=blk_frozen BK110.out 2; have hfz37_3:=blk_frozen BK110.out 3; have hfz37_4:=blk_frozen BK110.out 4) | ((with_reducible refine gc_ 107 rfl ?_); refine gM_ (some 22) Try.func107 [.agg #[.bool a0_0,.int .u64 a0_1,.int .u64 a0_2,.int .i64 a0_3,.bool a0_4],.int .u8 a1] ?_; (with_reducible refine (round_number_towards.calls a0_0 a0_1 a0_2 a0_3 a0_4 a1 false _ A15.out).mono ?_); rintro e w38 ⟨rfl,hb⟩; refine ⟨_,rfl,?_⟩; replace HB:=bq_ hb))
  go_ret
  exact ⟨eh_,bh_⟩
 subst c22
 have H1 : (if a4 = true then (some true) else (some a2)) = some r:=by rw [if_pos rfl] at H; exact H
 clear H
 have H:=H1
 clear H1
 by_cases c23 : a4 = true
 case pos =>
  subst c23
  have H1 : (some true) = some r:=by rw [if_pos rfl] at H; exact H
  clear H
  have H:=H1
  clear H1
  obtain rfl:=Option.some.inj H
  go_enter Try.func87,Try.ntmps87
  go_wp2_with (first | ((with_reducible refine gate_dst (N:=5) rfl ?_); refine box_event ?hg (N:=5) ?hd (cs:=#[.bool a0_0,.int .u64 a0_1,.int .u64 a0_2,.int .i64 a0_3,.bool a0_4]) (t:=94) ?hr ?_; (case hd=>rfl); (case hg=>rfl); (case hr=>first | (go_simp; done) | (go_simp; rfl)); intro gb110 hg w24 hbox hb; have n0_:=bq_ hb; have n1_:=Aside0.mk (hbox); have n3_:=bz_ hg; clear HB; have HB:=n0_; have BK110:=n1_; have GE110:=n3_; clear n0_ n1_ n3_; clear hb hbox hg; have hcz25_0 : w24.cell? ⟨gb110,0,none⟩ = some (.bool a0_0):=bc_ BK110 0; have hcz25_1 : w24.cell? ⟨gb110,1,none⟩ = some (.int .u64 a0_1):=bc_ BK110 1; have hcz25_2 : w24.cell? ⟨gb110,2,none⟩ = some (.int .u64 a0_2):=bc_ BK110 2; have hcz25_3 : w24.cell? ⟨gb110,3,none⟩ = some (.int .i64 a0_3):=bc_ BK110 3; have hcz25_4 : w24.cell? ⟨gb110,4,none⟩ = some (.bool a0_4):=bc_ BK110 4; have hfz25_0:=blk_frozen BK110.out 0; have hfz25_1:=blk_frozen BK110.out 1; have hfz25_2:=blk_frozen BK110.out 2; have hfz25_3:=blk_frozen BK110.out 3; have hfz25_4:=blk_frozen BK110.out 4) | ((with_reducible refine gc_ 106 rfl ?_); refine gM_ (some 14) Try.func106 [.agg #[.bool a0_0,.int .u64 a0_1,.int .u64 a0_2,.int .i64 a0_3,.bool a0_4],.int .u8 a1] ?_; (with_reducible refine (round_number_away.calls a0_0 a0_1 a0_2 a0_3 a0_4 a1 false _ A6.out).mono ?_); rintro e w26 ⟨rfl,hb⟩; refine ⟨_,rfl,?_⟩; replace BK110:=kb_ BK110 hb; replace HB:=bq_ hb; skip; have hcz27_0 : w26.cell? ⟨gb110,0,none⟩ = some (.bool a0_0):=bc_ BK110 0; have hcz27_1 : w26.cell? ⟨gb110,1,none⟩ = some (.int .u64 a0_1):=bc_ BK110 1; have hcz27_2 : w26.cell? ⟨gb110,2,none⟩ = some (.int .u64 a0_2):=bc_ BK110 2; have hcz27_3 : w26.cell? ⟨gb110,3,none⟩ = some (.int .i64 a0_3):=bc_ BK110 3; have hcz27_4 : w26.cell? ⟨gb110,4,none⟩ = some (.bool a0_4):=bc_ BK110 4; have hfz27_0:=blk_frozen BK110.out 0; have hfz27_1:=blk_frozen BK110.out 1; have hfz27_2:=blk_frozen BK110.out 2; have hfz27_3:=blk_frozen BK110.out 3; have hfz27_4:=blk_frozen BK110.out 4) | ((with_reducible refine gc_ 107 rfl ?_); refine gM_ (some 22) Try.func107 [.agg #[.bool a0_0,.int .u64 a0_1,.int .u64 a0_2,.int .i64 a0_3,.bool a0_4],.int .u8 a1] ?_; (with_reducible refine (round_number_towards.calls a0_0 a0_1 a0_2 a0_3 a0_4 a1 false _ A15.out).mono ?_); rintro e w28 ⟨rfl,hb⟩; refine ⟨_,rfl,?_⟩; replace HB:=bq_ hb))
  go_ret
  exact ⟨eh_,bh_⟩
 replace c23:=Bool.eq_false_iff.mpr c23
 subst c23
 have H1 : (some a2) = some r:=by rw [if_neg (show ¬ (false = true) by decide)] at H; exact H
 clear H
 have H:=H1
 clear H1
 obtain rfl:=Option.some.inj H
 go_enter Try.func87,Try.ntmps87
 go_wp2_with (first | ((with_reducible refine gate_dst (N:=5) rfl ?_); refine box_event ?hg (N:=5) ?hd (cs:=#[.bool a0_0,.int .u64 a0_1,.int .u64 a0_2,.int .i64 a0_3,.bool a0_4]) (t:=94) ?hr ?_; (case hd=>rfl); (case hg=>rfl); (case hr=>first | (go_simp; done) | (go_simp; rfl)); intro gb110 hg w29 hbox hb; have n0_:=bq_ hb; have n1_:=Aside0.mk (hbox); have n3_:=bz_ hg; clear HB; have HB:=n0_; have BK110:=n1_; have GE110:=n3_; clear n0_ n1_ n3_; clear hb hbox hg; have hcz30_0 : w29.cell? ⟨gb110,0,none⟩ = some (.bool a0_0):=bc_ BK110 0; have hcz30_1 : w29.cell? ⟨gb110,1,none⟩ = some (.int .u64 a0_1):=bc_ BK110 1; have hcz30_2 : w29.cell? ⟨gb110,2,none⟩ = some (.int .u64 a0_2):=bc_ BK110 2; have hcz30_3 : w29.cell? ⟨gb110,3,none⟩ = some (.int .i64 a0_3):=bc_ BK110 3; have hcz30_4 : w29.cell? ⟨gb110,4,none⟩ = some (.bool a0_4):=bc_ BK110 4; have hfz30_0:=blk_frozen BK110.out 0; have hfz30_1:=blk_frozen BK110.out 1; have hfz30_2:=blk_frozen BK110.out 2; have hfz30_3:=blk_frozen BK110.out 3; have hfz30_4:=blk_frozen BK110.out 4) | ((with_reducible refine gc_ 106 rfl ?_); refine gM_ (some 14) Try.func106 [.agg #[.bool a0_0,.int .u64 a0_1,.int .u64 a0_2,.int .i64 a0_3,.bool a0_4],.int .u8 a1] ?_; (with_reducible refine (round_number_away.calls a0_0 a0_1 a0_2 a0_3 a0_4 a1 false _ A6.out).mono ?_); rintro e w31 ⟨rfl,hb⟩; refine ⟨_,rfl,?_⟩; replace BK110:=kb_ BK110 hb; replace HB:=bq_ hb; skip; have hcz32_0 : w31.cell? ⟨gb110,0,none⟩ = some (.bool a0_0):=bc_ BK110 0; have hcz32_1 : w31.cell? ⟨gb110,1,none⟩ = some (.int .u64 a0_1):=bc_ BK110 1; have hcz32_2 : w31.cell? ⟨gb110,2,none⟩ = some (.int .u64 a0_2):=bc_ BK110 2; have hcz32_3 : w31.cell? ⟨gb110,3,none⟩ = some (.int .i64 a0_3):=bc_ BK110 3; have hcz32_4 : w31.cell? ⟨gb110,4,none⟩ = some (.bool a0_4):=bc_ BK110 4; have hfz32_0:=blk_frozen BK110.out 0; have hfz32_1:=blk_frozen BK110.out 1; have hfz32_2:=blk_frozen BK110.out 2; have hfz32_3:=blk_frozen BK110.out 3; have hfz32_4:=blk_frozen BK110.out 4) | ((with_reducible refine gc_ 107 rfl ?_); refine gM_ (some 22) Try.func107 [.agg #[.bool a0_0,.int .u64 a0_1,.int .u64 a0_2,.int .i64 a0_3,.bool a0_4],.int .u8 a1] ?_; (with_reducible refine (round_number_towards.calls a0_0 a0_1 a0_2 a0_3 a0_4 a1 false _ A15.out).mono ?_); rintro e w33 ⟨rfl,hb⟩; refine ⟨_,rfl,?_⟩; replace HB:=bq_ hb))
 go_ret
 exact ⟨eh_,bh_⟩

/-! ### round_number_over: function 88 -/
def round_number_over.f (k : Nat) (a0_0 : Bool) (a0_1 : Int) (a0_2 : Int) (a0_3 : Int) (a0_4 : Bool) (a1 : Int) : Option (Int × Int):=(pattern_Inf.f k a0_0).bind fun t116=>((round_number_towards.f a0_0 a0_1 a0_2 a0_3 a0_4 a1).bind fun t117=>(if t117 = true then (some (IntKind.u64.wrap (t116 - 1),5)) else (some (t116,5))))
theorem round_number_over.mono : ∀ a0 a1 a2 a3 a4 a5 k,LeO (round_number_over.f k a0 a1 a2 a3 a4 a5) (round_number_over.f (k + 1) a0 a1 a2 a3 a4 a5):=by
 intro a0 a1 a2 a3 a4 a5 k
 unfold round_number_over.f
 repeat' with_reducible first | exact pattern_Inf.mono _ _ | exact LeO.refl _ | exact LeO.none _ | refine LeO.ite ?_ ?_ | refine LeO.bind ?_ (fun _=>?_)
set_option maxHeartbeats 8000000 in
set_option maxRecDepth 100000 in
theorem round_number_over.calls (k : Nat) (a0_0 : Bool) (a0_1 : Int) (a0_2 : Int) (a0_3 : Int) (a0_4 : Bool) (a1 : Int) (r1 : Int) (r2 : Int) (w : World) (h : round_number_over.f k a0_0 a0_1 a0_2 a0_3 a0_4 a1 = some (r1,r2)) :
  Calls Try.prog 88 #[.agg #[.bool a0_0,.int .u64 a0_1,.int .u64 a0_2,.int .i64 a0_3,.bool a0_4],.int .u8 a1] w fun e w'=>e = .returned (.tuple #[.int .u64 r1,.int .u8 r2]) ∧ Below w.heap.size w w':=by
 have hu94:=Try.underlying94
 have HB:=Aside0.mk (Below.refl w.heap.size w)
 have H : ((pattern_Inf.f k a0_0).bind fun t116=>((round_number_towards.f a0_0 a0_1 a0_2 a0_3 a0_4 a1).bind fun t117=>(if t117 = true then (some (IntKind.u64.wrap (t116 - 1),5)) else (some (t116,5))))) = some (r1,r2):=h
 clear h
 replace H:=Option.bind_eq_some_iff.mp H
 obtain ⟨t116,A30,H⟩:=H
 replace H : ((round_number_towards.f a0_0 a0_1 a0_2 a0_3 a0_4 a1).bind fun t117=>(if t117 = true then (some (IntKind.u64.wrap (t116 - 1),5)) else (some (t116,5)))) = some (r1,r2):=H
 have A3:=Aside0.mk A30
 clear A30
 replace H:=Option.bind_eq_some_iff.mp H
 obtain ⟨t117,A40,H⟩:=H
 replace H : (if t117 = true then (some (IntKind.u64.wrap (t116 - 1),5)) else (some (t116,5))) = some (r1,r2):=H
 have A4:=Aside0.mk A40
 clear A40
 by_cases c5 : t117 = true
 case pos =>
  subst c5
  have H1 : (some (IntKind.u64.wrap (t116 - 1),5)) = some (r1,r2):=by rw [if_pos rfl] at H; exact H
  clear H
  have H:=H1
  clear H1
  simp only [Option.some.injEq,Prod.mk.injEq] at H
  obtain ⟨rfl,rfl⟩:=H
  go_enter Try.func88,Try.ntmps88
  go_wp2_with (first | ((with_reducible refine gate_dst (N:=2) rfl ?_); refine box_event ?hg (N:=2) ?hd (cs:=#[.bool a0_0,.int .u64 a0_1,.int .u64 a0_2,.int .i64 a0_3,.bool a0_4]) (t:=94) ?hr ?_; (case hd=>rfl); (case hg=>rfl); (case hr=>first | (go_simp; done) | (go_simp; rfl)); intro gb115 hg w6 hbox hb; have n0_:=bq_ hb; have n1_:=Aside0.mk (hbox); have n3_:=bz_ hg; clear HB; have HB:=n0_; have BK115:=n1_; have GE115:=n3_; clear n0_ n1_ n3_; clear hb hbox hg; have hcz7_0 : w6.cell? ⟨gb115,0,none⟩ = some (.bool a0_0):=bc_ BK115 0; have hcz7_1 : w6.cell? ⟨gb115,1,none⟩ = some (.int .u64 a0_1):=bc_ BK115 1; have hcz7_2 : w6.cell? ⟨gb115,2,none⟩ = some (.int .u64 a0_2):=bc_ BK115 2; have hcz7_3 : w6.cell? ⟨gb115,3,none⟩ = some (.int .i64 a0_3):=bc_ BK115 3; have hcz7_4 : w6.cell? ⟨gb115,4,none⟩ = some (.bool a0_4):=bc_ BK115 4; have hfz7_0:=blk_frozen BK115.out 0; have hfz7_1:=blk_frozen BK115.out 1; have hfz7_2:=blk_frozen BK115.out 2; have hfz7_3:=blk_frozen BK115.out 3; have hfz7_4:=blk_frozen BK115.out 4) | ((with_reducible refine gc_ 40 rfl ?_); refine gM_ (some 9) Try.func40 [.bool a0_0] ?_; (with_reducible refine (pattern_Inf.calls k a0_0 t116 _ A3.out).mono ?_); rintro e w' ⟨rfl,⟨nd,rfl⟩⟩; refine ⟨_,rfl,?_⟩) | ((with_reducible refine gc_ 107 rfl ?_); refine gM_ (some 12) Try.func107 [.agg #[.bool a0_0,.int .u64 a0_1,.int .u64 a0_2,.int .i64 a0_3,.bool a0_4],.int .u8 a1] ?_; (with_reducible refine (round_number_towards.calls a0_0 a0_1 a0_2 a0_3 a0_4 a1 true _ A4.out).mono ?_); rintro e w8 ⟨rfl,hb⟩; refine ⟨_,rfl,?_⟩; replace HB:=bq_ hb))
  go_ret2
  exact ⟨eh_,bh_⟩
 replace c5:=Bool.eq_false_iff.mpr c5
 subst c5
 have H1 : (some (t116,5)) = some (r1,r2):=by rw [if_neg (show ¬ (false = true) by decide)] at H; exact H
 clear H
 have H:=H1
 clear H1
 simp only [Option.some.injEq,Prod.mk.injEq] at H
 obtain ⟨rfl,rfl⟩:=H
 go_enter Try.func88,Try.ntmps88
 go_wp2_with (first | ((with_reducible refine gate_dst (N:=2) rfl ?_); refine box_event ?hg (N:=2) ?hd (cs:=#[.bool a0_0,.int .u64 a0_1,.int .u64 a0_2,.int .i64 a0_3,.bool a0_4]) (t:=94) ?hr ?_; (case hd=>rfl); (case hg=>rfl); (case hr=>first | (go_simp; done) | (go_simp; rfl)); intro gb115 hg w9 hbox hb; have n0_:=bq_ hb; have n1_:=Aside0.mk (hbox); have n3_:=bz_ hg; clear HB; have HB:=n0_; have BK115:=n1_; have GE115:=n3_; clear n0_ n1_ n3_; clear hb hbox hg; have hcz10_0 : w9.cell? ⟨gb115,0,none⟩ = some (.bool a0_0):=bc_ BK115 0; have hcz10_1 : w9.cell? ⟨gb115,1,none⟩ = some (.int .u64 a0_1):=bc_ BK115 1; have hcz10_2 : w9.cell? ⟨gb115,2,none⟩ = some (.int .u64 a0_2):=bc_ BK115 2; have hcz10_3 : w9.cell? ⟨gb115,3,none⟩ = some (.int .i64 a0_3):=bc_ BK115 3; have hcz10_4 : w9.cell? ⟨gb115,4,none⟩ = some (.bool a0_4):=bc_ BK115 4; have hfz10_0:=blk_frozen BK115.out 0; have hfz10_1:=blk_frozen BK115.out 1; have hfz10_2:=blk_frozen BK115.out 2; have hfz10_3:=blk_frozen BK115.out 3; have hfz10_4:=blk_frozen BK115.out 4) | ((with_reducible refine gc_ 40 rfl ?_); refine gM_ (some 9) Try.func40 [.bool a0_0] ?_; (with_reducible refine (pattern_Inf.calls k a0_0 t116 _ A3.out).mono ?_); rintro e w' ⟨rfl,⟨nd,rfl⟩⟩; refine ⟨_,rfl,?_⟩) | ((with_reducible refine gc_ 107 rfl ?_); refine gM_ (some 12) Try.func107 [.agg #[.bool a0_0,.int .u64 a0_1,.int .u64 a0_2,.int .i64 a0_3,.bool a0_4],.int .u8 a1] ?_; (with_reducible refine (round_number_towards.calls a0_0 a0_1 a0_2 a0_3 a0_4 a1 false _ A4.out).mono ?_); rintro e w11 ⟨rfl,hb⟩; refine ⟨_,rfl,?_⟩; replace HB:=bq_ hb))
 go_ret2
 exact ⟨eh_,bh_⟩

/-! ### round_number_float: function 59 -/
mutual
def round_number_float.j0 : Nat → Int → Int → Int → Bool → Bool → Bool → Int → Int → Int → Bool → Int → Int → Option (Int × Int)
 | 0,_,_,_,_,_,_,_,_,_,_,_,_=>none
 | k + 1,x1,x6,x7,x9,x10,x119000,x119001,x119002,x119003,x119004,x121000,x121001=>(round_number_up.f x119000 x119001 x119002 x119003 x119004 x1 ((Go.bits .and .u64 x121001 1) == 1) x9 x10).bind fun t132=>(if t132 = true then (round_number_float.j1 k x1 x6 x7 x9 x10 (IntKind.u64.wrap (x121001 + 1)) x119000 x119001 x119002 x119003 x119004) else (round_number_float.j1 k x1 x6 x7 x9 x10 x121001 x119000 x119001 x119002 x119003 x119004))
def round_number_float.j1 : Nat → Int → Int → Int → Bool → Bool → Int → Bool → Int → Int → Int → Bool → Option (Int × Int)
 | 0,_,_,_,_,_,_,_,_,_,_,_=>none
 | k + 1,x1,x6,x7,x9,x10,x13,x119000,x119001,x119002,x119003,x119004=>if x13 = 9007199254740992 then (round_number_float.j2 k x1 x6 (wrap64 (x7 + 1)) x9 x10 (x13 / 2) x119000 x119001 x119002 x119003 x119004) else (round_number_float.j2 k x1 x6 x7 x9 x10 x13 x119000 x119001 x119002 x119003 x119004)
def round_number_float.j2 : Nat → Int → Int → Int → Bool → Bool → Int → Bool → Int → Int → Int → Bool → Option (Int × Int)
 | 0,_,_,_,_,_,_,_,_,_,_,_=>none
 | k + 1,x1,x6,x7,x9,x10,x13,x119000,x119001,x119002,x119003,x119004=>if x7 > 971 then ((round_number_over.f k x119000 x119001 x119002 x119003 x119004 x1).bind fun bt133=>(some (bt133.1,bt133.2))) else (if x9 = true then (round_number_float.j3 k x6 x7 x13 0 true x119000 x119001 x119002 x119003 x119004) else (round_number_float.j3 k x6 x7 x13 0 x10 x119000 x119001 x119002 x119003 x119004))
def round_number_float.j3 : Nat → Int → Int → Int → Int → Bool → Bool → Int → Int → Int → Bool → Option (Int × Int)
 | 0,_,_,_,_,_,_,_,_,_,_=>none
 | k + 1,x6,x7,x13,x14,x90,x119000,x119001,x119002,x119003,x119004=>if x90 = true then (if (wrap64 (x6 + x119003)) ≤ (-1022) then (if (x13 / 4503599627370496) = 1 then ((pattern_Make.f k x119000 (wrap64 ((wrap64 (x7 - (-1074))) + 1)) (Go.bits .and .u64 x13 4503599627370495)).bind fun bt135=>(some (bt135.1,Go.bits .or .u8 1 2))) else ((pattern_Make.f k x119000 0 (Go.bits .and .u64 x13 4503599627370495)).bind fun bt137=>(some (bt137.1,Go.bits .or .u8 1 2)))) else (if (x13 / 4503599627370496) = 1 then ((pattern_Make.f k x119000 (wrap64 ((wrap64 (x7 - (-1074))) + 1)) (Go.bits .and .u64 x13 4503599627370495)).bind fun bt139=>(some (bt139.1,1))) else ((pattern_Make.f k x119000 0 (Go.bits .and .u64 x13 4503599627370495)).bind fun bt141=>(some (bt141.1,1))))) else (if (x13 / 4503599627370496) = 1 then ((pattern_Make.f k x119000 (wrap64 ((wrap64 (x7 - (-1074))) + 1)) (Go.bits .and .u64 x13 4503599627370495)).bind fun bt143=>(some (bt143.1,x14))) else ((pattern_Make.f k x119000 0 (Go.bits .and .u64 x13 4503599627370495)).bind fun bt145=>(some (bt145.1,x14))))
end
def round_number_float.f (k : Nat) (a0_0 : Bool) (a0_1 : Int) (a0_2 : Int) (a0_3 : Int) (a0_4 : Bool) (a1 : Int) : Option (Int × Int):=(wide_U128_Len.f a0_1 a0_2).bind fun t119=>(if (wrap64 ((mx (wrap64 ((wrap64 (t119 - 53)) + a0_3)) (-1074)) - a0_3)) > 0 then ((wide_U128_Shr.f k a0_1 a0_2 (wrap64 ((wrap64 ((mx (wrap64 ((wrap64 (t119 - 53)) + a0_3)) (-1074)) - a0_3)) - 1))).bind fun bt121=>(if a0_4 = true then ((wide_U128_Shr.f k bt121.1 bt121.2.1 1).bind fun bt124=>(round_number_float.j0 k a1 t119 (mx (wrap64 ((wrap64 (t119 - 53)) + a0_3)) (-1074)) ((Go.bits .and .u64 bt121.2.1 1) == 1) true a0_0 a0_1 a0_2 a0_3 a0_4 bt124.1 bt124.2.1)) else ((wide_U128_Shr.f k bt121.1 bt121.2.1 1).bind fun bt127=>(round_number_float.j0 k a1 t119 (mx (wrap64 ((wrap64 (t119 - 53)) + a0_3)) (-1074)) ((Go.bits .and .u64 bt121.2.1 1) == 1) bt121.2.2 a0_0 a0_1 a0_2 a0_3 a0_4 bt127.1 bt127.2.1)))) else ((wide_U128_Shl.f k a0_1 a0_2 (wrap64 (-(wrap64 ((mx (wrap64 ((wrap64 (t119 - 53)) + a0_3)) (-1074)) - a0_3))))).bind fun bt130=>(round_number_float.j0 k a1 t119 (mx (wrap64 ((wrap64 (t119 - 53)) + a0_3)) (-1074)) false a0_4 a0_0 a0_1 a0_2 a0_3 a0_4 bt130.1 bt130.2)))
theorem round_number_float.mono_l : ∀ k,(∀ y0 y1 y2 y3 y4 y5 y6 y7 y8 y9 y10 y11,LeO (round_number_float.j0 k y0 y1 y2 y3 y4 y5 y6 y7 y8 y9 y10 y11) (round_number_float.j0 (k + 1) y0 y1 y2 y3 y4 y5 y6 y7 y8 y9 y10 y11)) ∧ (∀ y0 y1 y2 y3 y4 y5 y6 y7 y8 y9 y10,LeO (round_number_float.j1 k y0 y1 y2 y3 y4 y5 y6 y7 y8 y9 y10) (round_number_float.j1 (k + 1) y0 y1 y2 y3 y4 y5 y6 y7 y8 y9 y10)) ∧ (∀ y0 y1 y2 y3 y4 y5 y6 y7 y8 y9 y10,LeO (round_number_float.j2 k y0 y1 y2 y3 y4 y5 y6 y7 y8 y9 y10) (round_number_float.j2 (k + 1) y0 y1 y2 y3 y4 y5 y6 y7 y8 y9 y10)) ∧ (∀ y0 y1 y2 y3 y4 y5 y6 y7 y8 y9,LeO (round_number_float.j3 k y0 y1 y2 y3 y4 y5 y6 y7 y8 y9) (round_number_float.j3 (k + 1) y0 y1 y2 y3 y4 y5 y6 y7 y8 y9))
 | 0=>⟨fun _ _ _ _ _ _ _ _ _ _ _ _ r h=>by simp [round_number_float.j0] at h,fun _ _ _ _ _ _ _ _ _ _ _ r h=>by simp [round_number_float.j1] at h,fun _ _ _ _ _ _ _ _ _ _ _ r h=>by simp [round_number_float.j2] at h,fun _ _ _ _ _ _ _ _ _ _ r h=>by simp [round_number_float.j3] at h⟩
 | k + 1=>by
  obtain ⟨ih0,ih1,ih2,ih3⟩:=round_number_float.mono_l k
  refine ⟨?_,?_,?_,?_⟩
  ·
   intro y0 y1 y2 y3 y4 y5 y6 y7 y8 y9 y10 y11
   unfold round_number_float.j0
   repeat' with_reducible first | exact ih0 _ _ _ _ _ _ _ _ _ _ _ _ | exact ih1 _ _ _ _ _ _ _ _ _ _ _ | exact ih2 _ _ _ _ _ _ _ _ _ _ _ | exact ih3 _ _ _ _ _ _ _ _ _ _ | exact pattern_Make.mono _ _ _ _ | exact round_number_over.mono _ _ _ _ _ _ _ | exact wide_U128_Shl.mono _ _ _ _ | exact wide_U128_Shr.mono _ _ _ _ | exact LeO.refl _ | exact LeO.none _ | refine LeO.ite ?_ ?_ | refine LeO.bind ?_ (fun _=>?_)
  ·
   intro y0 y1 y2 y3 y4 y5 y6 y7 y8 y9 y10
   unfold round_number_float.j1
   repeat' with_reducible first | exact ih0 _ _ _ _ _ _ _ _ _ _ _ _ | exact ih1 _ _ _ _ _ _ _ _ _ _ _ | exact ih2 _ _ _ _ _ _ _ _ _ _ _ | exact ih3 _ _ _ _ _ _ _ _ _ _ | exact pattern_Make.mono _ _ _ _ | exact round_number_over.mono _ _ _ _ _ _ _ | exact wide_U128_Shl.mono _ _ _ _ | exact wide_U128_Shr.mono _ _ _ _ | exact LeO.refl _ | exact LeO.none _ | refine LeO.ite ?_ ?_ | refine LeO.bind ?_ (fun _=>?_)
  ·
   intro y0 y1 y2 y3 y4 y5 y6 y7 y8 y9 y10
   unfold round_number_float.j2
   repeat' with_reducible first | exact ih0 _ _ _ _ _ _ _ _ _ _ _ _ | exact ih1 _ _ _ _ _ _ _ _ _ _ _ | exact ih2 _ _ _ _ _ _ _ _ _ _ _ | exact ih3 _ _ _ _ _ _ _ _ _ _ | exact pattern_Make.mono _ _ _ _ | exact round_number_over.mono _ _ _ _ _ _ _ | exact wide_U128_Shl.mono _ _ _ _ | exact wide_U128_Shr.mono _ _ _ _ | exact LeO.refl _ | exact LeO.none _ | refine LeO.ite ?_ ?_ | refine LeO.bind ?_ (fun _=>?_)
  ·
   intro y0 y1 y2 y3 y4 y5 y6 y7 y8 y9
   unfold round_number_float.j3
   repeat' with_reducible first | exact ih0 _ _ _ _ _ _ _ _ _ _ _ _ | exact ih1 _ _ _ _ _ _ _ _ _ _ _ | exact ih2 _ _ _ _ _ _ _ _ _ _ _ | exact ih3 _ _ _ _ _ _ _ _ _ _ | exact pattern_Make.mono _ _ _ _ | exact round_number_over.mono _ _ _ _ _ _ _ | exact wide_U128_Shl.mono _ _ _ _ | exact wide_U128_Shr.mono _ _ _ _ | exact LeO.refl _ | exact LeO.none _ | refine LeO.ite ?_ ?_ | refine LeO.bind ?_ (fun _=>?_)
theorem round_number_float.mono : ∀ a0 a1 a2 a3 a4 a5 k,LeO (round_number_float.f k a0 a1 a2 a3 a4 a5) (round_number_float.f (k + 1) a0 a1 a2 a3 a4 a5):=by
 intro a0 a1 a2 a3 a4 a5 k
 obtain ⟨ih0,ih1,ih2,ih3⟩:=round_number_float.mono_l k
 unfold round_number_float.f
 repeat' with_reducible first | exact ih0 _ _ _ _ _ _ _ _ _ _ _ _ | exact ih1 _ _ _ _ _ _ _ _ _ _ _ | exact ih2 _ _ _ _ _ _ _ _ _ _ _ | exact ih3 _ _ _ _ _ _ _ _ _ _ | exact pattern_Make.mono _ _ _ _ | exact round_number_over.mono _ _ _ _ _ _ _ | exact wide_U128_Shl.mono _ _ _ _ | exact wide_U128_Shr.mono _ _ _ _ | exact LeO.refl _ | exact LeO.none _ | refine LeO.ite ?_ ?_ | refine LeO.bind ?_ (fun _=>?_)
def round_number_float.T3 : Bool × List (List Nat × List Nat):=(true,[([],[]),([0],[0]),([],[]),([2],[2]),([],[]),([4,1,0,1,4],[1,4]),([5,0,1,4,5],[]),([3,6,0,1,2,3,4,5,6],[3])])
def round_number_float.B3 : List Nat:=[0,1,0,4,0,19,51,127]
theorem round_number_float.tab3 : rtab .any (opsOf Try.f59 3) = round_number_float.T3:=by kernel_rfl
theorem round_number_float.bits3 : waitsOk round_number_float.T3.2 round_number_float.B3 = true:=by kernel_rfl
set_option maxHeartbeats 8000000 in
set_option maxRecDepth 100000 in
theorem round_number_float.calls (k : Nat) (a0_0 : Bool) (a0_1 : Int) (a0_2 : Int) (a0_3 : Int) (a0_4 : Bool) (a1 : Int) (r1 : Int) (r2 : Int) (w : World) (h : round_number_float.f k a0_0 a0_1 a0_2 a0_3 a0_4 a1 = some (r1,r2)) :
  Calls Try.prog 59 #[.agg #[.bool a0_0,.int .u64 a0_1,.int .u64 a0_2,.int .i64 a0_3,.bool a0_4],.int .u8 a1] w fun e w'=>e = .returned (.tuple #[.int .u64 r1,.int .u8 r2]) ∧ Below w.heap.size w w':=by
 have hu94:=Try.underlying94
 have hu40:=Try.underlying40
 have HB:=Aside0.mk (Below.refl w.heap.size w)
 have H : ((wide_U128_Len.f a0_1 a0_2).bind fun t119=>(if (wrap64 ((mx (wrap64 ((wrap64 (t119 - 53)) + a0_3)) (-1074)) - a0_3)) > 0 then ((wide_U128_Shr.f k a0_1 a0_2 (wrap64 ((wrap64 ((mx (wrap64 ((wrap64 (t119 - 53)) + a0_3)) (-1074)) - a0_3)) - 1))).bind fun bt121=>(if a0_4 = true then ((wide_U128_Shr.f k bt121.1 bt121.2.1 1).bind fun bt124=>(round_number_float.j0 k a1 t119 (mx (wrap64 ((wrap64 (t119 - 53)) + a0_3)) (-1074)) ((Go.bits .and .u64 bt121.2.1 1) == 1) true a0_0 a0_1 a0_2 a0_3 a0_4 bt124.1 bt124.2.1)) else ((wide_U128_Shr.f k bt121.1 bt121.2.1 1).bind fun bt127=>(round_number_float.j0 k a1 t119 (mx (wrap64 ((wrap64 (t119 - 53)) + a0_3)) (-1074)) ((Go.bits .and .u64 bt121.2.1 1) == 1) bt121.2.2 a0_0 a0_1 a0_2 a0_3 a0_4 bt127.1 bt127.2.1)))) else ((wide_U128_Shl.f k a0_1 a0_2 (wrap64 (-(wrap64 ((mx (wrap64 ((wrap64 (t119 - 53)) + a0_3)) (-1074)) - a0_3))))).bind fun bt130=>(round_number_float.j0 k a1 t119 (mx (wrap64 ((wrap64 (t119 - 53)) + a0_3)) (-1074)) false a0_4 a0_0 a0_1 a0_2 a0_3 a0_4 bt130.1 bt130.2)))) = some (r1,r2):=h
 clear h
 replace H:=Option.bind_eq_some_iff.mp H
 obtain ⟨t119,A30,H⟩:=H
 replace H : (if (wrap64 ((mx (wrap64 ((wrap64 (t119 - 53)) + a0_3)) (-1074)) - a0_3)) > 0 then ((wide_U128_Shr.f k a0_1 a0_2 (wrap64 ((wrap64 ((mx (wrap64 ((wrap64 (t119 - 53)) + a0_3)) (-1074)) - a0_3)) - 1))).bind fun bt121=>(if a0_4 = true then ((wide_U128_Shr.f k bt121.1 bt121.2.1 1).bind fun bt124=>(round_number_float.j0 k a1 t119 (mx (wrap64 ((wrap64 (t119 - 53)) + a0_3)) (-1074)) ((Go.bits .and .u64 bt121.2.1 1) == 1) true a0_0 a0_1 a0_2 a0_3 a0_4 bt124.1 bt124.2.1)) else ((wide_U128_Shr.f k bt121.1 bt121.2.1 1).bind fun bt127=>(round_number_float.j0 k a1 t119 (mx (wrap64 ((wrap64 (t119 - 53)) + a0_3)) (-1074)) ((Go.bits .and .u64 bt121.2.1 1) == 1) bt121.2.2 a0_0 a0_1 a0_2 a0_3 a0_4 bt127.1 bt127.2.1)))) else ((wide_U128_Shl.f k a0_1 a0_2 (wrap64 (-(wrap64 ((mx (wrap64 ((wrap64 (t119 - 53)) + a0_3)) (-1074)) - a0_3))))).bind fun bt130=>(round_number_float.j0 k a1 t119 (mx (wrap64 ((wrap64 (t119 - 53)) + a0_3)) (-1074)) false a0_4 a0_0 a0_1 a0_2 a0_3 a0_4 bt130.1 bt130.2))) = some (r1,r2):=H
 have A3:=Aside0.mk A30
 clear A30
 obtain ⟨ji4,hji4⟩ : ∃ j_ : Int,(mx (wrap64 ((wrap64 (t119 - 53)) + a0_3)) (-1074)) = j_:=⟨_,rfl⟩
 replace H : (if (wrap64 ((ji4) - a0_3)) > 0 then ((wide_U128_Shr.f k a0_1 a0_2 (wrap64 ((wrap64 ((ji4) - a0_3)) - 1))).bind fun bt121=>(if a0_4 = true then ((wide_U128_Shr.f k bt121.1 bt121.2.1 1).bind fun bt124=>(round_number_float.j0 k a1 t119 ji4 ((Go.bits .and .u64 bt121.2.1 1) == 1) true a0_0 a0_1 a0_2 a0_3 a0_4 bt124.1 bt124.2.1)) else ((wide_U128_Shr.f k bt121.1 bt121.2.1 1).bind fun bt127=>(round_number_float.j0 k a1 t119 ji4 ((Go.bits .and .u64 bt121.2.1 1) == 1) bt121.2.2 a0_0 a0_1 a0_2 a0_3 a0_4 bt127.1 bt127.2.1)))) else ((wide_U128_Shl.f k a0_1 a0_2 (wrap64 (-(wrap64 ((ji4) - a0_3))))).bind fun bt130=>(round_number_float.j0 k a1 t119 ji4 false a0_4 a0_0 a0_1 a0_2 a0_3 a0_4 bt130.1 bt130.2))) = some (r1,r2):=by first | (rw [hji4] at H; exact H) | (simp only [hji4] at H ⊢; exact H)
 (try rw [hji4] at A3)
 have hji4_ : (if (wrap64 ((wrap64 (t119 - 53)) + a0_3)) < (-1074) then (-1074) else (wrap64 ((wrap64 (t119 - 53)) + a0_3))) = ji4:=hji4
 have HC5:=Aside0.mk H
 clear H
 go_enter Try.func59,Try.ntmps59
 try go_wp2_with (first | ((with_reducible refine gate_dst (N:=2) rfl ?_); refine box_event ?hg (N:=2) ?hd (cs:=#[.bool a0_0,.int .u64 a0_1,.int .u64 a0_2,.int .i64 a0_3,.bool a0_4]) (t:=94) ?hr ?_; (case hd=>rfl); (case hg=>rfl); (case hr=>first | (go_simp; done) | (go_simp; rfl)); intro gb118 hg w6 hbox hb; have n0_:=bq_ hb; have n1_:=Aside0.mk (hbox); have n3_:=bz_ hg; clear HB; have HB:=n0_; have BK118:=n1_; have GE118:=n3_; clear n0_ n1_ n3_; clear hb hbox hg; have hcz7_0 : w6.cell? ⟨gb118,0,none⟩ = some (.bool a0_0):=bc_ BK118 0; have hcz7_1 : w6.cell? ⟨gb118,1,none⟩ = some (.int .u64 a0_1):=bc_ BK118 1; have hcz7_2 : w6.cell? ⟨gb118,2,none⟩ = some (.int .u64 a0_2):=bc_ BK118 2; have hcz7_3 : w6.cell? ⟨gb118,3,none⟩ = some (.int .i64 a0_3):=bc_ BK118 3; have hcz7_4 : w6.cell? ⟨gb118,4,none⟩ = some (.bool a0_4):=bc_ BK118 4; have hfz7_0:=blk_frozen BK118.out 0; have hfz7_1:=blk_frozen BK118.out 1; have hfz7_2:=blk_frozen BK118.out 2; have hfz7_3:=blk_frozen BK118.out 3; have hfz7_4:=blk_frozen BK118.out 4) | ((with_reducible refine gc_ 57 rfl ?_); refine gM_ (some 20) Try.func57 [.agg #[.int .u64 a0_1,.int .u64 a0_2]] ?_; (with_reducible refine (wide_U128_Len.calls a0_1 a0_2 t119 _ A3.out).mono ?_); rintro e w8 ⟨rfl,hb⟩; refine ⟨_,rfl,?_⟩; replace BK118:=kb_ BK118 hb; replace HB:=bq_ hb; skip; have hcz9_0 : w8.cell? ⟨gb118,0,none⟩ = some (.bool a0_0):=bc_ BK118 0; have hcz9_1 : w8.cell? ⟨gb118,1,none⟩ = some (.int .u64 a0_1):=bc_ BK118 1; have hcz9_2 : w8.cell? ⟨gb118,2,none⟩ = some (.int .u64 a0_2):=bc_ BK118 2; have hcz9_3 : w8.cell? ⟨gb118,3,none⟩ = some (.int .i64 a0_3):=bc_ BK118 3; have hcz9_4 : w8.cell? ⟨gb118,4,none⟩ = some (.bool a0_4):=bc_ BK118 4; have hfz9_0:=blk_frozen BK118.out 0; have hfz9_1:=blk_frozen BK118.out 1; have hfz9_2:=blk_frozen BK118.out 2; have hfz9_3:=blk_frozen BK118.out 3; have hfz9_4:=blk_frozen BK118.out 4))
 have n0_:=Aside0.mk (blk_drew BK118.out)
 have n1_:=Aside0.mk (below_drew1 HB.out)
 clear BK118
 clear HB
 have BK118:=n0_
 have HB:=n1_
 clear n0_ n1_
 refine start_ (n:=8) (S:=fun w'=>w'.cell? ⟨gb118,0,none⟩ = some (.bool a0_0) ∧ w'.cell? ⟨gb118,1,none⟩ = some (.int .u64 a0_1) ∧ w'.cell? ⟨gb118,2,none⟩ = some (.int .u64 a0_2) ∧ w'.cell? ⟨gb118,3,none⟩ = some (.int .i64 a0_3) ∧ w'.cell? ⟨gb118,4,none⟩ = some (.bool a0_4)) (ds:=[]) #[false,false,false,false,false,false,false,false] (by kernel_rfl) rfl rfl ⟨bc_ BK118 0,bc_ BK118 1,bc_ BK118 2,bc_ BK118 3,bc_ BK118 4⟩ (fun hHeld=>?_); refine with_tabW round_number_float.tab3 round_number_float.bits3 (fun HT_ HW_=>?_)
 generalize w8.drew = w10 at BK118 HB hHeld ⊢
 refine pure_ (i:=0) (N:=some 27) (v:=?_) (a':=?_) #[true,false,false,false,false,false,false,false] rfl rfl (any_of HT_.out (by kernel_rfl)) (fun _ _ _ h=>h) (Or.inl ⟨by rfl,?_⟩) ?_ ?_
 rotate_left
 ·
  intro w'
  go_simp
  with_reducible rfl
 rotate_left
 ·
  simp only [Act.put,p1_,p2_,p3_,i64_w,i32_w]
  rfl
 refine pure_ (i:=2) (N:=some 29) (v:=?_) (a':=?_) #[true,false,true,false,false,false,false,false] rfl rfl (any_of HT_.out (by kernel_rfl)) (fun _ _ _ h=>h) (Or.inl ⟨by rfl,?_⟩) ?_ ?_
 rotate_left
 ·
  intro w'
  go_simp
  with_reducible rfl
 rotate_left
 ·
  simp only [Act.put,p1_,p2_,p3_,i64_w,i32_w]
  rfl
 refine take_ (i:=1) (N:=some 28) (v:=?_) (a':=?_) #[true,true,true,false,false,false,false,false] rfl rfl (take_ofW HT_.out HW_.out (by kernel_rfl)) (fun _ _ _ h=>h) (Or.inl ⟨by rfl,?_⟩) hHeld ?_ ?_
 rotate_left
 ·
  rintro w' ⟨s0,s1,s2,s3,s4⟩
  go_simp
  with_reducible rfl
 rotate_left
 ·
  simp only [Act.put,p1_,p2_,p3_,i64_w,i32_w]
  rfl
 refine take_ (i:=3) (N:=some 30) (v:=?_) (a':=?_) #[true,true,true,true,false,false,false,false] rfl rfl (take_ofW HT_.out HW_.out (by kernel_rfl)) (fun _ _ _ h=>h) (Or.inl ⟨by rfl,?_⟩) hHeld ?_ ?_
 rotate_left
 ·
  rintro w' ⟨s0,s1,s2,s3,s4⟩
  go_simp
  with_reducible rfl
 rotate_left
 ·
  simp only [Act.put,p1_,p2_,p3_,i64_w,i32_w]
  rfl
 refine one_ (i:=4) (N:=some 8) #[true,true,true,true,true,false,false,false] rfl rfl (one_of HT_.out (by kernel_rfl)) (by decide) (fun K hK=>?_)
 refine box_step ?hg (N:=8) ?hd (cs:=#[.int .u64 0,.int .u64 0]) (t:=40) ?hr ?_; (case hd=>rfl); (case hg=>rfl); (case hr=>first | (go_simp; done) | (go_simp; rfl))
 intro gb120 hg w11 hbox hb
 have n0_:=kb_ BK118 hb
 have n1_:=bq_ hb
 have n2_:=Aside0.mk (hbox)
 have n4_:=bz_ hg
 have n5_:=Aside0.mk ((by rw [hg]; exact Nat.ne_of_lt (blk_lt (g:=gb118) (o:=.cells #[.bool a0_0,.int .u64 a0_1,.int .u64 a0_2,.int .i64 a0_3,.bool a0_4] 94 (0,0)) (by (with_reducible repeat (first | apply kn_ | apply kd_ | apply ka_)); exact BK118.out)) : gb118 ≠ gb120))
 have n6_:=Aside0.mk ((by rw [hg]; exact Nat.ne_of_gt (blk_lt (g:=gb118) (o:=.cells #[.bool a0_0,.int .u64 a0_1,.int .u64 a0_2,.int .i64 a0_3,.bool a0_4] 94 (0,0)) (by (with_reducible repeat (first | apply kn_ | apply kd_ | apply ka_)); exact BK118.out)) : gb120 ≠ gb118))
 (try clear BK118)
 (try clear HB)
 have BK118:=n0_
 have HB:=n1_
 have BK120:=n2_
 have GE120:=n4_
 have NB118_120:=n5_
 have NB120_118:=n6_
 clear n0_ n1_ n2_ n4_ n5_ n6_
 clear hb hbox hg
 refine hK.out _ _ ⟨bc_ BK118 0,bc_ BK118 1,bc_ BK118 2,bc_ BK118 3,bc_ BK118 4⟩ (fun hHeld=>?_)
 clear hK K
 refine norm_ (a':=?_) ?_ ?_
 rotate_left
 ·
  show Act.put _ (some 8) _ = _
  simp only [Act.put,p1_,p2_,p3_,i64_w,i32_w]
  rfl
 refine one_ (i:=5) (N:=none) #[true,true,true,true,true,true,false,false] rfl rfl (one_of HT_.out (by kernel_rfl)) (by decide) (fun K hK=>?_)
 have hs12 : w11.cell? ⟨gb120,0,none⟩ = some (.int .u64 0):=bc_ BK120 0
 have hfs12:=blk_frozen BK120.out 0
 have hns12_0:=NB118_120.out
 have hms12_0:=NB120_118.out
 have hs13 : w11.cell? ⟨gb120,1,none⟩ = some (.int .u64 0):=bc_ BK120 1
 have hfs13:=blk_frozen BK120.out 1
 have hns13_0:=NB118_120.out
 have hms13_0:=NB120_118.out
 refine skip_ (w1:=?_) (by rfl) rfl ?_ ?_
 rotate_left
 ·
  go_simp
  rfl
 refine hK.out _ _ ⟨((cell_far (p:=⟨gb120,_,none⟩) NB118_120.out _).trans (((cell_far (p:=⟨gb120,_,none⟩) NB118_120.out _).trans (hHeld.1)))),((cell_far (p:=⟨gb120,_,none⟩) NB118_120.out _).trans (((cell_far (p:=⟨gb120,_,none⟩) NB118_120.out _).trans (hHeld.2.1)))),((cell_far (p:=⟨gb120,_,none⟩) NB118_120.out _).trans (((cell_far (p:=⟨gb120,_,none⟩) NB118_120.out _).trans (hHeld.2.2.1)))),((cell_far (p:=⟨gb120,_,none⟩) NB118_120.out _).trans (((cell_far (p:=⟨gb120,_,none⟩) NB118_120.out _).trans (hHeld.2.2.2.1)))),((cell_far (p:=⟨gb120,_,none⟩) NB118_120.out _).trans (((cell_far (p:=⟨gb120,_,none⟩) NB118_120.out _).trans (hHeld.2.2.2.2))))⟩ (fun hHeld=>?_)
 clear hK K
 refine pure_ (i:=6) (N:=some 9) (v:=?_) (a':=?_) #[true,true,true,true,true,true,true,false] rfl rfl (any_of HT_.out (by kernel_rfl)) (fun _ _ _ h=>h) (Or.inl ⟨by rfl,?_⟩) ?_ ?_
 rotate_left
 ·
  intro w'
  go_simp
  with_reducible rfl
 rotate_left
 ·
  simp only [Act.put,p1_,p2_,p3_,i64_w,i32_w]
  rfl
 refine pure_ (i:=7) (N:=some 10) (v:=?_) (a':=?_) #[true,true,true,true,true,true,true,true] rfl rfl (any_of HT_.out (by kernel_rfl)) (fun _ _ _ h=>h) (Or.inl ⟨by rfl,?_⟩) ?_ ?_
 rotate_left
 ·
  intro w'
  go_simp
  with_reducible rfl
 rotate_left
 ·
  simp only [Act.put,p1_,p2_,p3_,i64_w,i32_w]
  rfl
 refine done_ (done_of HT_.out (by kernel_rfl)) ?_
 have hnb14:=NB118_120.out
 have hnc14:=NB120_118.out
 have hcz15_0 : w11.cell? ⟨gb118,0,none⟩ = some (.bool a0_0):=bc_ BK118 0
 have hcz15_1 : w11.cell? ⟨gb118,1,none⟩ = some (.int .u64 a0_1):=bc_ BK118 1
 have hcz15_2 : w11.cell? ⟨gb118,2,none⟩ = some (.int .u64 a0_2):=bc_ BK118 2
 have hcz15_3 : w11.cell? ⟨gb118,3,none⟩ = some (.int .i64 a0_3):=bc_ BK118 3
 have hcz15_4 : w11.cell? ⟨gb118,4,none⟩ = some (.bool a0_4):=bc_ BK118 4
 have hfz15_0:=blk_frozen BK118.out 0
 have hfz15_1:=blk_frozen BK118.out 1
 have hfz15_2:=blk_frozen BK118.out 2
 have hfz15_3:=blk_frozen BK118.out 3
 have hfz15_4:=blk_frozen BK118.out 4
 go_upto_if 36 with (fail)
 go_cut [9,10] (fun v9 v10 wc=>∃ (kq : Nat) (x9_4 : Bool) (x10_4 : Bool) (x121000_4 : Int) (x121001_4 : Int),v9 = .bool x9_4 ∧ v10 = .bool x10_4 ∧ Aside0 (round_number_float.j0 kq a1 t119 ji4 x9_4 x10_4 a0_0 a0_1 a0_2 a0_3 a0_4 x121000_4 x121001_4 = some (r1,r2)) ∧ Aside0 (kq ≤ k) ∧ Aside0 (wc.heap[gb118]? = some (.cells #[.bool a0_0,.int .u64 a0_1,.int .u64 a0_2,.int .i64 a0_3,.bool a0_4] 94 (0,0))) ∧ Aside0 (wc.heap[gb120]? = some (.cells #[.int .u64 x121000_4,.int .u64 x121001_4] 40 (0,0))) ∧ Aside0 (Below w.heap.size w wc))
 case first =>
  have H:=HC5.out
  clear HC5
  by_cases c16 : (wrap64 ((ji4) - a0_3)) > 0
  case neg =>
   rw [if_neg c16] at H
   have c16b0 : decide (0 < (wrap64 ((ji4) - a0_3))) = false:=decide_eq_false c16
   clear c16
   (first | rw [c16b0] | (simp only [i64_w,i32_w]; rw [c16b0]) | skip)
   replace H:=Option.bind_eq_some_iff.mp H
   obtain ⟨⟨t130,t131⟩,A330,H⟩:=H
   replace H : (round_number_float.j0 k a1 t119 ji4 false a0_4 a0_0 a0_1 a0_2 a0_3 a0_4 t130 t131) = some (r1,r2):=H
   have A33:=Aside0.mk A330
   clear A330
   have H':=Aside0.mk H
   clear H
   have hnb34:=NB120_118.out
   have hnc34:=NB118_120.out
   have hcz35_0 : w11.cell? ⟨gb120,0,none⟩ = some (.int .u64 0):=bc_ BK120 0
   have hcz35_1 : w11.cell? ⟨gb120,1,none⟩ = some (.int .u64 0):=bc_ BK120 1
   have hfz35_0:=blk_frozen BK120.out 0
   have hfz35_1:=blk_frozen BK120.out 1
   go_wp2_with (first | ((with_reducible refine gc_ 83 rfl ?_); refine goesL_ (some 61) rfl rfl Try.func83 (by kernel_rfl) rfl #[.agg #[.int .u64 a0_1,.int .u64 a0_2],.int .i64 (wrap64 (-(wrap64 ((ji4) - a0_3))))] rfl (by (try simp only [List.map_toArray,List.map_cons,List.map_nil]); first | done | (simp only [hji4]; rfl) | rfl | (simp only [List.length_drop,List.length_take]; rfl)) ?_; (with_reducible refine (wide_U128_Shl.calls k a0_1 a0_2 (wrap64 (-(wrap64 ((ji4) - a0_3)))) t130 t131 _ A33.out).mono ?_); rintro e w36 ⟨rfl,hb⟩; refine ⟨_,rfl,?_⟩; replace BK118:=Aside0.mk (blk_below (g:=gb118) (o:=.cells #[.bool a0_0,.int .u64 a0_1,.int .u64 a0_2,.int .i64 a0_3,.bool a0_4] 94 (0,0)) (by (with_reducible repeat (first | apply kn_ | apply kd_ | apply ka_)); refine blk_far ?_ NB118_120.out _; (with_reducible repeat (first | apply kn_ | apply kd_ | apply ka_)); refine blk_far ?_ NB118_120.out _; (with_reducible repeat (first | apply kn_ | apply kd_ | apply ka_)); exact BK118.out) hb); replace BK120:=Aside0.mk (blk_below (g:=gb120) (o:=.cells #[.int .u64 a0_1,.int .u64 a0_2] 40 (0,0)) (by (with_reducible repeat (first | apply kn_ | apply kd_ | apply ka_)); refine blk_put (cs:=#[.int .u64 a0_1,.int .u64 0]) ?_ 1 _ rfl; (with_reducible repeat (first | apply kn_ | apply kd_ | apply ka_)); refine blk_put (cs:=#[.int .u64 0,.int .u64 0]) ?_ 0 _ rfl; (with_reducible repeat (first | apply kn_ | apply kd_ | apply ka_)); exact BK120.out) hb); replace HB:=bq_ hb; skip; have hcz37_0 : w36.cell? ⟨gb120,0,none⟩ = some (.int .u64 a0_1):=bc_ BK120 0; have hcz37_1 : w36.cell? ⟨gb120,1,none⟩ = some (.int .u64 a0_2):=bc_ BK120 1; have hfz37_0:=blk_frozen BK120.out 0; have hfz37_1:=blk_frozen BK120.out 1))
   go_meet
   case rel=>exact ⟨_,(false),(a0_4),(t130),(t131),(sh_),(sh_),H',⟨by first | omega | exact Nat.le_refl _⟩,⟨by (with_reducible repeat (first | apply kn_ | apply kd_ | apply ka_)); refine blk_far ?_ NB118_120.out _; (with_reducible repeat (first | apply kn_ | apply kd_ | apply ka_)); refine blk_far ?_ NB118_120.out _; (with_reducible repeat (first | apply kn_ | apply kd_ | apply ka_)); exact BK118.out⟩,⟨by (with_reducible repeat (first | apply kn_ | apply kd_ | apply ka_)); refine blk_put (cs:=#[.int .u64 t130,.int .u64 a0_2]) ?_ 1 _ rfl; (with_reducible repeat (first | apply kn_ | apply kd_ | apply ka_)); refine blk_put (cs:=#[.int .u64 a0_1,.int .u64 a0_2]) ?_ 0 _ rfl; (with_reducible repeat (first | apply kn_ | apply kd_ | apply ka_)); exact BK120.out⟩,⟨bh_⟩⟩
  rw [if_pos c16] at H
  have c16b0 : decide (0 < (wrap64 ((ji4) - a0_3))) = true:=decide_eq_true c16
  clear c16
  (first | rw [c16b0] | (simp only [i64_w,i32_w]; rw [c16b0]) | skip)
  replace H:=Option.bind_eq_some_iff.mp H
  obtain ⟨⟨t121,t122,t123⟩,A170,H⟩:=H
  replace H : (if a0_4 = true then ((wide_U128_Shr.f k t121 t122 1).bind fun bt124=>(round_number_float.j0 k a1 t119 ji4 ((Go.bits .and .u64 t122 1) == 1) true a0_0 a0_1 a0_2 a0_3 a0_4 bt124.1 bt124.2.1)) else ((wide_U128_Shr.f k t121 t122 1).bind fun bt127=>(round_number_float.j0 k a1 t119 ji4 ((Go.bits .and .u64 t122 1) == 1) t123 a0_0 a0_1 a0_2 a0_3 a0_4 bt127.1 bt127.2.1))) = some (r1,r2):=H
  have A17:=Aside0.mk A170
  clear A170
  by_cases c18 : a0_4 = true
  case pos =>
   subst c18
   have H1 : ((wide_U128_Shr.f k t121 t122 1).bind fun bt124=>(round_number_float.j0 k a1 t119 ji4 ((Go.bits .and .u64 t122 1) == 1) true a0_0 a0_1 a0_2 a0_3 true bt124.1 bt124.2.1)) = some (r1,r2):=by rw [if_pos rfl] at H; exact H
   clear H
   have H:=H1
   clear H1
   replace H:=Option.bind_eq_some_iff.mp H
   obtain ⟨⟨t124,t125,t126⟩,A190,H⟩:=H
   replace H : (round_number_float.j0 k a1 t119 ji4 ((Go.bits .and .u64 t122 1) == 1) true a0_0 a0_1 a0_2 a0_3 true t124 t125) = some (r1,r2):=H
   have A19:=Aside0.mk A190
   clear A190
   have H':=Aside0.mk H
   clear H
   have hnb20:=NB118_120.out
   have hnc20:=NB120_118.out
   have hcz21_0 : w11.cell? ⟨gb118,0,none⟩ = some (.bool a0_0):=bc_ BK118 0
   have hcz21_1 : w11.cell? ⟨gb118,1,none⟩ = some (.int .u64 a0_1):=bc_ BK118 1
   have hcz21_2 : w11.cell? ⟨gb118,2,none⟩ = some (.int .u64 a0_2):=bc_ BK118 2
   have hcz21_3 : w11.cell? ⟨gb118,3,none⟩ = some (.int .i64 a0_3):=bc_ BK118 3
   have hcz21_4 : w11.cell? ⟨gb118,4,none⟩ = some (.bool true):=bc_ BK118 4
   have hfz21_0:=blk_frozen BK118.out 0
   have hfz21_1:=blk_frozen BK118.out 1
   have hfz21_2:=blk_frozen BK118.out 2
   have hfz21_3:=blk_frozen BK118.out 3
   have hfz21_4:=blk_frozen BK118.out 4
   go_wp2_with (first | ((with_reducible refine gc_ 84 rfl ?_); refine goesL_ (some 42) rfl rfl Try.func84 (by kernel_rfl) rfl #[.agg #[.int .u64 a0_1,.int .u64 a0_2],.int .i64 (wrap64 ((wrap64 ((ji4) - a0_3)) - 1))] rfl (by (try simp only [List.map_toArray,List.map_cons,List.map_nil]); first | done | (simp only [hji4]; rfl) | rfl | (simp only [List.length_drop,List.length_take]; rfl)) ?_; (with_reducible refine (wide_U128_Shr.calls k a0_1 a0_2 (wrap64 ((wrap64 ((ji4) - a0_3)) - 1)) t121 t122 t123 _ A17.out).mono ?_); rintro e w22 ⟨rfl,hb⟩; refine ⟨_,rfl,?_⟩; replace BK118:=Aside0.mk (blk_below (g:=gb118) (o:=.cells #[.bool a0_0,.int .u64 a0_1,.int .u64 a0_2,.int .i64 a0_3,.bool true] 94 (0,0)) (by (with_reducible repeat (first | apply kn_ | apply kd_ | apply ka_)); refine blk_far ?_ NB118_120.out _; (with_reducible repeat (first | apply kn_ | apply kd_ | apply ka_)); refine blk_far ?_ NB118_120.out _; (with_reducible repeat (first | apply kn_ | apply kd_ | apply ka_)); exact BK118.out) hb); replace BK120:=Aside0.mk (blk_below (g:=gb120) (o:=.cells #[.int .u64 a0_1,.int .u64 a0_2] 40 (0,0)) (by (with_reducible repeat (first | apply kn_ | apply kd_ | apply ka_)); refine blk_put (cs:=#[.int .u64 a0_1,.int .u64 0]) ?_ 1 _ rfl; (with_reducible repeat (first | apply kn_ | apply kd_ | apply ka_)); refine blk_put (cs:=#[.int .u64 0,.int .u64 0]) ?_ 0 _ rfl; (with_reducible repeat (first | apply kn_ | apply kd_ | apply ka_)); exact BK120.out) hb); replace HB:=bq_ hb; skip; have hcz23_0 : w22.cell? ⟨gb120,0,none⟩ = some (.int .u64 a0_1):=bc_ BK120 0; have hcz23_1 : w22.cell? ⟨gb120,1,none⟩ = some (.int .u64 a0_2):=bc_ BK120 1; have hfz23_0:=blk_frozen BK120.out 0; have hfz23_1:=blk_frozen BK120.out 1) | ((with_reducible refine gc_ 84 rfl ?_); refine gM_ (some 55) Try.func84 [.agg #[.int .u64 t121,.int .u64 t122],.int .i64 1] ?_; (with_reducible refine (wide_U128_Shr.calls k t121 t122 1 t124 t125 t126 _ A19.out).mono ?_); rintro e w24 ⟨rfl,hb⟩; refine ⟨_,rfl,?_⟩; replace BK118:=Aside0.mk (blk_below (g:=gb118) (o:=.cells #[.bool a0_0,.int .u64 a0_1,.int .u64 a0_2,.int .i64 a0_3,.bool true] 94 (0,0)) (by (with_reducible repeat (first | apply kn_ | apply kd_ | apply ka_)); refine blk_far ?_ NB118_120.out _; (with_reducible repeat (first | apply kn_ | apply kd_ | apply ka_)); refine blk_far ?_ NB118_120.out _; (with_reducible repeat (first | apply kn_ | apply kd_ | apply ka_)); exact BK118.out) hb); replace BK120:=Aside0.mk (blk_below (g:=gb120) (o:=.cells #[.int .u64 t121,.int .u64 t122] 40 (0,0)) (by (with_reducible repeat (first | apply kn_ | apply kd_ | apply ka_)); refine blk_put (cs:=#[.int .u64 t121,.int .u64 a0_2]) ?_ 1 _ rfl; (with_reducible repeat (first | apply kn_ | apply kd_ | apply ka_)); refine blk_put (cs:=#[.int .u64 a0_1,.int .u64 a0_2]) ?_ 0 _ rfl; (with_reducible repeat (first | apply kn_ | apply kd_ | apply ka_)); exact BK120.out) hb); replace HB:=bq_ hb; skip; have hcz25_0 : w24.cell? ⟨gb120,0,none⟩ = some (.int .u64 t121):=bc_ BK120 0; have hcz25_1 : w24.cell? ⟨gb120,1,none⟩ = some (.int .u64 t122):=bc_ BK120 1; have hfz25_0:=blk_frozen BK120.out 0; have hfz25_1:=blk_frozen BK120.out 1))
   go_meet
   case rel=>exact ⟨_,(((Go.bits .and .u64 t122 1) == 1)),(true),(t124),(t125),(sh_),(sh_),H',⟨by first | omega | exact Nat.le_refl _⟩,⟨by (with_reducible repeat (first | apply kn_ | apply kd_ | apply ka_)); refine blk_far ?_ NB118_120.out _; (with_reducible repeat (first | apply kn_ | apply kd_ | apply ka_)); refine blk_far ?_ NB118_120.out _; (with_reducible repeat (first | apply kn_ | apply kd_ | apply ka_)); exact BK118.out⟩,⟨by (with_reducible repeat (first | apply kn_ | apply kd_ | apply ka_)); refine blk_put (cs:=#[.int .u64 t124,.int .u64 t122]) ?_ 1 _ rfl; (with_reducible repeat (first | apply kn_ | apply kd_ | apply ka_)); refine blk_put (cs:=#[.int .u64 t121,.int .u64 t122]) ?_ 0 _ rfl; (with_reducible repeat (first | apply kn_ | apply kd_ | apply ka_)); exact BK120.out⟩,⟨bh_⟩⟩
  replace c18:=Bool.eq_false_iff.mpr c18
  subst c18
  have H1 : ((wide_U128_Shr.f k t121 t122 1).bind fun bt127=>(round_number_float.j0 k a1 t119 ji4 ((Go.bits .and .u64 t122 1) == 1) t123 a0_0 a0_1 a0_2 a0_3 false bt127.1 bt127.2.1)) = some (r1,r2):=by rw [if_neg (show ¬ (false = true) by decide)] at H; exact H
  clear H
  have H:=H1
  clear H1
  replace H:=Option.bind_eq_some_iff.mp H
  obtain ⟨⟨t127,t128,t129⟩,A260,H⟩:=H
  replace H : (round_number_float.j0 k a1 t119 ji4 ((Go.bits .and .u64 t122 1) == 1) t123 a0_0 a0_1 a0_2 a0_3 false t127 t128) = some (r1,r2):=H
  have A26:=Aside0.mk A260
  clear A260
  have H':=Aside0.mk H
  clear H
  have hnb27:=NB118_120.out
  have hnc27:=NB120_118.out
  have hcz28_0 : w11.cell? ⟨gb118,0,none⟩ = some (.bool a0_0):=bc_ BK118 0
  have hcz28_1 : w11.cell? ⟨gb118,1,none⟩ = some (.int .u64 a0_1):=bc_ BK118 1
  have hcz28_2 : w11.cell? ⟨gb118,2,none⟩ = some (.int .u64 a0_2):=bc_ BK118 2
  have hcz28_3 : w11.cell? ⟨gb118,3,none⟩ = some (.int .i64 a0_3):=bc_ BK118 3
  have hcz28_4 : w11.cell? ⟨gb118,4,none⟩ = some (.bool false):=bc_ BK118 4
  have hfz28_0:=blk_frozen BK118.out 0
  have hfz28_1:=blk_frozen BK118.out 1
  have hfz28_2:=blk_frozen BK118.out 2
  have hfz28_3:=blk_frozen BK118.out 3
  have hfz28_4:=blk_frozen BK118.out 4
  go_wp2_with (first | ((with_reducible refine gc_ 84 rfl ?_); refine goesL_ (some 42) rfl rfl Try.func84 (by kernel_rfl) rfl #[.agg #[.int .u64 a0_1,.int .u64 a0_2],.int .i64 (wrap64 ((wrap64 ((ji4) - a0_3)) - 1))] rfl (by (try simp only [List.map_toArray,List.map_cons,List.map_nil]); first | done | (simp only [hji4]; rfl) | rfl | (simp only [List.length_drop,List.length_take]; rfl)) ?_; (with_reducible refine (wide_U128_Shr.calls k a0_1 a0_2 (wrap64 ((wrap64 ((ji4) - a0_3)) - 1)) t121 t122 t123 _ A17.out).mono ?_); rintro e w29 ⟨rfl,hb⟩; refine ⟨_,rfl,?_⟩; replace BK118:=Aside0.mk (blk_below (g:=gb118) (o:=.cells #[.bool a0_0,.int .u64 a0_1,.int .u64 a0_2,.int .i64 a0_3,.bool false] 94 (0,0)) (by (with_reducible repeat (first | apply kn_ | apply kd_ | apply ka_)); refine blk_far ?_ NB118_120.out _; (with_reducible repeat (first | apply kn_ | apply kd_ | apply ka_)); refine blk_far ?_ NB118_120.out _; (with_reducible repeat (first | apply kn_ | apply kd_ | apply ka_)); exact BK118.out) hb); replace BK120:=Aside0.mk (blk_below (g:=gb120) (o:=.cells #[.int .u64 a0_1,.int .u64 a0_2] 40 (0,0)) (by (with_reducible repeat (first | apply kn_ | apply kd_ | apply ka_)); refine blk_put (cs:=#[.int .u64 a0_1,.int .u64 0]) ?_ 1 _ rfl; (with_reducible repeat (first | apply kn_ | apply kd_ | apply ka_)); refine blk_put (cs:=#[.int .u64 0,.int .u64 0]) ?_ 0 _ rfl; (with_reducible repeat (first | apply kn_ | apply kd_ | apply ka_)); exact BK120.out) hb); replace HB:=bq_ hb; skip; have hcz30_0 : w29.cell? ⟨gb120,0,none⟩ = some (.int .u64 a0_1):=bc_ BK120 0; have hcz30_1 : w29.cell? ⟨gb120,1,none⟩ = some (.int .u64 a0_2):=bc_ BK120 1; have hfz30_0:=blk_frozen BK120.out 0; have hfz30_1:=blk_frozen BK120.out 1) | ((with_reducible refine gc_ 84 rfl ?_); refine gM_ (some 55) Try.func84 [.agg #[.int .u64 t121,.int .u64 t122],.int .i64 1] ?_; (with_reducible refine (wide_U128_Shr.calls k t121 t122 1 t127 t128 t129 _ A26.out).mono ?_); rintro e w31 ⟨rfl,hb⟩; refine ⟨_,rfl,?_⟩; replace BK118:=Aside0.mk (blk_below (g:=gb118) (o:=.cells #[.bool a0_0,.int .u64 a0_1,.int .u64 a0_2,.int .i64 a0_3,.bool false] 94 (0,0)) (by (with_reducible repeat (first | apply kn_ | apply kd_ | apply ka_)); refine blk_far ?_ NB118_120.out _; (with_reducible repeat (first | apply kn_ | apply kd_ | apply ka_)); refine blk_far ?_ NB118_120.out _; (with_reducible repeat (first | apply kn_ | apply kd_ | apply ka_)); exact BK118.out) hb); replace BK120:=Aside0.mk (blk_below (g:=gb120) (o:=.cells #[.int .u64 t121,.int .u64 t122] 40 (0,0)) (by (with_reducible repeat (first | apply kn_ | apply kd_ | apply ka_)); refine blk_put (cs:=#[.int .u64 t121,.int .u64 a0_2]) ?_ 1 _ rfl; (with_reducible repeat (first | apply kn_ | apply kd_ | apply ka_)); refine blk_put (cs:=#[.int .u64 a0_1,.int .u64 a0_2]) ?_ 0 _ rfl; (with_reducible repeat (first | apply kn_ | apply kd_ | apply ka_)); exact BK120.out) hb); replace HB:=bq_ hb; skip; have hcz32_0 : w31.cell? ⟨gb120,0,none⟩ = some (.int .u64 t121):=bc_ BK120 0; have hcz32_1 : w31.cell? ⟨gb120,1,none⟩ = some (.int .u64 t122):=bc_ BK120 1; have hfz32_0:=blk_frozen BK120.out 0; have hfz32_1:=blk_frozen BK120.out 1))
  go_meet
  case rel=>exact ⟨_,(((Go.bits .and .u64 t122 1) == 1)),(t123),(t127),(t128),(sh_),(sh_),H',⟨by first | omega | exact Nat.le_refl _⟩,⟨by (with_reducible repeat (first | apply kn_ | apply kd_ | apply ka_)); refine blk_far ?_ NB118_120.out _; (with_reducible repeat (first | apply kn_ | apply kd_ | apply ka_)); refine blk_far ?_ NB118_120.out _; (with_reducible repeat (first | apply kn_ | apply kd_ | apply ka_)); exact BK118.out⟩,⟨by (with_reducible repeat (first | apply kn_ | apply kd_ | apply ka_)); refine blk_put (cs:=#[.int .u64 t127,.int .u64 t122]) ?_ 1 _ rfl; (with_reducible repeat (first | apply kn_ | apply kd_ | apply ka_)); refine blk_put (cs:=#[.int .u64 t121,.int .u64 t122]) ?_ 0 _ rfl; (with_reducible repeat (first | apply kn_ | apply kd_ | apply ka_)); exact BK120.out⟩,⟨bh_⟩⟩
 case rest =>
  clear HC5
  try clear c1
  try clear c2
  try clear p2
  try clear c3
  try clear c5
  try clear p6
  try clear c8
  try clear c14
  try clear c16
  try clear c16b0
  try clear c18
  try clear c20
  try clear c27
  try clear c34
  try clear hcz15_0
  try clear hcz15_1
  try clear hcz15_2
  try clear hcz15_3
  try clear hcz15_4
  try clear hcz21_0
  try clear hcz21_1
  try clear hcz21_2
  try clear hcz21_3
  try clear hcz21_4
  try clear hcz23_0
  try clear hcz23_1
  try clear hcz25_0
  try clear hcz25_1
  try clear hcz28_0
  try clear hcz28_1
  try clear hcz28_2
  try clear hcz28_3
  try clear hcz28_4
  try clear hcz30_0
  try clear hcz30_1
  try clear hcz32_0
  try clear hcz32_1
  try clear hcz35_0
  try clear hcz35_1
  try clear hcz37_0
  try clear hcz37_1
  try clear hcz7_0
  try clear hcz7_1
  try clear hcz7_2
  try clear hcz7_3
  try clear hcz7_4
  try clear hcz9_0
  try clear hcz9_1
  try clear hcz9_2
  try clear hcz9_3
  try clear hcz9_4
  try clear hfz15_0
  try clear hfz15_1
  try clear hfz15_2
  try clear hfz15_3
  try clear hfz15_4
  try clear hfz21_0
  try clear hfz21_1
  try clear hfz21_2
  try clear hfz21_3
  try clear hfz21_4
  try clear hfz23_0
  try clear hfz23_1
  try clear hfz25_0
  try clear hfz25_1
  try clear hfz28_0
  try clear hfz28_1
  try clear hfz28_2
  try clear hfz28_3
  try clear hfz28_4
  try clear hfz30_0
  try clear hfz30_1
  try clear hfz32_0
  try clear hfz32_1
  try clear hfz35_0
  try clear hfz35_1
  try clear hfz37_0
  try clear hfz37_1
  try clear hfz7_0
  try clear hfz7_1
  try clear hfz7_2
  try clear hfz7_3
  try clear hfz7_4
  try clear hfz9_0
  try clear hfz9_1
  try clear hfz9_2
  try clear hfz9_3
  try clear hfz9_4
  obtain ⟨kq,x9_4,x10_4,x121000_4,x121001_4,rfl,rfl,HA,HJ4,BK118,BK120,HB⟩:=hcut
  cases kq with
  | zero=>exact absurd HA.out (by simp [round_number_float.j0])
  | succ kj4 =>
   have H:=HA.out
   clear HA
   simp only [round_number_float.j0] at H
   replace H:=Option.bind_eq_some_iff.mp H
   obtain ⟨t132,A380,H⟩:=H
   replace H : (if t132 = true then (round_number_float.j1 kj4 a1 t119 ji4 x9_4 x10_4 (IntKind.u64.wrap (x121001_4 + 1)) a0_0 a0_1 a0_2 a0_3 a0_4) else (round_number_float.j1 kj4 a1 t119 ji4 x9_4 x10_4 x121001_4 a0_0 a0_1 a0_2 a0_3 a0_4)) = some (r1,r2):=H
   have A38:=Aside0.mk A380
   clear A380
   have HC39:=Aside0.mk H
   clear H
   have hnb40:=NB120_118.out
   have hnc40:=NB118_120.out
   have hcz41_0 : wc.cell? ⟨gb120,0,none⟩ = some (.int .u64 x121000_4):=bc_ BK120 0
   have hcz41_1 : wc.cell? ⟨gb120,1,none⟩ = some (.int .u64 x121001_4):=bc_ BK120 1
   have hfz41_0:=blk_frozen BK120.out 0
   have hfz41_1:=blk_frozen BK120.out 1
   have hcz42_0 : wc.cell? ⟨gb118,0,none⟩ = some (.bool a0_0):=bc_ BK118 0
   have hcz42_1 : wc.cell? ⟨gb118,1,none⟩ = some (.int .u64 a0_1):=bc_ BK118 1
   have hcz42_2 : wc.cell? ⟨gb118,2,none⟩ = some (.int .u64 a0_2):=bc_ BK118 2
   have hcz42_3 : wc.cell? ⟨gb118,3,none⟩ = some (.int .i64 a0_3):=bc_ BK118 3
   have hcz42_4 : wc.cell? ⟨gb118,4,none⟩ = some (.bool a0_4):=bc_ BK118 4
   have hfz42_0:=blk_frozen BK118.out 0
   have hfz42_1:=blk_frozen BK118.out 1
   have hfz42_2:=blk_frozen BK118.out 2
   have hfz42_3:=blk_frozen BK118.out 3
   have hfz42_4:=blk_frozen BK118.out 4
   go_upto_if 71 with (first | ((with_reducible refine gc_ 87 rfl ?_); refine gM_ (some 71) Try.func87 [.agg #[.bool a0_0,.int .u64 a0_1,.int .u64 a0_2,.int .i64 a0_3,.bool a0_4],.int .u8 a1,.bool ((Go.bits .and .u64 x121001_4 1) == 1),.bool x9_4,.bool x10_4] ?_; (with_reducible refine (round_number_up.calls a0_0 a0_1 a0_2 a0_3 a0_4 a1 ((Go.bits .and .u64 x121001_4 1) == 1) x9_4 x10_4 t132 _ A38.out).mono ?_); rintro e w43 ⟨rfl,hb⟩; refine ⟨_,rfl,?_⟩; replace BK118:=kb_ BK118 hb; replace BK120:=kb_ BK120 hb; replace HB:=bq_ hb))
   (try simp only [Act.put,p1_,p2_,p3_])
   go_cut [13] (fun v13 wc=>∃ (kq : Nat) (x13_38 : Int),v13 = .int .u64 x13_38 ∧ Aside0 (round_number_float.j1 kq a1 t119 ji4 x9_4 x10_4 x13_38 a0_0 a0_1 a0_2 a0_3 a0_4 = some (r1,r2)) ∧ Aside0 (kq ≤ kj4) ∧ Aside0 (wc.heap[gb118]? = some (.cells #[.bool a0_0,.int .u64 a0_1,.int .u64 a0_2,.int .i64 a0_3,.bool a0_4] 94 (0,0))) ∧ Aside0 (wc.heap[gb120]? = some (.cells #[.int .u64 x121000_4,.int .u64 x121001_4] 40 (0,0))) ∧ Aside0 (Below w.heap.size w wc))
   case first =>
    have H:=HC39.out
    clear HC39
    by_cases c44 : t132 = true
    case pos =>
     subst c44
     have H1 : (round_number_float.j1 kj4 a1 t119 ji4 x9_4 x10_4 (IntKind.u64.wrap (x121001_4 + 1)) a0_0 a0_1 a0_2 a0_3 a0_4) = some (r1,r2):=by rw [if_pos rfl] at H; exact H
     clear H
     have H:=H1
     clear H1
     have H':=Aside0.mk H
     clear H
     go_wp2
     go_meet
     case rel=>exact ⟨_,(IntKind.u64.wrap (x121001_4 + 1)),(sh_),H',⟨by have:=HJ4.out; first | omega | exact Nat.le_refl _⟩,⟨by (with_reducible repeat (first | apply kn_ | apply kd_ | apply ka_)); exact BK118.out⟩,⟨by (with_reducible repeat (first | apply kn_ | apply kd_ | apply ka_)); exact BK120.out⟩,⟨bh_⟩⟩
    replace c44:=Bool.eq_false_iff.mpr c44
    subst c44
    have H1 : (round_number_float.j1 kj4 a1 t119 ji4 x9_4 x10_4 x121001_4 a0_0 a0_1 a0_2 a0_3 a0_4) = some (r1,r2):=by rw [if_neg (show ¬ (false = true) by decide)] at H; exact H
    clear H
    have H:=H1
    clear H1
    have H':=Aside0.mk H
    clear H
    go_wp2
    go_meet
    case rel=>exact ⟨_,(x121001_4),(sh_),H',⟨by have:=HJ4.out; first | omega | exact Nat.le_refl _⟩,⟨by (with_reducible repeat (first | apply kn_ | apply kd_ | apply ka_)); exact BK118.out⟩,⟨by (with_reducible repeat (first | apply kn_ | apply kd_ | apply ka_)); exact BK120.out⟩,⟨bh_⟩⟩
   case rest =>
    clear HC39
    try clear c1
    try clear c2
    try clear p2
    try clear c3
    try clear c4
    try clear c5
    try clear p6
    try clear c8
    try clear c14
    try clear c16
    try clear c16b0
    try clear c18
    try clear c20
    try clear c27
    try clear c34
    try clear c40
    try clear c44
    try clear hcz15_0
    try clear hcz15_1
    try clear hcz15_2
    try clear hcz15_3
    try clear hcz15_4
    try clear hcz21_0
    try clear hcz21_1
    try clear hcz21_2
    try clear hcz21_3
    try clear hcz21_4
    try clear hcz23_0
    try clear hcz23_1
    try clear hcz25_0
    try clear hcz25_1
    try clear hcz28_0
    try clear hcz28_1
    try clear hcz28_2
    try clear hcz28_3
    try clear hcz28_4
    try clear hcz30_0
    try clear hcz30_1
    try clear hcz32_0
    try clear hcz32_1
    try clear hcz35_0
    try clear hcz35_1
    try clear hcz37_0
    try clear hcz37_1
    try clear hcz41_0
    try clear hcz41_1
    try clear hcz42_0
    try clear hcz42_1
    try clear hcz42_2
    try clear hcz42_3
    try clear hcz42_4
    try clear hcz7_0
    try clear hcz7_1
    try clear hcz7_2
    try clear hcz7_3
    try clear hcz7_4
    try clear hcz9_0
    try clear hcz9_1
    try clear hcz9_2
    try clear hcz9_3
    try clear hcz9_4
    try clear hfz15_0
    try clear hfz15_1
    try clear hfz15_2
    try clear hfz15_3
    try clear hfz15_4
    try clear hfz21_0
    try clear hfz21_1
    try clear hfz21_2
    try clear hfz21_3
    try clear hfz21_4
    try clear hfz23_0
    try clear hfz23_1
    try clear hfz25_0
    try clear hfz25_1
    try clear hfz28_0
    try clear hfz28_1
    try clear hfz28_2
    try clear hfz28_3
    try clear hfz28_4
    try clear hfz30_0
    try clear hfz30_1
    try clear hfz32_0
    try clear hfz32_1
    try clear hfz35_0
    try clear hfz35_1
    try clear hfz37_0
    try clear hfz37_1
    try clear hfz41_0
    try clear hfz41_1
    try clear hfz42_0
    try clear hfz42_1
    try clear hfz42_2
    try clear hfz42_3
    try clear hfz42_4
    try clear hfz7_0
    try clear hfz7_1
    try clear hfz7_2
    try clear hfz7_3
    try clear hfz7_4
    try clear hfz9_0
    try clear hfz9_1
    try clear hfz9_2
    try clear hfz9_3
    try clear hfz9_4
    try clear p2
    try clear p6
    obtain ⟨kq,x13_38,rfl,HA,HJ38,BK118,BK120,HB⟩:=hcut
    cases kq with
    | zero=>exact absurd HA.out (by simp [round_number_float.j1])
    | succ kj38 =>
     have H:=HA.out
     clear HA
     simp only [round_number_float.j1] at H
     have HC45:=Aside0.mk H
     clear H
     go_upto_if 75 with (fail)
     go_cut [7,13] (fun v7 v13 wc=>∃ (kq : Nat) (x7_44 : Int) (x13_44 : Int),v7 = .int .i64 x7_44 ∧ v13 = .int .u64 x13_44 ∧ Aside0 (round_number_float.j2 kq a1 t119 x7_44 x9_4 x10_4 x13_44 a0_0 a0_1 a0_2 a0_3 a0_4 = some (r1,r2)) ∧ Aside0 (kq ≤ kj38) ∧ Aside0 (wc.heap[gb118]? = some (.cells #[.bool a0_0,.int .u64 a0_1,.int .u64 a0_2,.int .i64 a0_3,.bool a0_4] 94 (0,0))) ∧ Aside0 (wc.heap[gb120]? = some (.cells #[.int .u64 x121000_4,.int .u64 x121001_4] 40 (0,0))) ∧ Aside0 (Below w.heap.size w wc))
     case first =>
      have H:=HC45.out
      clear HC45
      by_cases c46 : x13_38 = 9007199254740992
      case neg =>
       rw [if_neg c46] at H
       have c46b0 : (x13_38 == 9007199254740992) = false:=beq_eq_false_iff_ne.mpr c46
       have c46b1 : (x13_38 != 9007199254740992) = true:=bne_iff_ne.mpr c46
       (first | rw [c46b0] | (simp only [i64_w,i32_w]; rw [c46b0]) | skip)
       have H':=Aside0.mk H
       clear H
       go_wp2
       go_meet
       case rel=>exact ⟨_,(ji4),(x13_38),(by first | rfl | (simp; done) | (simp only [← hji4] <;> (first | rfl | simp)) | (simp [*]; done)),(sh_),H',⟨by have:=HJ4.out; have:=HJ38.out; first | omega | exact Nat.le_refl _⟩,⟨by (with_reducible repeat (first | apply kn_ | apply kd_ | apply ka_)); exact BK118.out⟩,⟨by (with_reducible repeat (first | apply kn_ | apply kd_ | apply ka_)); exact BK120.out⟩,⟨bh_⟩⟩
      rw [if_pos c46] at H
      have c46b0 : (x13_38 == 9007199254740992) = true:=beq_iff_eq.mpr c46
      have c46b1 : (x13_38 != 9007199254740992) = false:=bne_eq_false_iff_eq.mpr c46
      clear c46
      (first | rw [c46b0] | (simp only [i64_w,i32_w]; rw [c46b0]) | skip)
      have H':=Aside0.mk H
      clear H
      go_wp2
      go_meet
      case rel=>exact ⟨_,(wrap64 (ji4 + 1)),(x13_38 / 2),(by first | rfl | (simp; done) | (simp only [← hji4] <;> (first | rfl | simp)) | (simp [*]; done)),(sh_),H',⟨by have:=HJ4.out; have:=HJ38.out; first | omega | exact Nat.le_refl _⟩,⟨by (with_reducible repeat (first | apply kn_ | apply kd_ | apply ka_)); exact BK118.out⟩,⟨by (with_reducible repeat (first | apply kn_ | apply kd_ | apply ka_)); exact BK120.out⟩,⟨bh_⟩⟩
     case rest =>
      clear HC45
      try clear c1
      try clear c2
      try clear p2
      try clear c3
      try clear c4
      try clear c5
      try clear p6
      try clear c8
      try clear c14
      try clear c16
      try clear c16b0
      try clear c18
      try clear c20
      try clear c27
      try clear c34
      try clear c40
      try clear c44
      try clear c46
      try clear c46b0
      try clear c46b1
      try clear hcz15_0
      try clear hcz15_1
      try clear hcz15_2
      try clear hcz15_3
      try clear hcz15_4
      try clear hcz21_0
      try clear hcz21_1
      try clear hcz21_2
      try clear hcz21_3
      try clear hcz21_4
      try clear hcz23_0
      try clear hcz23_1
      try clear hcz25_0
      try clear hcz25_1
      try clear hcz28_0
      try clear hcz28_1
      try clear hcz28_2
      try clear hcz28_3
      try clear hcz28_4
      try clear hcz30_0
      try clear hcz30_1
      try clear hcz32_0
      try clear hcz32_1
      try clear hcz35_0
      try clear hcz35_1
      try clear hcz37_0
      try clear hcz37_1
      try clear hcz41_0
      try clear hcz41_1
      try clear hcz42_0
      try clear hcz42_1
      try clear hcz42_2
      try clear hcz42_3
      try clear hcz42_4
      try clear hcz7_0
      try clear hcz7_1
      try clear hcz7_2
      try clear hcz7_3
      try clear hcz7_4
      try clear hcz9_0
      try clear hcz9_1
      try clear hcz9_2
      try clear hcz9_3
      try clear hcz9_4
      try clear hfz15_0
      try clear hfz15_1
      try clear hfz15_2
      try clear hfz15_3
      try clear hfz15_4
      try clear hfz21_0
      try clear hfz21_1
      try clear hfz21_2
      try clear hfz21_3
      try clear hfz21_4
      try clear hfz23_0
      try clear hfz23_1
      try clear hfz25_0
      try clear hfz25_1
      try clear hfz28_0
      try clear hfz28_1
      try clear hfz28_2
      try clear hfz28_3
      try clear hfz28_4
      try clear hfz30_0
      try clear hfz30_1
      try clear hfz32_0
      try clear hfz32_1
      try clear hfz35_0
      try clear hfz35_1
      try clear hfz37_0
      try clear hfz37_1
      try clear hfz41_0
      try clear hfz41_1
      try clear hfz42_0
      try clear hfz42_1
      try clear hfz42_2
      try clear hfz42_3
      try clear hfz42_4
      try clear hfz7_0
      try clear hfz7_1
      try clear hfz7_2
      try clear hfz7_3
      try clear hfz7_4
      try clear hfz9_0
      try clear hfz9_1
      try clear hfz9_2
      try clear hfz9_3
      try clear hfz9_4
      try clear p2
      try clear p6
      obtain ⟨kq,x7_44,x13_44,rfl,rfl,HA,HJ44,BK118,BK120,HB⟩:=hcut
      cases kq with
      | zero=>exact absurd HA.out (by simp [round_number_float.j2])
      | succ kj44 =>
       have H:=HA.out
       clear HA
       simp only [round_number_float.j2] at H
       by_cases c47 : x7_44 > 971
       case pos =>
        rw [if_pos c47] at H
        have c47b0 : decide (971 < x7_44) = true:=decide_eq_true c47
        clear c47
        replace H:=Option.bind_eq_some_iff.mp H
        obtain ⟨⟨t133,t134⟩,A480,H⟩:=H
        replace H : (some (t133,t134)) = some (r1,r2):=H
        have A48:=Aside0.mk A480
        clear A480
        simp only [Option.some.injEq,Prod.mk.injEq] at H
        obtain ⟨rfl,rfl⟩:=H
        have hnb49:=NB118_120.out
        have hnc49:=NB120_118.out
        have hcz50_0 : wc.cell? ⟨gb118,0,none⟩ = some (.bool a0_0):=bc_ BK118 0
        have hcz50_1 : wc.cell? ⟨gb118,1,none⟩ = some (.int .u64 a0_1):=bc_ BK118 1
        have hcz50_2 : wc.cell? ⟨gb118,2,none⟩ = some (.int .u64 a0_2):=bc_ BK118 2
        have hcz50_3 : wc.cell? ⟨gb118,3,none⟩ = some (.int .i64 a0_3):=bc_ BK118 3
        have hcz50_4 : wc.cell? ⟨gb118,4,none⟩ = some (.bool a0_4):=bc_ BK118 4
        have hfz50_0:=blk_frozen BK118.out 0
        have hfz50_1:=blk_frozen BK118.out 1
        have hfz50_2:=blk_frozen BK118.out 2
        have hfz50_3:=blk_frozen BK118.out 3
        have hfz50_4:=blk_frozen BK118.out 4
        go_wp2_with (first | ((with_reducible refine gc_ 88 rfl ?_); refine gM_ (some 84) Try.func88 [.agg #[.bool a0_0,.int .u64 a0_1,.int .u64 a0_2,.int .i64 a0_3,.bool a0_4],.int .u8 a1] ?_; (with_reducible refine (round_number_over.calls kj44 a0_0 a0_1 a0_2 a0_3 a0_4 a1 t133 t134 _ A48.out).mono ?_); rintro e w51 ⟨rfl,hb⟩; refine ⟨_,rfl,?_⟩; replace BK118:=kb_ BK118 hb; replace BK120:=kb_ BK120 hb; replace HB:=bq_ hb))
        go_ret2
        exact ⟨by first | rfl | (simp [errW_none,errW_some] <;> rfl) | (simp only [← hji4]; first | rfl | (simp [errW_none,errW_some] <;> rfl)) | (simp [*,errW_none,errW_some] <;> rfl),bh_⟩
       rw [if_neg c47] at H
       have c47b0 : decide (971 < x7_44) = false:=decide_eq_false c47
       clear c47
       have HC52:=Aside0.mk H
       clear H
       go_upto_region 19 with (fail)
       go_cut [90] (fun v90 wc=>∃ (kq : Nat) (x90_51 : Bool),v90 = .bool x90_51 ∧ Aside0 (round_number_float.j3 kq t119 x7_44 x13_44 0 x90_51 a0_0 a0_1 a0_2 a0_3 a0_4 = some (r1,r2)) ∧ Aside0 (kq ≤ kj44) ∧ Aside0 (wc.heap[gb118]? = some (.cells #[.bool a0_0,.int .u64 a0_1,.int .u64 a0_2,.int .i64 a0_3,.bool a0_4] 94 (0,0))) ∧ Aside0 (wc.heap[gb120]? = some (.cells #[.int .u64 x121000_4,.int .u64 x121001_4] 40 (0,0))) ∧ Aside0 (Below w.heap.size w wc))
       case first =>
        have H:=HC52.out
        clear HC52
        by_cases c53 : x9_4 = true
        case pos =>
         subst c53
         have H1 : (round_number_float.j3 kj44 t119 x7_44 x13_44 0 true a0_0 a0_1 a0_2 a0_3 a0_4) = some (r1,r2):=by rw [if_pos rfl] at H; exact H
         clear H
         have H:=H1
         clear H1
         have H':=Aside0.mk H
         clear H
         go_wp2
         go_meet
         case rel=>exact ⟨_,(true),(sh_),H',⟨by have:=HJ4.out; have:=HJ38.out; have:=HJ44.out; first | omega | exact Nat.le_refl _⟩,⟨by (with_reducible repeat (first | apply kn_ | apply kd_ | apply ka_)); exact BK118.out⟩,⟨by (with_reducible repeat (first | apply kn_ | apply kd_ | apply ka_)); exact BK120.out⟩,⟨bh_⟩⟩
        replace c53:=Bool.eq_false_iff.mpr c53
        subst c53
        have H1 : (round_number_float.j3 kj44 t119 x7_44 x13_44 0 x10_4 a0_0 a0_1 a0_2 a0_3 a0_4) = some (r1,r2):=by rw [if_neg (show ¬ (false = true) by decide)] at H; exact H
        clear H
        have H:=H1
        clear H1
        have H':=Aside0.mk H
        clear H
        go_wp2
        go_meet
        case rel=>exact ⟨_,(x10_4),(sh_),H',⟨by have:=HJ4.out; have:=HJ38.out; have:=HJ44.out; first | omega | exact Nat.le_refl _⟩,⟨by (with_reducible repeat (first | apply kn_ | apply kd_ | apply ka_)); exact BK118.out⟩,⟨by (with_reducible repeat (first | apply kn_ | apply kd_ | apply ka_)); exact BK120.out⟩,⟨bh_⟩⟩
       case rest =>
        clear HC52
        try clear c1
        try clear c2
        try clear p2
        try clear c3
        try clear c4
        try clear c5
        try clear p6
        try clear c8
        try clear c14
        try clear c16
        try clear c16b0
        try clear c18
        try clear c20
        try clear c27
        try clear c34
        try clear c40
        try clear c44
        try clear c46
        try clear c46b0
        try clear c46b1
        try clear c47
        try clear c47b0
        try clear c49
        try clear c53
        try clear hcz15_0
        try clear hcz15_1
        try clear hcz15_2
        try clear hcz15_3
        try clear hcz15_4
        try clear hcz21_0
        try clear hcz21_1
        try clear hcz21_2
        try clear hcz21_3
        try clear hcz21_4
        try clear hcz23_0
        try clear hcz23_1
        try clear hcz25_0
        try clear hcz25_1
        try clear hcz28_0
        try clear hcz28_1
        try clear hcz28_2
        try clear hcz28_3
        try clear hcz28_4
        try clear hcz30_0
        try clear hcz30_1
        try clear hcz32_0
        try clear hcz32_1
        try clear hcz35_0
        try clear hcz35_1
        try clear hcz37_0
        try clear hcz37_1
        try clear hcz41_0
        try clear hcz41_1
        try clear hcz42_0
        try clear hcz42_1
        try clear hcz42_2
        try clear hcz42_3
        try clear hcz42_4
        try clear hcz50_0
        try clear hcz50_1
        try clear hcz50_2
        try clear hcz50_3
        try clear hcz50_4
        try clear hcz7_0
        try clear hcz7_1
        try clear hcz7_2
        try clear hcz7_3
        try clear hcz7_4
        try clear hcz9_0
        try clear hcz9_1
        try clear hcz9_2
        try clear hcz9_3
        try clear hcz9_4
        try clear hfz15_0
        try clear hfz15_1
        try clear hfz15_2
        try clear hfz15_3
        try clear hfz15_4
        try clear hfz21_0
        try clear hfz21_1
        try clear hfz21_2
        try clear hfz21_3
        try clear hfz21_4
        try clear hfz23_0
        try clear hfz23_1
        try clear hfz25_0
        try clear hfz25_1
        try clear hfz28_0
        try clear hfz28_1
        try clear hfz28_2
        try clear hfz28_3
        try clear hfz28_4
        try clear hfz30_0
        try clear hfz30_1
        try clear hfz32_0
        try clear hfz32_1
        try clear hfz35_0
        try clear hfz35_1
        try clear hfz37_0
        try clear hfz37_1
        try clear hfz41_0
        try clear hfz41_1
        try clear hfz42_0
        try clear hfz42_1
        try clear hfz42_2
        try clear hfz42_3
        try clear hfz42_4
        try clear hfz50_0
        try clear hfz50_1
        try clear hfz50_2
        try clear hfz50_3
        try clear hfz50_4
        try clear hfz7_0
        try clear hfz7_1
        try clear hfz7_2
        try clear hfz7_3
        try clear hfz7_4
        try clear hfz9_0
        try clear hfz9_1
        try clear hfz9_2
        try clear hfz9_3
        try clear hfz9_4
        try clear p2
        try clear p6
        obtain ⟨kq,x90_51,rfl,HA,HJ51,BK118,BK120,HB⟩:=hcut
        cases kq with
        | zero=>exact absurd HA.out (by simp [round_number_float.j3])
        | succ kj51 =>
         have H:=HA.out
         clear HA
         simp only [round_number_float.j3] at H
         by_cases c54 : x90_51 = true
         case neg =>
          replace c54:=Bool.eq_false_iff.mpr c54
          subst c54
          have H1 : (if (x13_44 / 4503599627370496) = 1 then ((pattern_Make.f kj51 a0_0 (wrap64 ((wrap64 (x7_44 - (-1074))) + 1)) (Go.bits .and .u64 x13_44 4503599627370495)).bind fun bt143=>(some (bt143.1,0))) else ((pattern_Make.f kj51 a0_0 0 (Go.bits .and .u64 x13_44 4503599627370495)).bind fun bt145=>(some (bt145.1,0)))) = some (r1,r2):=by rw [if_neg (show ¬ (false = true) by decide)] at H; exact H
          clear H
          have H:=H1
          clear H1
          by_cases c70 : (x13_44 / 4503599627370496) = 1
          case neg =>
           rw [if_neg c70] at H
           have c70b0 : ((x13_44 / 4503599627370496) == 1) = false:=beq_eq_false_iff_ne.mpr c70
           have c70b1 : ((x13_44 / 4503599627370496) != 1) = true:=bne_iff_ne.mpr c70
           replace H:=Option.bind_eq_some_iff.mp H
           obtain ⟨⟨t145,t146⟩,A740,H⟩:=H
           replace H : (some (t145,0)) = some (r1,r2):=H
           have A74:=Aside0.mk A740
           clear A740
           simp only [Option.some.injEq,Prod.mk.injEq] at H
           obtain ⟨rfl,rfl⟩:=H
           have hnb75:=NB118_120.out
           have hnc75:=NB120_118.out
           have hcz76_0 : wc.cell? ⟨gb118,0,none⟩ = some (.bool a0_0):=bc_ BK118 0
           have hcz76_1 : wc.cell? ⟨gb118,1,none⟩ = some (.int .u64 a0_1):=bc_ BK118 1
           have hcz76_2 : wc.cell? ⟨gb118,2,none⟩ = some (.int .u64 a0_2):=bc_ BK118 2
           have hcz76_3 : wc.cell? ⟨gb118,3,none⟩ = some (.int .i64 a0_3):=bc_ BK118 3
           have hcz76_4 : wc.cell? ⟨gb118,4,none⟩ = some (.bool a0_4):=bc_ BK118 4
           have hfz76_0:=blk_frozen BK118.out 0
           have hfz76_1:=blk_frozen BK118.out 1
           have hfz76_2:=blk_frozen BK118.out 2
           have hfz76_3:=blk_frozen BK118.out 3
           have hfz76_4:=blk_frozen BK118.out 4
           go_wp2_with (first | ((with_reducible refine gc_ 58 rfl ?_); refine gM_ (some 110) Try.func58 [.bool a0_0,.int .i64 0,.int .u64 (Go.bits .and .u64 x13_44 4503599627370495)] ?_; (with_reducible refine (pattern_Make.calls kj51 a0_0 0 (Go.bits .and .u64 x13_44 4503599627370495) t145 t146 _ A74.out).mono ?_); rintro e w' ⟨rfl,⟨nd,rfl⟩⟩; refine ⟨_,rfl,?_⟩))
           go_ret2
           exact ⟨by first | rfl | (simp [errW_none,errW_some] <;> rfl) | (simp only [← hji4]; first | rfl | (simp [errW_none,errW_some] <;> rfl)) | (simp [*,errW_none,errW_some] <;> rfl),bh_⟩
          rw [if_pos c70] at H
          have c70b0 : ((x13_44 / 4503599627370496) == 1) = true:=beq_iff_eq.mpr c70
          have c70b1 : ((x13_44 / 4503599627370496) != 1) = false:=bne_eq_false_iff_eq.mpr c70
          clear c70
          replace H:=Option.bind_eq_some_iff.mp H
          obtain ⟨⟨t143,t144⟩,A710,H⟩:=H
          replace H : (some (t143,0)) = some (r1,r2):=H
          have A71:=Aside0.mk A710
          clear A710
          simp only [Option.some.injEq,Prod.mk.injEq] at H
          obtain ⟨rfl,rfl⟩:=H
          have hnb72:=NB118_120.out
          have hnc72:=NB120_118.out
          have hcz73_0 : wc.cell? ⟨gb118,0,none⟩ = some (.bool a0_0):=bc_ BK118 0
          have hcz73_1 : wc.cell? ⟨gb118,1,none⟩ = some (.int .u64 a0_1):=bc_ BK118 1
          have hcz73_2 : wc.cell? ⟨gb118,2,none⟩ = some (.int .u64 a0_2):=bc_ BK118 2
          have hcz73_3 : wc.cell? ⟨gb118,3,none⟩ = some (.int .i64 a0_3):=bc_ BK118 3
          have hcz73_4 : wc.cell? ⟨gb118,4,none⟩ = some (.bool a0_4):=bc_ BK118 4
          have hfz73_0:=blk_frozen BK118.out 0
          have hfz73_1:=blk_frozen BK118.out 1
          have hfz73_2:=blk_frozen BK118.out 2
          have hfz73_3:=blk_frozen BK118.out 3
          have hfz73_4:=blk_frozen BK118.out 4
          go_wp2_with (first | ((with_reducible refine gc_ 58 rfl ?_); refine gM_ (some 110) Try.func58 [.bool a0_0,.int .i64 (wrap64 ((wrap64 (x7_44 - (-1074))) + 1)),.int .u64 (Go.bits .and .u64 x13_44 4503599627370495)] ?_; (with_reducible refine (pattern_Make.calls kj51 a0_0 (wrap64 ((wrap64 (x7_44 - (-1074))) + 1)) (Go.bits .and .u64 x13_44 4503599627370495) t143 t144 _ A71.out).mono ?_); rintro e w' ⟨rfl,⟨nd,rfl⟩⟩; refine ⟨_,rfl,?_⟩))
          go_ret2
          exact ⟨by first | rfl | (simp [errW_none,errW_some] <;> rfl) | (simp only [← hji4]; first | rfl | (simp [errW_none,errW_some] <;> rfl)) | (simp [*,errW_none,errW_some] <;> rfl),bh_⟩
         subst c54
         have H1 : (if (wrap64 (t119 + a0_3)) ≤ (-1022) then (if (x13_44 / 4503599627370496) = 1 then ((pattern_Make.f kj51 a0_0 (wrap64 ((wrap64 (x7_44 - (-1074))) + 1)) (Go.bits .and .u64 x13_44 4503599627370495)).bind fun bt135=>(some (bt135.1,Go.bits .or .u8 1 2))) else ((pattern_Make.f kj51 a0_0 0 (Go.bits .and .u64 x13_44 4503599627370495)).bind fun bt137=>(some (bt137.1,Go.bits .or .u8 1 2)))) else (if (x13_44 / 4503599627370496) = 1 then ((pattern_Make.f kj51 a0_0 (wrap64 ((wrap64 (x7_44 - (-1074))) + 1)) (Go.bits .and .u64 x13_44 4503599627370495)).bind fun bt139=>(some (bt139.1,1))) else ((pattern_Make.f kj51 a0_0 0 (Go.bits .and .u64 x13_44 4503599627370495)).bind fun bt141=>(some (bt141.1,1))))) = some (r1,r2):=by rw [if_pos rfl] at H; exact H
         clear H
         have H:=H1
         clear H1
         by_cases c55 : (wrap64 (t119 + a0_3)) ≤ (-1022)
         case neg =>
          rw [if_neg c55] at H
          have c55b0 : decide ((wrap64 (t119 + a0_3)) ≤ (-1022)) = false:=decide_eq_false c55
          clear c55
          by_cases c63 : (x13_44 / 4503599627370496) = 1
          case neg =>
           rw [if_neg c63] at H
           have c63b0 : ((x13_44 / 4503599627370496) == 1) = false:=beq_eq_false_iff_ne.mpr c63
           have c63b1 : ((x13_44 / 4503599627370496) != 1) = true:=bne_iff_ne.mpr c63
           replace H:=Option.bind_eq_some_iff.mp H
           obtain ⟨⟨t141,t142⟩,A670,H⟩:=H
           replace H : (some (t141,1)) = some (r1,r2):=H
           have A67:=Aside0.mk A670
           clear A670
           simp only [Option.some.injEq,Prod.mk.injEq] at H
           obtain ⟨rfl,rfl⟩:=H
           have hnb68:=NB118_120.out
           have hnc68:=NB120_118.out
           have hcz69_0 : wc.cell? ⟨gb118,0,none⟩ = some (.bool a0_0):=bc_ BK118 0
           have hcz69_1 : wc.cell? ⟨gb118,1,none⟩ = some (.int .u64 a0_1):=bc_ BK118 1
           have hcz69_2 : wc.cell? ⟨gb118,2,none⟩ = some (.int .u64 a0_2):=bc_ BK118 2
           have hcz69_3 : wc.cell? ⟨gb118,3,none⟩ = some (.int .i64 a0_3):=bc_ BK118 3
           have hcz69_4 : wc.cell? ⟨gb118,4,none⟩ = some (.bool a0_4):=bc_ BK118 4
           have hfz69_0:=blk_frozen BK118.out 0
           have hfz69_1:=blk_frozen BK118.out 1
           have hfz69_2:=blk_frozen BK118.out 2
           have hfz69_3:=blk_frozen BK118.out 3
           have hfz69_4:=blk_frozen BK118.out 4
           go_wp2_with (first | ((with_reducible refine gc_ 58 rfl ?_); refine gM_ (some 110) Try.func58 [.bool a0_0,.int .i64 0,.int .u64 (Go.bits .and .u64 x13_44 4503599627370495)] ?_; (with_reducible refine (pattern_Make.calls kj51 a0_0 0 (Go.bits .and .u64 x13_44 4503599627370495) t141 t142 _ A67.out).mono ?_); rintro e w' ⟨rfl,⟨nd,rfl⟩⟩; refine ⟨_,rfl,?_⟩))
           go_ret2
           exact ⟨by first | rfl | (simp [errW_none,errW_some] <;> rfl) | (simp only [← hji4]; first | rfl | (simp [errW_none,errW_some] <;> rfl)) | (simp [*,errW_none,errW_some] <;> rfl),bh_⟩
          rw [if_pos c63] at H
          have c63b0 : ((x13_44 / 4503599627370496) == 1) = true:=beq_iff_eq.mpr c63
          have c63b1 : ((x13_44 / 4503599627370496) != 1) = false:=bne_eq_false_iff_eq.mpr c63
          clear c63
          replace H:=Option.bind_eq_some_iff.mp H
          obtain ⟨⟨t139,t140⟩,A640,H⟩:=H
          replace H : (some (t139,1)) = some (r1,r2):=H
          have A64:=Aside0.mk A640
          clear A640
          simp only [Option.some.injEq,Prod.mk.injEq] at H
          obtain ⟨rfl,rfl⟩:=H
          have hnb65:=NB118_120.out
          have hnc65:=NB120_118.out
          have hcz66_0 : wc.cell? ⟨gb118,0,none⟩ = some (.bool a0_0):=bc_ BK118 0
          have hcz66_1 : wc.cell? ⟨gb118,1,none⟩ = some (.int .u64 a0_1):=bc_ BK118 1
          have hcz66_2 : wc.cell? ⟨gb118,2,none⟩ = some (.int .u64 a0_2):=bc_ BK118 2
          have hcz66_3 : wc.cell? ⟨gb118,3,none⟩ = some (.int .i64 a0_3):=bc_ BK118 3
          have hcz66_4 : wc.cell? ⟨gb118,4,none⟩ = some (.bool a0_4):=bc_ BK118 4
          have hfz66_0:=blk_frozen BK118.out 0
          have hfz66_1:=blk_frozen BK118.out 1
          have hfz66_2:=blk_frozen BK118.out 2
          have hfz66_3:=blk_frozen BK118.out 3
          have hfz66_4:=blk_frozen BK118.out 4
          go_wp2_with (first | ((with_reducible refine gc_ 58 rfl ?_); refine gM_ (some 110) Try.func58 [.bool a0_0,.int .i64 (wrap64 ((wrap64 (x7_44 - (-1074))) + 1)),.int .u64 (Go.bits .and .u64 x13_44 4503599627370495)] ?_; (with_reducible refine (pattern_Make.calls kj51 a0_0 (wrap64 ((wrap64 (x7_44 - (-1074))) + 1)) (Go.bits .and .u64 x13_44 4503599627370495) t139 t140 _ A64.out).mono ?_); rintro e w' ⟨rfl,⟨nd,rfl⟩⟩; refine ⟨_,rfl,?_⟩))
          go_ret2
          exact ⟨by first | rfl | (simp [errW_none,errW_some] <;> rfl) | (simp only [← hji4]; first | rfl | (simp [errW_none,errW_some] <;> rfl)) | (simp [*,errW_none,errW_some] <;> rfl),bh_⟩
         rw [if_pos c55] at H
         have c55b0 : decide ((wrap64 (t119 + a0_3)) ≤ (-1022)) = true:=decide_eq_true c55
         clear c55
         by_cases c56 : (x13_44 / 4503599627370496) = 1
         case neg =>
          rw [if_neg c56] at H
          have c56b0 : ((x13_44 / 4503599627370496) == 1) = false:=beq_eq_false_iff_ne.mpr c56
          have c56b1 : ((x13_44 / 4503599627370496) != 1) = true:=bne_iff_ne.mpr c56
          replace H:=Option.bind_eq_some_iff.mp H
          obtain ⟨⟨t137,t138⟩,A600,H⟩:=H
          replace H : (some (t137,Go.bits .or .u8 1 2)) = some (r1,r2):=H
          have A60:=Aside0.mk A600
          clear A600
          simp only [Option.some.injEq,Prod.mk.injEq] at H
          obtain ⟨rfl,rfl⟩:=H
          have hnb61:=NB118_120.out
          have hnc61:=NB120_118.out
          have hcz62_0 : wc.cell? ⟨gb118,0,none⟩ = some (.bool a0_0):=bc_ BK118 0
          have hcz62_1 : wc.cell? ⟨gb118,1,none⟩ = some (.int .u64 a0_1):=bc_ BK118 1
          have hcz62_2 : wc.cell? ⟨gb118,2,none⟩ = some (.int .u64 a0_2):=bc_ BK118 2
          have hcz62_3 : wc.cell? ⟨gb118,3,none⟩ = some (.int .i64 a0_3):=bc_ BK118 3
          have hcz62_4 : wc.cell? ⟨gb118,4,none⟩ = some (.bool a0_4):=bc_ BK118 4
          have hfz62_0:=blk_frozen BK118.out 0
          have hfz62_1:=blk_frozen BK118.out 1
          have hfz62_2:=blk_frozen BK118.out 2
          have hfz62_3:=blk_frozen BK118.out 3
          have hfz62_4:=blk_frozen BK118.out 4
          go_wp2_with (first | ((with_reducible refine gc_ 58 rfl ?_); refine gM_ (some 110) Try.func58 [.bool a0_0,.int .i64 0,.int .u64 (Go.bits .and .u64 x13_44 4503599627370495)] ?_; (with_reducible refine (pattern_Make.calls kj51 a0_0 0 (Go.bits .and .u64 x13_44 4503599627370495) t137 t138 _ A60.out).mono ?_); rintro e w' ⟨rfl,⟨nd,rfl⟩⟩; refine ⟨_,rfl,?_⟩))
          go_ret2
          exact ⟨by first | rfl | (simp [errW_none,errW_some] <;> rfl) | (simp only [← hji4]; first | rfl | (simp [errW_none,errW_some] <;> rfl)) | (simp [*,errW_none,errW_some] <;> rfl),bh_⟩
         rw [if_pos c56] at H
         have c56b0 : ((x13_44 / 4503599627370496) == 1) = true:=beq_iff_eq.mpr c56
         have c56b1 : ((x13_44 / 4503599627370496) != 1) = false:=bne_eq_false_iff_eq.mpr c56
         clear c56
         replace H:=Option.bind_eq_some_iff.mp H
         obtain ⟨⟨t135,t136⟩,A570,H⟩:=H
         replace H : (some (t135,Go.bits .or .u8 1 2)) = some (r1,r2):=H
         have A57:=Aside0.mk A570
         clear A570
         simp only [Option.some.injEq,Prod.mk.injEq] at H
         obtain ⟨rfl,rfl⟩:=H
         have hnb58:=NB118_120.out
         have hnc58:=NB120_118.out
         have hcz59_0 : wc.cell? ⟨gb118,0,none⟩ = some (.bool a0_0):=bc_ BK118 0
         have hcz59_1 : wc.cell? ⟨gb118,1,none⟩ = some (.int .u64 a0_1):=bc_ BK118 1
         have hcz59_2 : wc.cell? ⟨gb118,2,none⟩ = some (.int .u64 a0_2):=bc_ BK118 2
         have hcz59_3 : wc.cell? ⟨gb118,3,none⟩ = some (.int .i64 a0_3):=bc_ BK118 3
         have hcz59_4 : wc.cell? ⟨gb118,4,none⟩ = some (.bool a0_4):=bc_ BK118 4
         have hfz59_0:=blk_frozen BK118.out 0
         have hfz59_1:=blk_frozen BK118.out 1
         have hfz59_2:=blk_frozen BK118.out 2
         have hfz59_3:=blk_frozen BK118.out 3
         have hfz59_4:=blk_frozen BK118.out 4
         go_wp2_with (first | ((with_reducible refine gc_ 58 rfl ?_); refine gM_ (some 110) Try.func58 [.bool a0_0,.int .i64 (wrap64 ((wrap64 (x7_44 - (-1074))) + 1)),.int .u64 (Go.bits .and .u64 x13_44 4503599627370495)] ?_; (with_reducible refine (pattern_Make.calls kj51 a0_0 (wrap64 ((wrap64 (x7_44 - (-1074))) + 1)) (Go.bits .and .u64 x13_44 4503599627370495) t135 t136 _ A57.out).mono ?_); rintro e w' ⟨rfl,⟨nd,rfl⟩⟩; refine ⟨_,rfl,?_⟩))
         go_ret2
         exact ⟨by first | rfl | (simp [errW_none,errW_some] <;> rfl) | (simp only [← hji4]; first | rfl | (simp [errW_none,errW_some] <;> rfl)) | (simp [*,errW_none,errW_some] <;> rfl),bh_⟩

/-! ### round_Round: function 23 -/
def round_Round.f (k : Nat) (a0 : Bool) (a1_0 : Int) (a1_1 : Int) (a2 : Int) (a3 : Bool) (a4 : Int) : Option (Int × Int):=(wide_U128_Len.f a1_0 a1_1).bind fun t148=>(if t148 = 0 then ((pattern_Make.f k a0 0 0).bind fun bt149=>(some (bt149.1,0))) else (if a3 = true then ((round_number_float.f k a0 a1_0 a1_1 (mn (mx a2 (-5000)) 5000) (decide (t148 > 53)) a4).bind fun bt151=>(some (bt151.1,bt151.2))) else ((round_number_float.f k a0 a1_0 a1_1 (mn (mx a2 (-5000)) 5000) false a4).bind fun bt153=>(some (bt153.1,bt153.2)))))
theorem round_Round.mono : ∀ a0 a1 a2 a3 a4 a5 k,LeO (round_Round.f k a0 a1 a2 a3 a4 a5) (round_Round.f (k + 1) a0 a1 a2 a3 a4 a5):=by
 intro a0 a1 a2 a3 a4 a5 k
 unfold round_Round.f
 repeat' with_reducible first | exact pattern_Make.mono _ _ _ _ | exact round_number_float.mono _ _ _ _ _ _ _ | exact LeO.refl _ | exact LeO.none _ | refine LeO.ite ?_ ?_ | refine LeO.bind ?_ (fun _=>?_)
set_option maxHeartbeats 8000000 in
set_option maxRecDepth 100000 in
theorem round_Round.calls (k : Nat) (a0 : Bool) (a1_0 : Int) (a1_1 : Int) (a2 : Int) (a3 : Bool) (a4 : Int) (r1 : Int) (r2 : Int) (w : World) (h : round_Round.f k a0 a1_0 a1_1 a2 a3 a4 = some (r1,r2)) :
  Calls Try.prog 23 #[.bool a0,.agg #[.int .u64 a1_0,.int .u64 a1_1],.int .i64 a2,.bool a3,.int .u8 a4] w fun e w'=>e = .returned (.tuple #[.int .u64 r1,.int .u8 r2]) ∧ Below w.heap.size w w':=by
 have hu40:=Try.underlying40
 have hu94:=Try.underlying94
 have HB:=Aside0.mk (Below.refl w.heap.size w)
 have H : ((wide_U128_Len.f a1_0 a1_1).bind fun t148=>(if t148 = 0 then ((pattern_Make.f k a0 0 0).bind fun bt149=>(some (bt149.1,0))) else (if a3 = true then ((round_number_float.f k a0 a1_0 a1_1 (mn (mx a2 (-5000)) 5000) (decide (t148 > 53)) a4).bind fun bt151=>(some (bt151.1,bt151.2))) else ((round_number_float.f k a0 a1_0 a1_1 (mn (mx a2 (-5000)) 5000) false a4).bind fun bt153=>(some (bt153.1,bt153.2)))))) = some (r1,r2):=h
 clear h
 replace H:=Option.bind_eq_some_iff.mp H
 obtain ⟨t148,A60,H⟩:=H
 replace H : (if t148 = 0 then ((pattern_Make.f k a0 0 0).bind fun bt149=>(some (bt149.1,0))) else (if a3 = true then ((round_number_float.f k a0 a1_0 a1_1 (mn (mx a2 (-5000)) 5000) (decide (t148 > 53)) a4).bind fun bt151=>(some (bt151.1,bt151.2))) else ((round_number_float.f k a0 a1_0 a1_1 (mn (mx a2 (-5000)) 5000) false a4).bind fun bt153=>(some (bt153.1,bt153.2))))) = some (r1,r2):=H
 have A6:=Aside0.mk A60
 clear A60
 by_cases c7 : t148 = 0
 case pos =>
  rw [if_pos c7] at H
  have c7b0 : (t148 == 0) = true:=beq_iff_eq.mpr c7
  have c7b1 : (t148 != 0) = false:=bne_eq_false_iff_eq.mpr c7
  clear c7
  replace H:=Option.bind_eq_some_iff.mp H
  obtain ⟨⟨t149,t150⟩,A80,H⟩:=H
  replace H : (some (t149,0)) = some (r1,r2):=H
  have A8:=Aside0.mk A80
  clear A80
  simp only [Option.some.injEq,Prod.mk.injEq] at H
  obtain ⟨rfl,rfl⟩:=H
  go_enter Try.func23,Try.ntmps23
  go_wp2_with (first | ((with_reducible refine gate_dst (N:=6) rfl ?_); refine box_event ?hg (N:=6) ?hd (cs:=#[.int .u64 a1_0,.int .u64 a1_1]) (t:=40) ?hr ?_; (case hd=>rfl); (case hg=>rfl); (case hr=>first | (go_simp; done) | (go_simp; rfl)); intro gb147 hg w9 hbox hb; have n0_:=bq_ hb; have n1_:=Aside0.mk (hbox); have n3_:=bz_ hg; clear HB; have HB:=n0_; have BK147:=n1_; have GE147:=n3_; clear n0_ n1_ n3_; clear hb hbox hg; have hcz10_0 : w9.cell? ⟨gb147,0,none⟩ = some (.int .u64 a1_0):=bc_ BK147 0; have hcz10_1 : w9.cell? ⟨gb147,1,none⟩ = some (.int .u64 a1_1):=bc_ BK147 1; have hfz10_0:=blk_frozen BK147.out 0; have hfz10_1:=blk_frozen BK147.out 1) | ((with_reducible refine gc_ 57 rfl ?_); refine gM_ (some 16) Try.func57 [.agg #[.int .u64 a1_0,.int .u64 a1_1]] ?_; (with_reducible refine (wide_U128_Len.calls a1_0 a1_1 t148 _ A6.out).mono ?_); rintro e w11 ⟨rfl,hb⟩; refine ⟨_,rfl,?_⟩; replace HB:=bq_ hb) | ((with_reducible refine gc_ 58 rfl ?_); refine gM_ (some 21) Try.func58 [.bool a0,.int .i64 0,.int .u64 0] ?_; (with_reducible refine (pattern_Make.calls k a0 0 0 t149 t150 _ A8.out).mono ?_); rintro e w' ⟨rfl,⟨nd,rfl⟩⟩; refine ⟨_,rfl,?_⟩))
  go_ret2
  exact ⟨eh_,bh_⟩
 rw [if_neg c7] at H
 have c7b0 : (t148 == 0) = false:=beq_eq_false_iff_ne.mpr c7
 have c7b1 : (t148 != 0) = true:=bne_iff_ne.mpr c7
 obtain ⟨ji12,hji12⟩ : ∃ j_ : Int,(mx a2 (-5000)) = j_:=⟨_,rfl⟩
 replace H : (if a3 = true then ((round_number_float.f k a0 a1_0 a1_1 (mn (ji12) 5000) (decide (t148 > 53)) a4).bind fun bt151=>(some (bt151.1,bt151.2))) else ((round_number_float.f k a0 a1_0 a1_1 (mn (ji12) 5000) false a4).bind fun bt153=>(some (bt153.1,bt153.2)))) = some (r1,r2):=by first | (rw [hji12] at H; exact H) | (simp only [hji12] at H ⊢; exact H)
 (try rw [hji12] at A6)
 have hji12_ : (if a2 < (-5000) then (-5000) else a2) = ji12:=hji12
 obtain ⟨ji13,hji13⟩ : ∃ j_ : Int,(mn (ji12) 5000) = j_:=⟨_,rfl⟩
 replace H : (if a3 = true then ((round_number_float.f k a0 a1_0 a1_1 (ji13) (decide (t148 > 53)) a4).bind fun bt151=>(some (bt151.1,bt151.2))) else ((round_number_float.f k a0 a1_0 a1_1 (ji13) false a4).bind fun bt153=>(some (bt153.1,bt153.2)))) = some (r1,r2):=by first | (rw [hji13] at H; exact H) | (simp only [hji13] at H ⊢; exact H)
 (try rw [hji13] at A6)
 have hji13_ : (if 5000 < (ji12) then 5000 else (ji12)) = ji13:=hji13
 by_cases c14 : a3 = true
 case pos =>
  subst c14
  have H1 : ((round_number_float.f k a0 a1_0 a1_1 (ji13) (decide (t148 > 53)) a4).bind fun bt151=>(some (bt151.1,bt151.2))) = some (r1,r2):=by rw [if_pos rfl] at H; exact H
  clear H
  have H:=H1
  clear H1
  replace H:=Option.bind_eq_some_iff.mp H
  obtain ⟨⟨t151,t152⟩,A150,H⟩:=H
  replace H : (some (t151,t152)) = some (r1,r2):=H
  have A15:=Aside0.mk A150
  clear A150
  simp only [Option.some.injEq,Prod.mk.injEq] at H
  obtain ⟨rfl,rfl⟩:=H
  go_enter Try.func23,Try.ntmps23
  go_wp2_with (first | ((with_reducible refine gate_dst (N:=6) rfl ?_); refine box_event ?hg (N:=6) ?hd (cs:=#[.int .u64 a1_0,.int .u64 a1_1]) (t:=40) ?hr ?_; (case hd=>rfl); (case hg=>rfl); (case hr=>first | (go_simp; done) | (go_simp; rfl)); intro gb147 hg w16 hbox hb; have n0_:=bq_ hb; have n1_:=Aside0.mk (hbox); have n3_:=bz_ hg; clear HB; have HB:=n0_; have BK147:=n1_; have GE147:=n3_; clear n0_ n1_ n3_; clear hb hbox hg; have hcz17_0 : w16.cell? ⟨gb147,0,none⟩ = some (.int .u64 a1_0):=bc_ BK147 0; have hcz17_1 : w16.cell? ⟨gb147,1,none⟩ = some (.int .u64 a1_1):=bc_ BK147 1; have hfz17_0:=blk_frozen BK147.out 0; have hfz17_1:=blk_frozen BK147.out 1) | ((with_reducible refine gc_ 57 rfl ?_); refine gM_ (some 16) Try.func57 [.agg #[.int .u64 a1_0,.int .u64 a1_1]] ?_; (with_reducible refine (wide_U128_Len.calls a1_0 a1_1 t148 _ A6.out).mono ?_); rintro e w18 ⟨rfl,hb⟩; refine ⟨_,rfl,?_⟩; replace BK147:=kb_ BK147 hb; replace HB:=bq_ hb; skip; have hcz19_0 : w18.cell? ⟨gb147,0,none⟩ = some (.int .u64 a1_0):=bc_ BK147 0; have hcz19_1 : w18.cell? ⟨gb147,1,none⟩ = some (.int .u64 a1_1):=bc_ BK147 1; have hfz19_0:=blk_frozen BK147.out 0; have hfz19_1:=blk_frozen BK147.out 1) | ((with_reducible refine gc_ 59 rfl ?_); refine goesL_ (some 37) rfl rfl Try.func59 (by kernel_rfl) rfl #[.agg #[.bool a0,.int .u64 a1_0,.int .u64 a1_1,.int .i64 ji13,.bool (decide (t148 > 53))],.int .u8 a4] rfl (by (try simp only [List.map_toArray,List.map_cons,List.map_nil]); first | done | (simp only [hji13]; rfl) | rfl | (simp only [List.length_drop,List.length_take]; rfl)) ?_; (with_reducible refine (round_number_float.calls k a0 a1_0 a1_1 ji13 (decide (t148 > 53)) a4 t151 t152 _ A15.out).mono ?_); rintro e w20 ⟨rfl,hb⟩; refine ⟨_,rfl,?_⟩; replace HB:=bq_ hb))
  go_ret2
  exact ⟨by first | rfl | (simp [errW_none,errW_some] <;> rfl) | (simp only [← hji12,← hji13]; first | rfl | (simp [errW_none,errW_some] <;> rfl)) | (simp [*,errW_none,errW_some] <;> rfl),bh_⟩
 replace c14:=Bool.eq_false_iff.mpr c14
 subst c14
 have H1 : ((round_number_float.f k a0 a1_0 a1_1 (ji13) false a4).bind fun bt153=>(some (bt153.1,bt153.2))) = some (r1,r2):=by rw [if_neg (show ¬ (false = true) by decide)] at H; exact H
 clear H
 have H:=H1
 clear H1
 replace H:=Option.bind_eq_some_iff.mp H
 obtain ⟨⟨t153,t154⟩,A210,H⟩:=H
 replace H : (some (t153,t154)) = some (r1,r2):=H
 have A21:=Aside0.mk A210
 clear A210
 simp only [Option.some.injEq,Prod.mk.injEq] at H
 obtain ⟨rfl,rfl⟩:=H
 go_enter Try.func23,Try.ntmps23
 go_wp2_with (first | ((with_reducible refine gate_dst (N:=6) rfl ?_); refine box_event ?hg (N:=6) ?hd (cs:=#[.int .u64 a1_0,.int .u64 a1_1]) (t:=40) ?hr ?_; (case hd=>rfl); (case hg=>rfl); (case hr=>first | (go_simp; done) | (go_simp; rfl)); intro gb147 hg w22 hbox hb; have n0_:=bq_ hb; have n1_:=Aside0.mk (hbox); have n3_:=bz_ hg; clear HB; have HB:=n0_; have BK147:=n1_; have GE147:=n3_; clear n0_ n1_ n3_; clear hb hbox hg; have hcz23_0 : w22.cell? ⟨gb147,0,none⟩ = some (.int .u64 a1_0):=bc_ BK147 0; have hcz23_1 : w22.cell? ⟨gb147,1,none⟩ = some (.int .u64 a1_1):=bc_ BK147 1; have hfz23_0:=blk_frozen BK147.out 0; have hfz23_1:=blk_frozen BK147.out 1) | ((with_reducible refine gc_ 57 rfl ?_); refine gM_ (some 16) Try.func57 [.agg #[.int .u64 a1_0,.int .u64 a1_1]] ?_; (with_reducible refine (wide_U128_Len.calls a1_0 a1_1 t148 _ A6.out).mono ?_); rintro e w24 ⟨rfl,hb⟩; refine ⟨_,rfl,?_⟩; replace BK147:=kb_ BK147 hb; replace HB:=bq_ hb; skip; have hcz25_0 : w24.cell? ⟨gb147,0,none⟩ = some (.int .u64 a1_0):=bc_ BK147 0; have hcz25_1 : w24.cell? ⟨gb147,1,none⟩ = some (.int .u64 a1_1):=bc_ BK147 1; have hfz25_0:=blk_frozen BK147.out 0; have hfz25_1:=blk_frozen BK147.out 1) | ((with_reducible refine gc_ 59 rfl ?_); refine goesL_ (some 37) rfl rfl Try.func59 (by kernel_rfl) rfl #[.agg #[.bool a0,.int .u64 a1_0,.int .u64 a1_1,.int .i64 ji13,.bool false],.int .u8 a4] rfl (by (try simp only [List.map_toArray,List.map_cons,List.map_nil]); first | done | (simp only [hji13]; rfl) | rfl | (simp only [List.length_drop,List.length_take]; rfl)) ?_; (with_reducible refine (round_number_float.calls k a0 a1_0 a1_1 ji13 false a4 t153 t154 _ A21.out).mono ?_); rintro e w26 ⟨rfl,hb⟩; refine ⟨_,rfl,?_⟩; replace HB:=bq_ hb))
 go_ret2
 exact ⟨by first | rfl | (simp [errW_none,errW_some] <;> rfl) | (simp only [← hji12,← hji13]; first | rfl | (simp [errW_none,errW_some] <;> rfl)) | (simp [*,errW_none,errW_some] <;> rfl),bh_⟩

end Go.Proofs.Ytfglpaaeipblcaa.P
