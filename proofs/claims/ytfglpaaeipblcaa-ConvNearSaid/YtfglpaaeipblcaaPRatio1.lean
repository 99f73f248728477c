/- Walks of one package: what each function returns, wherever the Lean function beside it has an answer. -/
import Derived.Test.YtfglpaaeipblcaaP0
import Derived.Test.YtfglpaaeipblcaaPNat1
import Derived.Test.YtfglpaaeipblcaaPNat2
namespace Go.Proofs.Ytfglpaaeipblcaa.P
open Go.RowKit Go.Proofs.YtfglpaaeipblcaaW.PrintWords Go.Proofs.YtfglpaaeipblcaaW.PrintLast Go.Proofs.YtfglpaaeipblcaaW.PrintMore
attribute [local go_sem] max2_int min2_int max_two min_two max_three min_three max_four min_four   -- for this text's walks alone
set_option linter.unusedVariables false
set_option linter.unusedSimpArgs false

/-! ### ratio_low: function 73 -/
def ratio_low.j0 : Nat → Bool → List Int → List Int → Bool → Option (Bool × List Int × List Int)
 | 0,_,_,_,_=>none
 | k + 1,x0,x1,x2,x21=>if x21 = true then ((nat_New.f k 1).bind fun t341=>(some (false,([] : List Int),t341))) else ((nat_Nat_Gcd.f k x1 x2).bind fun t344=>((nat_Nat_Div.f k x1 t344).bind fun bt347=>((nat_Nat_Div.f k x2 t344).bind fun bt354=>(some (x0,bt347.1,bt354.1)))))
def ratio_low.f (k : Nat) (a0 : Bool) (l1 : List Int) (l2 : List Int) : Option (Bool × List Int × List Int):=(nat_Nat_Len.f k l1).bind fun t339=>(if t339 = 0 then (ratio_low.j0 k a0 l1 l2 true) else ((nat_Nat_Len.f k l2).bind fun t340=>(ratio_low.j0 k a0 l1 l2 (t340 == 0))))
theorem ratio_low.mono_l : ∀ k,(∀ y0 y1 y2 y3,LeO (ratio_low.j0 k y0 y1 y2 y3) (ratio_low.j0 (k + 1) y0 y1 y2 y3))
 | 0=>fun _ _ _ _ r h=>by simp [ratio_low.j0] at h
 | k + 1=>by
  have ih0:=ratio_low.mono_l k
  ·
   intro y0 y1 y2 y3
   unfold ratio_low.j0
   repeat' with_reducible first | exact ih0 _ _ _ _ | exact nat_Nat_Div.mono _ _ _ | exact nat_Nat_Gcd.mono _ _ _ | exact nat_Nat_Len.mono _ _ | exact nat_New.mono _ _ | exact LeO.refl _ | exact LeO.none _ | refine LeO.ite ?_ ?_ | refine LeO.bind ?_ (fun _=>?_)
theorem ratio_low.mono : ∀ a0 a1 a2 k,LeO (ratio_low.f k a0 a1 a2) (ratio_low.f (k + 1) a0 a1 a2):=by
 intro a0 a1 a2 k
 have ih0:=ratio_low.mono_l k
 unfold ratio_low.f
 repeat' with_reducible first | exact ih0 _ _ _ _ | exact nat_Nat_Div.mono _ _ _ | exact nat_Nat_Gcd.mono _ _ _ | exact nat_Nat_Len.mono _ _ | exact nat_New.mono _ _ | exact LeO.refl _ | exact LeO.none _ | refine LeO.ite ?_ ?_ | refine LeO.bind ?_ (fun _=>?_)
set_option maxHeartbeats 8000000 in
set_option maxRecDepth 100000 in
theorem ratio_low.calls (k : Nat) (a0 : Bool) (P1_ : Nat → Prop) (A1 : Option Addr) (c1 : Nat) (l1 : List Int) (P2_ : Nat → Prop) (A2 : Option Addr) (c2 : Nat) (l2 : List Int) (r1 : Bool) (r2 : List Int) (r3 : List Int) (w : World) (hs1 : Kd.V (Kd.int .u32) 123 w w.heap.size (fun k_=>P1_ k_) (.slice A1 l1.length c1) l1) (hs2 : Kd.V (Kd.int .u32) 123 w w.heap.size (fun k_=>P2_ k_) (.slice A2 l2.length c2) l2) (h : ratio_low.f k a0 l1 l2 = some (r1,r2,r3)) :
  Calls Try.prog 73 #[.bool a0,.slice A1 l1.length c1,.slice A2 l2.length c2] w fun e w'=>∃ v1_ v2_ : Value,e = .returned (.agg #[.bool r1,v1_,v2_]) ∧ Kd.V (Kd.int .u32) 123 w' w.heap.size (fun k_=>((P1_ k_ ∨ P2_ k_) ∨ w.heap.size ≤ k_)) v1_ r2 ∧ Kd.V (Kd.int .u32) 123 w' w.heap.size (fun k_=>((P1_ k_ ∨ P2_ k_) ∨ w.heap.size ≤ k_)) v2_ r3 ∧ Below w.heap.size w w':=by
 have hu50:=Try.underlying50
 have HO1:=Aside0.mk (show Kd.V (Kd.int .u32) 123 w w.heap.size (fun k_=>((P1_ k_ ∨ P2_ k_) ∨ w.heap.size ≤ k_)) (.slice A1 l1.length c1) l1 from Kd.V_mono hs1 (fun k_ hk=>.inl (.inl hk)))
 have HO2:=Aside0.mk (show Kd.V (Kd.int .u32) 123 w w.heap.size (fun k_=>((P1_ k_ ∨ P2_ k_) ∨ w.heap.size ≤ k_)) (.slice A2 l2.length c2) l2 from Kd.V_mono hs2 (fun k_ hk=>.inl (.inr hk)))
 have HB:=Aside0.mk (Below.refl w.heap.size w)
 have H : ((nat_Nat_Len.f k l1).bind fun t339=>(if t339 = 0 then (ratio_low.j0 k a0 l1 l2 true) else ((nat_Nat_Len.f k l2).bind fun t340=>(ratio_low.j0 k a0 l1 l2 (t340 == 0))))) = some (r1,r2,r3):=h
 clear h
 have HC4:=Aside0.mk H
 clear H
 go_enter Try.func73,Try.ntmps73
 go_upto_region 1 with (first | ((with_reducible refine gate_dst (N:=6) rfl ?_); refine box_event ?hg (N:=6) ?hd (cs:=#[.bool false,.slice none 0 0,.slice none 0 0]) (t:=50) ?hr ?_; (case hd=>rfl); (case hg=>rfl); (case hr=>first | (go_simp; done) | (go_simp; rfl)); intro gb338 hg w5 hbox hb; have n0_:=ve_ HO1 hg hb; have n1_:=ve_ HO2 hg hb; have n2_:=bq_ hb; have n3_:=Aside0.mk (hbox); have n5_:=bz_ hg; clear HO1 HO2 HB; have HO1:=n0_; have HO2:=n1_; have HB:=n2_; have BK338:=n3_; have GE338:=n5_; clear n0_ n1_ n2_ n3_ n5_; clear hb hbox hg))
 (try simp only [Act.put,p1_,p2_,p3_])
 go_cut [21] (fun v21 wc=>∃ (kq : Nat) (x21_3 : Bool),v21 = .bool x21_3 ∧ Aside0 (ratio_low.j0 kq a0 l1 l2 x21_3 = some (r1,r2,r3)) ∧ Aside0 (kq ≤ k) ∧ Aside0 (Kd.V (Kd.int .u32) 123 wc w.heap.size (fun k_=>((P1_ k_ ∨ P2_ k_) ∨ w.heap.size ≤ k_) ∧ k_ ≠ gb338) (.slice A1 l1.length c1) l1) ∧ Aside0 (Kd.V (Kd.int .u32) 123 wc w.heap.size (fun k_=>((P1_ k_ ∨ P2_ k_) ∨ w.heap.size ≤ k_) ∧ k_ ≠ gb338) (.slice A2 l2.length c2) l2) ∧ Aside0 (wc.heap[gb338]? = some (.cells #[.bool false,(.slice none 0 0),(.slice none 0 0)] 50 (0,0))) ∧ Aside0 (Below w.heap.size w wc))
 case first =>
  have H:=HC4.out
  clear HC4
  replace H:=Option.bind_eq_some_iff.mp H
  obtain ⟨t339,A60,H⟩:=H
  replace H : (if t339 = 0 then (ratio_low.j0 k a0 l1 l2 true) else ((nat_Nat_Len.f k l2).bind fun t340=>(ratio_low.j0 k a0 l1 l2 (t340 == 0)))) = some (r1,r2,r3):=H
  have A6:=Aside0.mk A60
  clear A60
  by_cases c7 : t339 = 0
  case pos =>
   rw [if_pos c7] at H
   have c7b0 : (t339 == 0) = true:=beq_iff_eq.mpr c7
   have c7b1 : (t339 != 0) = false:=bne_eq_false_iff_eq.mpr c7
   clear c7
   (first | rw [c7b0] | (simp only [i64_w,i32_w]; rw [c7b0]) | skip)
   have H':=Aside0.mk H
   clear H
   go_wp2_with (first | ((with_reducible refine gc_ 66 rfl ?_); refine gM_ (some 15) Try.func66 [.slice A1 l1.length c1] ?_; (with_reducible refine (nat_Nat_Len.calls k _ _ l1 t339 _ ?side1 ?side2 A6.out).mono ?_); (case side1=>repeat first | exact (Kd.V_reads' HO1.out).2.2 | with_reducible first | apply ca_ | apply cn_ | apply cd_); (case side2=>exact (Kd.V_reads' HO1.out).2.1); rintro e w8 ⟨rfl,hb⟩; refine ⟨_,rfl,?_⟩; replace HO1:=vb_ HO1 hb; replace HO2:=vb_ HO2 hb; replace BK338:=kb_ BK338 hb; replace HB:=bq_ hb))
   go_meet
   case rel=>exact ⟨_,(true),(sh_),H',⟨by first | omega | exact Nat.le_refl _⟩,⟨by (with_reducible repeat (first | apply va_ | apply vn_ | apply vd_)); exact HO1.out⟩,⟨by (with_reducible repeat (first | apply va_ | apply vn_ | apply vd_)); exact HO2.out⟩,⟨by (with_reducible repeat (first | apply kn_ | apply kd_ | apply ka_)); exact BK338.out⟩,⟨bh_⟩⟩
  rw [if_neg c7] at H
  have c7b0 : (t339 == 0) = false:=beq_eq_false_iff_ne.mpr c7
  have c7b1 : (t339 != 0) = true:=bne_iff_ne.mpr c7
  (first | rw [c7b0] | (simp only [i64_w,i32_w]; rw [c7b0]) | skip)
  replace H:=Option.bind_eq_some_iff.mp H
  obtain ⟨t340,A90,H⟩:=H
  replace H : (ratio_low.j0 k a0 l1 l2 (t340 == 0)) = some (r1,r2,r3):=H
  have A9:=Aside0.mk A90
  clear A90
  have H':=Aside0.mk H
  clear H
  go_wp2_with (first | ((with_reducible refine gc_ 66 rfl ?_); refine gM_ (some 15) Try.func66 [.slice A1 l1.length c1] ?_; (with_reducible refine (nat_Nat_Len.calls k _ _ l1 t339 _ ?side1 ?side2 A6.out).mono ?_); (case side1=>repeat first | exact (Kd.V_reads' HO1.out).2.2 | with_reducible first | apply ca_ | apply cn_ | apply cd_); (case side2=>exact (Kd.V_reads' HO1.out).2.1); rintro e w10 ⟨rfl,hb⟩; refine ⟨_,rfl,?_⟩; replace HO1:=vb_ HO1 hb; replace HO2:=vb_ HO2 hb; replace BK338:=kb_ BK338 hb; replace HB:=bq_ hb) | (go_at_call 66; (with_reducible refine (nat_Nat_Len.calls k _ _ l2 t340 _ ?side1 ?side2 A9.out).mono ?_); (case side1=>repeat first | exact (Kd.V_reads' HO2.out).2.2 | with_reducible first | apply ca_ | apply cn_ | apply cd_); (case side2=>exact (Kd.V_reads' HO2.out).2.1); rintro e w11 ⟨rfl,hb⟩; replace HO1:=vb_ HO1 hb; replace HO2:=vb_ HO2 hb; replace BK338:=kb_ BK338 hb; replace HB:=bq_ hb))
  go_meet
  case rel=>exact ⟨_,((t340 == 0)),(sh_),H',⟨by first | omega | exact Nat.le_refl _⟩,⟨by (with_reducible repeat (first | apply va_ | apply vn_ | apply vd_)); exact HO1.out⟩,⟨by (with_reducible repeat (first | apply va_ | apply vn_ | apply vd_)); exact HO2.out⟩,⟨by (with_reducible repeat (first | apply kn_ | apply kd_ | apply ka_)); exact BK338.out⟩,⟨bh_⟩⟩
 case rest =>
  clear HC4
  try clear c1
  try clear c2
  try clear p2
  try clear c6
  try clear c7
  try clear c7b0
  try clear c7b1
  obtain ⟨kq,x21_3,rfl,HA,HJ3,HO_1,HO_2,BK338,HB⟩:=hcut
  cases kq with
  | zero=>exact absurd HA.out (by simp [ratio_low.j0])
  | succ kj3 =>
   have H:=HA.out
   clear HA
   simp only [ratio_low.j0] at H
   by_cases c12 : x21_3 = true
   case pos =>
    subst c12
    have H1 : ((nat_New.f kj3 1).bind fun t341=>(some (false,([] : List Int),t341))) = some (r1,r2,r3):=by rw [if_pos rfl] at H; exact H
    clear H
    have H:=H1
    clear H1
    replace H:=Option.bind_eq_some_iff.mp H
    obtain ⟨t341,A130,H⟩:=H
    replace H : (some (false,([] : List Int),t341)) = some (r1,r2,r3):=H
    have A13:=Aside0.mk A130
    clear A130
    simp only [Option.some.injEq,Prod.mk.injEq] at H
    obtain ⟨rfl,rfl,rfl⟩:=H
    go_wp2_with (first | ((with_reducible refine gc_ 56 rfl ?_); refine gM_ (some 22) Try.func56 [.int .u64 1] ?_; (with_reducible refine (nat_New.calls kj3 1 t341 _ A13.out).mono ?_); rintro e w14 ⟨v342,rfl,ho0,hb⟩; refine ⟨_,rfl,?_⟩; replace HO_1:=vb_ HO_1 hb; replace HO_2:=vb_ HO_2 hb; have HO343:=Aside0.mk (Kd.V_lower (Kd.V_mono (ok':=fun k_=>((P1_ k_ ∨ P2_ k_) ∨ w.heap.size ≤ k_) ∧ k_ ≠ gb338) ho0 (fun k_ hk_=>⟨(.inr (Nat.le_trans (below_size bh_) hk_)),(fb_ BK338 k_ hk_)⟩)) (below_size bh_)); replace BK338:=kb_ BK338 hb; replace HB:=bq_ hb; skip; obtain ⟨Ao15,co15,eo15⟩:=Kd.V_slice HO343.out; subst eo15; have hcz16_0 : w14.cell? ⟨gb338,0,none⟩ = some (.bool false):=bc_ BK338 0; have hcz16_1 : w14.cell? ⟨gb338,1,none⟩ = some (.slice none 0 0):=bc_ BK338 1; have hcz16_2 : w14.cell? ⟨gb338,2,none⟩ = some (.slice none 0 0):=bc_ BK338 2; have hfz16_0:=blk_frozen BK338.out 0; have hfz16_1:=blk_frozen BK338.out 1; have hfz16_2:=blk_frozen BK338.out 2))
    refine bodyPost_ret (results_cell_row rfl _ _ gb338 50 #[.bool false,.slice none 0 0,.slice Ao15 t341.length co15] (0,0) _ rfl (by (with_reducible repeat (first | apply kn_ | apply kd_ | apply ka_)); refine blk_put (cs:=#[.bool false,.slice none 0 0,.slice none 0 0]) ?_ 2 _ rfl; (with_reducible repeat (first | apply kn_ | apply kd_ | apply ka_)); refine blk_put (cs:=#[.bool false,.slice none 0 0,.slice none 0 0]) ?_ 1 _ rfl; (with_reducible repeat (first | apply kn_ | apply kd_ | apply ka_)); refine blk_put (cs:=#[.bool false,.slice none 0 0,.slice none 0 0]) ?_ 0 _ rfl; (with_reducible repeat (first | apply kn_ | apply kd_ | apply ka_)); exact BK338.out) Try.underlying50 rfl (by kernel_rfl)) rfl ?_
    exact ⟨_,_,eh_,Kd.R_V (base:=0) (Kd.R_nil _ _ _ _ _),by (with_reducible repeat (first | apply va_ | apply vn_ | apply vd_)); exact Kd.V_mono (Kd.V_far (p:=⟨gb338,2,none⟩) (Kd.V_far (p:=⟨gb338,1,none⟩) (Kd.V_far (p:=⟨gb338,0,none⟩) (Kd.V_mono HO343.out (fun k_ hk=>(⟨hk,hk.2⟩ : _ ∧ k_ ≠ gb338))) (fun _ hk=>hk.2) (.bool false)) (fun _ hk=>hk.2) (.slice none 0 0)) (fun _ hk=>hk.2) (.slice Ao15 t341.length co15)) (fun _ hk=>hk.1.1),bh_⟩
   replace c12:=Bool.eq_false_iff.mpr c12
   subst c12
   have H1 : ((nat_Nat_Gcd.f kj3 l1 l2).bind fun t344=>((nat_Nat_Div.f kj3 l1 t344).bind fun bt347=>((nat_Nat_Div.f kj3 l2 t344).bind fun bt354=>(some (a0,bt347.1,bt354.1))))) = some (r1,r2,r3):=by rw [if_neg (show ¬ (false = true) by decide)] at H; exact H
   clear H
   have H:=H1
   clear H1
   replace H:=Option.bind_eq_some_iff.mp H
   obtain ⟨t344,A170,H⟩:=H
   replace H : ((nat_Nat_Div.f kj3 l1 t344).bind fun bt347=>((nat_Nat_Div.f kj3 l2 t344).bind fun bt354=>(some (a0,bt347.1,bt354.1)))) = some (r1,r2,r3):=H
   have A17:=Aside0.mk A170
   clear A170
   replace H:=Option.bind_eq_some_iff.mp H
   obtain ⟨⟨t347,t350,t353⟩,A180,H⟩:=H
   replace H : ((nat_Nat_Div.f kj3 l2 t344).bind fun bt354=>(some (a0,t347,bt354.1))) = some (r1,r2,r3):=H
   have A18:=Aside0.mk A180
   clear A180
   replace H:=Option.bind_eq_some_iff.mp H
   obtain ⟨⟨t354,t357,t360⟩,A190,H⟩:=H
   replace H : (some (a0,t347,t354)) = some (r1,r2,r3):=H
   have A19:=Aside0.mk A190
   clear A190
   simp only [Option.some.injEq,Prod.mk.injEq] at H
   obtain ⟨rfl,rfl,rfl⟩:=H
   go_wp2_with (first | ((with_reducible refine gc_ 103 rfl ?_); refine gM_ (some 26) Try.func103 [.slice A1 l1.length c1,.slice A2 l2.length c2] ?_; (with_reducible refine (nat_Nat_Gcd.calls kj3 (fun k_=>(((P1_ k_ ∨ P2_ k_) ∨ w.heap.size ≤ k_) ∧ k_ ≠ gb338)) _ _ l1 (fun k_=>(((P1_ k_ ∨ P2_ k_) ∨ w.heap.size ≤ k_) ∧ k_ ≠ gb338)) _ _ l2 t344 _ ?side1 ?side2 A17.out).mono ?_); (case side1=>exact HO_1.out); (case side2=>exact HO_2.out); rintro e w20 ⟨v345,rfl,ho0,hb⟩; refine ⟨_,rfl,?_⟩; replace HO_1:=vb_ HO_1 hb; replace HO_2:=vb_ HO_2 hb; have HO346:=Aside0.mk (Kd.V_lower (Kd.V_mono (ok':=fun k_=>((P1_ k_ ∨ P2_ k_) ∨ w.heap.size ≤ k_) ∧ k_ ≠ gb338) ho0 (fun k_ hk_=>⟨Or.elim hk_ (fun hs_=>Or.elim hs_ (fun hs_=>hs_.1) (fun hs_=>hs_.1)) (fun hn_=>(.inr (Nat.le_trans (below_size bh_) hn_))),Or.elim hk_ (fun hs_=>Or.elim hs_ (fun hs_=>hs_.2) (fun hs_=>hs_.2)) (fun hn_=>(fb_ BK338 k_ hn_))⟩)) (below_size bh_)); replace BK338:=kb_ BK338 hb; replace HB:=bq_ hb; skip; obtain ⟨Ao21,co21,eo21⟩:=Kd.V_slice HO346.out; subst eo21) | ((with_reducible refine gc_ 69 rfl ?_); refine gM_ (some 30) Try.func69 [.slice A1 l1.length c1,.slice Ao21 t344.length co21] ?_; (with_reducible refine (nat_Nat_Div.calls kj3 (fun k_=>(((P1_ k_ ∨ P2_ k_) ∨ w.heap.size ≤ k_) ∧ k_ ≠ gb338)) _ _ l1 (fun k_=>(((P1_ k_ ∨ P2_ k_) ∨ w.heap.size ≤ k_) ∧ k_ ≠ gb338)) _ _ t344 t347 t350 t353 _ ?side1 ?side2 A18.out).mono ?_); (case side1=>exact HO_1.out); (case side2=>exact HO346.out); rintro e w22 ⟨v348,v351,rfl,ho0,ho1,hb⟩; refine ⟨_,rfl,?_⟩; replace HO_2:=vb_ HO_2 hb; replace HO346:=vb_ HO346 hb; have HO349:=Aside0.mk (Kd.V_lower (Kd.V_mono (ok':=fun k_=>((P1_ k_ ∨ P2_ k_) ∨ w.heap.size ≤ k_) ∧ k_ ≠ gb338) ho0 (fun k_ hk_=>⟨Or.elim hk_ (fun hs_=>Or.elim hs_ (fun hs_=>hs_.1) (fun hs_=>hs_.1)) (fun hn_=>(.inr (Nat.le_trans (below_size bh_) hn_))),Or.elim hk_ (fun hs_=>Or.elim hs_ (fun hs_=>hs_.2) (fun hs_=>hs_.2)) (fun hn_=>(fb_ BK338 k_ hn_))⟩)) (below_size bh_)); replace BK338:=kb_ BK338 hb; replace HB:=bq_ hb) | ((with_reducible refine gc_ 69 rfl ?_); refine gM_ (some 37) Try.func69 [.slice A2 l2.length c2,.slice Ao21 t344.length co21] ?_; (with_reducible refine (nat_Nat_Div.calls kj3 (fun k_=>(((P1_ k_ ∨ P2_ k_) ∨ w.heap.size ≤ k_) ∧ k_ ≠ gb338)) _ _ l2 (fun k_=>(((P1_ k_ ∨ P2_ k_) ∨ w.heap.size ≤ k_) ∧ k_ ≠ gb338)) _ _ t344 t354 t357 t360 _ ?side1 ?side2 A19.out).mono ?_); (case side1=>exact HO_2.out); (case side2=>exact HO346.out); rintro e w23 ⟨v355,v358,rfl,ho0,ho1,hb⟩; refine ⟨_,rfl,?_⟩; replace HO349:=vb_ HO349 hb; have HO356:=Aside0.mk (Kd.V_lower (Kd.V_mono (ok':=fun k_=>((P1_ k_ ∨ P2_ k_) ∨ w.heap.size ≤ k_) ∧ k_ ≠ gb338) ho0 (fun k_ hk_=>⟨Or.elim hk_ (fun hs_=>Or.elim hs_ (fun hs_=>hs_.1) (fun hs_=>hs_.1)) (fun hn_=>(.inr (Nat.le_trans (below_size bh_) hn_))),Or.elim hk_ (fun hs_=>Or.elim hs_ (fun hs_=>hs_.2) (fun hs_=>hs_.2)) (fun hn_=>(fb_ BK338 k_ hn_))⟩)) (below_size bh_)); replace BK338:=kb_ BK338 hb; replace HB:=bq_ hb; skip; obtain ⟨Ao24,co24,eo24⟩:=Kd.V_slice HO356.out; subst eo24; obtain ⟨Ao25,co25,eo25⟩:=Kd.V_slice HO349.out; subst eo25; have hcz26_0 : w23.cell? ⟨gb338,0,none⟩ = some (.bool false):=bc_ BK338 0; have hcz26_1 : w23.cell? ⟨gb338,1,none⟩ = some (.slice none 0 0):=bc_ BK338 1; have hcz26_2 : w23.cell? ⟨gb338,2,none⟩ = some (.slice none 0 0):=bc_ BK338 2; have hfz26_0:=blk_frozen BK338.out 0; have hfz26_1:=blk_frozen BK338.out 1; have hfz26_2:=blk_frozen BK338.out 2))
   refine bodyPost_ret (results_cell_row rfl _ _ gb338 50 #[.bool a0,.slice Ao25 t347.length co25,.slice Ao24 t354.length co24] (0,0) _ rfl (by (with_reducible repeat (first | apply kn_ | apply kd_ | apply ka_)); refine blk_put (cs:=#[.bool a0,.slice Ao25 t347.length co25,.slice none 0 0]) ?_ 2 _ rfl; (with_reducible repeat (first | apply kn_ | apply kd_ | apply ka_)); refine blk_put (cs:=#[.bool a0,.slice none 0 0,.slice none 0 0]) ?_ 1 _ rfl; (with_reducible repeat (first | apply kn_ | apply kd_ | apply ka_)); refine blk_put (cs:=#[.bool false,.slice none 0 0,.slice none 0 0]) ?_ 0 _ rfl; (with_reducible repeat (first | apply kn_ | apply kd_ | apply ka_)); exact BK338.out) Try.underlying50 rfl (by kernel_rfl)) rfl ?_
   exact ⟨_,_,eh_,by (with_reducible repeat (first | apply va_ | apply vn_ | apply vd_)); exact Kd.V_mono (Kd.V_far (p:=⟨gb338,2,none⟩) (Kd.V_far (p:=⟨gb338,1,none⟩) (Kd.V_far (p:=⟨gb338,0,none⟩) (Kd.V_mono HO349.out (fun k_ hk=>(⟨hk,hk.2⟩ : _ ∧ k_ ≠ gb338))) (fun _ hk=>hk.2) (.bool a0)) (fun _ hk=>hk.2) (.slice Ao25 t347.length co25)) (fun _ hk=>hk.2) (.slice Ao24 t354.length co24)) (fun _ hk=>hk.1.1),by (with_reducible repeat (first | apply va_ | apply vn_ | apply vd_)); exact Kd.V_mono (Kd.V_far (p:=⟨gb338,2,none⟩) (Kd.V_far (p:=⟨gb338,1,none⟩) (Kd.V_far (p:=⟨gb338,0,none⟩) (Kd.V_mono HO356.out (fun k_ hk=>(⟨hk,hk.2⟩ : _ ∧ k_ ≠ gb338))) (fun _ hk=>hk.2) (.bool a0)) (fun _ hk=>hk.2) (.slice Ao25 t347.length co25)) (fun _ hk=>hk.2) (.slice Ao24 t354.length co24)) (fun _ hk=>hk.1.1),bh_⟩

/-! ### ratio_Dyad: function 35 -/
def ratio_Dyad.j0 : Nat → Bool → Int → Int → Bool → Option (Bool × List Int × List Int × Int)
 | 0,_,_,_,_=>none
 | k + 1,x0,x1,x2,x17=>if x17 = true then (some (false,([] : List Int),([] : List Int),31)) else ((nat_New.f k x1).bind fun t362=>((nat_Nat_Shl.f k t362 x2).bind fun bt365=>((nat_New.f k 1).bind fun t369=>((nat_Nat_Shl.f k t369 (wrap64 (-x2))).bind fun bt372=>((ratio_low.f k x0 bt365.1 bt372.1).bind fun bt376=>(some (bt376.1,bt376.2.1,bt376.2.2,0)))))))
def ratio_Dyad.f (k : Nat) (a0 : Bool) (a1 : Int) (a2 : Int) : Option (Bool × List Int × List Int × Int):=if a2 < (-8192) then (ratio_Dyad.j0 k a0 a1 a2 true) else (ratio_Dyad.j0 k a0 a1 a2 (decide (a2 > 8192)))
theorem ratio_Dyad.mono_l : ∀ k,(∀ y0 y1 y2 y3,LeO (ratio_Dyad.j0 k y0 y1 y2 y3) (ratio_Dyad.j0 (k + 1) y0 y1 y2 y3))
 | 0=>fun _ _ _ _ r h=>by simp [ratio_Dyad.j0] at h
 | k + 1=>by
  have ih0:=ratio_Dyad.mono_l k
  ·
   intro y0 y1 y2 y3
   unfold ratio_Dyad.j0
   repeat' with_reducible first | exact ih0 _ _ _ _ | exact nat_Nat_Shl.mono _ _ _ | exact nat_New.mono _ _ | exact ratio_low.mono _ _ _ _ | exact LeO.refl _ | exact LeO.none _ | refine LeO.ite ?_ ?_ | refine LeO.bind ?_ (fun _=>?_)
theorem ratio_Dyad.mono : ∀ a0 a1 a2 k,LeO (ratio_Dyad.f k a0 a1 a2) (ratio_Dyad.f (k + 1) a0 a1 a2):=by
 intro a0 a1 a2 k
 have ih0:=ratio_Dyad.mono_l k
 unfold ratio_Dyad.f
 repeat' with_reducible first | exact ih0 _ _ _ _ | exact nat_Nat_Shl.mono _ _ _ | exact nat_New.mono _ _ | exact ratio_low.mono _ _ _ _ | exact LeO.refl _ | exact LeO.none _ | refine LeO.ite ?_ ?_ | refine LeO.bind ?_ (fun _=>?_)
set_option maxHeartbeats 8000000 in
set_option maxRecDepth 100000 in
theorem ratio_Dyad.calls (k : Nat) (a0 : Bool) (a1 : Int) (a2 : Int) (r1 : Bool) (r2 : List Int) (r3 : List Int) (r4 : Int) (w : World) (h : ratio_Dyad.f k a0 a1 a2 = some (r1,r2,r3,r4)) :
  Calls Try.prog 35 #[.bool a0,.int .u64 a1,.int .i64 a2] w fun e w'=>∃ v1_ v2_ : Value,e = .returned (.tuple #[.agg #[.bool r1,v1_,v2_],.int .i64 r4]) ∧ Kd.V (Kd.int .u32) 123 w' w.heap.size (fun k_=>(w.heap.size ≤ k_)) v1_ r2 ∧ Kd.V (Kd.int .u32) 123 w' w.heap.size (fun k_=>(w.heap.size ≤ k_)) v2_ r3 ∧ Below w.heap.size w w':=by
 have hu50:=Try.underlying50
 have HB:=Aside0.mk (Below.refl w.heap.size w)
 have H : (if a2 < (-8192) then (ratio_Dyad.j0 k a0 a1 a2 true) else (ratio_Dyad.j0 k a0 a1 a2 (decide (a2 > 8192)))) = some (r1,r2,r3,r4):=h
 clear h
 have HC4:=Aside0.mk H
 clear H
 go_enter Try.func35,Try.ntmps35
 go_upto_region 1 with (first | ((with_reducible refine gate_dst (N:=6) rfl ?_); refine box_event ?hg (N:=6) ?hd (cs:=#[.bool false,.slice none 0 0,.slice none 0 0]) (t:=50) ?hr ?_; (case hd=>rfl); (case hg=>rfl); (case hr=>first | (go_simp; done) | (go_simp; rfl)); intro gb361 hg w5 hbox hb; have n0_:=bq_ hb; have n1_:=Aside0.mk (hbox); have n3_:=bz_ hg; clear HB; have HB:=n0_; have BK361:=n1_; have GE361:=n3_; clear n0_ n1_ n3_; clear hb hbox hg))
 (try simp only [Act.put,p1_,p2_,p3_])
 go_cut [17] (fun v17 wc=>∃ (kq : Nat) (x17_3 : Bool),v17 = .bool x17_3 ∧ Aside0 (ratio_Dyad.j0 kq a0 a1 a2 x17_3 = some (r1,r2,r3,r4)) ∧ Aside0 (kq ≤ k) ∧ Aside0 (wc.heap[gb361]? = some (.cells #[.bool false,(.slice none 0 0),(.slice none 0 0)] 50 (0,0))) ∧ Aside0 (Below w.heap.size w wc))
 case first =>
  have H:=HC4.out
  clear HC4
  by_cases c6 : a2 < (-8192)
  case pos =>
   rw [if_pos c6] at H
   have c6b0 : decide (a2 < (-8192)) = true:=decide_eq_true c6
   clear c6
   (first | rw [c6b0] | (simp only [i64_w,i32_w]; rw [c6b0]) | skip)
   have H':=Aside0.mk H
   clear H
   go_wp2
   go_meet
   case rel=>exact ⟨_,(true),(sh_),H',⟨by first | omega | exact Nat.le_refl _⟩,⟨by (with_reducible repeat (first | apply kn_ | apply kd_ | apply ka_)); exact BK361.out⟩,⟨bh_⟩⟩
  rw [if_neg c6] at H
  have c6b0 : decide (a2 < (-8192)) = false:=decide_eq_false c6
  clear c6
  (first | rw [c6b0] | (simp only [i64_w,i32_w]; rw [c6b0]) | skip)
  have H':=Aside0.mk H
  clear H
  go_wp2
  go_meet
  case rel=>exact ⟨_,(decide (a2 > 8192)),(sh_),H',⟨by first | omega | exact Nat.le_refl _⟩,⟨by (with_reducible repeat (first | apply kn_ | apply kd_ | apply ka_)); exact BK361.out⟩,⟨bh_⟩⟩
 case rest =>
  clear HC4
  try clear p2
  try clear c3
  try clear c6
  try clear c6b0
  obtain ⟨kq,x17_3,rfl,HA,HJ3,BK361,HB⟩:=hcut
  cases kq with
  | zero=>exact absurd HA.out (by simp [ratio_Dyad.j0])
  | succ kj3 =>
   have H:=HA.out
   clear HA
   simp only [ratio_Dyad.j0] at H
   by_cases c7 : x17_3 = true
   case pos =>
    subst c7
    have H1 : (some (false,([] : List Int),([] : List Int),31)) = some (r1,r2,r3,r4):=by rw [if_pos rfl] at H; exact H
    clear H
    have H:=H1
    clear H1
    simp only [Option.some.injEq,Prod.mk.injEq] at H
    obtain ⟨rfl,rfl,rfl,rfl⟩:=H
    have hcz8_0 : wc.cell? ⟨gb361,0,none⟩ = some (.bool false):=bc_ BK361 0
    have hcz8_1 : wc.cell? ⟨gb361,1,none⟩ = some (.slice none 0 0):=bc_ BK361 1
    have hcz8_2 : wc.cell? ⟨gb361,2,none⟩ = some (.slice none 0 0):=bc_ BK361 2
    have hfz8_0:=blk_frozen BK361.out 0
    have hfz8_1:=blk_frozen BK361.out 1
    have hfz8_2:=blk_frozen BK361.out 2
    go_wp2
    refine bodyPost_ret (results_ct rfl _ _ gb361 50 #[.bool false,.slice none 0 0,.slice none 0 0] (0,0) _ rfl (by (with_reducible repeat (first | apply kn_ | apply kd_ | apply ka_)); refine blk_put (cs:=#[.bool false,.slice none 0 0,.slice none 0 0]) ?_ 2 _ rfl; (with_reducible repeat (first | apply kn_ | apply kd_ | apply ka_)); refine blk_put (cs:=#[.bool false,.slice none 0 0,.slice none 0 0]) ?_ 1 _ rfl; (with_reducible repeat (first | apply kn_ | apply kd_ | apply ka_)); refine blk_put (cs:=#[.bool false,.slice none 0 0,.slice none 0 0]) ?_ 0 _ rfl; (with_reducible repeat (first | apply kn_ | apply kd_ | apply ka_)); exact BK361.out) Try.underlying50 rfl (by kernel_rfl)) rfl ?_
    exact ⟨_,_,eh_,Kd.R_V (base:=0) (by first | exact Kd.R_nil _ _ _ _ _ | exact Kd.N_nil _ _ _ _ _ | exact Kd.V_nil _ _ _ _ _ | exact Kd.Q_nil _ _ _ _ _ | exact Kd.S_nil _ _ _ _ _),Kd.R_V (base:=0) (by first | exact Kd.R_nil _ _ _ _ _ | exact Kd.N_nil _ _ _ _ _ | exact Kd.V_nil _ _ _ _ _ | exact Kd.Q_nil _ _ _ _ _ | exact Kd.S_nil _ _ _ _ _),bh_⟩
   replace c7:=Bool.eq_false_iff.mpr c7
   subst c7
   have H1 : ((nat_New.f kj3 a1).bind fun t362=>((nat_Nat_Shl.f kj3 t362 a2).bind fun bt365=>((nat_New.f kj3 1).bind fun t369=>((nat_Nat_Shl.f kj3 t369 (wrap64 (-a2))).bind fun bt372=>((ratio_low.f kj3 a0 bt365.1 bt372.1).bind fun bt376=>(some (bt376.1,bt376.2.1,bt376.2.2,0))))))) = some (r1,r2,r3,r4):=by rw [if_neg (show ¬ (false = true) by decide)] at H; exact H
   clear H
   have H:=H1
   clear H1
   replace H:=Option.bind_eq_some_iff.mp H
   obtain ⟨t362,A90,H⟩:=H
   replace H : ((nat_Nat_Shl.f kj3 t362 a2).bind fun bt365=>((nat_New.f kj3 1).bind fun t369=>((nat_Nat_Shl.f kj3 t369 (wrap64 (-a2))).bind fun bt372=>((ratio_low.f kj3 a0 bt365.1 bt372.1).bind fun bt376=>(some (bt376.1,bt376.2.1,bt376.2.2,0)))))) = some (r1,r2,r3,r4):=H
   have A9:=Aside0.mk A90
   clear A90
   replace H:=Option.bind_eq_some_iff.mp H
   obtain ⟨⟨t365,t368⟩,A100,H⟩:=H
   replace H : ((nat_New.f kj3 1).bind fun t369=>((nat_Nat_Shl.f kj3 t369 (wrap64 (-a2))).bind fun bt372=>((ratio_low.f kj3 a0 t365 bt372.1).bind fun bt376=>(some (bt376.1,bt376.2.1,bt376.2.2,0))))) = some (r1,r2,r3,r4):=H
   have A10:=Aside0.mk A100
   clear A100
   replace H:=Option.bind_eq_some_iff.mp H
   obtain ⟨t369,A110,H⟩:=H
   replace H : ((nat_Nat_Shl.f kj3 t369 (wrap64 (-a2))).bind fun bt372=>((ratio_low.f kj3 a0 t365 bt372.1).bind fun bt376=>(some (bt376.1,bt376.2.1,bt376.2.2,0)))) = some (r1,r2,r3,r4):=H
   have A11:=Aside0.mk A110
   clear A110
   replace H:=Option.bind_eq_some_iff.mp H
   obtain ⟨⟨t372,t375⟩,A120,H⟩:=H
   replace H : ((ratio_low.f kj3 a0 t365 t372).bind fun bt376=>(some (bt376.1,bt376.2.1,bt376.2.2,0))) = some (r1,r2,r3,r4):=H
   have A12:=Aside0.mk A120
   clear A120
   replace H:=Option.bind_eq_some_iff.mp H
   obtain ⟨⟨t376,t377,t380⟩,A130,H⟩:=H
   replace H : (some (t376,t377,t380,0)) = some (r1,r2,r3,r4):=H
   have A13:=Aside0.mk A130
   clear A130
   simp only [Option.some.injEq,Prod.mk.injEq] at H
   obtain ⟨rfl,rfl,rfl,rfl⟩:=H
   go_wp2_with (first | ((with_reducible refine gc_ 56 rfl ?_); refine gM_ (some 21) Try.func56 [.int .u64 a1] ?_; (with_reducible refine (nat_New.calls kj3 a1 t362 _ A9.out).mono ?_); rintro e w14 ⟨v363,rfl,ho0,hb⟩; refine ⟨_,rfl,?_⟩; have HO364:=Aside0.mk (Kd.V_lower (Kd.V_mono (ok':=fun k_=>(w.heap.size ≤ k_) ∧ k_ ≠ gb361) ho0 (fun k_ hk_=>⟨(Nat.le_trans (below_size bh_) hk_),(fb_ BK361 k_ hk_)⟩)) (below_size bh_)); replace BK361:=kb_ BK361 hb; replace HB:=bq_ hb; skip; obtain ⟨Ao15,co15,eo15⟩:=Kd.V_slice HO364.out; subst eo15) | ((with_reducible refine gc_ 72 rfl ?_); refine gM_ (some 23) Try.func72 [.slice Ao15 t362.length co15,.int .i64 a2] ?_; (with_reducible refine (nat_Nat_Shl.calls kj3 _ _ t362 a2 t365 t368 _ ?side1 ?side2 A10.out).mono ?_); (case side1=>repeat first | exact (Kd.V_reads' HO364.out).2.2 | with_reducible first | apply ca_ | apply cn_ | apply cd_); (case side2=>exact (Kd.V_reads' HO364.out).2.1); rintro e w16 ⟨v366,rfl,ho0,hb⟩; refine ⟨_,rfl,?_⟩; have HO367:=Aside0.mk (Kd.V_lower (Kd.V_mono (ok':=fun k_=>(w.heap.size ≤ k_) ∧ k_ ≠ gb361) ho0 (fun k_ hk_=>⟨(Nat.le_trans (below_size bh_) hk_),(fb_ BK361 k_ hk_)⟩)) (below_size bh_)); replace BK361:=kb_ BK361 hb; replace HB:=bq_ hb) | ((with_reducible refine gc_ 56 rfl ?_); refine gM_ (some 27) Try.func56 [.int .u64 1] ?_; (with_reducible refine (nat_New.calls kj3 1 t369 _ A11.out).mono ?_); rintro e w17 ⟨v370,rfl,ho0,hb⟩; refine ⟨_,rfl,?_⟩; replace HO367:=vb_ HO367 hb; have HO371:=Aside0.mk (Kd.V_lower (Kd.V_mono (ok':=fun k_=>(w.heap.size ≤ k_) ∧ k_ ≠ gb361) ho0 (fun k_ hk_=>⟨(Nat.le_trans (below_size bh_) hk_),(fb_ BK361 k_ hk_)⟩)) (below_size bh_)); replace BK361:=kb_ BK361 hb; replace HB:=bq_ hb; skip; obtain ⟨Ao18,co18,eo18⟩:=Kd.V_slice HO371.out; subst eo18) | ((with_reducible refine gc_ 72 rfl ?_); refine gM_ (some 30) Try.func72 [.slice Ao18 t369.length co18,.int .i64 (wrap64 (-a2))] ?_; (with_reducible refine (nat_Nat_Shl.calls kj3 _ _ t369 (wrap64 (-a2)) t372 t375 _ ?side1 ?side2 A12.out).mono ?_); (case side1=>repeat first | exact (Kd.V_reads' HO371.out).2.2 | with_reducible first | apply ca_ | apply cn_ | apply cd_); (case side2=>exact (Kd.V_reads' HO371.out).2.1); rintro e w19 ⟨v373,rfl,ho0,hb⟩; refine ⟨_,rfl,?_⟩; replace HO367:=vb_ HO367 hb; have HO374:=Aside0.mk (Kd.V_lower (Kd.V_mono (ok':=fun k_=>(w.heap.size ≤ k_) ∧ k_ ≠ gb361) ho0 (fun k_ hk_=>⟨(Nat.le_trans (below_size bh_) hk_),(fb_ BK361 k_ hk_)⟩)) (below_size bh_)); replace BK361:=kb_ BK361 hb; replace HB:=bq_ hb; skip; obtain ⟨Ao20,co20,eo20⟩:=Kd.V_slice HO367.out; subst eo20; obtain ⟨Ao21,co21,eo21⟩:=Kd.V_slice HO374.out; subst eo21) | ((with_reducible refine gc_ 73 rfl ?_); refine gM_ (some 36) Try.func73 [.bool a0,.slice Ao20 t365.length co20,.slice Ao21 t372.length co21] ?_; (with_reducible refine (ratio_low.calls kj3 a0 (fun k_=>((w.heap.size ≤ k_) ∧ k_ ≠ gb361)) _ _ t365 (fun k_=>((w.heap.size ≤ k_) ∧ k_ ≠ gb361)) _ _ t372 t376 t377 t380 _ ?side1 ?side2 A13.out).mono ?_); (case side1=>exact HO367.out); (case side2=>exact HO374.out); rintro e w22 ⟨v378,v381,rfl,ho0,ho1,hb⟩; refine ⟨_,rfl,?_⟩; have HO379:=Aside0.mk (Kd.V_lower (Kd.V_mono (ok':=fun k_=>(w.heap.size ≤ k_) ∧ k_ ≠ gb361) ho0 (fun k_ hk_=>⟨Or.elim hk_ (fun hs_=>Or.elim hs_ (fun hs_=>hs_.1) (fun hs_=>hs_.1)) (fun hn_=>(Nat.le_trans (below_size bh_) hn_)),Or.elim hk_ (fun hs_=>Or.elim hs_ (fun hs_=>hs_.2) (fun hs_=>hs_.2)) (fun hn_=>(fb_ BK361 k_ hn_))⟩)) (below_size bh_)); have HO382:=Aside0.mk (Kd.V_lower (Kd.V_mono (ok':=fun k_=>(w.heap.size ≤ k_) ∧ k_ ≠ gb361) ho1 (fun k_ hk_=>⟨Or.elim hk_ (fun hs_=>Or.elim hs_ (fun hs_=>hs_.1) (fun hs_=>hs_.1)) (fun hn_=>(Nat.le_trans (below_size bh_) hn_)),Or.elim hk_ (fun hs_=>Or.elim hs_ (fun hs_=>hs_.2) (fun hs_=>hs_.2)) (fun hn_=>(fb_ BK361 k_ hn_))⟩)) (below_size bh_)); replace BK361:=kb_ BK361 hb; replace HB:=bq_ hb; skip; have hcz23_0 : w22.cell? ⟨gb361,0,none⟩ = some (.bool false):=bc_ BK361 0; have hcz23_1 : w22.cell? ⟨gb361,1,none⟩ = some (.slice none 0 0):=bc_ BK361 1; have hcz23_2 : w22.cell? ⟨gb361,2,none⟩ = some (.slice none 0 0):=bc_ BK361 2; have hfz23_0:=blk_frozen BK361.out 0; have hfz23_1:=blk_frozen BK361.out 1; have hfz23_2:=blk_frozen BK361.out 2; obtain ⟨Ao24,co24,eo24⟩:=Kd.V_slice HO379.out; subst eo24; obtain ⟨Ao25,co25,eo25⟩:=Kd.V_slice HO382.out; subst eo25))
   refine bodyPost_ret (results_ct rfl _ _ gb361 50 #[.bool t376,.slice Ao24 t377.length co24,.slice Ao25 t380.length co25] (0,0) _ rfl (by (with_reducible repeat (first | apply kn_ | apply kd_ | apply ka_)); refine blk_put (cs:=#[.bool t376,.slice Ao24 t377.length co24,.slice none 0 0]) ?_ 2 _ rfl; (with_reducible repeat (first | apply kn_ | apply kd_ | apply ka_)); refine blk_put (cs:=#[.bool t376,.slice none 0 0,.slice none 0 0]) ?_ 1 _ rfl; (with_reducible repeat (first | apply kn_ | apply kd_ | apply ka_)); refine blk_put (cs:=#[.bool false,.slice none 0 0,.slice none 0 0]) ?_ 0 _ rfl; (with_reducible repeat (first | apply kn_ | apply kd_ | apply ka_)); exact BK361.out) Try.underlying50 rfl (by kernel_rfl)) rfl ?_
   exact ⟨_,_,eh_,by (with_reducible repeat (first | apply va_ | apply vn_ | apply vd_)); exact Kd.V_mono (Kd.V_far (p:=⟨gb361,2,none⟩) (Kd.V_far (p:=⟨gb361,1,none⟩) (Kd.V_far (p:=⟨gb361,0,none⟩) (Kd.V_mono HO379.out (fun k_ hk=>(⟨hk,hk.2⟩ : _ ∧ k_ ≠ gb361))) (fun _ hk=>hk.2) (.bool t376)) (fun _ hk=>hk.2) (.slice Ao24 t377.length co24)) (fun _ hk=>hk.2) (.slice Ao25 t380.length co25)) (fun _ hk=>hk.1.1),by (with_reducible repeat (first | apply va_ | apply vn_ | apply vd_)); exact Kd.V_mono (Kd.V_far (p:=⟨gb361,2,none⟩) (Kd.V_far (p:=⟨gb361,1,none⟩) (Kd.V_far (p:=⟨gb361,0,none⟩) (Kd.V_mono HO382.out (fun k_ hk=>(⟨hk,hk.2⟩ : _ ∧ k_ ≠ gb361))) (fun _ hk=>hk.2) (.bool t376)) (fun _ hk=>hk.2) (.slice Ao24 t377.length co24)) (fun _ hk=>hk.2) (.slice Ao25 t380.length co25)) (fun _ hk=>hk.1.1),bh_⟩

/-! ### ratio_R_low: function 74 -/
def ratio_R_low.f (k : Nat) (a0_0 : Bool) (l0_1 : List Int) (l0_2 : List Int) : Option (Bool × List Int × List Int):=(ratio_low.f k a0_0 l0_1 l0_2).bind fun bt409=>(some (bt409.1,bt409.2.1,bt409.2.2))
theorem ratio_R_low.mono : ∀ a0 a1 a2 k,LeO (ratio_R_low.f k a0 a1 a2) (ratio_R_low.f (k + 1) a0 a1 a2):=by
 intro a0 a1 a2 k
 unfold ratio_R_low.f
 repeat' with_reducible first | exact ratio_low.mono _ _ _ _ | exact LeO.refl _ | exact LeO.none _ | refine LeO.ite ?_ ?_ | refine LeO.bind ?_ (fun _=>?_)
set_option maxHeartbeats 8000000 in
set_option maxRecDepth 100000 in
theorem ratio_R_low.calls (k : Nat) (a0_0 : Bool) (P0_1_ : Nat → Prop) (A0_1 : Option Addr) (c0_1 : Nat) (l0_1 : List Int) (P0_2_ : Nat → Prop) (A0_2 : Option Addr) (c0_2 : Nat) (l0_2 : List Int) (r1 : Bool) (r2 : List Int) (r3 : List Int) (w : World) (hs0_1 : Kd.V (Kd.int .u32) 123 w w.heap.size (fun k_=>P0_1_ k_) (.slice A0_1 l0_1.length c0_1) l0_1) (hs0_2 : Kd.V (Kd.int .u32) 123 w w.heap.size (fun k_=>P0_2_ k_) (.slice A0_2 l0_2.length c0_2) l0_2) (h : ratio_R_low.f k a0_0 l0_1 l0_2 = some (r1,r2,r3)) :
  Calls Try.prog 74 #[.agg #[.bool a0_0,.slice A0_1 l0_1.length c0_1,.slice A0_2 l0_2.length c0_2]] w fun e w'=>∃ v1_ v2_ : Value,e = .returned (.agg #[.bool r1,v1_,v2_]) ∧ Kd.V (Kd.int .u32) 123 w' w.heap.size (fun k_=>((P0_1_ k_ ∨ P0_2_ k_) ∨ w.heap.size ≤ k_)) v1_ r2 ∧ Kd.V (Kd.int .u32) 123 w' w.heap.size (fun k_=>((P0_1_ k_ ∨ P0_2_ k_) ∨ w.heap.size ≤ k_)) v2_ r3 ∧ Below w.heap.size w w':=by
 have hu50:=Try.underlying50
 have HO0_1:=Aside0.mk (show Kd.V (Kd.int .u32) 123 w w.heap.size (fun k_=>((P0_1_ k_ ∨ P0_2_ k_) ∨ w.heap.size ≤ k_)) (.slice A0_1 l0_1.length c0_1) l0_1 from Kd.V_mono hs0_1 (fun k_ hk=>.inl (.inl hk)))
 have HO0_2:=Aside0.mk (show Kd.V (Kd.int .u32) 123 w w.heap.size (fun k_=>((P0_1_ k_ ∨ P0_2_ k_) ∨ w.heap.size ≤ k_)) (.slice A0_2 l0_2.length c0_2) l0_2 from Kd.V_mono hs0_2 (fun k_ hk=>.inl (.inr hk)))
 have HB:=Aside0.mk (Below.refl w.heap.size w)
 have H : ((ratio_low.f k a0_0 l0_1 l0_2).bind fun bt409=>(some (bt409.1,bt409.2.1,bt409.2.2))) = some (r1,r2,r3):=h
 clear h
 replace H:=Option.bind_eq_some_iff.mp H
 obtain ⟨⟨t409,t410,t413⟩,A20,H⟩:=H
 replace H : (some (t409,t410,t413)) = some (r1,r2,r3):=H
 have A2:=Aside0.mk A20
 clear A20
 simp only [Option.some.injEq,Prod.mk.injEq] at H
 obtain ⟨rfl,rfl,rfl⟩:=H
 go_enter Try.func74,Try.ntmps74
 go_wp2_with (first | ((with_reducible refine gate_dst (N:=1) rfl ?_); refine box_event ?hg (N:=1) ?hd (cs:=#[.bool a0_0,.slice A0_1 l0_1.length c0_1,.slice A0_2 l0_2.length c0_2]) (t:=50) ?hr ?_; (case hd=>rfl); (case hg=>rfl); (case hr=>first | (go_simp; done) | (go_simp; rfl)); intro gb407 hg w3 hbox hb; have n0_:=ve_ HO0_1 hg hb; have n1_:=ve_ HO0_2 hg hb; have n2_:=bq_ hb; have n3_:=Aside0.mk (hbox); have n5_:=bz_ hg; clear HO0_1 HO0_2 HB; have HO0_1:=n0_; have HO0_2:=n1_; have HB:=n2_; have BK407:=n3_; have GE407:=n5_; clear n0_ n1_ n2_ n3_ n5_; clear hb hbox hg) | ((with_reducible refine gate_dst (N:=2) rfl ?_); refine box_event ?hg (N:=2) ?hd (cs:=#[.bool false,.slice none 0 0,.slice none 0 0]) (t:=50) ?hr ?_; (case hd=>rfl); (case hg=>rfl); (case hr=>first | (go_simp; done) | (go_simp; rfl)); intro gb408 hg w4 hbox hb; have n0_:=ve_ HO0_1 hg hb; have n1_:=ve_ HO0_2 hg hb; have n2_:=kb_ BK407 hb; have n3_:=bq_ hb; have n4_:=Aside0.mk (hbox); have n6_:=bz_ hg; have n7_:=Aside0.mk ((by rw [hg]; exact Nat.ne_of_lt (blk_lt (g:=gb407) (o:=.cells #[.bool a0_0,.slice A0_1 l0_1.length c0_1,.slice A0_2 l0_2.length c0_2] 50 (0,0)) (by (with_reducible repeat (first | apply kn_ | apply kd_ | apply ka_)); exact BK407.out)) : gb407 ≠ gb408)); have n8_:=Aside0.mk ((by rw [hg]; exact Nat.ne_of_gt (blk_lt (g:=gb407) (o:=.cells #[.bool a0_0,.slice A0_1 l0_1.length c0_1,.slice A0_2 l0_2.length c0_2] 50 (0,0)) (by (with_reducible repeat (first | apply kn_ | apply kd_ | apply ka_)); exact BK407.out)) : gb408 ≠ gb407)); clear HO0_1 HO0_2 BK407 HB; have HO0_1:=n0_; have HO0_2:=n1_; have BK407:=n2_; have HB:=n3_; have BK408:=n4_; have GE408:=n6_; have NB407_408:=n7_; have NB408_407:=n8_; clear n0_ n1_ n2_ n3_ n4_ n6_ n7_ n8_; clear hb hbox hg; have hnb5:=NB407_408.out; have hnc5:=NB408_407.out; have hcz6_0 : w4.cell? ⟨gb407,0,none⟩ = some (.bool a0_0):=bc_ BK407 0; have hcz6_1 : w4.cell? ⟨gb407,1,none⟩ = some (.slice A0_1 l0_1.length c0_1):=bc_ BK407 1; have hcz6_2 : w4.cell? ⟨gb407,2,none⟩ = some (.slice A0_2 l0_2.length c0_2):=bc_ BK407 2; have hfz6_0:=blk_frozen BK407.out 0; have hfz6_1:=blk_frozen BK407.out 1; have hfz6_2:=blk_frozen BK407.out 2) | ((with_reducible refine gc_ 73 rfl ?_); refine gM_ (some 9) Try.func73 [.bool a0_0,.slice A0_1 l0_1.length c0_1,.slice A0_2 l0_2.length c0_2] ?_; (with_reducible refine (ratio_low.calls k a0_0 (fun k_=>((((P0_1_ k_ ∨ P0_2_ k_) ∨ w.heap.size ≤ k_) ∧ k_ ≠ gb407) ∧ k_ ≠ gb408)) _ _ l0_1 (fun k_=>((((P0_1_ k_ ∨ P0_2_ k_) ∨ w.heap.size ≤ k_) ∧ k_ ≠ gb407) ∧ k_ ≠ gb408)) _ _ l0_2 t409 t410 t413 _ ?side1 ?side2 A2.out).mono ?_); (case side1=>exact HO0_1.out); (case side2=>exact HO0_2.out); rintro e w7 ⟨v411,v414,rfl,ho0,ho1,hb⟩; refine ⟨_,rfl,?_⟩; have HO412:=Aside0.mk (Kd.V_lower (Kd.V_mono (ok':=fun k_=>((P0_1_ k_ ∨ P0_2_ k_) ∨ w.heap.size ≤ k_) ∧ k_ ≠ gb407 ∧ k_ ≠ gb408) ho0 (fun k_ hk_=>⟨Or.elim hk_ (fun hs_=>Or.elim hs_ (fun hs_=>hs_.1.1) (fun hs_=>hs_.1.1)) (fun hn_=>(.inr (Nat.le_trans (below_size bh_) hn_))),Or.elim hk_ (fun hs_=>Or.elim hs_ (fun hs_=>hs_.1.2) (fun hs_=>hs_.1.2)) (fun hn_=>(fb_ BK407 k_ hn_)),Or.elim hk_ (fun hs_=>Or.elim hs_ (fun hs_=>hs_.2) (fun hs_=>hs_.2)) (fun hn_=>(fb_ BK408 k_ hn_))⟩)) (below_size bh_)); have HO415:=Aside0.mk (Kd.V_lower (Kd.V_mono (ok':=fun k_=>((P0_1_ k_ ∨ P0_2_ k_) ∨ w.heap.size ≤ k_) ∧ k_ ≠ gb407 ∧ k_ ≠ gb408) ho1 (fun k_ hk_=>⟨Or.elim hk_ (fun hs_=>Or.elim hs_ (fun hs_=>hs_.1.1) (fun hs_=>hs_.1.1)) (fun hn_=>(.inr (Nat.le_trans (below_size bh_) hn_))),Or.elim hk_ (fun hs_=>Or.elim hs_ (fun hs_=>hs_.1.2) (fun hs_=>hs_.1.2)) (fun hn_=>(fb_ BK407 k_ hn_)),Or.elim hk_ (fun hs_=>Or.elim hs_ (fun hs_=>hs_.2) (fun hs_=>hs_.2)) (fun hn_=>(fb_ BK408 k_ hn_))⟩)) (below_size bh_)); replace BK408:=kb_ BK408 hb; replace HB:=bq_ hb; skip; have hcz8_0 : w7.cell? ⟨gb408,0,none⟩ = some (.bool false):=bc_ BK408 0; have hcz8_1 : w7.cell? ⟨gb408,1,none⟩ = some (.slice none 0 0):=bc_ BK408 1; have hcz8_2 : w7.cell? ⟨gb408,2,none⟩ = some (.slice none 0 0):=bc_ BK408 2; have hfz8_0:=blk_frozen BK408.out 0; have hfz8_1:=blk_frozen BK408.out 1; have hfz8_2:=blk_frozen BK408.out 2; obtain ⟨Ao9,co9,eo9⟩:=Kd.V_slice HO412.out; subst eo9; obtain ⟨Ao10,co10,eo10⟩:=Kd.V_slice HO415.out; subst eo10))
 refine bodyPost_ret (results_cell_row rfl _ _ gb408 50 #[.bool t409,.slice Ao9 t410.length co9,.slice Ao10 t413.length co10] (0,0) _ rfl (by (with_reducible repeat (first | apply kn_ | apply kd_ | apply ka_)); refine blk_put (cs:=#[.bool t409,.slice Ao9 t410.length co9,.slice none 0 0]) ?_ 2 _ rfl; (with_reducible repeat (first | apply kn_ | apply kd_ | apply ka_)); refine blk_put (cs:=#[.bool t409,.slice none 0 0,.slice none 0 0]) ?_ 1 _ rfl; (with_reducible repeat (first | apply kn_ | apply kd_ | apply ka_)); refine blk_put (cs:=#[.bool false,.slice none 0 0,.slice none 0 0]) ?_ 0 _ rfl; (with_reducible repeat (first | apply kn_ | apply kd_ | apply ka_)); exact BK408.out) Try.underlying50 rfl (by kernel_rfl)) rfl ?_
 exact ⟨_,_,eh_,by (with_reducible repeat (first | apply va_ | apply vn_ | apply vd_)); exact Kd.V_mono (Kd.V_far (p:=⟨gb408,2,none⟩) (Kd.V_far (p:=⟨gb408,1,none⟩) (Kd.V_far (p:=⟨gb408,0,none⟩) (Kd.V_mono HO412.out (fun k_ hk=>(⟨hk,hk.2.2⟩ : _ ∧ k_ ≠ gb408))) (fun _ hk=>hk.2) (.bool t409)) (fun _ hk=>hk.2) (.slice Ao9 t410.length co9)) (fun _ hk=>hk.2) (.slice Ao10 t413.length co10)) (fun _ hk=>hk.1.1),by (with_reducible repeat (first | apply va_ | apply vn_ | apply vd_)); exact Kd.V_mono (Kd.V_far (p:=⟨gb408,2,none⟩) (Kd.V_far (p:=⟨gb408,1,none⟩) (Kd.V_far (p:=⟨gb408,0,none⟩) (Kd.V_mono HO415.out (fun k_ hk=>(⟨hk,hk.2.2⟩ : _ ∧ k_ ≠ gb408))) (fun _ hk=>hk.2) (.bool t409)) (fun _ hk=>hk.2) (.slice Ao9 t410.length co9)) (fun _ hk=>hk.2) (.slice Ao10 t413.length co10)) (fun _ hk=>hk.1.1),bh_⟩

/-! ### ratio_R_Cmp: function 36 -/
def ratio_R_Cmp.f (k : Nat) (a0_0 : Bool) (l0_1 : List Int) (l0_2 : List Int) (a1_0 : Bool) (l1_1 : List Int) (l1_2 : List Int) : Option (Int):=(ratio_R_low.f k a0_0 l0_1 l0_2).bind fun bt418=>((ratio_R_low.f k a1_0 l1_1 l1_2).bind fun bt425=>(if (bt418.1 != bt425.1) = true then (if bt418.1 = true then (some (-1)) else (some 1)) else ((nat_Nat_Mul.f k bt418.2.1 bt425.2.2).bind fun t432=>((nat_Nat_Mul.f k bt425.2.1 bt418.2.2).bind fun t435=>((nat_Nat_Cmp.f k t432 t435).bind fun t438=>(if bt418.1 = true then (some (wrap64 (-t438))) else (some t438)))))))
theorem ratio_R_Cmp.mono : ∀ a0 a1 a2 a3 a4 a5 k,LeO (ratio_R_Cmp.f k a0 a1 a2 a3 a4 a5) (ratio_R_Cmp.f (k + 1) a0 a1 a2 a3 a4 a5):=by
 intro a0 a1 a2 a3 a4 a5 k
 unfold ratio_R_Cmp.f
 repeat' with_reducible first | exact nat_Nat_Cmp.mono _ _ _ | exact nat_Nat_Mul.mono _ _ _ | exact ratio_R_low.mono _ _ _ _ | exact LeO.refl _ | exact LeO.none _ | refine LeO.ite ?_ ?_ | refine LeO.bind ?_ (fun _=>?_)
def ratio_R_Cmp.T6 : Bool × List (List Nat × List Nat):=(true,[([],[]),([0],[0]),([],[]),([2],[2]),([1,3],[1,3]),([],[]),([5],[5]),([],[]),([7],[7]),([6,8,4],[6,8]),([4,9,9],[4,9]),([10,10,0,1,2,3,4,5,6,7,8,9,10],[10])])
def ratio_R_Cmp.B6 : List Nat:=[0,1,0,4,15,0,32,0,128,511,1023,2047]
theorem ratio_R_Cmp.tab6 : rtab .any (opsOf Try.f36 6) = ratio_R_Cmp.T6:=by kernel_rfl
theorem ratio_R_Cmp.bits6 : waitsOk ratio_R_Cmp.T6.2 ratio_R_Cmp.B6 = true:=by kernel_rfl
set_option maxHeartbeats 8000000 in
set_option maxRecDepth 100000 in
theorem ratio_R_Cmp.calls (k : Nat) (a0_0 : Bool) (A0_1 : Option Addr) (c0_1 : Nat) (l0_1 : List Int) (A0_2 : Option Addr) (c0_2 : Nat) (l0_2 : List Int) (a1_0 : Bool) (A1_1 : Option Addr) (c1_1 : Nat) (l1_1 : List Int) (A1_2 : Option Addr) (c1_2 : Nat) (l1_2 : List Int) (r : Int) (w : World) (hr0_1 : Kd.C (Kd.int .u32) w A0_1 l0_1.length l0_1) (hc0_1 : l0_1.length ≤ c0_1) (hr0_2 : Kd.C (Kd.int .u32) w A0_2 l0_2.length l0_2) (hc0_2 : l0_2.length ≤ c0_2) (hr1_1 : Kd.C (Kd.int .u32) w A1_1 l1_1.length l1_1) (hc1_1 : l1_1.length ≤ c1_1) (hr1_2 : Kd.C (Kd.int .u32) w A1_2 l1_2.length l1_2) (hc1_2 : l1_2.length ≤ c1_2) (h : ratio_R_Cmp.f k a0_0 l0_1 l0_2 a1_0 l1_1 l1_2 = some r) :
  Calls Try.prog 36 #[.agg #[.bool a0_0,.slice A0_1 l0_1.length c0_1,.slice A0_2 l0_2.length c0_2],.agg #[.bool a1_0,.slice A1_1 l1_1.length c1_1,.slice A1_2 l1_2.length c1_2]] w fun e w'=>e = .returned (.int .i64 r) ∧ Below w.heap.size w w':=by
 have hu50:=Try.underlying50
 have HR0_1:=Aside0.mk hr0_1
 have HC0_1:=Aside0.mk hc0_1
 clear hr0_1 hc0_1
 have HR0_2:=Aside0.mk hr0_2
 have HC0_2:=Aside0.mk hc0_2
 clear hr0_2 hc0_2
 have HR1_1:=Aside0.mk hr1_1
 have HC1_1:=Aside0.mk hc1_1
 clear hr1_1 hc1_1
 have HR1_2:=Aside0.mk hr1_2
 have HC1_2:=Aside0.mk hc1_2
 clear hr1_2 hc1_2
 have HB:=Aside0.mk (Below.refl w.heap.size w)
 have H : ((ratio_R_low.f k a0_0 l0_1 l0_2).bind fun bt418=>((ratio_R_low.f k a1_0 l1_1 l1_2).bind fun bt425=>(if (bt418.1 != bt425.1) = true then (if bt418.1 = true then (some (-1)) else (some 1)) else ((nat_Nat_Mul.f k bt418.2.1 bt425.2.2).bind fun t432=>((nat_Nat_Mul.f k bt425.2.1 bt418.2.2).bind fun t435=>((nat_Nat_Cmp.f k t432 t435).bind fun t438=>(if bt418.1 = true then (some (wrap64 (-t438))) else (some t438)))))))) = some r:=h
 clear h
 replace H:=Option.bind_eq_some_iff.mp H
 obtain ⟨⟨t418,t419,t422⟩,A30,H⟩:=H
 replace H : ((ratio_R_low.f k a1_0 l1_1 l1_2).bind fun bt425=>(if (t418 != bt425.1) = true then (if t418 = true then (some (-1)) else (some 1)) else ((nat_Nat_Mul.f k t419 bt425.2.2).bind fun t432=>((nat_Nat_Mul.f k bt425.2.1 t422).bind fun t435=>((nat_Nat_Cmp.f k t432 t435).bind fun t438=>(if t418 = true then (some (wrap64 (-t438))) else (some t438))))))) = some r:=H
 have A3:=Aside0.mk A30
 clear A30
 replace H:=Option.bind_eq_some_iff.mp H
 obtain ⟨⟨t425,t426,t429⟩,A40,H⟩:=H
 replace H : (if (t418 != t425) = true then (if t418 = true then (some (-1)) else (some 1)) else ((nat_Nat_Mul.f k t419 t429).bind fun t432=>((nat_Nat_Mul.f k t426 t422).bind fun t435=>((nat_Nat_Cmp.f k t432 t435).bind fun t438=>(if t418 = true then (some (wrap64 (-t438))) else (some t438)))))) = some r:=H
 have A4:=Aside0.mk A40
 clear A40
 have HH1_:=Aside0.mk H
 clear H
 go_enter Try.func36,Try.ntmps36
 try go_wp2_with (first | ((with_reducible refine gate_dst (N:=2) rfl ?_); refine box_event ?hg (N:=2) ?hd (cs:=#[.bool a0_0,.slice A0_1 l0_1.length c0_1,.slice A0_2 l0_2.length c0_2]) (t:=50) ?hr ?_; (case hd=>rfl); (case hg=>rfl); (case hr=>first | (go_simp; done) | (go_simp; rfl)); intro gb416 hg w7 hbox hb; have n0_:=bq_ hb; have n1_:=Aside0.mk (hbox); have n2_:=bz_ hg; have n3_:=bz_ hg; clear HB; have HB:=n0_; have BK416:=n1_; have GW416:=n2_; have GE416:=n3_; clear n0_ n1_ n2_ n3_; clear hb hbox hg) | ((with_reducible refine gate_dst (N:=3) rfl ?_); refine box_event ?hg (N:=3) ?hd (cs:=#[.bool a1_0,.slice A1_1 l1_1.length c1_1,.slice A1_2 l1_2.length c1_2]) (t:=50) ?hr ?_; (case hd=>rfl); (case hg=>rfl); (case hr=>first | (go_simp; done) | (go_simp; rfl)); intro gb417 hg w8 hbox hb; have n0_:=kb_ BK416 hb; have n1_:=bq_ hb; have n2_:=Aside0.mk (hbox); have n3_:=bz_ hg; have n4_:=bz_ hg; have n5_:=Aside0.mk ((by rw [hg]; exact Nat.ne_of_lt (blk_lt (g:=gb416) (o:=.cells #[.bool a0_0,.slice A0_1 l0_1.length c0_1,.slice A0_2 l0_2.length c0_2] 50 (0,0)) (by (with_reducible repeat (first | apply kn_ | apply kd_ | apply ka_)); exact BK416.out)) : gb416 ≠ gb417)); have n6_:=Aside0.mk ((by rw [hg]; exact Nat.ne_of_gt (blk_lt (g:=gb416) (o:=.cells #[.bool a0_0,.slice A0_1 l0_1.length c0_1,.slice A0_2 l0_2.length c0_2] 50 (0,0)) (by (with_reducible repeat (first | apply kn_ | apply kd_ | apply ka_)); exact BK416.out)) : gb417 ≠ gb416)); clear BK416 HB; have BK416:=n0_; have HB:=n1_; have BK417:=n2_; have GW417:=n3_; have GE417:=n4_; have NB416_417:=n5_; have NB417_416:=n6_; clear n0_ n1_ n2_ n3_ n4_ n5_ n6_; clear hb hbox hg))
 have n0_:=Aside0.mk (blk_drew BK416.out)
 have n1_:=Aside0.mk (blk_drew BK417.out)
 have n2_:=Aside0.mk (below_drew1 HB.out)
 clear BK416
 clear BK417
 clear HB
 have BK416:=n0_
 have BK417:=n1_
 have HB:=n2_
 clear n0_ n1_ n2_
 refine start_ (n:=6) (S:=fun w'=>w'.cell? ⟨gb416,0,none⟩ = some (.bool a0_0) ∧ w'.cell? ⟨gb416,1,none⟩ = some (.slice A0_1 l0_1.length c0_1) ∧ w'.cell? ⟨gb416,2,none⟩ = some (.slice A0_2 l0_2.length c0_2) ∧ w'.cell? ⟨gb417,0,none⟩ = some (.bool a1_0) ∧ w'.cell? ⟨gb417,1,none⟩ = some (.slice A1_1 l1_1.length c1_1) ∧ w'.cell? ⟨gb417,2,none⟩ = some (.slice A1_2 l1_2.length c1_2)) (ds:=[4,5]) #[false,false,false,false,false,false] (by kernel_rfl) rfl rfl ⟨bc_ BK416 0,bc_ BK416 1,bc_ BK416 2,bc_ BK417 0,bc_ BK417 1,bc_ BK417 2⟩ (fun hHeld=>?_)
 generalize w8.drew = w9 at BK416 BK417 HB hHeld ⊢
 refine take_ (i:=0) (N:=some 6) (v:=?_) (a':=?_) #[true,false,false,false,false,false] rfl rfl (by kernel_rfl) (fun _ _ _ h=>h) (Or.inl ⟨by rfl,?_⟩) hHeld ?_ ?_
 rotate_left
 ·
  rintro w' ⟨s0,s1,s2,s3,s4,s5⟩
  go_simp
  with_reducible rfl
 rotate_left
 ·
  simp only [Act.put,p1_,p2_,p3_,i64_w,i32_w]
  rfl
 refine take_ (i:=2) (N:=some 8) (v:=?_) (a':=?_) #[true,false,true,false,false,false] rfl rfl (by kernel_rfl) (fun _ _ _ h=>h) (Or.inl ⟨by rfl,?_⟩) hHeld ?_ ?_
 rotate_left
 ·
  rintro w' ⟨s0,s1,s2,s3,s4,s5⟩
  go_simp
  with_reducible rfl
 rotate_left
 ·
  simp only [Act.put,p1_,p2_,p3_,i64_w,i32_w]
  rfl
 refine one_ (i:=1) (N:=some 7) #[true,true,true,false,false,false] rfl rfl (by kernel_rfl) (by decide) (fun K hK=>?_)
 refine goesN_ Try.func74 (by kernel_rfl) rfl [.agg #[.bool a0_0,.slice A0_1 l0_1.length c0_1,.slice A0_2 l0_2.length c0_2]] (by rfl) rfl rfl (by rfl) ?_
 have H:=HH1_.out
 clear HH1_
 by_cases c5 : (t418 != t425) = true
 case pos =>
  rw [if_pos c5] at H
  have c5b0 : (t418 != t425) = true:=c5
  (try (have c5b1 : decide (t418 = t425) = false:=by simpa using c5))
  (try (have c5b2 : (t418 == t425) = false:=by simpa using c5))
  (try (have c5b3 : ¬ (t418 = t425):=by simpa using c5))
  clear c5
  by_cases c6 : t418 = true
  case pos =>
   subst c6
   have H1 : (some (-1)) = some r:=by rw [if_pos rfl] at H; exact H
   clear H
   have H:=H1
   clear H1
   obtain rfl:=Option.some.inj H
   (try simp only [c5b0])
   with_reducible refine (ratio_R_low.calls k a0_0 (fun k_=>k_ < w.heap.size) _ _ l0_1 (fun k_=>k_ < w.heap.size) _ _ l0_2 true t419 t422 _ ?side1 ?side2 A3.out).mono ?_
   (case side1=>exact Kd.V_mk HC0_1.out (Kd.F_below (Kd.C_F (Kd.heap_int .u32) HR0_1.out) bh_))
   (case side2=>exact Kd.V_mk HC0_2.out (Kd.F_below (Kd.C_F (Kd.heap_int .u32) HR0_2.out) bh_))
   rintro e w10 ⟨v420,v423,rfl,ho0,ho1,hb⟩
   refine ⟨_,rfl,?_⟩
   have n0_:=Aside0.mk (Kd.V_lower (Kd.V_mono (ok':=fun k_=>k_ ≠ gb416 ∧ k_ ≠ gb417) ho0 (fun k_ hk_=>⟨Or.elim hk_ (fun hs_=>Or.elim hs_ (fun hs_=>fun e_=>Nat.not_le.2 hs_ (by rw [e_]; exact GW416.out)) (fun hs_=>fun e_=>Nat.not_le.2 hs_ (by rw [e_]; exact GW416.out))) (fun hn_=>(fb_ BK416 k_ hn_)),Or.elim hk_ (fun hs_=>Or.elim hs_ (fun hs_=>fun e_=>Nat.not_le.2 hs_ (by rw [e_]; exact GW417.out)) (fun hs_=>fun e_=>Nat.not_le.2 hs_ (by rw [e_]; exact GW417.out))) (fun hn_=>(fb_ BK417 k_ hn_))⟩)) (below_size bh_))
   have n1_:=Aside0.mk (Kd.V_lower (Kd.V_mono (ok':=fun k_=>k_ ≠ gb416 ∧ k_ ≠ gb417) ho1 (fun k_ hk_=>⟨Or.elim hk_ (fun hs_=>Or.elim hs_ (fun hs_=>fun e_=>Nat.not_le.2 hs_ (by rw [e_]; exact GW416.out)) (fun hs_=>fun e_=>Nat.not_le.2 hs_ (by rw [e_]; exact GW416.out))) (fun hn_=>(fb_ BK416 k_ hn_)),Or.elim hk_ (fun hs_=>Or.elim hs_ (fun hs_=>fun e_=>Nat.not_le.2 hs_ (by rw [e_]; exact GW417.out)) (fun hs_=>fun e_=>Nat.not_le.2 hs_ (by rw [e_]; exact GW417.out))) (fun hn_=>(fb_ BK417 k_ hn_))⟩)) (below_size bh_))
   have n2_:=kb_ BK416 hb
   have n3_:=kb_ BK417 hb
   have n4_:=bq_ hb
   clear BK416
   clear BK417
   clear HB
   have HO421:=n0_
   have HO424:=n1_
   have BK416:=n2_
   have BK417:=n3_
   have HB:=n4_
   clear n0_ n1_ n2_ n3_ n4_
   (try clear hb)
   (try clear hb2)
   (try clear hk)
   (try clear hi)
   (try clear ho0)
   (try clear ho1)
   refine hK.out _ _ ⟨bc_ BK416 0,bc_ BK416 1,bc_ BK416 2,bc_ BK417 0,bc_ BK417 1,bc_ BK417 2⟩ (fun hHeld=>?_)
   clear hK K
   refine norm_ (a':=?_) ?_ ?_
   rotate_left
   ·
    show Act.put _ (some 7) _ = _
    simp only [Act.put,p1_,p2_,p3_,i64_w,i32_w]
    rfl
   refine one_ (i:=3) (N:=some 9) #[true,true,true,true,false,false] rfl rfl (by kernel_rfl) (by decide) (fun K hK=>?_)
   refine goesN_ Try.func74 (by kernel_rfl) rfl [.agg #[.bool a1_0,.slice A1_1 l1_1.length c1_1,.slice A1_2 l1_2.length c1_2]] (by rfl) rfl rfl (by rfl) ?_
   with_reducible refine (ratio_R_low.calls k a1_0 (fun k_=>k_ < w.heap.size) _ _ l1_1 (fun k_=>k_ < w.heap.size) _ _ l1_2 t425 t426 t429 _ ?side1 ?side2 A4.out).mono ?_
   (case side1=>exact Kd.V_mk HC1_1.out (Kd.F_below (Kd.C_F (Kd.heap_int .u32) HR1_1.out) bh_))
   (case side2=>exact Kd.V_mk HC1_2.out (Kd.F_below (Kd.C_F (Kd.heap_int .u32) HR1_2.out) bh_))
   rintro e w11 ⟨v427,v430,rfl,ho0,ho1,hb⟩
   refine ⟨_,rfl,?_⟩
   have n0_:=vb_ HO421 hb
   have n1_:=vb_ HO424 hb
   have n2_:=Aside0.mk (Kd.V_lower (Kd.V_mono (ok':=fun k_=>k_ ≠ gb416 ∧ k_ ≠ gb417) ho0 (fun k_ hk_=>⟨Or.elim hk_ (fun hs_=>Or.elim hs_ (fun hs_=>fun e_=>Nat.not_le.2 hs_ (by rw [e_]; exact GW416.out)) (fun hs_=>fun e_=>Nat.not_le.2 hs_ (by rw [e_]; exact GW416.out))) (fun hn_=>(fb_ BK416 k_ hn_)),Or.elim hk_ (fun hs_=>Or.elim hs_ (fun hs_=>fun e_=>Nat.not_le.2 hs_ (by rw [e_]; exact GW417.out)) (fun hs_=>fun e_=>Nat.not_le.2 hs_ (by rw [e_]; exact GW417.out))) (fun hn_=>(fb_ BK417 k_ hn_))⟩)) (below_size bh_))
   have n3_:=Aside0.mk (Kd.V_lower (Kd.V_mono (ok':=fun k_=>k_ ≠ gb416 ∧ k_ ≠ gb417) ho1 (fun k_ hk_=>⟨Or.elim hk_ (fun hs_=>Or.elim hs_ (fun hs_=>fun e_=>Nat.not_le.2 hs_ (by rw [e_]; exact GW416.out)) (fun hs_=>fun e_=>Nat.not_le.2 hs_ (by rw [e_]; exact GW416.out))) (fun hn_=>(fb_ BK416 k_ hn_)),Or.elim hk_ (fun hs_=>Or.elim hs_ (fun hs_=>fun e_=>Nat.not_le.2 hs_ (by rw [e_]; exact GW417.out)) (fun hs_=>fun e_=>Nat.not_le.2 hs_ (by rw [e_]; exact GW417.out))) (fun hn_=>(fb_ BK417 k_ hn_))⟩)) (below_size bh_))
   have n4_:=kb_ BK416 hb
   have n5_:=kb_ BK417 hb
   have n6_:=bq_ hb
   clear HO421
   clear HO424
   clear BK416
   clear BK417
   clear HB
   have HO421:=n0_
   have HO424:=n1_
   have HO428:=n2_
   have HO431:=n3_
   have BK416:=n4_
   have BK417:=n5_
   have HB:=n6_
   clear n0_ n1_ n2_ n3_ n4_ n5_ n6_
   (try clear hb)
   (try clear hb2)
   (try clear hk)
   (try clear hi)
   (try clear ho0)
   (try clear ho1)
   obtain ⟨Ao13,co13,eo13⟩:=Kd.V_slice HO421.out
   (first | subst eo13 | (injection eo13 with f1_ f2_ f3_; have f4_:=f1_.symm; have f5_:=f3_.symm; clear f1_ f2_ f3_; subst f4_; subst f5_))
   obtain ⟨Ao15,co15,eo15⟩:=Kd.V_slice HO424.out
   (first | subst eo15 | (injection eo15 with f1_ f2_ f3_; have f4_:=f1_.symm; have f5_:=f3_.symm; clear f1_ f2_ f3_; subst f4_; subst f5_))
   obtain ⟨Ao18,co18,eo18⟩:=Kd.V_slice HO428.out
   (first | subst eo18 | (injection eo18 with f1_ f2_ f3_; have f4_:=f1_.symm; have f5_:=f3_.symm; clear f1_ f2_ f3_; subst f4_; subst f5_))
   obtain ⟨Ao20,co20,eo20⟩:=Kd.V_slice HO431.out
   (first | subst eo20 | (injection eo20 with f1_ f2_ f3_; have f4_:=f1_.symm; have f5_:=f3_.symm; clear f1_ f2_ f3_; subst f4_; subst f5_))
   refine hK.out _ _ ⟨bc_ BK416 0,bc_ BK416 1,bc_ BK416 2,bc_ BK417 0,bc_ BK417 1,bc_ BK417 2⟩ (fun hHeld=>?_)
   clear hK K
   refine norm_ (a':=?_) ?_ ?_
   rotate_left
   ·
    show Act.put _ (some 9) _ = _
    simp only [Act.put,p1_,p2_,p3_,i64_w,i32_w]
    rfl
   refine last_ (i:=4) (N:=none) #[true,true,true,true,true,false] rfl rfl (by kernel_rfl) (by decide) (fun K hK=>?_)
   have hs12 : w11.cell? ⟨gb416,0,none⟩ = some (.bool a0_0):=bc_ BK416 0
   have hfs12:=blk_frozen BK416.out 0
   have hns12_1:=NB417_416.out
   have hms12_1:=NB416_417.out
   have hs14 : w11.cell? ⟨gb416,1,none⟩ = some (.slice A0_1 l0_1.length c0_1):=bc_ BK416 1
   have hfs14:=blk_frozen BK416.out 1
   have hns14_1:=NB417_416.out
   have hms14_1:=NB416_417.out
   have hs16 : w11.cell? ⟨gb416,2,none⟩ = some (.slice A0_2 l0_2.length c0_2):=bc_ BK416 2
   have hfs16:=blk_frozen BK416.out 2
   have hns16_1:=NB417_416.out
   have hms16_1:=NB416_417.out
   refine skip_ (w1:=?_) (by rfl) rfl ?_ ?_
   rotate_left
   ·
    go_simp
    rfl
   refine hK.out _ _ ?_
   clear hK K
   refine last_ (i:=5) (N:=none) #[true,true,true,true,true,true] rfl rfl (by kernel_rfl) (by decide) (fun K hK=>?_)
   have hs17 : w11.cell? ⟨gb417,0,none⟩ = some (.bool a1_0):=bc_ BK417 0
   have hfs17:=blk_frozen BK417.out 0
   have hns17_0:=NB416_417.out
   have hms17_0:=NB417_416.out
   have hs19 : w11.cell? ⟨gb417,1,none⟩ = some (.slice A1_1 l1_1.length c1_1):=bc_ BK417 1
   have hfs19:=blk_frozen BK417.out 1
   have hns19_0:=NB416_417.out
   have hms19_0:=NB417_416.out
   have hs21 : w11.cell? ⟨gb417,2,none⟩ = some (.slice A1_2 l1_2.length c1_2):=bc_ BK417 2
   have hfs21:=blk_frozen BK417.out 2
   have hns21_0:=NB416_417.out
   have hms21_0:=NB417_416.out
   refine skip_ (w1:=?_) (by rfl) rfl ?_ ?_
   rotate_left
   ·
    go_simp
    rfl
   refine hK.out _ _ ?_
   clear hK K
   refine done_ (by kernel_rfl) ?_
   have hnb22:=NB416_417.out
   have hnc22:=NB417_416.out
   have hcz23_0 : w11.cell? ⟨gb416,0,none⟩ = some (.bool a0_0):=bc_ BK416 0
   have hcz23_1 : w11.cell? ⟨gb416,1,none⟩ = some (.slice A0_1 l0_1.length c0_1):=bc_ BK416 1
   have hcz23_2 : w11.cell? ⟨gb416,2,none⟩ = some (.slice A0_2 l0_2.length c0_2):=bc_ BK416 2
   have hfz23_0:=blk_frozen BK416.out 0
   have hfz23_1:=blk_frozen BK416.out 1
   have hfz23_2:=blk_frozen BK416.out 2
   have hcz24_0 : w11.cell? ⟨gb417,0,none⟩ = some (.bool a1_0):=bc_ BK417 0
   have hcz24_1 : w11.cell? ⟨gb417,1,none⟩ = some (.slice A1_1 l1_1.length c1_1):=bc_ BK417 1
   have hcz24_2 : w11.cell? ⟨gb417,2,none⟩ = some (.slice A1_2 l1_2.length c1_2):=bc_ BK417 2
   have hfz24_0:=blk_frozen BK417.out 0
   have hfz24_1:=blk_frozen BK417.out 1
   have hfz24_2:=blk_frozen BK417.out 2
   try go_wp2
   go_ret
   exact ⟨eh_,bh_⟩
  replace c6:=Bool.eq_false_iff.mpr c6
  subst c6
  have H1 : (some 1) = some r:=by rw [if_neg (show ¬ (false = true) by decide)] at H; exact H
  clear H
  have H:=H1
  clear H1
  obtain rfl:=Option.some.inj H
  (try simp only [c5b0])
  with_reducible refine (ratio_R_low.calls k a0_0 (fun k_=>k_ < w.heap.size) _ _ l0_1 (fun k_=>k_ < w.heap.size) _ _ l0_2 false t419 t422 _ ?side1 ?side2 A3.out).mono ?_
  (case side1=>exact Kd.V_mk HC0_1.out (Kd.F_below (Kd.C_F (Kd.heap_int .u32) HR0_1.out) bh_))
  (case side2=>exact Kd.V_mk HC0_2.out (Kd.F_below (Kd.C_F (Kd.heap_int .u32) HR0_2.out) bh_))
  rintro e w28 ⟨v420,v423,rfl,ho0,ho1,hb⟩
  refine ⟨_,rfl,?_⟩
  have n0_:=Aside0.mk (Kd.V_lower (Kd.V_mono (ok':=fun k_=>k_ ≠ gb416 ∧ k_ ≠ gb417) ho0 (fun k_ hk_=>⟨Or.elim hk_ (fun hs_=>Or.elim hs_ (fun hs_=>fun e_=>Nat.not_le.2 hs_ (by rw [e_]; exact GW416.out)) (fun hs_=>fun e_=>Nat.not_le.2 hs_ (by rw [e_]; exact GW416.out))) (fun hn_=>(fb_ BK416 k_ hn_)),Or.elim hk_ (fun hs_=>Or.elim hs_ (fun hs_=>fun e_=>Nat.not_le.2 hs_ (by rw [e_]; exact GW417.out)) (fun hs_=>fun e_=>Nat.not_le.2 hs_ (by rw [e_]; exact GW417.out))) (fun hn_=>(fb_ BK417 k_ hn_))⟩)) (below_size bh_))
  have n1_:=Aside0.mk (Kd.V_lower (Kd.V_mono (ok':=fun k_=>k_ ≠ gb416 ∧ k_ ≠ gb417) ho1 (fun k_ hk_=>⟨Or.elim hk_ (fun hs_=>Or.elim hs_ (fun hs_=>fun e_=>Nat.not_le.2 hs_ (by rw [e_]; exact GW416.out)) (fun hs_=>fun e_=>Nat.not_le.2 hs_ (by rw [e_]; exact GW416.out))) (fun hn_=>(fb_ BK416 k_ hn_)),Or.elim hk_ (fun hs_=>Or.elim hs_ (fun hs_=>fun e_=>Nat.not_le.2 hs_ (by rw [e_]; exact GW417.out)) (fun hs_=>fun e_=>Nat.not_le.2 hs_ (by rw [e_]; exact GW417.out))) (fun hn_=>(fb_ BK417 k_ hn_))⟩)) (below_size bh_))
  have n2_:=kb_ BK416 hb
  have n3_:=kb_ BK417 hb
  have n4_:=bq_ hb
  clear BK416
  clear BK417
  clear HB
  have HO421:=n0_
  have HO424:=n1_
  have BK416:=n2_
  have BK417:=n3_
  have HB:=n4_
  clear n0_ n1_ n2_ n3_ n4_
  (try clear hb)
  (try clear hb2)
  (try clear hk)
  (try clear hi)
  (try clear ho0)
  (try clear ho1)
  refine hK.out _ _ ⟨bc_ BK416 0,bc_ BK416 1,bc_ BK416 2,bc_ BK417 0,bc_ BK417 1,bc_ BK417 2⟩ (fun hHeld=>?_)
  clear hK K
  refine norm_ (a':=?_) ?_ ?_
  rotate_left
  ·
   show Act.put _ (some 7) _ = _
   simp only [Act.put,p1_,p2_,p3_,i64_w,i32_w]
   rfl
  refine one_ (i:=3) (N:=some 9) #[true,true,true,true,false,false] rfl rfl (by kernel_rfl) (by decide) (fun K hK=>?_)
  refine goesN_ Try.func74 (by kernel_rfl) rfl [.agg #[.bool a1_0,.slice A1_1 l1_1.length c1_1,.slice A1_2 l1_2.length c1_2]] (by rfl) rfl rfl (by rfl) ?_
  with_reducible refine (ratio_R_low.calls k a1_0 (fun k_=>k_ < w.heap.size) _ _ l1_1 (fun k_=>k_ < w.heap.size) _ _ l1_2 t425 t426 t429 _ ?side1 ?side2 A4.out).mono ?_
  (case side1=>exact Kd.V_mk HC1_1.out (Kd.F_below (Kd.C_F (Kd.heap_int .u32) HR1_1.out) bh_))
  (case side2=>exact Kd.V_mk HC1_2.out (Kd.F_below (Kd.C_F (Kd.heap_int .u32) HR1_2.out) bh_))
  rintro e w29 ⟨v427,v430,rfl,ho0,ho1,hb⟩
  refine ⟨_,rfl,?_⟩
  have n0_:=vb_ HO421 hb
  have n1_:=vb_ HO424 hb
  have n2_:=Aside0.mk (Kd.V_lower (Kd.V_mono (ok':=fun k_=>k_ ≠ gb416 ∧ k_ ≠ gb417) ho0 (fun k_ hk_=>⟨Or.elim hk_ (fun hs_=>Or.elim hs_ (fun hs_=>fun e_=>Nat.not_le.2 hs_ (by rw [e_]; exact GW416.out)) (fun hs_=>fun e_=>Nat.not_le.2 hs_ (by rw [e_]; exact GW416.out))) (fun hn_=>(fb_ BK416 k_ hn_)),Or.elim hk_ (fun hs_=>Or.elim hs_ (fun hs_=>fun e_=>Nat.not_le.2 hs_ (by rw [e_]; exact GW417.out)) (fun hs_=>fun e_=>Nat.not_le.2 hs_ (by rw [e_]; exact GW417.out))) (fun hn_=>(fb_ BK417 k_ hn_))⟩)) (below_size bh_))
  have n3_:=Aside0.mk (Kd.V_lower (Kd.V_mono (ok':=fun k_=>k_ ≠ gb416 ∧ k_ ≠ gb417) ho1 (fun k_ hk_=>⟨Or.elim hk_ (fun hs_=>Or.elim hs_ (fun hs_=>fun e_=>Nat.not_le.2 hs_ (by rw [e_]; exact GW416.out)) (fun hs_=>fun e_=>Nat.not_le.2 hs_ (by rw [e_]; exact GW416.out))) (fun hn_=>(fb_ BK416 k_ hn_)),Or.elim hk_ (fun hs_=>Or.elim hs_ (fun hs_=>fun e_=>Nat.not_le.2 hs_ (by rw [e_]; exact GW417.out)) (fun hs_=>fun e_=>Nat.not_le.2 hs_ (by rw [e_]; exact GW417.out))) (fun hn_=>(fb_ BK417 k_ hn_))⟩)) (below_size bh_))
  have n4_:=kb_ BK416 hb
  have n5_:=kb_ BK417 hb
  have n6_:=bq_ hb
  clear HO421
  clear HO424
  clear BK416
  clear BK417
  clear HB
  have HO421:=n0_
  have HO424:=n1_
  have HO428:=n2_
  have HO431:=n3_
  have BK416:=n4_
  have BK417:=n5_
  have HB:=n6_
  clear n0_ n1_ n2_ n3_ n4_ n5_ n6_
  (try clear hb)
  (try clear hb2)
  (try clear hk)
  (try clear hi)
  (try clear ho0)
  (try clear ho1)
  obtain ⟨Ao31,co31,eo31⟩:=Kd.V_slice HO421.out
  (first | subst eo31 | (injection eo31 with f1_ f2_ f3_; have f4_:=f1_.symm; have f5_:=f3_.symm; clear f1_ f2_ f3_; subst f4_; subst f5_))
  obtain ⟨Ao33,co33,eo33⟩:=Kd.V_slice HO424.out
  (first | subst eo33 | (injection eo33 with f1_ f2_ f3_; have f4_:=f1_.symm; have f5_:=f3_.symm; clear f1_ f2_ f3_; subst f4_; subst f5_))
  obtain ⟨Ao36,co36,eo36⟩:=Kd.V_slice HO428.out
  (first | subst eo36 | (injection eo36 with f1_ f2_ f3_; have f4_:=f1_.symm; have f5_:=f3_.symm; clear f1_ f2_ f3_; subst f4_; subst f5_))
  obtain ⟨Ao38,co38,eo38⟩:=Kd.V_slice HO431.out
  (first | subst eo38 | (injection eo38 with f1_ f2_ f3_; have f4_:=f1_.symm; have f5_:=f3_.symm; clear f1_ f2_ f3_; subst f4_; subst f5_))
  refine hK.out _ _ ⟨bc_ BK416 0,bc_ BK416 1,bc_ BK416 2,bc_ BK417 0,bc_ BK417 1,bc_ BK417 2⟩ (fun hHeld=>?_)
  clear hK K
  refine norm_ (a':=?_) ?_ ?_
  rotate_left
  ·
   show Act.put _ (some 9) _ = _
   simp only [Act.put,p1_,p2_,p3_,i64_w,i32_w]
   rfl
  refine last_ (i:=4) (N:=none) #[true,true,true,true,true,false] rfl rfl (by kernel_rfl) (by decide) (fun K hK=>?_)
  have hs30 : w29.cell? ⟨gb416,0,none⟩ = some (.bool a0_0):=bc_ BK416 0
  have hfs30:=blk_frozen BK416.out 0
  have hns30_1:=NB417_416.out
  have hms30_1:=NB416_417.out
  have hs32 : w29.cell? ⟨gb416,1,none⟩ = some (.slice A0_1 l0_1.length c0_1):=bc_ BK416 1
  have hfs32:=blk_frozen BK416.out 1
  have hns32_1:=NB417_416.out
  have hms32_1:=NB416_417.out
  have hs34 : w29.cell? ⟨gb416,2,none⟩ = some (.slice A0_2 l0_2.length c0_2):=bc_ BK416 2
  have hfs34:=blk_frozen BK416.out 2
  have hns34_1:=NB417_416.out
  have hms34_1:=NB416_417.out
  refine skip_ (w1:=?_) (by rfl) rfl ?_ ?_
  rotate_left
  ·
   go_simp
   rfl
  refine hK.out _ _ ?_
  clear hK K
  refine last_ (i:=5) (N:=none) #[true,true,true,true,true,true] rfl rfl (by kernel_rfl) (by decide) (fun K hK=>?_)
  have hs35 : w29.cell? ⟨gb417,0,none⟩ = some (.bool a1_0):=bc_ BK417 0
  have hfs35:=blk_frozen BK417.out 0
  have hns35_0:=NB416_417.out
  have hms35_0:=NB417_416.out
  have hs37 : w29.cell? ⟨gb417,1,none⟩ = some (.slice A1_1 l1_1.length c1_1):=bc_ BK417 1
  have hfs37:=blk_frozen BK417.out 1
  have hns37_0:=NB416_417.out
  have hms37_0:=NB417_416.out
  have hs39 : w29.cell? ⟨gb417,2,none⟩ = some (.slice A1_2 l1_2.length c1_2):=bc_ BK417 2
  have hfs39:=blk_frozen BK417.out 2
  have hns39_0:=NB416_417.out
  have hms39_0:=NB417_416.out
  refine skip_ (w1:=?_) (by rfl) rfl ?_ ?_
  rotate_left
  ·
   go_simp
   rfl
  refine hK.out _ _ ?_
  clear hK K
  refine done_ (by kernel_rfl) ?_
  have hnb40:=NB416_417.out
  have hnc40:=NB417_416.out
  have hcz41_0 : w29.cell? ⟨gb416,0,none⟩ = some (.bool a0_0):=bc_ BK416 0
  have hcz41_1 : w29.cell? ⟨gb416,1,none⟩ = some (.slice A0_1 l0_1.length c0_1):=bc_ BK416 1
  have hcz41_2 : w29.cell? ⟨gb416,2,none⟩ = some (.slice A0_2 l0_2.length c0_2):=bc_ BK416 2
  have hfz41_0:=blk_frozen BK416.out 0
  have hfz41_1:=blk_frozen BK416.out 1
  have hfz41_2:=blk_frozen BK416.out 2
  have hcz42_0 : w29.cell? ⟨gb417,0,none⟩ = some (.bool a1_0):=bc_ BK417 0
  have hcz42_1 : w29.cell? ⟨gb417,1,none⟩ = some (.slice A1_1 l1_1.length c1_1):=bc_ BK417 1
  have hcz42_2 : w29.cell? ⟨gb417,2,none⟩ = some (.slice A1_2 l1_2.length c1_2):=bc_ BK417 2
  have hfz42_0:=blk_frozen BK417.out 0
  have hfz42_1:=blk_frozen BK417.out 1
  have hfz42_2:=blk_frozen BK417.out 2
  try go_wp2
  go_ret
  exact ⟨eh_,bh_⟩
 rw [if_neg c5] at H
 have c5b0 : (t418 != t425) = false:=by simpa using c5
 (try (have c5b1 : decide (t418 = t425) = true:=by simpa using c5))
 (try (have c5b2 : (t418 == t425) = true:=by simpa using c5))
 clear c5
 replace H:=Option.bind_eq_some_iff.mp H
 obtain ⟨t432,A430,H⟩:=H
 replace H : ((nat_Nat_Mul.f k t426 t422).bind fun t435=>((nat_Nat_Cmp.f k t432 t435).bind fun t438=>(if t418 = true then (some (wrap64 (-t438))) else (some t438)))) = some r:=H
 have A43:=Aside0.mk A430
 clear A430
 replace H:=Option.bind_eq_some_iff.mp H
 obtain ⟨t435,A440,H⟩:=H
 replace H : ((nat_Nat_Cmp.f k t432 t435).bind fun t438=>(if t418 = true then (some (wrap64 (-t438))) else (some t438))) = some r:=H
 have A44:=Aside0.mk A440
 clear A440
 replace H:=Option.bind_eq_some_iff.mp H
 obtain ⟨t438,A450,H⟩:=H
 replace H : (if t418 = true then (some (wrap64 (-t438))) else (some t438)) = some r:=H
 have A45:=Aside0.mk A450
 clear A450
 by_cases c46 : t418 = true
 case pos =>
  subst c46
  have H1 : (some (wrap64 (-t438))) = some r:=by rw [if_pos rfl] at H; exact H
  clear H
  have H:=H1
  clear H1
  obtain rfl:=Option.some.inj H
  (try simp only [c5b0])
  with_reducible refine (ratio_R_low.calls k a0_0 (fun k_=>k_ < w.heap.size) _ _ l0_1 (fun k_=>k_ < w.heap.size) _ _ l0_2 true t419 t422 _ ?side1 ?side2 A3.out).mono ?_
  (case side1=>exact Kd.V_mk HC0_1.out (Kd.F_below (Kd.C_F (Kd.heap_int .u32) HR0_1.out) bh_))
  (case side2=>exact Kd.V_mk HC0_2.out (Kd.F_below (Kd.C_F (Kd.heap_int .u32) HR0_2.out) bh_))
  rintro e w50 ⟨v420,v423,rfl,ho0,ho1,hb⟩
  refine ⟨_,rfl,?_⟩
  have n0_:=Aside0.mk (Kd.V_lower (Kd.V_mono (ok':=fun k_=>k_ ≠ gb416 ∧ k_ ≠ gb417) ho0 (fun k_ hk_=>⟨Or.elim hk_ (fun hs_=>Or.elim hs_ (fun hs_=>fun e_=>Nat.not_le.2 hs_ (by rw [e_]; exact GW416.out)) (fun hs_=>fun e_=>Nat.not_le.2 hs_ (by rw [e_]; exact GW416.out))) (fun hn_=>(fb_ BK416 k_ hn_)),Or.elim hk_ (fun hs_=>Or.elim hs_ (fun hs_=>fun e_=>Nat.not_le.2 hs_ (by rw [e_]; exact GW417.out)) (fun hs_=>fun e_=>Nat.not_le.2 hs_ (by rw [e_]; exact GW417.out))) (fun hn_=>(fb_ BK417 k_ hn_))⟩)) (below_size bh_))
  have n1_:=Aside0.mk (Kd.V_lower (Kd.V_mono (ok':=fun k_=>k_ ≠ gb416 ∧ k_ ≠ gb417) ho1 (fun k_ hk_=>⟨Or.elim hk_ (fun hs_=>Or.elim hs_ (fun hs_=>fun e_=>Nat.not_le.2 hs_ (by rw [e_]; exact GW416.out)) (fun hs_=>fun e_=>Nat.not_le.2 hs_ (by rw [e_]; exact GW416.out))) (fun hn_=>(fb_ BK416 k_ hn_)),Or.elim hk_ (fun hs_=>Or.elim hs_ (fun hs_=>fun e_=>Nat.not_le.2 hs_ (by rw [e_]; exact GW417.out)) (fun hs_=>fun e_=>Nat.not_le.2 hs_ (by rw [e_]; exact GW417.out))) (fun hn_=>(fb_ BK417 k_ hn_))⟩)) (below_size bh_))
  have n2_:=kb_ BK416 hb
  have n3_:=kb_ BK417 hb
  have n4_:=bq_ hb
  clear BK416
  clear BK417
  clear HB
  have HO421:=n0_
  have HO424:=n1_
  have BK416:=n2_
  have BK417:=n3_
  have HB:=n4_
  clear n0_ n1_ n2_ n3_ n4_
  (try clear hb)
  (try clear hb2)
  (try clear hk)
  (try clear hi)
  (try clear ho0)
  (try clear ho1)
  refine hK.out _ _ ⟨bc_ BK416 0,bc_ BK416 1,bc_ BK416 2,bc_ BK417 0,bc_ BK417 1,bc_ BK417 2⟩ (fun hHeld=>?_)
  clear hK K
  refine norm_ (a':=?_) ?_ ?_
  rotate_left
  ·
   show Act.put _ (some 7) _ = _
   simp only [Act.put,p1_,p2_,p3_,i64_w,i32_w]
   rfl
  refine one_ (i:=3) (N:=some 9) #[true,true,true,true,false,false] rfl rfl (by kernel_rfl) (by decide) (fun K hK=>?_)
  refine goesN_ Try.func74 (by kernel_rfl) rfl [.agg #[.bool a1_0,.slice A1_1 l1_1.length c1_1,.slice A1_2 l1_2.length c1_2]] (by rfl) rfl rfl (by rfl) ?_
  with_reducible refine (ratio_R_low.calls k a1_0 (fun k_=>k_ < w.heap.size) _ _ l1_1 (fun k_=>k_ < w.heap.size) _ _ l1_2 t425 t426 t429 _ ?side1 ?side2 A4.out).mono ?_
  (case side1=>exact Kd.V_mk HC1_1.out (Kd.F_below (Kd.C_F (Kd.heap_int .u32) HR1_1.out) bh_))
  (case side2=>exact Kd.V_mk HC1_2.out (Kd.F_below (Kd.C_F (Kd.heap_int .u32) HR1_2.out) bh_))
  rintro e w51 ⟨v427,v430,rfl,ho0,ho1,hb⟩
  refine ⟨_,rfl,?_⟩
  have n0_:=vb_ HO421 hb
  have n1_:=vb_ HO424 hb
  have n2_:=Aside0.mk (Kd.V_lower (Kd.V_mono (ok':=fun k_=>k_ ≠ gb416 ∧ k_ ≠ gb417) ho0 (fun k_ hk_=>⟨Or.elim hk_ (fun hs_=>Or.elim hs_ (fun hs_=>fun e_=>Nat.not_le.2 hs_ (by rw [e_]; exact GW416.out)) (fun hs_=>fun e_=>Nat.not_le.2 hs_ (by rw [e_]; exact GW416.out))) (fun hn_=>(fb_ BK416 k_ hn_)),Or.elim hk_ (fun hs_=>Or.elim hs_ (fun hs_=>fun e_=>Nat.not_le.2 hs_ (by rw [e_]; exact GW417.out)) (fun hs_=>fun e_=>Nat.not_le.2 hs_ (by rw [e_]; exact GW417.out))) (fun hn_=>(fb_ BK417 k_ hn_))⟩)) (below_size bh_))
  have n3_:=Aside0.mk (Kd.V_lower (Kd.V_mono (ok':=fun k_=>k_ ≠ gb416 ∧ k_ ≠ gb417) ho1 (fun k_ hk_=>⟨Or.elim hk_ (fun hs_=>Or.elim hs_ (fun hs_=>fun e_=>Nat.not_le.2 hs_ (by rw [e_]; exact GW416.out)) (fun hs_=>fun e_=>Nat.not_le.2 hs_ (by rw [e_]; exact GW416.out))) (fun hn_=>(fb_ BK416 k_ hn_)),Or.elim hk_ (fun hs_=>Or.elim hs_ (fun hs_=>fun e_=>Nat.not_le.2 hs_ (by rw [e_]; exact GW417.out)) (fun hs_=>fun e_=>Nat.not_le.2 hs_ (by rw [e_]; exact GW417.out))) (fun hn_=>(fb_ BK417 k_ hn_))⟩)) (below_size bh_))
  have n4_:=kb_ BK416 hb
  have n5_:=kb_ BK417 hb
  have n6_:=bq_ hb
  clear HO421
  clear HO424
  clear BK416
  clear BK417
  clear HB
  have HO421:=n0_
  have HO424:=n1_
  have HO428:=n2_
  have HO431:=n3_
  have BK416:=n4_
  have BK417:=n5_
  have HB:=n6_
  clear n0_ n1_ n2_ n3_ n4_ n5_ n6_
  (try clear hb)
  (try clear hb2)
  (try clear hk)
  (try clear hi)
  (try clear ho0)
  (try clear ho1)
  obtain ⟨Ao53,co53,eo53⟩:=Kd.V_slice HO421.out
  (first | subst eo53 | (injection eo53 with f1_ f2_ f3_; have f4_:=f1_.symm; have f5_:=f3_.symm; clear f1_ f2_ f3_; subst f4_; subst f5_))
  obtain ⟨Ao55,co55,eo55⟩:=Kd.V_slice HO424.out
  (first | subst eo55 | (injection eo55 with f1_ f2_ f3_; have f4_:=f1_.symm; have f5_:=f3_.symm; clear f1_ f2_ f3_; subst f4_; subst f5_))
  obtain ⟨Ao58,co58,eo58⟩:=Kd.V_slice HO428.out
  (first | subst eo58 | (injection eo58 with f1_ f2_ f3_; have f4_:=f1_.symm; have f5_:=f3_.symm; clear f1_ f2_ f3_; subst f4_; subst f5_))
  obtain ⟨Ao60,co60,eo60⟩:=Kd.V_slice HO431.out
  (first | subst eo60 | (injection eo60 with f1_ f2_ f3_; have f4_:=f1_.symm; have f5_:=f3_.symm; clear f1_ f2_ f3_; subst f4_; subst f5_))
  refine hK.out _ _ ⟨bc_ BK416 0,bc_ BK416 1,bc_ BK416 2,bc_ BK417 0,bc_ BK417 1,bc_ BK417 2⟩ (fun hHeld=>?_)
  clear hK K
  refine norm_ (a':=?_) ?_ ?_
  rotate_left
  ·
   show Act.put _ (some 9) _ = _
   simp only [Act.put,p1_,p2_,p3_,i64_w,i32_w]
   rfl
  refine last_ (i:=4) (N:=none) #[true,true,true,true,true,false] rfl rfl (by kernel_rfl) (by decide) (fun K hK=>?_)
  have hs52 : w51.cell? ⟨gb416,0,none⟩ = some (.bool a0_0):=bc_ BK416 0
  have hfs52:=blk_frozen BK416.out 0
  have hns52_1:=NB417_416.out
  have hms52_1:=NB416_417.out
  have hs54 : w51.cell? ⟨gb416,1,none⟩ = some (.slice A0_1 l0_1.length c0_1):=bc_ BK416 1
  have hfs54:=blk_frozen BK416.out 1
  have hns54_1:=NB417_416.out
  have hms54_1:=NB416_417.out
  have hs56 : w51.cell? ⟨gb416,2,none⟩ = some (.slice A0_2 l0_2.length c0_2):=bc_ BK416 2
  have hfs56:=blk_frozen BK416.out 2
  have hns56_1:=NB417_416.out
  have hms56_1:=NB416_417.out
  refine skip_ (w1:=?_) (by rfl) rfl ?_ ?_
  rotate_left
  ·
   go_simp
   rfl
  refine hK.out _ _ ?_
  clear hK K
  refine last_ (i:=5) (N:=none) #[true,true,true,true,true,true] rfl rfl (by kernel_rfl) (by decide) (fun K hK=>?_)
  have hs57 : w51.cell? ⟨gb417,0,none⟩ = some (.bool a1_0):=bc_ BK417 0
  have hfs57:=blk_frozen BK417.out 0
  have hns57_0:=NB416_417.out
  have hms57_0:=NB417_416.out
  have hs59 : w51.cell? ⟨gb417,1,none⟩ = some (.slice A1_1 l1_1.length c1_1):=bc_ BK417 1
  have hfs59:=blk_frozen BK417.out 1
  have hns59_0:=NB416_417.out
  have hms59_0:=NB417_416.out
  have hs61 : w51.cell? ⟨gb417,2,none⟩ = some (.slice A1_2 l1_2.length c1_2):=bc_ BK417 2
  have hfs61:=blk_frozen BK417.out 2
  have hns61_0:=NB416_417.out
  have hms61_0:=NB417_416.out
  refine skip_ (w1:=?_) (by rfl) rfl ?_ ?_
  rotate_left
  ·
   go_simp
   rfl
  refine hK.out _ _ ?_
  clear hK K
  refine done_ (by kernel_rfl) ?_
  have hnb62:=NB416_417.out
  have hnc62:=NB417_416.out
  have hcz63_0 : w51.cell? ⟨gb416,0,none⟩ = some (.bool a0_0):=bc_ BK416 0
  have hcz63_1 : w51.cell? ⟨gb416,1,none⟩ = some (.slice A0_1 l0_1.length c0_1):=bc_ BK416 1
  have hcz63_2 : w51.cell? ⟨gb416,2,none⟩ = some (.slice A0_2 l0_2.length c0_2):=bc_ BK416 2
  have hfz63_0:=blk_frozen BK416.out 0
  have hfz63_1:=blk_frozen BK416.out 1
  have hfz63_2:=blk_frozen BK416.out 2
  have hcz64_0 : w51.cell? ⟨gb417,0,none⟩ = some (.bool a1_0):=bc_ BK417 0
  have hcz64_1 : w51.cell? ⟨gb417,1,none⟩ = some (.slice A1_1 l1_1.length c1_1):=bc_ BK417 1
  have hcz64_2 : w51.cell? ⟨gb417,2,none⟩ = some (.slice A1_2 l1_2.length c1_2):=bc_ BK417 2
  have hfz64_0:=blk_frozen BK417.out 0
  have hfz64_1:=blk_frozen BK417.out 1
  have hfz64_2:=blk_frozen BK417.out 2
  try go_wp2
  have n0_ : Aside0 (Kd.V (Kd.int .u32) 123 ((((((w51.setCell ⟨gb416,0,none⟩ (.bool true)).setCell ⟨gb416,1,none⟩ (.slice Ao53 t419.length co53)).setCell ⟨gb416,2,none⟩ (.slice Ao55 t422.length co55)).setCell ⟨gb417,0,none⟩ (.bool t425)).setCell ⟨gb417,1,none⟩ (.slice Ao58 t426.length co58)).setCell ⟨gb417,2,none⟩ (.slice Ao60 t429.length co60)) w.heap.size (fun k_=>k_ ≠ gb416 ∧ k_ ≠ gb417) (.slice Ao53 t419.length co53) t419):=⟨by (with_reducible repeat (first | apply va_ | apply vn_ | apply vd_)); exact Kd.V_mono (Kd.V_far (p:=⟨gb417,2,none⟩) (Kd.V_far (p:=⟨gb417,1,none⟩) (Kd.V_far (p:=⟨gb417,0,none⟩) (Kd.V_far (p:=⟨gb416,2,none⟩) (Kd.V_far (p:=⟨gb416,1,none⟩) (Kd.V_far (p:=⟨gb416,0,none⟩) (Kd.V_mono (Kd.V_mono HO421.out (fun k_ hk=>(⟨hk,hk.1⟩ : _ ∧ k_ ≠ gb416))) (fun k_ hk=>(⟨hk,hk.1.2⟩ : _ ∧ k_ ≠ gb417))) (fun _ hk=>hk.1.2) (.bool true)) (fun _ hk=>hk.1.2) (.slice Ao53 t419.length co53)) (fun _ hk=>hk.1.2) (.slice Ao55 t422.length co55)) (fun _ hk=>hk.2) (.bool t425)) (fun _ hk=>hk.2) (.slice Ao58 t426.length co58)) (fun _ hk=>hk.2) (.slice Ao60 t429.length co60)) (fun _ hk=>⟨hk.1.1.1,hk.1.1.2⟩)⟩
  have n1_ : Aside0 (Kd.V (Kd.int .u32) 123 ((((((w51.setCell ⟨gb416,0,none⟩ (.bool true)).setCell ⟨gb416,1,none⟩ (.slice Ao53 t419.length co53)).setCell ⟨gb416,2,none⟩ (.slice Ao55 t422.length co55)).setCell ⟨gb417,0,none⟩ (.bool t425)).setCell ⟨gb417,1,none⟩ (.slice Ao58 t426.length co58)).setCell ⟨gb417,2,none⟩ (.slice Ao60 t429.length co60)) w.heap.size (fun k_=>k_ ≠ gb416 ∧ k_ ≠ gb417) (.slice Ao55 t422.length co55) t422):=⟨by (with_reducible repeat (first | apply va_ | apply vn_ | apply vd_)); exact Kd.V_mono (Kd.V_far (p:=⟨gb417,2,none⟩) (Kd.V_far (p:=⟨gb417,1,none⟩) (Kd.V_far (p:=⟨gb417,0,none⟩) (Kd.V_far (p:=⟨gb416,2,none⟩) (Kd.V_far (p:=⟨gb416,1,none⟩) (Kd.V_far (p:=⟨gb416,0,none⟩) (Kd.V_mono (Kd.V_mono HO424.out (fun k_ hk=>(⟨hk,hk.1⟩ : _ ∧ k_ ≠ gb416))) (fun k_ hk=>(⟨hk,hk.1.2⟩ : _ ∧ k_ ≠ gb417))) (fun _ hk=>hk.1.2) (.bool true)) (fun _ hk=>hk.1.2) (.slice Ao53 t419.length co53)) (fun _ hk=>hk.1.2) (.slice Ao55 t422.length co55)) (fun _ hk=>hk.2) (.bool t425)) (fun _ hk=>hk.2) (.slice Ao58 t426.length co58)) (fun _ hk=>hk.2) (.slice Ao60 t429.length co60)) (fun _ hk=>⟨hk.1.1.1,hk.1.1.2⟩)⟩
  have n2_ : Aside0 (Kd.V (Kd.int .u32) 123 ((((((w51.setCell ⟨gb416,0,none⟩ (.bool true)).setCell ⟨gb416,1,none⟩ (.slice Ao53 t419.length co53)).setCell ⟨gb416,2,none⟩ (.slice Ao55 t422.length co55)).setCell ⟨gb417,0,none⟩ (.bool t425)).setCell ⟨gb417,1,none⟩ (.slice Ao58 t426.length co58)).setCell ⟨gb417,2,none⟩ (.slice Ao60 t429.length co60)) w.heap.size (fun k_=>k_ ≠ gb416 ∧ k_ ≠ gb417) (.slice Ao58 t426.length co58) t426):=⟨by (with_reducible repeat (first | apply va_ | apply vn_ | apply vd_)); exact Kd.V_mono (Kd.V_far (p:=⟨gb417,2,none⟩) (Kd.V_far (p:=⟨gb417,1,none⟩) (Kd.V_far (p:=⟨gb417,0,none⟩) (Kd.V_far (p:=⟨gb416,2,none⟩) (Kd.V_far (p:=⟨gb416,1,none⟩) (Kd.V_far (p:=⟨gb416,0,none⟩) (Kd.V_mono (Kd.V_mono HO428.out (fun k_ hk=>(⟨hk,hk.1⟩ : _ ∧ k_ ≠ gb416))) (fun k_ hk=>(⟨hk,hk.1.2⟩ : _ ∧ k_ ≠ gb417))) (fun _ hk=>hk.1.2) (.bool true)) (fun _ hk=>hk.1.2) (.slice Ao53 t419.length co53)) (fun _ hk=>hk.1.2) (.slice Ao55 t422.length co55)) (fun _ hk=>hk.2) (.bool t425)) (fun _ hk=>hk.2) (.slice Ao58 t426.length co58)) (fun _ hk=>hk.2) (.slice Ao60 t429.length co60)) (fun _ hk=>⟨hk.1.1.1,hk.1.1.2⟩)⟩
  have n3_ : Aside0 (Kd.V (Kd.int .u32) 123 ((((((w51.setCell ⟨gb416,0,none⟩ (.bool true)).setCell ⟨gb416,1,none⟩ (.slice Ao53 t419.length co53)).setCell ⟨gb416,2,none⟩ (.slice Ao55 t422.length co55)).setCell ⟨gb417,0,none⟩ (.bool t425)).setCell ⟨gb417,1,none⟩ (.slice Ao58 t426.length co58)).setCell ⟨gb417,2,none⟩ (.slice Ao60 t429.length co60)) w.heap.size (fun k_=>k_ ≠ gb416 ∧ k_ ≠ gb417) (.slice Ao60 t429.length co60) t429):=⟨by (with_reducible repeat (first | apply va_ | apply vn_ | apply vd_)); exact Kd.V_mono (Kd.V_far (p:=⟨gb417,2,none⟩) (Kd.V_far (p:=⟨gb417,1,none⟩) (Kd.V_far (p:=⟨gb417,0,none⟩) (Kd.V_far (p:=⟨gb416,2,none⟩) (Kd.V_far (p:=⟨gb416,1,none⟩) (Kd.V_far (p:=⟨gb416,0,none⟩) (Kd.V_mono (Kd.V_mono HO431.out (fun k_ hk=>(⟨hk,hk.1⟩ : _ ∧ k_ ≠ gb416))) (fun k_ hk=>(⟨hk,hk.1.2⟩ : _ ∧ k_ ≠ gb417))) (fun _ hk=>hk.1.2) (.bool true)) (fun _ hk=>hk.1.2) (.slice Ao53 t419.length co53)) (fun _ hk=>hk.1.2) (.slice Ao55 t422.length co55)) (fun _ hk=>hk.2) (.bool t425)) (fun _ hk=>hk.2) (.slice Ao58 t426.length co58)) (fun _ hk=>hk.2) (.slice Ao60 t429.length co60)) (fun _ hk=>⟨hk.1.1.1,hk.1.1.2⟩)⟩
  have n4_ : Aside0 (((((((w51.setCell ⟨gb416,0,none⟩ (.bool true)).setCell ⟨gb416,1,none⟩ (.slice Ao53 t419.length co53)).setCell ⟨gb416,2,none⟩ (.slice Ao55 t422.length co55)).setCell ⟨gb417,0,none⟩ (.bool t425)).setCell ⟨gb417,1,none⟩ (.slice Ao58 t426.length co58)).setCell ⟨gb417,2,none⟩ (.slice Ao60 t429.length co60)).heap[gb416]? = some (.cells #[.bool true,.slice Ao53 t419.length co53,.slice Ao55 t422.length co55] 50 (0,0))):=⟨by (with_reducible repeat (first | apply kn_ | apply kd_ | apply ka_)); refine blk_far ?_ NB416_417.out _; (with_reducible repeat (first | apply kn_ | apply kd_ | apply ka_)); refine blk_far ?_ NB416_417.out _; (with_reducible repeat (first | apply kn_ | apply kd_ | apply ka_)); refine blk_far ?_ NB416_417.out _; (with_reducible repeat (first | apply kn_ | apply kd_ | apply ka_)); refine blk_put (cs:=#[.bool true,.slice Ao53 t419.length co53,.slice A0_2 l0_2.length c0_2]) ?_ 2 _ rfl; (with_reducible repeat (first | apply kn_ | apply kd_ | apply ka_)); refine blk_put (cs:=#[.bool true,.slice A0_1 l0_1.length c0_1,.slice A0_2 l0_2.length c0_2]) ?_ 1 _ rfl; (with_reducible repeat (first | apply kn_ | apply kd_ | apply ka_)); refine blk_put (cs:=#[.bool a0_0,.slice A0_1 l0_1.length c0_1,.slice A0_2 l0_2.length c0_2]) ?_ 0 _ rfl; (with_reducible repeat (first | apply kn_ | apply kd_ | apply ka_)); exact BK416.out⟩
  have n5_ : Aside0 (((((((w51.setCell ⟨gb416,0,none⟩ (.bool true)).setCell ⟨gb416,1,none⟩ (.slice Ao53 t419.length co53)).setCell ⟨gb416,2,none⟩ (.slice Ao55 t422.length co55)).setCell ⟨gb417,0,none⟩ (.bool t425)).setCell ⟨gb417,1,none⟩ (.slice Ao58 t426.length co58)).setCell ⟨gb417,2,none⟩ (.slice Ao60 t429.length co60)).heap[gb417]? = some (.cells #[.bool t425,.slice Ao58 t426.length co58,.slice Ao60 t429.length co60] 50 (0,0))):=⟨by (with_reducible repeat (first | apply kn_ | apply kd_ | apply ka_)); refine blk_put (cs:=#[.bool t425,.slice Ao58 t426.length co58,.slice A1_2 l1_2.length c1_2]) ?_ 2 _ rfl; (with_reducible repeat (first | apply kn_ | apply kd_ | apply ka_)); refine blk_put (cs:=#[.bool t425,.slice A1_1 l1_1.length c1_1,.slice A1_2 l1_2.length c1_2]) ?_ 1 _ rfl; (with_reducible repeat (first | apply kn_ | apply kd_ | apply ka_)); refine blk_put (cs:=#[.bool a1_0,.slice A1_1 l1_1.length c1_1,.slice A1_2 l1_2.length c1_2]) ?_ 0 _ rfl; (with_reducible repeat (first | apply kn_ | apply kd_ | apply ka_)); refine blk_far ?_ NB417_416.out _; (with_reducible repeat (first | apply kn_ | apply kd_ | apply ka_)); refine blk_far ?_ NB417_416.out _; (with_reducible repeat (first | apply kn_ | apply kd_ | apply ka_)); refine blk_far ?_ NB417_416.out _; (with_reducible repeat (first | apply kn_ | apply kd_ | apply ka_)); exact BK417.out⟩
  have n6_ : Aside0 (Below w.heap.size w ((((((w51.setCell ⟨gb416,0,none⟩ (.bool true)).setCell ⟨gb416,1,none⟩ (.slice Ao53 t419.length co53)).setCell ⟨gb416,2,none⟩ (.slice Ao55 t422.length co55)).setCell ⟨gb417,0,none⟩ (.bool t425)).setCell ⟨gb417,1,none⟩ (.slice Ao58 t426.length co58)).setCell ⟨gb417,2,none⟩ (.slice Ao60 t429.length co60))):=⟨bh_⟩
  (try clear HO421)
  (try clear HO424)
  (try clear HO428)
  (try clear HO431)
  (try clear BK416)
  (try clear BK417)
  (try clear HB)
  generalize ((((((w51.setCell ⟨gb416,0,none⟩ (.bool true)).setCell ⟨gb416,1,none⟩ (.slice Ao53 t419.length co53)).setCell ⟨gb416,2,none⟩ (.slice Ao55 t422.length co55)).setCell ⟨gb417,0,none⟩ (.bool t425)).setCell ⟨gb417,1,none⟩ (.slice Ao58 t426.length co58)).setCell ⟨gb417,2,none⟩ (.slice Ao60 t429.length co60)) = w65 at n0_ n1_ n2_ n3_ n4_ n5_ n6_ ⊢
  have HO421:=n0_
  have HO424:=n1_
  have HO428:=n2_
  have HO431:=n3_
  have BK416:=n4_
  have BK417:=n5_
  have HB:=n6_
  clear n0_ n1_ n2_ n3_ n4_ n5_ n6_
  have n0_:=Aside0.mk (Kd.V_drew HO421.out)
  have n1_:=Aside0.mk (Kd.V_drew HO424.out)
  have n2_:=Aside0.mk (Kd.V_drew HO428.out)
  have n3_:=Aside0.mk (Kd.V_drew HO431.out)
  have n4_:=Aside0.mk (blk_drew BK416.out)
  have n5_:=Aside0.mk (blk_drew BK417.out)
  have n6_:=Aside0.mk (below_drew1 HB.out)
  clear HO421
  clear HO424
  clear HO428
  clear HO431
  clear BK416
  clear BK417
  clear HB
  have HO421:=n0_
  have HO424:=n1_
  have HO428:=n2_
  have HO431:=n3_
  have BK416:=n4_
  have BK417:=n5_
  have HB:=n6_
  clear n0_ n1_ n2_ n3_ n4_ n5_ n6_
  refine start_ (n:=12) (S:=fun w'=>w'.cell? ⟨gb416,0,none⟩ = some (.bool true) ∧ w'.cell? ⟨gb416,1,none⟩ = some (.slice Ao53 t419.length co53) ∧ w'.cell? ⟨gb416,2,none⟩ = some (.slice Ao55 t422.length co55) ∧ w'.cell? ⟨gb417,0,none⟩ = some (.bool t425) ∧ w'.cell? ⟨gb417,1,none⟩ = some (.slice Ao58 t426.length co58) ∧ w'.cell? ⟨gb417,2,none⟩ = some (.slice Ao60 t429.length co60)) (ds:=[]) #[false,false,false,false,false,false,false,false,false,false,false,false] (by kernel_rfl) rfl rfl ⟨bc_ BK416 0,bc_ BK416 1,bc_ BK416 2,bc_ BK417 0,bc_ BK417 1,bc_ BK417 2⟩ (fun hHeld=>?_); refine with_tabW ratio_R_Cmp.tab6 ratio_R_Cmp.bits6 (fun HT_ HW_=>?_)
  generalize w65.drew = w66 at HO421 HO424 HO428 HO431 BK416 BK417 HB hHeld ⊢
  refine pure_ (i:=0) (N:=some 17) (v:=?_) (a':=?_) #[true,false,false,false,false,false,false,false,false,false,false,false] rfl rfl (any_of HT_.out (by kernel_rfl)) (fun _ _ _ h=>h) (Or.inl ⟨by rfl,?_⟩) ?_ ?_
  rotate_left
  ·
   intro w'
   go_simp
   with_reducible rfl
  rotate_left
  ·
   simp only [Act.put,p1_,p2_,p3_,i64_w,i32_w]
   rfl
  refine pure_ (i:=2) (N:=some 19) (v:=?_) (a':=?_) #[true,false,true,false,false,false,false,false,false,false,false,false] rfl rfl (any_of HT_.out (by kernel_rfl)) (fun _ _ _ h=>h) (Or.inl ⟨by rfl,?_⟩) ?_ ?_
  rotate_left
  ·
   intro w'
   go_simp
   with_reducible rfl
  rotate_left
  ·
   simp only [Act.put,p1_,p2_,p3_,i64_w,i32_w]
   rfl
  refine pure_ (i:=5) (N:=some 22) (v:=?_) (a':=?_) #[true,false,true,false,false,true,false,false,false,false,false,false] rfl rfl (any_of HT_.out (by kernel_rfl)) (fun _ _ _ h=>h) (Or.inl ⟨by rfl,?_⟩) ?_ ?_
  rotate_left
  ·
   intro w'
   go_simp
   with_reducible rfl
  rotate_left
  ·
   simp only [Act.put,p1_,p2_,p3_,i64_w,i32_w]
   rfl
  refine pure_ (i:=7) (N:=some 24) (v:=?_) (a':=?_) #[true,false,true,false,false,true,false,true,false,false,false,false] rfl rfl (any_of HT_.out (by kernel_rfl)) (fun _ _ _ h=>h) (Or.inl ⟨by rfl,?_⟩) ?_ ?_
  rotate_left
  ·
   intro w'
   go_simp
   with_reducible rfl
  rotate_left
  ·
   simp only [Act.put,p1_,p2_,p3_,i64_w,i32_w]
   rfl
  refine take_ (i:=1) (N:=some 18) (v:=?_) (a':=?_) #[true,true,true,false,false,true,false,true,false,false,false,false] rfl rfl (take_ofW HT_.out HW_.out (by kernel_rfl)) (fun _ _ _ h=>h) (Or.inl ⟨by rfl,?_⟩) hHeld ?_ ?_
  rotate_left
  ·
   rintro w' ⟨s0,s1,s2,s3,s4,s5⟩
   go_simp
   with_reducible rfl
  rotate_left
  ·
   simp only [Act.put,p1_,p2_,p3_,i64_w,i32_w]
   rfl
  refine take_ (i:=3) (N:=some 20) (v:=?_) (a':=?_) #[true,true,true,true,false,true,false,true,false,false,false,false] rfl rfl (take_ofW HT_.out HW_.out (by kernel_rfl)) (fun _ _ _ h=>h) (Or.inl ⟨by rfl,?_⟩) hHeld ?_ ?_
  rotate_left
  ·
   rintro w' ⟨s0,s1,s2,s3,s4,s5⟩
   go_simp
   with_reducible rfl
  rotate_left
  ·
   simp only [Act.put,p1_,p2_,p3_,i64_w,i32_w]
   rfl
  refine take_ (i:=6) (N:=some 23) (v:=?_) (a':=?_) #[true,true,true,true,false,true,true,true,false,false,false,false] rfl rfl (take_ofW HT_.out HW_.out (by kernel_rfl)) (fun _ _ _ h=>h) (Or.inl ⟨by rfl,?_⟩) hHeld ?_ ?_
  rotate_left
  ·
   rintro w' ⟨s0,s1,s2,s3,s4,s5⟩
   go_simp
   with_reducible rfl
  rotate_left
  ·
   simp only [Act.put,p1_,p2_,p3_,i64_w,i32_w]
   rfl
  refine take_ (i:=8) (N:=some 25) (v:=?_) (a':=?_) #[true,true,true,true,false,true,true,true,true,false,false,false] rfl rfl (take_ofW HT_.out HW_.out (by kernel_rfl)) (fun _ _ _ h=>h) (Or.inl ⟨by rfl,?_⟩) hHeld ?_ ?_
  rotate_left
  ·
   rintro w' ⟨s0,s1,s2,s3,s4,s5⟩
   go_simp
   with_reducible rfl
  rotate_left
  ·
   simp only [Act.put,p1_,p2_,p3_,i64_w,i32_w]
   rfl
  refine one_ (i:=4) (N:=some 21) #[true,true,true,true,true,true,true,true,true,false,false,false] rfl rfl (one_of HT_.out (by kernel_rfl)) (by decide) (fun K hK=>?_)
  refine goesN_ Try.func67 (by kernel_rfl) rfl [.slice Ao53 t419.length co53,.slice Ao60 t429.length co60] (by rfl) rfl rfl (by rfl) ?_
  with_reducible refine (nat_Nat_Mul.calls k _ _ t419 _ _ t429 t432 _ ?side1 ?side2 ?side3 ?side4 A43.out).mono ?_
  (case side1=>repeat first | exact (Kd.V_reads' HO421.out).2.2 | with_reducible first | apply ca_ | apply cn_ | apply cd_)
  (case side2=>exact (Kd.V_reads' HO421.out).2.1)
  (case side3=>repeat first | exact (Kd.V_reads' HO431.out).2.2 | with_reducible first | apply ca_ | apply cn_ | apply cd_)
  (case side4=>exact (Kd.V_reads' HO431.out).2.1)
  rintro e w67 ⟨v433,rfl,ho0,hb⟩
  refine ⟨_,rfl,?_⟩
  have n1_:=vb_ HO424 hb
  have n2_:=vb_ HO428 hb
  have n4_:=Aside0.mk (Kd.V_lower (Kd.V_mono (ok':=fun k_=>k_ ≠ gb416 ∧ k_ ≠ gb417) ho0 (fun k_ hk_=>⟨(fb_ BK416 k_ hk_),(fb_ BK417 k_ hk_)⟩)) (below_size bh_))
  have n5_:=kb_ BK416 hb
  have n6_:=kb_ BK417 hb
  have n7_:=bq_ hb
  (try clear BK416)
  (try clear BK417)
  (try clear HB)
  (try clear HO424)
  (try clear HO428)
  have HO424:=n1_
  have HO428:=n2_
  have HO434:=n4_
  have BK416:=n5_
  have BK417:=n6_
  have HB:=n7_
  clear n1_ n2_ n4_ n5_ n6_ n7_
  (try clear hb)
  (try clear hb2)
  (try clear hk)
  (try clear hi)
  (try clear ho0)
  refine hK.out _ _ ⟨bc_ BK416 0,bc_ BK416 1,bc_ BK416 2,bc_ BK417 0,bc_ BK417 1,bc_ BK417 2⟩ (fun hHeld=>?_)
  clear hK K
  refine norm_ (a':=?_) ?_ ?_
  rotate_left
  ·
   show Act.put _ (some 21) _ = _
   simp only [Act.put,p1_,p2_,p3_,i64_w,i32_w]
   rfl
  refine one_ (i:=9) (N:=some 26) #[true,true,true,true,true,true,true,true,true,true,false,false] rfl rfl (one_of HT_.out (by kernel_rfl)) (by decide) (fun K hK=>?_)
  refine goesN_ Try.func67 (by kernel_rfl) rfl [.slice Ao58 t426.length co58,.slice Ao55 t422.length co55] (by rfl) rfl rfl (by rfl) ?_
  with_reducible refine (nat_Nat_Mul.calls k _ _ t426 _ _ t422 t435 _ ?side1 ?side2 ?side3 ?side4 A44.out).mono ?_
  (case side1=>repeat first | exact (Kd.V_reads' HO428.out).2.2 | with_reducible first | apply ca_ | apply cn_ | apply cd_)
  (case side2=>exact (Kd.V_reads' HO428.out).2.1)
  (case side3=>repeat first | exact (Kd.V_reads' HO424.out).2.2 | with_reducible first | apply ca_ | apply cn_ | apply cd_)
  (case side4=>exact (Kd.V_reads' HO424.out).2.1)
  rintro e w68 ⟨v436,rfl,ho0,hb⟩
  refine ⟨_,rfl,?_⟩
  have n4_:=vb_ HO434 hb
  have n5_:=Aside0.mk (Kd.V_lower (Kd.V_mono (ok':=fun k_=>k_ ≠ gb416 ∧ k_ ≠ gb417) ho0 (fun k_ hk_=>⟨(fb_ BK416 k_ hk_),(fb_ BK417 k_ hk_)⟩)) (below_size bh_))
  have n6_:=kb_ BK416 hb
  have n7_:=kb_ BK417 hb
  have n8_:=bq_ hb
  (try clear BK416)
  (try clear BK417)
  (try clear HB)
  (try clear HO434)
  have HO434:=n4_
  have HO437:=n5_
  have BK416:=n6_
  have BK417:=n7_
  have HB:=n8_
  clear n4_ n5_ n6_ n7_ n8_
  (try clear hb)
  (try clear hb2)
  (try clear hk)
  (try clear hi)
  (try clear ho0)
  obtain ⟨Ao69,co69,eo69⟩:=Kd.V_slice HO434.out
  (first | subst eo69 | (injection eo69 with f1_ f2_ f3_; have f4_:=f1_.symm; have f5_:=f3_.symm; clear f1_ f2_ f3_; subst f4_; subst f5_))
  obtain ⟨Ao70,co70,eo70⟩:=Kd.V_slice HO437.out
  (first | subst eo70 | (injection eo70 with f1_ f2_ f3_; have f4_:=f1_.symm; have f5_:=f3_.symm; clear f1_ f2_ f3_; subst f4_; subst f5_))
  refine hK.out _ _ ⟨bc_ BK416 0,bc_ BK416 1,bc_ BK416 2,bc_ BK417 0,bc_ BK417 1,bc_ BK417 2⟩ (fun hHeld=>?_)
  clear hK K
  refine norm_ (a':=?_) ?_ ?_
  rotate_left
  ·
   show Act.put _ (some 26) _ = _
   simp only [Act.put,p1_,p2_,p3_,i64_w,i32_w]
   rfl
  refine one_ (i:=10) (N:=some 27) #[true,true,true,true,true,true,true,true,true,true,true,false] rfl rfl (one_of HT_.out (by kernel_rfl)) (by decide) (fun K hK=>?_)
  refine goesN_ Try.func75 (by kernel_rfl) rfl [.slice Ao69 t432.length co69,.slice Ao70 t435.length co70] (by rfl) rfl rfl (by rfl) ?_
  with_reducible refine (nat_Nat_Cmp.calls k _ _ t432 _ _ t435 t438 _ ?side1 ?side2 ?side3 ?side4 A45.out).mono ?_
  (case side1=>repeat first | exact (Kd.V_reads' HO434.out).2.2 | with_reducible first | apply ca_ | apply cn_ | apply cd_)
  (case side2=>exact (Kd.V_reads' HO434.out).2.1)
  (case side3=>repeat first | exact (Kd.V_reads' HO437.out).2.2 | with_reducible first | apply ca_ | apply cn_ | apply cd_)
  (case side4=>exact (Kd.V_reads' HO437.out).2.1)
  rintro e w' ⟨rfl,⟨nd,rfl⟩⟩
  refine ⟨_,rfl,?_⟩
  refine hK.out _ _ ⟨bc_ BK416 0,bc_ BK416 1,bc_ BK416 2,bc_ BK417 0,bc_ BK417 1,bc_ BK417 2⟩ (fun hHeld=>?_)
  clear hK K
  refine norm_ (a':=?_) ?_ ?_
  rotate_left
  ·
   show Act.put _ (some 27) _ = _
   simp only [Act.put,p1_,p2_,p3_,i64_w,i32_w]
   rfl
  refine pure_ (i:=11) (N:=some 5) (v:=?_) (a':=?_) #[true,true,true,true,true,true,true,true,true,true,true,true] rfl rfl (any_of HT_.out (by kernel_rfl)) (fun _ _ _ h=>h) (Or.inl ⟨by rfl,?_⟩) ?_ ?_
  rotate_left
  ·
   intro w'
   go_simp
   with_reducible rfl
  rotate_left
  ·
   simp only [Act.put,p1_,p2_,p3_,i64_w,i32_w]
   rfl
  refine done_ (done_of HT_.out (by kernel_rfl)) ?_
  have hcz71_0 : w68.cell? ⟨gb416,0,none⟩ = some (.bool true):=bc_ BK416 0
  have hcz71_1 : w68.cell? ⟨gb416,1,none⟩ = some (.slice Ao53 t419.length co53):=bc_ BK416 1
  have hcz71_2 : w68.cell? ⟨gb416,2,none⟩ = some (.slice Ao55 t422.length co55):=bc_ BK416 2
  have hfz71_0:=blk_frozen BK416.out 0
  have hfz71_1:=blk_frozen BK416.out 1
  have hfz71_2:=blk_frozen BK416.out 2
  try go_wp2
  go_ret
  exact ⟨eh_,bh_⟩
 replace c46:=Bool.eq_false_iff.mpr c46
 subst c46
 have H1 : (some t438) = some r:=by rw [if_neg (show ¬ (false = true) by decide)] at H; exact H
 clear H
 have H:=H1
 clear H1
 obtain rfl:=Option.some.inj H
 (try simp only [c5b0])
 with_reducible refine (ratio_R_low.calls k a0_0 (fun k_=>k_ < w.heap.size) _ _ l0_1 (fun k_=>k_ < w.heap.size) _ _ l0_2 false t419 t422 _ ?side1 ?side2 A3.out).mono ?_
 (case side1=>exact Kd.V_mk HC0_1.out (Kd.F_below (Kd.C_F (Kd.heap_int .u32) HR0_1.out) bh_))
 (case side2=>exact Kd.V_mk HC0_2.out (Kd.F_below (Kd.C_F (Kd.heap_int .u32) HR0_2.out) bh_))
 rintro e w75 ⟨v420,v423,rfl,ho0,ho1,hb⟩
 refine ⟨_,rfl,?_⟩
 have n0_:=Aside0.mk (Kd.V_lower (Kd.V_mono (ok':=fun k_=>k_ ≠ gb416 ∧ k_ ≠ gb417) ho0 (fun k_ hk_=>⟨Or.elim hk_ (fun hs_=>Or.elim hs_ (fun hs_=>fun e_=>Nat.not_le.2 hs_ (by rw [e_]; exact GW416.out)) (fun hs_=>fun e_=>Nat.not_le.2 hs_ (by rw [e_]; exact GW416.out))) (fun hn_=>(fb_ BK416 k_ hn_)),Or.elim hk_ (fun hs_=>Or.elim hs_ (fun hs_=>fun e_=>Nat.not_le.2 hs_ (by rw [e_]; exact GW417.out)) (fun hs_=>fun e_=>Nat.not_le.2 hs_ (by rw [e_]; exact GW417.out))) (fun hn_=>(fb_ BK417 k_ hn_))⟩)) (below_size bh_))
 have n1_:=Aside0.mk (Kd.V_lower (Kd.V_mono (ok':=fun k_=>k_ ≠ gb416 ∧ k_ ≠ gb417) ho1 (fun k_ hk_=>⟨Or.elim hk_ (fun hs_=>Or.elim hs_ (fun hs_=>fun e_=>Nat.not_le.2 hs_ (by rw [e_]; exact GW416.out)) (fun hs_=>fun e_=>Nat.not_le.2 hs_ (by rw [e_]; exact GW416.out))) (fun hn_=>(fb_ BK416 k_ hn_)),Or.elim hk_ (fun hs_=>Or.elim hs_ (fun hs_=>fun e_=>Nat.not_le.2 hs_ (by rw [e_]; exact GW417.out)) (fun hs_=>fun e_=>Nat.not_le.2 hs_ (by rw [e_]; exact GW417.out))) (fun hn_=>(fb_ BK417 k_ hn_))⟩)) (below_size bh_))
 have n2_:=kb_ BK416 hb
 have n3_:=kb_ BK417 hb
 have n4_:=bq_ hb
 clear BK416
 clear BK417
 clear HB
 have HO421:=n0_
 have HO424:=n1_
 have BK416:=n2_
 have BK417:=n3_
 have HB:=n4_
 clear n0_ n1_ n2_ n3_ n4_
 (try clear hb)
 (try clear hb2)
 (try clear hk)
 (try clear hi)
 (try clear ho0)
 (try clear ho1)
 refine hK.out _ _ ⟨bc_ BK416 0,bc_ BK416 1,bc_ BK416 2,bc_ BK417 0,bc_ BK417 1,bc_ BK417 2⟩ (fun hHeld=>?_)
 clear hK K
 refine norm_ (a':=?_) ?_ ?_
 rotate_left
 ·
  show Act.put _ (some 7) _ = _
  simp only [Act.put,p1_,p2_,p3_,i64_w,i32_w]
  rfl
 refine one_ (i:=3) (N:=some 9) #[true,true,true,true,false,false] rfl rfl (by kernel_rfl) (by decide) (fun K hK=>?_)
 refine goesN_ Try.func74 (by kernel_rfl) rfl [.agg #[.bool a1_0,.slice A1_1 l1_1.length c1_1,.slice A1_2 l1_2.length c1_2]] (by rfl) rfl rfl (by rfl) ?_
 with_reducible refine (ratio_R_low.calls k a1_0 (fun k_=>k_ < w.heap.size) _ _ l1_1 (fun k_=>k_ < w.heap.size) _ _ l1_2 t425 t426 t429 _ ?side1 ?side2 A4.out).mono ?_
 (case side1=>exact Kd.V_mk HC1_1.out (Kd.F_below (Kd.C_F (Kd.heap_int .u32) HR1_1.out) bh_))
 (case side2=>exact Kd.V_mk HC1_2.out (Kd.F_below (Kd.C_F (Kd.heap_int .u32) HR1_2.out) bh_))
 rintro e w76 ⟨v427,v430,rfl,ho0,ho1,hb⟩
 refine ⟨_,rfl,?_⟩
 have n0_:=vb_ HO421 hb
 have n1_:=vb_ HO424 hb
 have n2_:=Aside0.mk (Kd.V_lower (Kd.V_mono (ok':=fun k_=>k_ ≠ gb416 ∧ k_ ≠ gb417) ho0 (fun k_ hk_=>⟨Or.elim hk_ (fun hs_=>Or.elim hs_ (fun hs_=>fun e_=>Nat.not_le.2 hs_ (by rw [e_]; exact GW416.out)) (fun hs_=>fun e_=>Nat.not_le.2 hs_ (by rw [e_]; exact GW416.out))) (fun hn_=>(fb_ BK416 k_ hn_)),Or.elim hk_ (fun hs_=>Or.elim hs_ (fun hs_=>fun e_=>Nat.not_le.2 hs_ (by rw [e_]; exact GW417.out)) (fun hs_=>fun e_=>Nat.not_le.2 hs_ (by rw [e_]; exact GW417.out))) (fun hn_=>(fb_ BK417 k_ hn_))⟩)) (below_size bh_))
 have n3_:=Aside0.mk (Kd.V_lower (Kd.V_mono (ok':=fun k_=>k_ ≠ gb416 ∧ k_ ≠ gb417) ho1 (fun k_ hk_=>⟨Or.elim hk_ (fun hs_=>Or.elim hs_ (fun hs_=>fun e_=>Nat.not_le.2 hs_ (by rw [e_]; exact GW416.out)) (fun hs_=>fun e_=>Nat.not_le.2 hs_ (by rw [e_]; exact GW416.out))) (fun hn_=>(fb_ BK416 k_ hn_)),Or.elim hk_ (fun hs_=>Or.elim hs_ (fun hs_=>fun e_=>Nat.not_le.2 hs_ (by rw [e_]; exact GW417.out)) (fun hs_=>fun e_=>Nat.not_le.2 hs_ (by rw [e_]; exact GW417.out))) (fun hn_=>(fb_ BK417 k_ hn_))⟩)) (below_size bh_))
 have n4_:=kb_ BK416 hb
 have n5_:=kb_ BK417 hb
 have n6_:=bq_ hb
 clear HO421
 clear HO424
 clear BK416
 clear BK417
 clear HB
 have HO421:=n0_
 have HO424:=n1_
 have HO428:=n2_
 have HO431:=n3_
 have BK416:=n4_
 have BK417:=n5_
 have HB:=n6_
 clear n0_ n1_ n2_ n3_ n4_ n5_ n6_
 (try clear hb)
 (try clear hb2)
 (try clear hk)
 (try clear hi)
 (try clear ho0)
 (try clear ho1)
 obtain ⟨Ao78,co78,eo78⟩:=Kd.V_slice HO421.out
 (first | subst eo78 | (injection eo78 with f1_ f2_ f3_; have f4_:=f1_.symm; have f5_:=f3_.symm; clear f1_ f2_ f3_; subst f4_; subst f5_))
 obtain ⟨Ao80,co80,eo80⟩:=Kd.V_slice HO424.out
 (first | subst eo80 | (injection eo80 with f1_ f2_ f3_; have f4_:=f1_.symm; have f5_:=f3_.symm; clear f1_ f2_ f3_; subst f4_; subst f5_))
 obtain ⟨Ao83,co83,eo83⟩:=Kd.V_slice HO428.out
 (first | subst eo83 | (injection eo83 with f1_ f2_ f3_; have f4_:=f1_.symm; have f5_:=f3_.symm; clear f1_ f2_ f3_; subst f4_; subst f5_))
 obtain ⟨Ao85,co85,eo85⟩:=Kd.V_slice HO431.out
 (first | subst eo85 | (injection eo85 with f1_ f2_ f3_; have f4_:=f1_.symm; have f5_:=f3_.symm; clear f1_ f2_ f3_; subst f4_; subst f5_))
 refine hK.out _ _ ⟨bc_ BK416 0,bc_ BK416 1,bc_ BK416 2,bc_ BK417 0,bc_ BK417 1,bc_ BK417 2⟩ (fun hHeld=>?_)
 clear hK K
 refine norm_ (a':=?_) ?_ ?_
 rotate_left
 ·
  show Act.put _ (some 9) _ = _
  simp only [Act.put,p1_,p2_,p3_,i64_w,i32_w]
  rfl
 refine last_ (i:=4) (N:=none) #[true,true,true,true,true,false] rfl rfl (by kernel_rfl) (by decide) (fun K hK=>?_)
 have hs77 : w76.cell? ⟨gb416,0,none⟩ = some (.bool a0_0):=bc_ BK416 0
 have hfs77:=blk_frozen BK416.out 0
 have hns77_1:=NB417_416.out
 have hms77_1:=NB416_417.out
 have hs79 : w76.cell? ⟨gb416,1,none⟩ = some (.slice A0_1 l0_1.length c0_1):=bc_ BK416 1
 have hfs79:=blk_frozen BK416.out 1
 have hns79_1:=NB417_416.out
 have hms79_1:=NB416_417.out
 have hs81 : w76.cell? ⟨gb416,2,none⟩ = some (.slice A0_2 l0_2.length c0_2):=bc_ BK416 2
 have hfs81:=blk_frozen BK416.out 2
 have hns81_1:=NB417_416.out
 have hms81_1:=NB416_417.out
 refine skip_ (w1:=?_) (by rfl) rfl ?_ ?_
 rotate_left
 ·
  go_simp
  rfl
 refine hK.out _ _ ?_
 clear hK K
 refine last_ (i:=5) (N:=none) #[true,true,true,true,true,true] rfl rfl (by kernel_rfl) (by decide) (fun K hK=>?_)
 have hs82 : w76.cell? ⟨gb417,0,none⟩ = some (.bool a1_0):=bc_ BK417 0
 have hfs82:=blk_frozen BK417.out 0
 have hns82_0:=NB416_417.out
 have hms82_0:=NB417_416.out
 have hs84 : w76.cell? ⟨gb417,1,none⟩ = some (.slice A1_1 l1_1.length c1_1):=bc_ BK417 1
 have hfs84:=blk_frozen BK417.out 1
 have hns84_0:=NB416_417.out
 have hms84_0:=NB417_416.out
 have hs86 : w76.cell? ⟨gb417,2,none⟩ = some (.slice A1_2 l1_2.length c1_2):=bc_ BK417 2
 have hfs86:=blk_frozen BK417.out 2
 have hns86_0:=NB416_417.out
 have hms86_0:=NB417_416.out
 refine skip_ (w1:=?_) (by rfl) rfl ?_ ?_
 rotate_left
 ·
  go_simp
  rfl
 refine hK.out _ _ ?_
 clear hK K
 refine done_ (by kernel_rfl) ?_
 have hnb87:=NB416_417.out
 have hnc87:=NB417_416.out
 have hcz88_0 : w76.cell? ⟨gb416,0,none⟩ = some (.bool a0_0):=bc_ BK416 0
 have hcz88_1 : w76.cell? ⟨gb416,1,none⟩ = some (.slice A0_1 l0_1.length c0_1):=bc_ BK416 1
 have hcz88_2 : w76.cell? ⟨gb416,2,none⟩ = some (.slice A0_2 l0_2.length c0_2):=bc_ BK416 2
 have hfz88_0:=blk_frozen BK416.out 0
 have hfz88_1:=blk_frozen BK416.out 1
 have hfz88_2:=blk_frozen BK416.out 2
 have hcz89_0 : w76.cell? ⟨gb417,0,none⟩ = some (.bool a1_0):=bc_ BK417 0
 have hcz89_1 : w76.cell? ⟨gb417,1,none⟩ = some (.slice A1_1 l1_1.length c1_1):=bc_ BK417 1
 have hcz89_2 : w76.cell? ⟨gb417,2,none⟩ = some (.slice A1_2 l1_2.length c1_2):=bc_ BK417 2
 have hfz89_0:=blk_frozen BK417.out 0
 have hfz89_1:=blk_frozen BK417.out 1
 have hfz89_2:=blk_frozen BK417.out 2
 try go_wp2
 have n0_ : Aside0 (Kd.V (Kd.int .u32) 123 ((((((w76.setCell ⟨gb416,0,none⟩ (.bool false)).setCell ⟨gb416,1,none⟩ (.slice Ao78 t419.length co78)).setCell ⟨gb416,2,none⟩ (.slice Ao80 t422.length co80)).setCell ⟨gb417,0,none⟩ (.bool t425)).setCell ⟨gb417,1,none⟩ (.slice Ao83 t426.length co83)).setCell ⟨gb417,2,none⟩ (.slice Ao85 t429.length co85)) w.heap.size (fun k_=>k_ ≠ gb416 ∧ k_ ≠ gb417) (.slice Ao78 t419.length co78) t419):=⟨by (with_reducible repeat (first | apply va_ | apply vn_ | apply vd_)); exact Kd.V_mono (Kd.V_far (p:=⟨gb417,2,none⟩) (Kd.V_far (p:=⟨gb417,1,none⟩) (Kd.V_far (p:=⟨gb417,0,none⟩) (Kd.V_far (p:=⟨gb416,2,none⟩) (Kd.V_far (p:=⟨gb416,1,none⟩) (Kd.V_far (p:=⟨gb416,0,none⟩) (Kd.V_mono (Kd.V_mono HO421.out (fun k_ hk=>(⟨hk,hk.1⟩ : _ ∧ k_ ≠ gb416))) (fun k_ hk=>(⟨hk,hk.1.2⟩ : _ ∧ k_ ≠ gb417))) (fun _ hk=>hk.1.2) (.bool false)) (fun _ hk=>hk.1.2) (.slice Ao78 t419.length co78)) (fun _ hk=>hk.1.2) (.slice Ao80 t422.length co80)) (fun _ hk=>hk.2) (.bool t425)) (fun _ hk=>hk.2) (.slice Ao83 t426.length co83)) (fun _ hk=>hk.2) (.slice Ao85 t429.length co85)) (fun _ hk=>⟨hk.1.1.1,hk.1.1.2⟩)⟩
 have n1_ : Aside0 (Kd.V (Kd.int .u32) 123 ((((((w76.setCell ⟨gb416,0,none⟩ (.bool false)).setCell ⟨gb416,1,none⟩ (.slice Ao78 t419.length co78)).setCell ⟨gb416,2,none⟩ (.slice Ao80 t422.length co80)).setCell ⟨gb417,0,none⟩ (.bool t425)).setCell ⟨gb417,1,none⟩ (.slice Ao83 t426.length co83)).setCell ⟨gb417,2,none⟩ (.slice Ao85 t429.length co85)) w.heap.size (fun k_=>k_ ≠ gb416 ∧ k_ ≠ gb417) (.slice Ao80 t422.length co80) t422):=⟨by (with_reducible repeat (first | apply va_ | apply vn_ | apply vd_)); exact Kd.V_mono (Kd.V_far (p:=⟨gb417,2,none⟩) (Kd.V_far (p:=⟨gb417,1,none⟩) (Kd.V_far (p:=⟨gb417,0,none⟩) (Kd.V_far (p:=⟨gb416,2,none⟩) (Kd.V_far (p:=⟨gb416,1,none⟩) (Kd.V_far (p:=⟨gb416,0,none⟩) (Kd.V_mono (Kd.V_mono HO424.out (fun k_ hk=>(⟨hk,hk.1⟩ : _ ∧ k_ ≠ gb416))) (fun k_ hk=>(⟨hk,hk.1.2⟩ : _ ∧ k_ ≠ gb417))) (fun _ hk=>hk.1.2) (.bool false)) (fun _ hk=>hk.1.2) (.slice Ao78 t419.length co78)) (fun _ hk=>hk.1.2) (.slice Ao80 t422.length co80)) (fun _ hk=>hk.2) (.bool t425)) (fun _ hk=>hk.2) (.slice Ao83 t426.length co83)) (fun _ hk=>hk.2) (.slice Ao85 t429.length co85)) (fun _ hk=>⟨hk.1.1.1,hk.1.1.2⟩)⟩
 have n2_ : Aside0 (Kd.V (Kd.int .u32) 123 ((((((w76.setCell ⟨gb416,0,none⟩ (.bool false)).setCell ⟨gb416,1,none⟩ (.slice Ao78 t419.length co78)).setCell ⟨gb416,2,none⟩ (.slice Ao80 t422.length co80)).setCell ⟨gb417,0,none⟩ (.bool t425)).setCell ⟨gb417,1,none⟩ (.slice Ao83 t426.length co83)).setCell ⟨gb417,2,none⟩ (.slice Ao85 t429.length co85)) w.heap.size (fun k_=>k_ ≠ gb416 ∧ k_ ≠ gb417) (.slice Ao83 t426.length co83) t426):=⟨by (with_reducible repeat (first | apply va_ | apply vn_ | apply vd_)); exact Kd.V_mono (Kd.V_far (p:=⟨gb417,2,none⟩) (Kd.V_far (p:=⟨gb417,1,none⟩) (Kd.V_far (p:=⟨gb417,0,none⟩) (Kd.V_far (p:=⟨gb416,2,none⟩) (Kd.V_far (p:=⟨gb416,1,none⟩) (Kd.V_far (p:=⟨gb416,0,none⟩) (Kd.V_mono (Kd.V_mono HO428.out (fun k_ hk=>(⟨hk,hk.1⟩ : _ ∧ k_ ≠ gb416))) (fun k_ hk=>(⟨hk,hk.1.2⟩ : _ ∧ k_ ≠ gb417))) (fun _ hk=>hk.1.2) (.bool false)) (fun _ hk=>hk.1.2) (.slice Ao78 t419.length co78)) (fun _ hk=>hk.1.2) (.slice Ao80 t422.length co80)) (fun _ hk=>hk.2) (.bool t425)) (fun _ hk=>hk.2) (.slice Ao83 t426.length co83)) (fun _ hk=>hk.2) (.slice Ao85 t429.length co85)) (fun _ hk=>⟨hk.1.1.1,hk.1.1.2⟩)⟩
 have n3_ : Aside0 (Kd.V (Kd.int .u32) 123 ((((((w76.setCell ⟨gb416,0,none⟩ (.bool false)).setCell ⟨gb416,1,none⟩ (.slice Ao78 t419.length co78)).setCell ⟨gb416,2,none⟩ (.slice Ao80 t422.length co80)).setCell ⟨gb417,0,none⟩ (.bool t425)).setCell ⟨gb417,1,none⟩ (.slice Ao83 t426.length co83)).setCell ⟨gb417,2,none⟩ (.slice Ao85 t429.length co85)) w.heap.size (fun k_=>k_ ≠ gb416 ∧ k_ ≠ gb417) (.slice Ao85 t429.length co85) t429):=⟨by (with_reducible repeat (first | apply va_ | apply vn_ | apply vd_)); exact Kd.V_mono (Kd.V_far (p:=⟨gb417,2,none⟩) (Kd.V_far (p:=⟨gb417,1,none⟩) (Kd.V_far (p:=⟨gb417,0,none⟩) (Kd.V_far (p:=⟨gb416,2,none⟩) (Kd.V_far (p:=⟨gb416,1,none⟩) (Kd.V_far (p:=⟨gb416,0,none⟩) (Kd.V_mono (Kd.V_mono HO431.out (fun k_ hk=>(⟨hk,hk.1⟩ : _ ∧ k_ ≠ gb416))) (fun k_ hk=>(⟨hk,hk.1.2⟩ : _ ∧ k_ ≠ gb417))) (fun _ hk=>hk.1.2) (.bool false)) (fun _ hk=>hk.1.2) (.slice Ao78 t419.length co78)) (fun _ hk=>hk.1.2) (.slice Ao80 t422.length co80)) (fun _ hk=>hk.2) (.bool t425)) (fun _ hk=>hk.2) (.slice Ao83 t426.length co83)) (fun _ hk=>hk.2) (.slice Ao85 t429.length co85)) (fun _ hk=>⟨hk.1.1.1,hk.1.1.2⟩)⟩
 have n4_ : Aside0 (((((((w76.setCell ⟨gb416,0,none⟩ (.bool false)).setCell ⟨gb416,1,none⟩ (.slice Ao78 t419.length co78)).setCell ⟨gb416,2,none⟩ (.slice Ao80 t422.length co80)).setCell ⟨gb417,0,none⟩ (.bool t425)).setCell ⟨gb417,1,none⟩ (.slice Ao83 t426.length co83)).setCell ⟨gb417,2,none⟩ (.slice Ao85 t429.length co85)).heap[gb416]? = some (.cells #[.bool false,.slice Ao78 t419.length co78,.slice Ao80 t422.length co80] 50 (0,0))):=⟨by (with_reducible repeat (first | apply kn_ | apply kd_ | apply ka_)); refine blk_far ?_ NB416_417.out _; (with_reducible repeat (first | apply kn_ | apply kd_ | apply ka_)); refine blk_far ?_ NB416_417.out _; (with_reducible repeat (first | apply kn_ | apply kd_ | apply ka_)); refine blk_far ?_ NB416_417.out _; (with_reducible repeat (first | apply kn_ | apply kd_ | apply ka_)); refine blk_put (cs:=#[.bool false,.slice Ao78 t419.length co78,.slice A0_2 l0_2.length c0_2]) ?_ 2 _ rfl; (with_reducible repeat (first | apply kn_ | apply kd_ | apply ka_)); refine blk_put (cs:=#[.bool false,.slice A0_1 l0_1.length c0_1,.slice A0_2 l0_2.length c0_2]) ?_ 1 _ rfl; (with_reducible repeat (first | apply kn_ | apply kd_ | apply ka_)); refine blk_put (cs:=#[.bool a0_0,.slice A0_1 l0_1.length c0_1,.slice A0_2 l0_2.length c0_2]) ?_ 0 _ rfl; (with_reducible repeat (first | apply kn_ | apply kd_ | apply ka_)); exact BK416.out⟩
 have n5_ : Aside0 (((((((w76.setCell ⟨gb416,0,none⟩ (.bool false)).setCell ⟨gb416,1,none⟩ (.slice Ao78 t419.length co78)).setCell ⟨gb416,2,none⟩ (.slice Ao80 t422.length co80)).setCell ⟨gb417,0,none⟩ (.bool t425)).setCell ⟨gb417,1,none⟩ (.slice Ao83 t426.length co83)).setCell ⟨gb417,2,none⟩ (.slice Ao85 t429.length co85)).heap[gb417]? = some (.cells #[.bool t425,.slice Ao83 t426.length co83,.slice Ao85 t429.length co85] 50 (0,0))):=⟨by (with_reducible repeat (first | apply kn_ | apply kd_ | apply ka_)); refine blk_put (cs:=#[.bool t425,.slice Ao83 t426.length co83,.slice A1_2 l1_2.length c1_2]) ?_ 2 _ rfl; (with_reducible repeat (first | apply kn_ | apply kd_ | apply ka_)); refine blk_put (cs:=#[.bool t425,.slice A1_1 l1_1.length c1_1,.slice A1_2 l1_2.length c1_2]) ?_ 1 _ rfl; (with_reducible repeat (first | apply kn_ | apply kd_ | apply ka_)); refine blk_put (cs:=#[.bool a1_0,.slice A1_1 l1_1.length c1_1,.slice A1_2 l1_2.length c1_2]) ?_ 0 _ rfl; (with_reducible repeat (first | apply kn_ | apply kd_ | apply ka_)); refine blk_far ?_ NB417_416.out _; (with_reducible repeat (first | apply kn_ | apply kd_ | apply ka_)); refine blk_far ?_ NB417_416.out _; (with_reducible repeat (first | apply kn_ | apply kd_ | apply ka_)); refine blk_far ?_ NB417_416.out _; (with_reducible repeat (first | apply kn_ | apply kd_ | apply ka_)); exact BK417.out⟩
 have n6_ : Aside0 (Below w.heap.size w ((((((w76.setCell ⟨gb416,0,none⟩ (.bool false)).setCell ⟨gb416,1,none⟩ (.slice Ao78 t419.length co78)).setCell ⟨gb416,2,none⟩ (.slice Ao80 t422.length co80)).setCell ⟨gb417,0,none⟩ (.bool t425)).setCell ⟨gb417,1,none⟩ (.slice Ao83 t426.length co83)).setCell ⟨gb417,2,none⟩ (.slice Ao85 t429.length co85))):=⟨bh_⟩
 (try clear HO421)
 (try clear HO424)
 (try clear HO428)
 (try clear HO431)
 (try clear BK416)
 (try clear BK417)
 (try clear HB)
 generalize ((((((w76.setCell ⟨gb416,0,none⟩ (.bool false)).setCell ⟨gb416,1,none⟩ (.slice Ao78 t419.length co78)).setCell ⟨gb416,2,none⟩ (.slice Ao80 t422.length co80)).setCell ⟨gb417,0,none⟩ (.bool t425)).setCell ⟨gb417,1,none⟩ (.slice Ao83 t426.length co83)).setCell ⟨gb417,2,none⟩ (.slice Ao85 t429.length co85)) = w90 at n0_ n1_ n2_ n3_ n4_ n5_ n6_ ⊢
 have HO421:=n0_
 have HO424:=n1_
 have HO428:=n2_
 have HO431:=n3_
 have BK416:=n4_
 have BK417:=n5_
 have HB:=n6_
 clear n0_ n1_ n2_ n3_ n4_ n5_ n6_
 have n0_:=Aside0.mk (Kd.V_drew HO421.out)
 have n1_:=Aside0.mk (Kd.V_drew HO424.out)
 have n2_:=Aside0.mk (Kd.V_drew HO428.out)
 have n3_:=Aside0.mk (Kd.V_drew HO431.out)
 have n4_:=Aside0.mk (blk_drew BK416.out)
 have n5_:=Aside0.mk (blk_drew BK417.out)
 have n6_:=Aside0.mk (below_drew1 HB.out)
 clear HO421
 clear HO424
 clear HO428
 clear HO431
 clear BK416
 clear BK417
 clear HB
 have HO421:=n0_
 have HO424:=n1_
 have HO428:=n2_
 have HO431:=n3_
 have BK416:=n4_
 have BK417:=n5_
 have HB:=n6_
 clear n0_ n1_ n2_ n3_ n4_ n5_ n6_
 refine start_ (n:=12) (S:=fun w'=>w'.cell? ⟨gb416,0,none⟩ = some (.bool false) ∧ w'.cell? ⟨gb416,1,none⟩ = some (.slice Ao78 t419.length co78) ∧ w'.cell? ⟨gb416,2,none⟩ = some (.slice Ao80 t422.length co80) ∧ w'.cell? ⟨gb417,0,none⟩ = some (.bool t425) ∧ w'.cell? ⟨gb417,1,none⟩ = some (.slice Ao83 t426.length co83) ∧ w'.cell? ⟨gb417,2,none⟩ = some (.slice Ao85 t429.length co85)) (ds:=[]) #[false,false,false,false,false,false,false,false,false,false,false,false] (by kernel_rfl) rfl rfl ⟨bc_ BK416 0,bc_ BK416 1,bc_ BK416 2,bc_ BK417 0,bc_ BK417 1,bc_ BK417 2⟩ (fun hHeld=>?_); refine with_tabW ratio_R_Cmp.tab6 ratio_R_Cmp.bits6 (fun HT_ HW_=>?_)
 generalize w90.drew = w91 at HO421 HO424 HO428 HO431 BK416 BK417 HB hHeld ⊢
 refine pure_ (i:=0) (N:=some 17) (v:=?_) (a':=?_) #[true,false,false,false,false,false,false,false,false,false,false,false] rfl rfl (any_of HT_.out (by kernel_rfl)) (fun _ _ _ h=>h) (Or.inl ⟨by rfl,?_⟩) ?_ ?_
 rotate_left
 ·
  intro w'
  go_simp
  with_reducible rfl
 rotate_left
 ·
  simp only [Act.put,p1_,p2_,p3_,i64_w,i32_w]
  rfl
 refine pure_ (i:=2) (N:=some 19) (v:=?_) (a':=?_) #[true,false,true,false,false,false,false,false,false,false,false,false] rfl rfl (any_of HT_.out (by kernel_rfl)) (fun _ _ _ h=>h) (Or.inl ⟨by rfl,?_⟩) ?_ ?_
 rotate_left
 ·
  intro w'
  go_simp
  with_reducible rfl
 rotate_left
 ·
  simp only [Act.put,p1_,p2_,p3_,i64_w,i32_w]
  rfl
 refine pure_ (i:=5) (N:=some 22) (v:=?_) (a':=?_) #[true,false,true,false,false,true,false,false,false,false,false,false] rfl rfl (any_of HT_.out (by kernel_rfl)) (fun _ _ _ h=>h) (Or.inl ⟨by rfl,?_⟩) ?_ ?_
 rotate_left
 ·
  intro w'
  go_simp
  with_reducible rfl
 rotate_left
 ·
  simp only [Act.put,p1_,p2_,p3_,i64_w,i32_w]
  rfl
 refine pure_ (i:=7) (N:=some 24) (v:=?_) (a':=?_) #[true,false,true,false,false,true,false,true,false,false,false,false] rfl rfl (any_of HT_.out (by kernel_rfl)) (fun _ _ _ h=>h) (Or.inl ⟨by rfl,?_⟩) ?_ ?_
 rotate_left
 ·
  intro w'
  go_simp
  with_reducible rfl
 rotate_left
 ·
  simp only [Act.put,p1_,p2_,p3_,i64_w,i32_w]
  rfl
 refine take_ (i:=1) (N:=some 18) (v:=?_) (a':=?_) #[true,true,true,false,false,true,false,true,false,false,false,false] rfl rfl (take_ofW HT_.out HW_.out (by kernel_rfl)) (fun _ _ _ h=>h) (Or.inl ⟨by rfl,?_⟩) hHeld ?_ ?_
 rotate_left
 ·
  rintro w' ⟨s0,s1,s2,s3,s4,s5⟩
  go_simp
  with_reducible rfl
 rotate_left
 ·
  simp only [Act.put,p1_,p2_,p3_,i64_w,i32_w]
  rfl
 refine take_ (i:=3) (N:=some 20) (v:=?_) (a':=?_) #[true,true,true,true,false,true,false,true,false,false,false,false] rfl rfl (take_ofW HT_.out HW_.out (by kernel_rfl)) (fun _ _ _ h=>h) (Or.inl ⟨by rfl,?_⟩) hHeld ?_ ?_
 rotate_left
 ·
  rintro w' ⟨s0,s1,s2,s3,s4,s5⟩
  go_simp
  with_reducible rfl
 rotate_left
 ·
  simp only [Act.put,p1_,p2_,p3_,i64_w,i32_w]
  rfl
 refine take_ (i:=6) (N:=some 23) (v:=?_) (a':=?_) #[true,true,true,true,false,true,true,true,false,false,false,false] rfl rfl (take_ofW HT_.out HW_.out (by kernel_rfl)) (fun _ _ _ h=>h) (Or.inl ⟨by rfl,?_⟩) hHeld ?_ ?_
 rotate_left
 ·
  rintro w' ⟨s0,s1,s2,s3,s4,s5⟩
  go_simp
  with_reducible rfl
 rotate_left
 ·
  simp only [Act.put,p1_,p2_,p3_,i64_w,i32_w]
  rfl
 refine take_ (i:=8) (N:=some 25) (v:=?_) (a':=?_) #[true,true,true,true,false,true,true,true,true,false,false,false] rfl rfl (take_ofW HT_.out HW_.out (by kernel_rfl)) (fun _ _ _ h=>h) (Or.inl ⟨by rfl,?_⟩) hHeld ?_ ?_
 rotate_left
 ·
  rintro w' ⟨s0,s1,s2,s3,s4,s5⟩
  go_simp
  with_reducible rfl
 rotate_left
 ·
  simp only [Act.put,p1_,p2_,p3_,i64_w,i32_w]
  rfl
 refine one_ (i:=4) (N:=some 21) #[true,true,true,true,true,true,true,true,true,false,false,false] rfl rfl (one_of HT_.out (by kernel_rfl)) (by decide) (fun K hK=>?_)
 refine goesN_ Try.func67 (by kernel_rfl) rfl [.slice Ao78 t419.length co78,.slice Ao85 t429.length co85] (by rfl) rfl rfl (by rfl) ?_
 with_reducible refine (nat_Nat_Mul.calls k _ _ t419 _ _ t429 t432 _ ?side1 ?side2 ?side3 ?side4 A43.out).mono ?_
 (case side1=>repeat first | exact (Kd.V_reads' HO421.out).2.2 | with_reducible first | apply ca_ | apply cn_ | apply cd_)
 (case side2=>exact (Kd.V_reads' HO421.out).2.1)
 (case side3=>repeat first | exact (Kd.V_reads' HO431.out).2.2 | with_reducible first | apply ca_ | apply cn_ | apply cd_)
 (case side4=>exact (Kd.V_reads' HO431.out).2.1)
 rintro e w92 ⟨v433,rfl,ho0,hb⟩
 refine ⟨_,rfl,?_⟩
 have n1_:=vb_ HO424 hb
 have n2_:=vb_ HO428 hb
 have n4_:=Aside0.mk (Kd.V_lower (Kd.V_mono (ok':=fun k_=>k_ ≠ gb416 ∧ k_ ≠ gb417) ho0 (fun k_ hk_=>⟨(fb_ BK416 k_ hk_),(fb_ BK417 k_ hk_)⟩)) (below_size bh_))
 have n5_:=kb_ BK416 hb
 have n6_:=kb_ BK417 hb
 have n7_:=bq_ hb
 (try clear BK416)
 (try clear BK417)
 (try clear HB)
 (try clear HO424)
 (try clear HO428)
 have HO424:=n1_
 have HO428:=n2_
 have HO434:=n4_
 have BK416:=n5_
 have BK417:=n6_
 have HB:=n7_
 clear n1_ n2_ n4_ n5_ n6_ n7_
 (try clear hb)
 (try clear hb2)
 (try clear hk)
 (try clear hi)
 (try clear ho0)
 refine hK.out _ _ ⟨bc_ BK416 0,bc_ BK416 1,bc_ BK416 2,bc_ BK417 0,bc_ BK417 1,bc_ BK417 2⟩ (fun hHeld=>?_)
 clear hK K
 refine norm_ (a':=?_) ?_ ?_
 rotate_left
 ·
  show Act.put _ (some 21) _ = _
  simp only [Act.put,p1_,p2_,p3_,i64_w,i32_w]
  rfl
 refine one_ (i:=9) (N:=some 26) #[true,true,true,true,true,true,true,true,true,true,false,false] rfl rfl (one_of HT_.out (by kernel_rfl)) (by decide) (fun K hK=>?_)
 refine goesN_ Try.func67 (by kernel_rfl) rfl [.slice Ao83 t426.length co83,.slice Ao80 t422.length co80] (by rfl) rfl rfl (by rfl) ?_
 with_reducible refine (nat_Nat_Mul.calls k _ _ t426 _ _ t422 t435 _ ?side1 ?side2 ?side3 ?side4 A44.out).mono ?_
 (case side1=>repeat first | exact (Kd.V_reads' HO428.out).2.2 | with_reducible first | apply ca_ | apply cn_ | apply cd_)
 (case side2=>exact (Kd.V_reads' HO428.out).2.1)
 (case side3=>repeat first | exact (Kd.V_reads' HO424.out).2.2 | with_reducible first | apply ca_ | apply cn_ | apply cd_)
 (case side4=>exact (Kd.V_reads' HO424.out).2.1)
 rintro e w93 ⟨v436,rfl,ho0,hb⟩
 refine ⟨_,rfl,?_⟩
 have n4_:=vb_ HO434 hb
 have n5_:=Aside0.mk (Kd.V_lower (Kd.V_mono (ok':=fun k_=>k_ ≠ gb416 ∧ k_ ≠ gb417) ho0 (fun k_ hk_=>⟨(fb_ BK416 k_ hk_),(fb_ BK417 k_ hk_)⟩)) (below_size bh_))
 have n6_:=kb_ BK416 hb
 have n7_:=kb_ BK417 hb
 have n8_:=bq_ hb
 (try clear BK416)
 (try clear BK417)
 (try clear HB)
 (try clear HO434)
 have HO434:=n4_
 have HO437:=n5_
 have BK416:=n6_
 have BK417:=n7_
 have HB:=n8_
 clear n4_ n5_ n6_ n7_ n8_
 (try clear hb)
 (try clear hb2)
 (try clear hk)
 (try clear hi)
 (try clear ho0)
 obtain ⟨Ao94,co94,eo94⟩:=Kd.V_slice HO434.out
 (first | subst eo94 | (injection eo94 with f1_ f2_ f3_; have f4_:=f1_.symm; have f5_:=f3_.symm; clear f1_ f2_ f3_; subst f4_; subst f5_))
 obtain ⟨Ao95,co95,eo95⟩:=Kd.V_slice HO437.out
 (first | subst eo95 | (injection eo95 with f1_ f2_ f3_; have f4_:=f1_.symm; have f5_:=f3_.symm; clear f1_ f2_ f3_; subst f4_; subst f5_))
 refine hK.out _ _ ⟨bc_ BK416 0,bc_ BK416 1,bc_ BK416 2,bc_ BK417 0,bc_ BK417 1,bc_ BK417 2⟩ (fun hHeld=>?_)
 clear hK K
 refine norm_ (a':=?_) ?_ ?_
 rotate_left
 ·
  show Act.put _ (some 26) _ = _
  simp only [Act.put,p1_,p2_,p3_,i64_w,i32_w]
  rfl
 refine one_ (i:=10) (N:=some 27) #[true,true,true,true,true,true,true,true,true,true,true,false] rfl rfl (one_of HT_.out (by kernel_rfl)) (by decide) (fun K hK=>?_)
 refine goesN_ Try.func75 (by kernel_rfl) rfl [.slice Ao94 t432.length co94,.slice Ao95 t435.length co95] (by rfl) rfl rfl (by rfl) ?_
 with_reducible refine (nat_Nat_Cmp.calls k _ _ t432 _ _ t435 t438 _ ?side1 ?side2 ?side3 ?side4 A45.out).mono ?_
 (case side1=>repeat first | exact (Kd.V_reads' HO434.out).2.2 | with_reducible first | apply ca_ | apply cn_ | apply cd_)
 (case side2=>exact (Kd.V_reads' HO434.out).2.1)
 (case side3=>repeat first | exact (Kd.V_reads' HO437.out).2.2 | with_reducible first | apply ca_ | apply cn_ | apply cd_)
 (case side4=>exact (Kd.V_reads' HO437.out).2.1)
 rintro e w' ⟨rfl,⟨nd,rfl⟩⟩
 refine ⟨_,rfl,?_⟩
 refine hK.out _ _ ⟨bc_ BK416 0,bc_ BK416 1,bc_ BK416 2,bc_ BK417 0,bc_ BK417 1,bc_ BK417 2⟩ (fun hHeld=>?_)
 clear hK K
 refine norm_ (a':=?_) ?_ ?_
 rotate_left
 ·
  show Act.put _ (some 27) _ = _
  simp only [Act.put,p1_,p2_,p3_,i64_w,i32_w]
  rfl
 refine pure_ (i:=11) (N:=some 5) (v:=?_) (a':=?_) #[true,true,true,true,true,true,true,true,true,true,true,true] rfl rfl (any_of HT_.out (by kernel_rfl)) (fun _ _ _ h=>h) (Or.inl ⟨by rfl,?_⟩) ?_ ?_
 rotate_left
 ·
  intro w'
  go_simp
  with_reducible rfl
 rotate_left
 ·
  simp only [Act.put,p1_,p2_,p3_,i64_w,i32_w]
  rfl
 refine done_ (done_of HT_.out (by kernel_rfl)) ?_
 have hcz96_0 : w93.cell? ⟨gb416,0,none⟩ = some (.bool false):=bc_ BK416 0
 have hcz96_1 : w93.cell? ⟨gb416,1,none⟩ = some (.slice Ao78 t419.length co78):=bc_ BK416 1
 have hcz96_2 : w93.cell? ⟨gb416,2,none⟩ = some (.slice Ao80 t422.length co80):=bc_ BK416 2
 have hfz96_0:=blk_frozen BK416.out 0
 have hfz96_1:=blk_frozen BK416.out 1
 have hfz96_2:=blk_frozen BK416.out 2
 try go_wp2
 go_ret
 exact ⟨eh_,bh_⟩

/-! ### ratio_R_Add: function 78 -/
def ratio_R_Add.f (k : Nat) (a0_0 : Bool) (l0_1 : List Int) (l0_2 : List Int) (a1_0 : Bool) (l1_1 : List Int) (l1_2 : List Int) : Option (Bool × List Int × List Int):=(ratio_R_low.f k a0_0 l0_1 l0_2).bind fun bt462=>((ratio_R_low.f k a1_0 l1_1 l1_2).bind fun bt469=>((nat_Nat_Mul.f k bt462.2.1 bt469.2.2).bind fun t476=>((nat_Nat_Mul.f k bt469.2.1 bt462.2.2).bind fun t479=>((nat_Nat_Mul.f k bt462.2.2 bt469.2.2).bind fun t482=>(if (bt462.1 == bt469.1) = true then ((nat_Nat_Add.f k t476 t479).bind fun t485=>((ratio_low.f k bt462.1 t485 t482).bind fun bt488=>(some (bt488.1,bt488.2.1,bt488.2.2)))) else ((nat_Nat_Sub.f k t476 t479).bind fun bt495=>(if bt495.2 = true then ((ratio_low.f k bt462.1 bt495.1 t482).bind fun bt499=>(some (bt499.1,bt499.2.1,bt499.2.2))) else ((nat_Nat_Sub.f k t479 t476).bind fun bt506=>((ratio_low.f k bt469.1 bt506.1 t482).bind fun bt510=>(some (bt510.1,bt510.2.1,bt510.2.2)))))))))))
theorem ratio_R_Add.mono : ∀ a0 a1 a2 a3 a4 a5 k,LeO (ratio_R_Add.f k a0 a1 a2 a3 a4 a5) (ratio_R_Add.f (k + 1) a0 a1 a2 a3 a4 a5):=by
 intro a0 a1 a2 a3 a4 a5 k
 unfold ratio_R_Add.f
 repeat' with_reducible first | exact nat_Nat_Add.mono _ _ _ | exact nat_Nat_Mul.mono _ _ _ | exact nat_Nat_Sub.mono _ _ _ | exact ratio_R_low.mono _ _ _ _ | exact ratio_low.mono _ _ _ _ | exact LeO.refl _ | exact LeO.none _ | refine LeO.ite ?_ ?_ | refine LeO.bind ?_ (fun _=>?_)
def ratio_R_Add.T2 : Bool × List (List Nat × List Nat):=(true,[([],[]),([0],[0]),([],[]),([2],[2]),([1,3],[1,3]),([],[]),([5],[5]),([],[]),([7],[7]),([6,8,4],[6,8]),([],[]),([10],[10]),([],[]),([12],[12]),([11,13,9],[11,13]),([4,14,0,1,2,3,4],[4]),([9,15,0,1,2,3,4,5,6,7,8,9,15],[9]),([14,16,0,1,2,3,4,5,6,7,8,9,10,11,12,13,14,15,16],[14])])
def ratio_R_Add.B2 : List Nat:=[0,1,0,4,15,0,32,0,128,511,0,1024,0,4096,16383,32767,65535,131071]
theorem ratio_R_Add.tab2 : rtab .any (opsOf Try.f78 2) = ratio_R_Add.T2:=by kernel_rfl
theorem ratio_R_Add.bits2 : waitsOk ratio_R_Add.T2.2 ratio_R_Add.B2 = true:=by kernel_rfl
def ratio_R_Add.T4 : Bool × List (List Nat × List Nat):=(true,[([],[]),([0],[0]),([],[]),([],[]),([2,3],[2,3]),([],[]),([1,4,5,4],[1,4,5]),([6,6,0,1,2,3,4,5,6],[6])])
def ratio_R_Add.B4 : List Nat:=[0,1,0,0,12,0,63,127]
theorem ratio_R_Add.tab4 : rtab .any (opsOf Try.f78 4) = ratio_R_Add.T4:=by kernel_rfl
theorem ratio_R_Add.bits4 : waitsOk ratio_R_Add.T4.2 ratio_R_Add.B4 = true:=by kernel_rfl
set_option maxHeartbeats 8000000 in
set_option maxRecDepth 100000 in
theorem ratio_R_Add.calls (k : Nat) (a0_0 : Bool) (P0_1_ : Nat → Prop) (A0_1 : Option Addr) (c0_1 : Nat) (l0_1 : List Int) (P0_2_ : Nat → Prop) (A0_2 : Option Addr) (c0_2 : Nat) (l0_2 : List Int) (a1_0 : Bool) (P1_1_ : Nat → Prop) (A1_1 : Option Addr) (c1_1 : Nat) (l1_1 : List Int) (P1_2_ : Nat → Prop) (A1_2 : Option Addr) (c1_2 : Nat) (l1_2 : List Int) (r1 : Bool) (r2 : List Int) (r3 : List Int) (w : World) (hs0_1 : Kd.V (Kd.int .u32) 123 w w.heap.size (fun k_=>P0_1_ k_) (.slice A0_1 l0_1.length c0_1) l0_1) (hs0_2 : Kd.V (Kd.int .u32) 123 w w.heap.size (fun k_=>P0_2_ k_) (.slice A0_2 l0_2.length c0_2) l0_2) (hs1_1 : Kd.V (Kd.int .u32) 123 w w.heap.size (fun k_=>P1_1_ k_) (.slice A1_1 l1_1.length c1_1) l1_1) (hs1_2 : Kd.V (Kd.int .u32) 123 w w.heap.size (fun k_=>P1_2_ k_) (.slice A1_2 l1_2.length c1_2) l1_2) (h : ratio_R_Add.f k a0_0 l0_1 l0_2 a1_0 l1_1 l1_2 = some (r1,r2,r3)) :
  Calls Try.prog 78 #[.agg #[.bool a0_0,.slice A0_1 l0_1.length c0_1,.slice A0_2 l0_2.length c0_2],.agg #[.bool a1_0,.slice A1_1 l1_1.length c1_1,.slice A1_2 l1_2.length c1_2]] w fun e w'=>∃ v1_ v2_ : Value,e = .returned (.agg #[.bool r1,v1_,v2_]) ∧ Kd.V (Kd.int .u32) 123 w' w.heap.size (fun k_=>((P0_1_ k_ ∨ P0_2_ k_ ∨ P1_1_ k_ ∨ P1_2_ k_) ∨ w.heap.size ≤ k_)) v1_ r2 ∧ Kd.V (Kd.int .u32) 123 w' w.heap.size (fun k_=>((P0_1_ k_ ∨ P0_2_ k_ ∨ P1_1_ k_ ∨ P1_2_ k_) ∨ w.heap.size ≤ k_)) v2_ r3 ∧ Below w.heap.size w w':=by
 have hu50:=Try.underlying50
 have HO0_1:=Aside0.mk (show Kd.V (Kd.int .u32) 123 w w.heap.size (fun k_=>((P0_1_ k_ ∨ P0_2_ k_ ∨ P1_1_ k_ ∨ P1_2_ k_) ∨ w.heap.size ≤ k_)) (.slice A0_1 l0_1.length c0_1) l0_1 from Kd.V_mono hs0_1 (fun k_ hk=>.inl (.inl hk)))
 have HO0_2:=Aside0.mk (show Kd.V (Kd.int .u32) 123 w w.heap.size (fun k_=>((P0_1_ k_ ∨ P0_2_ k_ ∨ P1_1_ k_ ∨ P1_2_ k_) ∨ w.heap.size ≤ k_)) (.slice A0_2 l0_2.length c0_2) l0_2 from Kd.V_mono hs0_2 (fun k_ hk=>.inl (.inr (.inl hk))))
 have HO1_1:=Aside0.mk (show Kd.V (Kd.int .u32) 123 w w.heap.size (fun k_=>((P0_1_ k_ ∨ P0_2_ k_ ∨ P1_1_ k_ ∨ P1_2_ k_) ∨ w.heap.size ≤ k_)) (.slice A1_1 l1_1.length c1_1) l1_1 from Kd.V_mono hs1_1 (fun k_ hk=>.inl (.inr (.inr (.inl hk)))))
 have HO1_2:=Aside0.mk (show Kd.V (Kd.int .u32) 123 w w.heap.size (fun k_=>((P0_1_ k_ ∨ P0_2_ k_ ∨ P1_1_ k_ ∨ P1_2_ k_) ∨ w.heap.size ≤ k_)) (.slice A1_2 l1_2.length c1_2) l1_2 from Kd.V_mono hs1_2 (fun k_ hk=>.inl (.inr (.inr (.inr hk)))))
 have HB:=Aside0.mk (Below.refl w.heap.size w)
 have H : ((ratio_R_low.f k a0_0 l0_1 l0_2).bind fun bt462=>((ratio_R_low.f k a1_0 l1_1 l1_2).bind fun bt469=>((nat_Nat_Mul.f k bt462.2.1 bt469.2.2).bind fun t476=>((nat_Nat_Mul.f k bt469.2.1 bt462.2.2).bind fun t479=>((nat_Nat_Mul.f k bt462.2.2 bt469.2.2).bind fun t482=>(if (bt462.1 == bt469.1) = true then ((nat_Nat_Add.f k t476 t479).bind fun t485=>((ratio_low.f k bt462.1 t485 t482).bind fun bt488=>(some (bt488.1,bt488.2.1,bt488.2.2)))) else ((nat_Nat_Sub.f k t476 t479).bind fun bt495=>(if bt495.2 = true then ((ratio_low.f k bt462.1 bt495.1 t482).bind fun bt499=>(some (bt499.1,bt499.2.1,bt499.2.2))) else ((nat_Nat_Sub.f k t479 t476).bind fun bt506=>((ratio_low.f k bt469.1 bt506.1 t482).bind fun bt510=>(some (bt510.1,bt510.2.1,bt510.2.2)))))))))))) = some (r1,r2,r3):=h
 clear h
 replace H:=Option.bind_eq_some_iff.mp H
 obtain ⟨⟨t462,t463,t466⟩,A30,H⟩:=H
 replace H : ((ratio_R_low.f k a1_0 l1_1 l1_2).bind fun bt469=>((nat_Nat_Mul.f k t463 bt469.2.2).bind fun t476=>((nat_Nat_Mul.f k bt469.2.1 t466).bind fun t479=>((nat_Nat_Mul.f k t466 bt469.2.2).bind fun t482=>(if (t462 == bt469.1) = true then ((nat_Nat_Add.f k t476 t479).bind fun t485=>((ratio_low.f k t462 t485 t482).bind fun bt488=>(some (bt488.1,bt488.2.1,bt488.2.2)))) else ((nat_Nat_Sub.f k t476 t479).bind fun bt495=>(if bt495.2 = true then ((ratio_low.f k t462 bt495.1 t482).bind fun bt499=>(some (bt499.1,bt499.2.1,bt499.2.2))) else ((nat_Nat_Sub.f k t479 t476).bind fun bt506=>((ratio_low.f k bt469.1 bt506.1 t482).bind fun bt510=>(some (bt510.1,bt510.2.1,bt510.2.2))))))))))) = some (r1,r2,r3):=H
 have A3:=Aside0.mk A30
 clear A30
 replace H:=Option.bind_eq_some_iff.mp H
 obtain ⟨⟨t469,t470,t473⟩,A40,H⟩:=H
 replace H : ((nat_Nat_Mul.f k t463 t473).bind fun t476=>((nat_Nat_Mul.f k t470 t466).bind fun t479=>((nat_Nat_Mul.f k t466 t473).bind fun t482=>(if (t462 == t469) = true then ((nat_Nat_Add.f k t476 t479).bind fun t485=>((ratio_low.f k t462 t485 t482).bind fun bt488=>(some (bt488.1,bt488.2.1,bt488.2.2)))) else ((nat_Nat_Sub.f k t476 t479).bind fun bt495=>(if bt495.2 = true then ((ratio_low.f k t462 bt495.1 t482).bind fun bt499=>(some (bt499.1,bt499.2.1,bt499.2.2))) else ((nat_Nat_Sub.f k t479 t476).bind fun bt506=>((ratio_low.f k t469 bt506.1 t482).bind fun bt510=>(some (bt510.1,bt510.2.1,bt510.2.2)))))))))) = some (r1,r2,r3):=H
 have A4:=Aside0.mk A40
 clear A40
 replace H:=Option.bind_eq_some_iff.mp H
 obtain ⟨t476,A50,H⟩:=H
 replace H : ((nat_Nat_Mul.f k t470 t466).bind fun t479=>((nat_Nat_Mul.f k t466 t473).bind fun t482=>(if (t462 == t469) = true then ((nat_Nat_Add.f k t476 t479).bind fun t485=>((ratio_low.f k t462 t485 t482).bind fun bt488=>(some (bt488.1,bt488.2.1,bt488.2.2)))) else ((nat_Nat_Sub.f k t476 t479).bind fun bt495=>(if bt495.2 = true then ((ratio_low.f k t462 bt495.1 t482).bind fun bt499=>(some (bt499.1,bt499.2.1,bt499.2.2))) else ((nat_Nat_Sub.f k t479 t476).bind fun bt506=>((ratio_low.f k t469 bt506.1 t482).bind fun bt510=>(some (bt510.1,bt510.2.1,bt510.2.2))))))))) = some (r1,r2,r3):=H
 have A5:=Aside0.mk A50
 clear A50
 replace H:=Option.bind_eq_some_iff.mp H
 obtain ⟨t479,A60,H⟩:=H
 replace H : ((nat_Nat_Mul.f k t466 t473).bind fun t482=>(if (t462 == t469) = true then ((nat_Nat_Add.f k t476 t479).bind fun t485=>((ratio_low.f k t462 t485 t482).bind fun bt488=>(some (bt488.1,bt488.2.1,bt488.2.2)))) else ((nat_Nat_Sub.f k t476 t479).bind fun bt495=>(if bt495.2 = true then ((ratio_low.f k t462 bt495.1 t482).bind fun bt499=>(some (bt499.1,bt499.2.1,bt499.2.2))) else ((nat_Nat_Sub.f k t479 t476).bind fun bt506=>((ratio_low.f k t469 bt506.1 t482).bind fun bt510=>(some (bt510.1,bt510.2.1,bt510.2.2)))))))) = some (r1,r2,r3):=H
 have A6:=Aside0.mk A60
 clear A60
 replace H:=Option.bind_eq_some_iff.mp H
 obtain ⟨t482,A70,H⟩:=H
 replace H : (if (t462 == t469) = true then ((nat_Nat_Add.f k t476 t479).bind fun t485=>((ratio_low.f k t462 t485 t482).bind fun bt488=>(some (bt488.1,bt488.2.1,bt488.2.2)))) else ((nat_Nat_Sub.f k t476 t479).bind fun bt495=>(if bt495.2 = true then ((ratio_low.f k t462 bt495.1 t482).bind fun bt499=>(some (bt499.1,bt499.2.1,bt499.2.2))) else ((nat_Nat_Sub.f k t479 t476).bind fun bt506=>((ratio_low.f k t469 bt506.1 t482).bind fun bt510=>(some (bt510.1,bt510.2.1,bt510.2.2))))))) = some (r1,r2,r3):=H
 have A7:=Aside0.mk A70
 clear A70
 have HH1_:=Aside0.mk H
 clear H
 go_enter Try.func78,Try.ntmps78
 try go_wp2_with (first | ((with_reducible refine gate_dst (N:=2) rfl ?_); refine box_event ?hg (N:=2) ?hd (cs:=#[.bool a0_0,.slice A0_1 l0_1.length c0_1,.slice A0_2 l0_2.length c0_2]) (t:=50) ?hr ?_; (case hd=>rfl); (case hg=>rfl); (case hr=>first | (go_simp; done) | (go_simp; rfl)); intro gb459 hg w11 hbox hb; have n0_:=ve_ HO0_1 hg hb; have n1_:=ve_ HO0_2 hg hb; have n2_:=ve_ HO1_1 hg hb; have n3_:=ve_ HO1_2 hg hb; have n4_:=bq_ hb; have n5_:=Aside0.mk (hbox); have n7_:=bz_ hg; clear HO0_1 HO0_2 HO1_1 HO1_2 HB; have HO0_1:=n0_; have HO0_2:=n1_; have HO1_1:=n2_; have HO1_2:=n3_; have HB:=n4_; have BK459:=n5_; have GE459:=n7_; clear n0_ n1_ n2_ n3_ n4_ n5_ n7_; clear hb hbox hg) | ((with_reducible refine gate_dst (N:=3) rfl ?_); refine box_event ?hg (N:=3) ?hd (cs:=#[.bool a1_0,.slice A1_1 l1_1.length c1_1,.slice A1_2 l1_2.length c1_2]) (t:=50) ?hr ?_; (case hd=>rfl); (case hg=>rfl); (case hr=>first | (go_simp; done) | (go_simp; rfl)); intro gb460 hg w12 hbox hb; have n0_:=ve_ HO0_1 hg hb; have n1_:=ve_ HO0_2 hg hb; have n2_:=ve_ HO1_1 hg hb; have n3_:=ve_ HO1_2 hg hb; have n4_:=kb_ BK459 hb; have n5_:=bq_ hb; have n6_:=Aside0.mk (hbox); have n8_:=bz_ hg; have n9_:=Aside0.mk ((by rw [hg]; exact Nat.ne_of_lt (blk_lt (g:=gb459) (o:=.cells #[.bool a0_0,.slice A0_1 l0_1.length c0_1,.slice A0_2 l0_2.length c0_2] 50 (0,0)) (by (with_reducible repeat (first | apply kn_ | apply kd_ | apply ka_)); exact BK459.out)) : gb459 ≠ gb460)); have n10_:=Aside0.mk ((by rw [hg]; exact Nat.ne_of_gt (blk_lt (g:=gb459) (o:=.cells #[.bool a0_0,.slice A0_1 l0_1.length c0_1,.slice A0_2 l0_2.length c0_2] 50 (0,0)) (by (with_reducible repeat (first | apply kn_ | apply kd_ | apply ka_)); exact BK459.out)) : gb460 ≠ gb459)); clear HO0_1 HO0_2 HO1_1 HO1_2 BK459 HB; have HO0_1:=n0_; have HO0_2:=n1_; have HO1_1:=n2_; have HO1_2:=n3_; have BK459:=n4_; have HB:=n5_; have BK460:=n6_; have GE460:=n8_; have NB459_460:=n9_; have NB460_459:=n10_; clear n0_ n1_ n2_ n3_ n4_ n5_ n6_ n8_ n9_ n10_; clear hb hbox hg) | ((with_reducible refine gate_dst (N:=4) rfl ?_); refine box_event ?hg (N:=4) ?hd (cs:=#[.bool false,.slice none 0 0,.slice none 0 0]) (t:=50) ?hr ?_; (case hd=>rfl); (case hg=>rfl); (case hr=>first | (go_simp; done) | (go_simp; rfl)); intro gb461 hg w13 hbox hb; have n0_:=ve_ HO0_1 hg hb; have n1_:=ve_ HO0_2 hg hb; have n2_:=ve_ HO1_1 hg hb; have n3_:=ve_ HO1_2 hg hb; have n4_:=kb_ BK459 hb; have n5_:=kb_ BK460 hb; have n6_:=bq_ hb; have n7_:=Aside0.mk (hbox); have n9_:=bz_ hg; have n10_:=Aside0.mk ((by rw [hg]; exact Nat.ne_of_lt (blk_lt (g:=gb459) (o:=.cells #[.bool a0_0,.slice A0_1 l0_1.length c0_1,.slice A0_2 l0_2.length c0_2] 50 (0,0)) (by (with_reducible repeat (first | apply kn_ | apply kd_ | apply ka_)); exact BK459.out)) : gb459 ≠ gb461)); have n11_:=Aside0.mk ((by rw [hg]; exact Nat.ne_of_gt (blk_lt (g:=gb459) (o:=.cells #[.bool a0_0,.slice A0_1 l0_1.length c0_1,.slice A0_2 l0_2.length c0_2] 50 (0,0)) (by (with_reducible repeat (first | apply kn_ | apply kd_ | apply ka_)); exact BK459.out)) : gb461 ≠ gb459)); have n12_:=Aside0.mk ((by rw [hg]; exact Nat.ne_of_lt (blk_lt (g:=gb460) (o:=.cells #[.bool a1_0,.slice A1_1 l1_1.length c1_1,.slice A1_2 l1_2.length c1_2] 50 (0,0)) (by (with_reducible repeat (first | apply kn_ | apply kd_ | apply ka_)); exact BK460.out)) : gb460 ≠ gb461)); have n13_:=Aside0.mk ((by rw [hg]; exact Nat.ne_of_gt (blk_lt (g:=gb460) (o:=.cells #[.bool a1_0,.slice A1_1 l1_1.length c1_1,.slice A1_2 l1_2.length c1_2] 50 (0,0)) (by (with_reducible repeat (first | apply kn_ | apply kd_ | apply ka_)); exact BK460.out)) : gb461 ≠ gb460)); clear HO0_1 HO0_2 HO1_1 HO1_2 BK459 BK460 HB; have HO0_1:=n0_; have HO0_2:=n1_; have HO1_1:=n2_; have HO1_2:=n3_; have BK459:=n4_; have BK460:=n5_; have HB:=n6_; have BK461:=n7_; have GE461:=n9_; have NB459_461:=n10_; have NB461_459:=n11_; have NB460_461:=n12_; have NB461_460:=n13_; clear n0_ n1_ n2_ n3_ n4_ n5_ n6_ n7_ n9_ n10_ n11_ n12_ n13_; clear hb hbox hg))
 have n0_:=Aside0.mk (Kd.V_drew HO0_1.out)
 have n1_:=Aside0.mk (Kd.V_drew HO0_2.out)
 have n2_:=Aside0.mk (Kd.V_drew HO1_1.out)
 have n3_:=Aside0.mk (Kd.V_drew HO1_2.out)
 have n4_:=Aside0.mk (blk_drew BK459.out)
 have n5_:=Aside0.mk (blk_drew BK460.out)
 have n6_:=Aside0.mk (blk_drew BK461.out)
 have n7_:=Aside0.mk (below_drew1 HB.out)
 clear HO0_1
 clear HO0_2
 clear HO1_1
 clear HO1_2
 clear BK459
 clear BK460
 clear BK461
 clear HB
 have HO0_1:=n0_
 have HO0_2:=n1_
 have HO1_1:=n2_
 have HO1_2:=n3_
 have BK459:=n4_
 have BK460:=n5_
 have BK461:=n6_
 have HB:=n7_
 clear n0_ n1_ n2_ n3_ n4_ n5_ n6_ n7_
 refine start_ (n:=6) (S:=fun w'=>w'.cell? ⟨gb459,0,none⟩ = some (.bool a0_0) ∧ w'.cell? ⟨gb459,1,none⟩ = some (.slice A0_1 l0_1.length c0_1) ∧ w'.cell? ⟨gb459,2,none⟩ = some (.slice A0_2 l0_2.length c0_2) ∧ w'.cell? ⟨gb460,0,none⟩ = some (.bool a1_0) ∧ w'.cell? ⟨gb460,1,none⟩ = some (.slice A1_1 l1_1.length c1_1) ∧ w'.cell? ⟨gb460,2,none⟩ = some (.slice A1_2 l1_2.length c1_2)) (ds:=[4,5]) #[false,false,false,false,false,false] (by kernel_rfl) rfl rfl ⟨bc_ BK459 0,bc_ BK459 1,bc_ BK459 2,bc_ BK460 0,bc_ BK460 1,bc_ BK460 2⟩ (fun hHeld=>?_)
 generalize w13.drew = w14 at HO0_1 HO0_2 HO1_1 HO1_2 BK459 BK460 BK461 HB hHeld ⊢
 refine take_ (i:=0) (N:=some 12) (v:=?_) (a':=?_) #[true,false,false,false,false,false] rfl rfl (by kernel_rfl) (fun _ _ _ h=>h) (Or.inl ⟨by rfl,?_⟩) hHeld ?_ ?_
 rotate_left
 ·
  rintro w' ⟨s0,s1,s2,s3,s4,s5⟩
  go_simp
  with_reducible rfl
 rotate_left
 ·
  simp only [Act.put,p1_,p2_,p3_,i64_w,i32_w]
  rfl
 refine take_ (i:=2) (N:=some 14) (v:=?_) (a':=?_) #[true,false,true,false,false,false] rfl rfl (by kernel_rfl) (fun _ _ _ h=>h) (Or.inl ⟨by rfl,?_⟩) hHeld ?_ ?_
 rotate_left
 ·
  rintro w' ⟨s0,s1,s2,s3,s4,s5⟩
  go_simp
  with_reducible rfl
 rotate_left
 ·
  simp only [Act.put,p1_,p2_,p3_,i64_w,i32_w]
  rfl
 refine one_ (i:=1) (N:=some 13) #[true,true,true,false,false,false] rfl rfl (by kernel_rfl) (by decide) (fun K hK=>?_)
 refine goesN_ Try.func74 (by kernel_rfl) rfl [.agg #[.bool a0_0,.slice A0_1 l0_1.length c0_1,.slice A0_2 l0_2.length c0_2]] (by rfl) rfl rfl (by rfl) ?_
 with_reducible refine (ratio_R_low.calls k a0_0 (fun k_=>(((((P0_1_ k_ ∨ P0_2_ k_ ∨ P1_1_ k_ ∨ P1_2_ k_) ∨ w.heap.size ≤ k_) ∧ k_ ≠ gb459) ∧ k_ ≠ gb460) ∧ k_ ≠ gb461)) _ _ l0_1 (fun k_=>(((((P0_1_ k_ ∨ P0_2_ k_ ∨ P1_1_ k_ ∨ P1_2_ k_) ∨ w.heap.size ≤ k_) ∧ k_ ≠ gb459) ∧ k_ ≠ gb460) ∧ k_ ≠ gb461)) _ _ l0_2 t462 t463 t466 _ ?side1 ?side2 A3.out).mono ?_
 (case side1=>exact HO0_1.out)
 (case side2=>exact HO0_2.out)
 rintro e w15 ⟨v464,v467,rfl,ho0,ho1,hb⟩
 refine ⟨_,rfl,?_⟩
 have n0_:=vb_ HO0_1 hb
 have n1_:=vb_ HO0_2 hb
 have n2_:=vb_ HO1_1 hb
 have n3_:=vb_ HO1_2 hb
 have n4_:=Aside0.mk (Kd.V_lower (Kd.V_mono (ok':=fun k_=>((P0_1_ k_ ∨ P0_2_ k_ ∨ P1_1_ k_ ∨ P1_2_ k_) ∨ w.heap.size ≤ k_) ∧ k_ ≠ gb459 ∧ k_ ≠ gb460 ∧ k_ ≠ gb461) ho0 (fun k_ hk_=>⟨Or.elim hk_ (fun hs_=>Or.elim hs_ (fun hs_=>hs_.1.1.1) (fun hs_=>hs_.1.1.1)) (fun hn_=>(.inr (Nat.le_trans (below_size bh_) hn_))),Or.elim hk_ (fun hs_=>Or.elim hs_ (fun hs_=>hs_.1.1.2) (fun hs_=>hs_.1.1.2)) (fun hn_=>(fb_ BK459 k_ hn_)),Or.elim hk_ (fun hs_=>Or.elim hs_ (fun hs_=>hs_.1.2) (fun hs_=>hs_.1.2)) (fun hn_=>(fb_ BK460 k_ hn_)),Or.elim hk_ (fun hs_=>Or.elim hs_ (fun hs_=>hs_.2) (fun hs_=>hs_.2)) (fun hn_=>(fb_ BK461 k_ hn_))⟩)) (below_size bh_))
 have n5_:=Aside0.mk (Kd.V_lower (Kd.V_mono (ok':=fun k_=>((P0_1_ k_ ∨ P0_2_ k_ ∨ P1_1_ k_ ∨ P1_2_ k_) ∨ w.heap.size ≤ k_) ∧ k_ ≠ gb459 ∧ k_ ≠ gb460 ∧ k_ ≠ gb461) ho1 (fun k_ hk_=>⟨Or.elim hk_ (fun hs_=>Or.elim hs_ (fun hs_=>hs_.1.1.1) (fun hs_=>hs_.1.1.1)) (fun hn_=>(.inr (Nat.le_trans (below_size bh_) hn_))),Or.elim hk_ (fun hs_=>Or.elim hs_ (fun hs_=>hs_.1.1.2) (fun hs_=>hs_.1.1.2)) (fun hn_=>(fb_ BK459 k_ hn_)),Or.elim hk_ (fun hs_=>Or.elim hs_ (fun hs_=>hs_.1.2) (fun hs_=>hs_.1.2)) (fun hn_=>(fb_ BK460 k_ hn_)),Or.elim hk_ (fun hs_=>Or.elim hs_ (fun hs_=>hs_.2) (fun hs_=>hs_.2)) (fun hn_=>(fb_ BK461 k_ hn_))⟩)) (below_size bh_))
 have n6_:=kb_ BK459 hb
 have n7_:=kb_ BK460 hb
 have n8_:=kb_ BK461 hb
 have n9_:=bq_ hb
 clear HO0_1
 clear HO0_2
 clear HO1_1
 clear HO1_2
 clear BK459
 clear BK460
 clear BK461
 clear HB
 have HO0_1:=n0_
 have HO0_2:=n1_
 have HO1_1:=n2_
 have HO1_2:=n3_
 have HO465:=n4_
 have HO468:=n5_
 have BK459:=n6_
 have BK460:=n7_
 have BK461:=n8_
 have HB:=n9_
 clear n0_ n1_ n2_ n3_ n4_ n5_ n6_ n7_ n8_ n9_
 (try clear hb)
 (try clear hb2)
 (try clear hk)
 (try clear hi)
 (try clear ho0)
 (try clear ho1)
 refine hK.out _ _ ⟨bc_ BK459 0,bc_ BK459 1,bc_ BK459 2,bc_ BK460 0,bc_ BK460 1,bc_ BK460 2⟩ (fun hHeld=>?_)
 clear hK K
 refine norm_ (a':=?_) ?_ ?_
 rotate_left
 ·
  show Act.put _ (some 13) _ = _
  simp only [Act.put,p1_,p2_,p3_,i64_w,i32_w]
  rfl
 refine one_ (i:=3) (N:=some 15) #[true,true,true,true,false,false] rfl rfl (by kernel_rfl) (by decide) (fun K hK=>?_)
 refine goesN_ Try.func74 (by kernel_rfl) rfl [.agg #[.bool a1_0,.slice A1_1 l1_1.length c1_1,.slice A1_2 l1_2.length c1_2]] (by rfl) rfl rfl (by rfl) ?_
 with_reducible refine (ratio_R_low.calls k a1_0 (fun k_=>(((((P0_1_ k_ ∨ P0_2_ k_ ∨ P1_1_ k_ ∨ P1_2_ k_) ∨ w.heap.size ≤ k_) ∧ k_ ≠ gb459) ∧ k_ ≠ gb460) ∧ k_ ≠ gb461)) _ _ l1_1 (fun k_=>(((((P0_1_ k_ ∨ P0_2_ k_ ∨ P1_1_ k_ ∨ P1_2_ k_) ∨ w.heap.size ≤ k_) ∧ k_ ≠ gb459) ∧ k_ ≠ gb460) ∧ k_ ≠ gb461)) _ _ l1_2 t469 t470 t473 _ ?side1 ?side2 A4.out).mono ?_
 (case side1=>exact HO1_1.out)
 (case side2=>exact HO1_2.out)
 rintro e w16 ⟨v471,v474,rfl,ho0,ho1,hb⟩
 refine ⟨_,rfl,?_⟩
 have n0_:=vb_ HO0_1 hb
 have n1_:=vb_ HO0_2 hb
 have n2_:=vb_ HO1_1 hb
 have n3_:=vb_ HO1_2 hb
 have n4_:=vb_ HO465 hb
 have n5_:=vb_ HO468 hb
 have n6_:=Aside0.mk (Kd.V_lower (Kd.V_mono (ok':=fun k_=>((P0_1_ k_ ∨ P0_2_ k_ ∨ P1_1_ k_ ∨ P1_2_ k_) ∨ w.heap.size ≤ k_) ∧ k_ ≠ gb459 ∧ k_ ≠ gb460 ∧ k_ ≠ gb461) ho0 (fun k_ hk_=>⟨Or.elim hk_ (fun hs_=>Or.elim hs_ (fun hs_=>hs_.1.1.1) (fun hs_=>hs_.1.1.1)) (fun hn_=>(.inr (Nat.le_trans (below_size bh_) hn_))),Or.elim hk_ (fun hs_=>Or.elim hs_ (fun hs_=>hs_.1.1.2) (fun hs_=>hs_.1.1.2)) (fun hn_=>(fb_ BK459 k_ hn_)),Or.elim hk_ (fun hs_=>Or.elim hs_ (fun hs_=>hs_.1.2) (fun hs_=>hs_.1.2)) (fun hn_=>(fb_ BK460 k_ hn_)),Or.elim hk_ (fun hs_=>Or.elim hs_ (fun hs_=>hs_.2) (fun hs_=>hs_.2)) (fun hn_=>(fb_ BK461 k_ hn_))⟩)) (below_size bh_))
 have n7_:=Aside0.mk (Kd.V_lower (Kd.V_mono (ok':=fun k_=>((P0_1_ k_ ∨ P0_2_ k_ ∨ P1_1_ k_ ∨ P1_2_ k_) ∨ w.heap.size ≤ k_) ∧ k_ ≠ gb459 ∧ k_ ≠ gb460 ∧ k_ ≠ gb461) ho1 (fun k_ hk_=>⟨Or.elim hk_ (fun hs_=>Or.elim hs_ (fun hs_=>hs_.1.1.1) (fun hs_=>hs_.1.1.1)) (fun hn_=>(.inr (Nat.le_trans (below_size bh_) hn_))),Or.elim hk_ (fun hs_=>Or.elim hs_ (fun hs_=>hs_.1.1.2) (fun hs_=>hs_.1.1.2)) (fun hn_=>(fb_ BK459 k_ hn_)),Or.elim hk_ (fun hs_=>Or.elim hs_ (fun hs_=>hs_.1.2) (fun hs_=>hs_.1.2)) (fun hn_=>(fb_ BK460 k_ hn_)),Or.elim hk_ (fun hs_=>Or.elim hs_ (fun hs_=>hs_.2) (fun hs_=>hs_.2)) (fun hn_=>(fb_ BK461 k_ hn_))⟩)) (below_size bh_))
 have n8_:=kb_ BK459 hb
 have n9_:=kb_ BK460 hb
 have n10_:=kb_ BK461 hb
 have n11_:=bq_ hb
 clear HO0_1
 clear HO0_2
 clear HO1_1
 clear HO1_2
 clear HO465
 clear HO468
 clear BK459
 clear BK460
 clear BK461
 clear HB
 have HO0_1:=n0_
 have HO0_2:=n1_
 have HO1_1:=n2_
 have HO1_2:=n3_
 have HO465:=n4_
 have HO468:=n5_
 have HO472:=n6_
 have HO475:=n7_
 have BK459:=n8_
 have BK460:=n9_
 have BK461:=n10_
 have HB:=n11_
 clear n0_ n1_ n2_ n3_ n4_ n5_ n6_ n7_ n8_ n9_ n10_ n11_
 (try clear hb)
 (try clear hb2)
 (try clear hk)
 (try clear hi)
 (try clear ho0)
 (try clear ho1)
 obtain ⟨Ao18,co18,eo18⟩:=Kd.V_slice HO465.out
 (first | subst eo18 | (injection eo18 with f1_ f2_ f3_; have f4_:=f1_.symm; have f5_:=f3_.symm; clear f1_ f2_ f3_; subst f4_; subst f5_))
 obtain ⟨Ao20,co20,eo20⟩:=Kd.V_slice HO468.out
 (first | subst eo20 | (injection eo20 with f1_ f2_ f3_; have f4_:=f1_.symm; have f5_:=f3_.symm; clear f1_ f2_ f3_; subst f4_; subst f5_))
 obtain ⟨Ao23,co23,eo23⟩:=Kd.V_slice HO472.out
 (first | subst eo23 | (injection eo23 with f1_ f2_ f3_; have f4_:=f1_.symm; have f5_:=f3_.symm; clear f1_ f2_ f3_; subst f4_; subst f5_))
 obtain ⟨Ao25,co25,eo25⟩:=Kd.V_slice HO475.out
 (first | subst eo25 | (injection eo25 with f1_ f2_ f3_; have f4_:=f1_.symm; have f5_:=f3_.symm; clear f1_ f2_ f3_; subst f4_; subst f5_))
 refine hK.out _ _ ⟨bc_ BK459 0,bc_ BK459 1,bc_ BK459 2,bc_ BK460 0,bc_ BK460 1,bc_ BK460 2⟩ (fun hHeld=>?_)
 clear hK K
 refine norm_ (a':=?_) ?_ ?_
 rotate_left
 ·
  show Act.put _ (some 15) _ = _
  simp only [Act.put,p1_,p2_,p3_,i64_w,i32_w]
  rfl
 refine last_ (i:=4) (N:=none) #[true,true,true,true,true,false] rfl rfl (by kernel_rfl) (by decide) (fun K hK=>?_)
 have hs17 : w16.cell? ⟨gb459,0,none⟩ = some (.bool a0_0):=bc_ BK459 0
 have hfs17:=blk_frozen BK459.out 0
 have hns17_1:=NB460_459.out
 have hns17_2:=NB461_459.out
 have hms17_1:=NB459_460.out
 have hms17_2:=NB459_461.out
 have hs19 : w16.cell? ⟨gb459,1,none⟩ = some (.slice A0_1 l0_1.length c0_1):=bc_ BK459 1
 have hfs19:=blk_frozen BK459.out 1
 have hns19_1:=NB460_459.out
 have hns19_2:=NB461_459.out
 have hms19_1:=NB459_460.out
 have hms19_2:=NB459_461.out
 have hs21 : w16.cell? ⟨gb459,2,none⟩ = some (.slice A0_2 l0_2.length c0_2):=bc_ BK459 2
 have hfs21:=blk_frozen BK459.out 2
 have hns21_1:=NB460_459.out
 have hns21_2:=NB461_459.out
 have hms21_1:=NB459_460.out
 have hms21_2:=NB459_461.out
 refine skip_ (w1:=?_) (by rfl) rfl ?_ ?_
 rotate_left
 ·
  go_simp
  rfl
 refine hK.out _ _ ?_
 clear hK K
 refine last_ (i:=5) (N:=none) #[true,true,true,true,true,true] rfl rfl (by kernel_rfl) (by decide) (fun K hK=>?_)
 have hs22 : w16.cell? ⟨gb460,0,none⟩ = some (.bool a1_0):=bc_ BK460 0
 have hfs22:=blk_frozen BK460.out 0
 have hns22_0:=NB459_460.out
 have hns22_2:=NB461_460.out
 have hms22_0:=NB460_459.out
 have hms22_2:=NB460_461.out
 have hs24 : w16.cell? ⟨gb460,1,none⟩ = some (.slice A1_1 l1_1.length c1_1):=bc_ BK460 1
 have hfs24:=blk_frozen BK460.out 1
 have hns24_0:=NB459_460.out
 have hns24_2:=NB461_460.out
 have hms24_0:=NB460_459.out
 have hms24_2:=NB460_461.out
 have hs26 : w16.cell? ⟨gb460,2,none⟩ = some (.slice A1_2 l1_2.length c1_2):=bc_ BK460 2
 have hfs26:=blk_frozen BK460.out 2
 have hns26_0:=NB459_460.out
 have hns26_2:=NB461_460.out
 have hms26_0:=NB460_459.out
 have hms26_2:=NB460_461.out
 refine skip_ (w1:=?_) (by rfl) rfl ?_ ?_
 rotate_left
 ·
  go_simp
  rfl
 refine hK.out _ _ ?_
 clear hK K
 refine done_ (by kernel_rfl) ?_
 try go_wp2
 have n0_ : Aside0 (Kd.V (Kd.int .u32) 123 ((((((w16.setCell ⟨gb459,0,none⟩ (.bool t462)).setCell ⟨gb459,1,none⟩ (.slice Ao18 t463.length co18)).setCell ⟨gb459,2,none⟩ (.slice Ao20 t466.length co20)).setCell ⟨gb460,0,none⟩ (.bool t469)).setCell ⟨gb460,1,none⟩ (.slice Ao23 t470.length co23)).setCell ⟨gb460,2,none⟩ (.slice Ao25 t473.length co25)) w.heap.size (fun k_=>((P0_1_ k_ ∨ P0_2_ k_ ∨ P1_1_ k_ ∨ P1_2_ k_) ∨ w.heap.size ≤ k_) ∧ k_ ≠ gb459 ∧ k_ ≠ gb460 ∧ k_ ≠ gb461) (.slice A0_1 l0_1.length c0_1) l0_1):=⟨by (with_reducible repeat (first | apply va_ | apply vn_ | apply vd_)); exact Kd.V_mono (Kd.V_far (p:=⟨gb460,2,none⟩) (Kd.V_far (p:=⟨gb460,1,none⟩) (Kd.V_far (p:=⟨gb460,0,none⟩) (Kd.V_far (p:=⟨gb459,2,none⟩) (Kd.V_far (p:=⟨gb459,1,none⟩) (Kd.V_far (p:=⟨gb459,0,none⟩) (Kd.V_mono (Kd.V_mono HO0_1.out (fun k_ hk=>(⟨hk,hk.1.1.2⟩ : _ ∧ k_ ≠ gb459))) (fun k_ hk=>(⟨hk,hk.1.1.2⟩ : _ ∧ k_ ≠ gb460))) (fun _ hk=>hk.1.2) (.bool t462)) (fun _ hk=>hk.1.2) (.slice Ao18 t463.length co18)) (fun _ hk=>hk.1.2) (.slice Ao20 t466.length co20)) (fun _ hk=>hk.2) (.bool t469)) (fun _ hk=>hk.2) (.slice Ao23 t470.length co23)) (fun _ hk=>hk.2) (.slice Ao25 t473.length co25)) (fun _ hk=>⟨hk.1.1.1.1.1,⟨hk.1.1.1.1.2,⟨hk.1.1.1.2,hk.1.1.2⟩⟩⟩)⟩
 have n1_ : Aside0 (Kd.V (Kd.int .u32) 123 ((((((w16.setCell ⟨gb459,0,none⟩ (.bool t462)).setCell ⟨gb459,1,none⟩ (.slice Ao18 t463.length co18)).setCell ⟨gb459,2,none⟩ (.slice Ao20 t466.length co20)).setCell ⟨gb460,0,none⟩ (.bool t469)).setCell ⟨gb460,1,none⟩ (.slice Ao23 t470.length co23)).setCell ⟨gb460,2,none⟩ (.slice Ao25 t473.length co25)) w.heap.size (fun k_=>((P0_1_ k_ ∨ P0_2_ k_ ∨ P1_1_ k_ ∨ P1_2_ k_) ∨ w.heap.size ≤ k_) ∧ k_ ≠ gb459 ∧ k_ ≠ gb460 ∧ k_ ≠ gb461) (.slice A0_2 l0_2.length c0_2) l0_2):=⟨by (with_reducible repeat (first | apply va_ | apply vn_ | apply vd_)); exact Kd.V_mono (Kd.V_far (p:=⟨gb460,2,none⟩) (Kd.V_far (p:=⟨gb460,1,none⟩) (Kd.V_far (p:=⟨gb460,0,none⟩) (Kd.V_far (p:=⟨gb459,2,none⟩) (Kd.V_far (p:=⟨gb459,1,none⟩) (Kd.V_far (p:=⟨gb459,0,none⟩) (Kd.V_mono (Kd.V_mono HO0_2.out (fun k_ hk=>(⟨hk,hk.1.1.2⟩ : _ ∧ k_ ≠ gb459))) (fun k_ hk=>(⟨hk,hk.1.1.2⟩ : _ ∧ k_ ≠ gb460))) (fun _ hk=>hk.1.2) (.bool t462)) (fun _ hk=>hk.1.2) (.slice Ao18 t463.length co18)) (fun _ hk=>hk.1.2) (.slice Ao20 t466.length co20)) (fun _ hk=>hk.2) (.bool t469)) (fun _ hk=>hk.2) (.slice Ao23 t470.length co23)) (fun _ hk=>hk.2) (.slice Ao25 t473.length co25)) (fun _ hk=>⟨hk.1.1.1.1.1,⟨hk.1.1.1.1.2,⟨hk.1.1.1.2,hk.1.1.2⟩⟩⟩)⟩
 have n2_ : Aside0 (Kd.V (Kd.int .u32) 123 ((((((w16.setCell ⟨gb459,0,none⟩ (.bool t462)).setCell ⟨gb459,1,none⟩ (.slice Ao18 t463.length co18)).setCell ⟨gb459,2,none⟩ (.slice Ao20 t466.length co20)).setCell ⟨gb460,0,none⟩ (.bool t469)).setCell ⟨gb460,1,none⟩ (.slice Ao23 t470.length co23)).setCell ⟨gb460,2,none⟩ (.slice Ao25 t473.length co25)) w.heap.size (fun k_=>((P0_1_ k_ ∨ P0_2_ k_ ∨ P1_1_ k_ ∨ P1_2_ k_) ∨ w.heap.size ≤ k_) ∧ k_ ≠ gb459 ∧ k_ ≠ gb460 ∧ k_ ≠ gb461) (.slice A1_1 l1_1.length c1_1) l1_1):=⟨by (with_reducible repeat (first | apply va_ | apply vn_ | apply vd_)); exact Kd.V_mono (Kd.V_far (p:=⟨gb460,2,none⟩) (Kd.V_far (p:=⟨gb460,1,none⟩) (Kd.V_far (p:=⟨gb460,0,none⟩) (Kd.V_far (p:=⟨gb459,2,none⟩) (Kd.V_far (p:=⟨gb459,1,none⟩) (Kd.V_far (p:=⟨gb459,0,none⟩) (Kd.V_mono (Kd.V_mono HO1_1.out (fun k_ hk=>(⟨hk,hk.1.1.2⟩ : _ ∧ k_ ≠ gb459))) (fun k_ hk=>(⟨hk,hk.1.1.2⟩ : _ ∧ k_ ≠ gb460))) (fun _ hk=>hk.1.2) (.bool t462)) (fun _ hk=>hk.1.2) (.slice Ao18 t463.length co18)) (fun _ hk=>hk.1.2) (.slice Ao20 t466.length co20)) (fun _ hk=>hk.2) (.bool t469)) (fun _ hk=>hk.2) (.slice Ao23 t470.length co23)) (fun _ hk=>hk.2) (.slice Ao25 t473.length co25)) (fun _ hk=>⟨hk.1.1.1.1.1,⟨hk.1.1.1.1.2,⟨hk.1.1.1.2,hk.1.1.2⟩⟩⟩)⟩
 have n3_ : Aside0 (Kd.V (Kd.int .u32) 123 ((((((w16.setCell ⟨gb459,0,none⟩ (.bool t462)).setCell ⟨gb459,1,none⟩ (.slice Ao18 t463.length co18)).setCell ⟨gb459,2,none⟩ (.slice Ao20 t466.length co20)).setCell ⟨gb460,0,none⟩ (.bool t469)).setCell ⟨gb460,1,none⟩ (.slice Ao23 t470.length co23)).setCell ⟨gb460,2,none⟩ (.slice Ao25 t473.length co25)) w.heap.size (fun k_=>((P0_1_ k_ ∨ P0_2_ k_ ∨ P1_1_ k_ ∨ P1_2_ k_) ∨ w.heap.size ≤ k_) ∧ k_ ≠ gb459 ∧ k_ ≠ gb460 ∧ k_ ≠ gb461) (.slice A1_2 l1_2.length c1_2) l1_2):=⟨by (with_reducible repeat (first | apply va_ | apply vn_ | apply vd_)); exact Kd.V_mono (Kd.V_far (p:=⟨gb460,2,none⟩) (Kd.V_far (p:=⟨gb460,1,none⟩) (Kd.V_far (p:=⟨gb460,0,none⟩) (Kd.V_far (p:=⟨gb459,2,none⟩) (Kd.V_far (p:=⟨gb459,1,none⟩) (Kd.V_far (p:=⟨gb459,0,none⟩) (Kd.V_mono (Kd.V_mono HO1_2.out (fun k_ hk=>(⟨hk,hk.1.1.2⟩ : _ ∧ k_ ≠ gb459))) (fun k_ hk=>(⟨hk,hk.1.1.2⟩ : _ ∧ k_ ≠ gb460))) (fun _ hk=>hk.1.2) (.bool t462)) (fun _ hk=>hk.1.2) (.slice Ao18 t463.length co18)) (fun _ hk=>hk.1.2) (.slice Ao20 t466.length co20)) (fun _ hk=>hk.2) (.bool t469)) (fun _ hk=>hk.2) (.slice Ao23 t470.length co23)) (fun _ hk=>hk.2) (.slice Ao25 t473.length co25)) (fun _ hk=>⟨hk.1.1.1.1.1,⟨hk.1.1.1.1.2,⟨hk.1.1.1.2,hk.1.1.2⟩⟩⟩)⟩
 have n4_ : Aside0 (Kd.V (Kd.int .u32) 123 ((((((w16.setCell ⟨gb459,0,none⟩ (.bool t462)).setCell ⟨gb459,1,none⟩ (.slice Ao18 t463.length co18)).setCell ⟨gb459,2,none⟩ (.slice Ao20 t466.length co20)).setCell ⟨gb460,0,none⟩ (.bool t469)).setCell ⟨gb460,1,none⟩ (.slice Ao23 t470.length co23)).setCell ⟨gb460,2,none⟩ (.slice Ao25 t473.length co25)) w.heap.size (fun k_=>((P0_1_ k_ ∨ P0_2_ k_ ∨ P1_1_ k_ ∨ P1_2_ k_) ∨ w.heap.size ≤ k_) ∧ k_ ≠ gb459 ∧ k_ ≠ gb460 ∧ k_ ≠ gb461) (.slice Ao18 t463.length co18) t463):=⟨by (with_reducible repeat (first | apply va_ | apply vn_ | apply vd_)); exact Kd.V_mono (Kd.V_far (p:=⟨gb460,2,none⟩) (Kd.V_far (p:=⟨gb460,1,none⟩) (Kd.V_far (p:=⟨gb460,0,none⟩) (Kd.V_far (p:=⟨gb459,2,none⟩) (Kd.V_far (p:=⟨gb459,1,none⟩) (Kd.V_far (p:=⟨gb459,0,none⟩) (Kd.V_mono (Kd.V_mono HO465.out (fun k_ hk=>(⟨hk,hk.2.1⟩ : _ ∧ k_ ≠ gb459))) (fun k_ hk=>(⟨hk,hk.1.2.2.1⟩ : _ ∧ k_ ≠ gb460))) (fun _ hk=>hk.1.2) (.bool t462)) (fun _ hk=>hk.1.2) (.slice Ao18 t463.length co18)) (fun _ hk=>hk.1.2) (.slice Ao20 t466.length co20)) (fun _ hk=>hk.2) (.bool t469)) (fun _ hk=>hk.2) (.slice Ao23 t470.length co23)) (fun _ hk=>hk.2) (.slice Ao25 t473.length co25)) (fun _ hk=>⟨hk.1.1.1,⟨hk.1.1.2.1,⟨hk.1.1.2.2.1,hk.1.1.2.2.2⟩⟩⟩)⟩
 have n5_ : Aside0 (Kd.V (Kd.int .u32) 123 ((((((w16.setCell ⟨gb459,0,none⟩ (.bool t462)).setCell ⟨gb459,1,none⟩ (.slice Ao18 t463.length co18)).setCell ⟨gb459,2,none⟩ (.slice Ao20 t466.length co20)).setCell ⟨gb460,0,none⟩ (.bool t469)).setCell ⟨gb460,1,none⟩ (.slice Ao23 t470.length co23)).setCell ⟨gb460,2,none⟩ (.slice Ao25 t473.length co25)) w.heap.size (fun k_=>((P0_1_ k_ ∨ P0_2_ k_ ∨ P1_1_ k_ ∨ P1_2_ k_) ∨ w.heap.size ≤ k_) ∧ k_ ≠ gb459 ∧ k_ ≠ gb460 ∧ k_ ≠ gb461) (.slice Ao20 t466.length co20) t466):=⟨by (with_reducible repeat (first | apply va_ | apply vn_ | apply vd_)); exact Kd.V_mono (Kd.V_far (p:=⟨gb460,2,none⟩) (Kd.V_far (p:=⟨gb460,1,none⟩) (Kd.V_far (p:=⟨gb460,0,none⟩) (Kd.V_far (p:=⟨gb459,2,none⟩) (Kd.V_far (p:=⟨gb459,1,none⟩) (Kd.V_far (p:=⟨gb459,0,none⟩) (Kd.V_mono (Kd.V_mono HO468.out (fun k_ hk=>(⟨hk,hk.2.1⟩ : _ ∧ k_ ≠ gb459))) (fun k_ hk=>(⟨hk,hk.1.2.2.1⟩ : _ ∧ k_ ≠ gb460))) (fun _ hk=>hk.1.2) (.bool t462)) (fun _ hk=>hk.1.2) (.slice Ao18 t463.length co18)) (fun _ hk=>hk.1.2) (.slice Ao20 t466.length co20)) (fun _ hk=>hk.2) (.bool t469)) (fun _ hk=>hk.2) (.slice Ao23 t470.length co23)) (fun _ hk=>hk.2) (.slice Ao25 t473.length co25)) (fun _ hk=>⟨hk.1.1.1,⟨hk.1.1.2.1,⟨hk.1.1.2.2.1,hk.1.1.2.2.2⟩⟩⟩)⟩
 have n6_ : Aside0 (Kd.V (Kd.int .u32) 123 ((((((w16.setCell ⟨gb459,0,none⟩ (.bool t462)).setCell ⟨gb459,1,none⟩ (.slice Ao18 t463.length co18)).setCell ⟨gb459,2,none⟩ (.slice Ao20 t466.length co20)).setCell ⟨gb460,0,none⟩ (.bool t469)).setCell ⟨gb460,1,none⟩ (.slice Ao23 t470.length co23)).setCell ⟨gb460,2,none⟩ (.slice Ao25 t473.length co25)) w.heap.size (fun k_=>((P0_1_ k_ ∨ P0_2_ k_ ∨ P1_1_ k_ ∨ P1_2_ k_) ∨ w.heap.size ≤ k_) ∧ k_ ≠ gb459 ∧ k_ ≠ gb460 ∧ k_ ≠ gb461) (.slice Ao23 t470.length co23) t470):=⟨by (with_reducible repeat (first | apply va_ | apply vn_ | apply vd_)); exact Kd.V_mono (Kd.V_far (p:=⟨gb460,2,none⟩) (Kd.V_far (p:=⟨gb460,1,none⟩) (Kd.V_far (p:=⟨gb460,0,none⟩) (Kd.V_far (p:=⟨gb459,2,none⟩) (Kd.V_far (p:=⟨gb459,1,none⟩) (Kd.V_far (p:=⟨gb459,0,none⟩) (Kd.V_mono (Kd.V_mono HO472.out (fun k_ hk=>(⟨hk,hk.2.1⟩ : _ ∧ k_ ≠ gb459))) (fun k_ hk=>(⟨hk,hk.1.2.2.1⟩ : _ ∧ k_ ≠ gb460))) (fun _ hk=>hk.1.2) (.bool t462)) (fun _ hk=>hk.1.2) (.slice Ao18 t463.length co18)) (fun _ hk=>hk.1.2) (.slice Ao20 t466.length co20)) (fun _ hk=>hk.2) (.bool t469)) (fun _ hk=>hk.2) (.slice Ao23 t470.length co23)) (fun _ hk=>hk.2) (.slice Ao25 t473.length co25)) (fun _ hk=>⟨hk.1.1.1,⟨hk.1.1.2.1,⟨hk.1.1.2.2.1,hk.1.1.2.2.2⟩⟩⟩)⟩
 have n7_ : Aside0 (Kd.V (Kd.int .u32) 123 ((((((w16.setCell ⟨gb459,0,none⟩ (.bool t462)).setCell ⟨gb459,1,none⟩ (.slice Ao18 t463.length co18)).setCell ⟨gb459,2,none⟩ (.slice Ao20 t466.length co20)).setCell ⟨gb460,0,none⟩ (.bool t469)).setCell ⟨gb460,1,none⟩ (.slice Ao23 t470.length co23)).setCell ⟨gb460,2,none⟩ (.slice Ao25 t473.length co25)) w.heap.size (fun k_=>((P0_1_ k_ ∨ P0_2_ k_ ∨ P1_1_ k_ ∨ P1_2_ k_) ∨ w.heap.size ≤ k_) ∧ k_ ≠ gb459 ∧ k_ ≠ gb460 ∧ k_ ≠ gb461) (.slice Ao25 t473.length co25) t473):=⟨by (with_reducible repeat (first | apply va_ | apply vn_ | apply vd_)); exact Kd.V_mono (Kd.V_far (p:=⟨gb460,2,none⟩) (Kd.V_far (p:=⟨gb460,1,none⟩) (Kd.V_far (p:=⟨gb460,0,none⟩) (Kd.V_far (p:=⟨gb459,2,none⟩) (Kd.V_far (p:=⟨gb459,1,none⟩) (Kd.V_far (p:=⟨gb459,0,none⟩) (Kd.V_mono (Kd.V_mono HO475.out (fun k_ hk=>(⟨hk,hk.2.1⟩ : _ ∧ k_ ≠ gb459))) (fun k_ hk=>(⟨hk,hk.1.2.2.1⟩ : _ ∧ k_ ≠ gb460))) (fun _ hk=>hk.1.2) (.bool t462)) (fun _ hk=>hk.1.2) (.slice Ao18 t463.length co18)) (fun _ hk=>hk.1.2) (.slice Ao20 t466.length co20)) (fun _ hk=>hk.2) (.bool t469)) (fun _ hk=>hk.2) (.slice Ao23 t470.length co23)) (fun _ hk=>hk.2) (.slice Ao25 t473.length co25)) (fun _ hk=>⟨hk.1.1.1,⟨hk.1.1.2.1,⟨hk.1.1.2.2.1,hk.1.1.2.2.2⟩⟩⟩)⟩
 have n8_ : Aside0 (((((((w16.setCell ⟨gb459,0,none⟩ (.bool t462)).setCell ⟨gb459,1,none⟩ (.slice Ao18 t463.length co18)).setCell ⟨gb459,2,none⟩ (.slice Ao20 t466.length co20)).setCell ⟨gb460,0,none⟩ (.bool t469)).setCell ⟨gb460,1,none⟩ (.slice Ao23 t470.length co23)).setCell ⟨gb460,2,none⟩ (.slice Ao25 t473.length co25)).heap[gb459]? = some (.cells #[.bool t462,.slice Ao18 t463.length co18,.slice Ao20 t466.length co20] 50 (0,0))):=⟨by (with_reducible repeat (first | apply kn_ | apply kd_ | apply ka_)); refine blk_far ?_ NB459_460.out _; (with_reducible repeat (first | apply kn_ | apply kd_ | apply ka_)); refine blk_far ?_ NB459_460.out _; (with_reducible repeat (first | apply kn_ | apply kd_ | apply ka_)); refine blk_far ?_ NB459_460.out _; (with_reducible repeat (first | apply kn_ | apply kd_ | apply ka_)); refine blk_put (cs:=#[.bool t462,.slice Ao18 t463.length co18,.slice A0_2 l0_2.length c0_2]) ?_ 2 _ rfl; (with_reducible repeat (first | apply kn_ | apply kd_ | apply ka_)); refine blk_put (cs:=#[.bool t462,.slice A0_1 l0_1.length c0_1,.slice A0_2 l0_2.length c0_2]) ?_ 1 _ rfl; (with_reducible repeat (first | apply kn_ | apply kd_ | apply ka_)); refine blk_put (cs:=#[.bool a0_0,.slice A0_1 l0_1.length c0_1,.slice A0_2 l0_2.length c0_2]) ?_ 0 _ rfl; (with_reducible repeat (first | apply kn_ | apply kd_ | apply ka_)); exact BK459.out⟩
 have n9_ : Aside0 (((((((w16.setCell ⟨gb459,0,none⟩ (.bool t462)).setCell ⟨gb459,1,none⟩ (.slice Ao18 t463.length co18)).setCell ⟨gb459,2,none⟩ (.slice Ao20 t466.length co20)).setCell ⟨gb460,0,none⟩ (.bool t469)).setCell ⟨gb460,1,none⟩ (.slice Ao23 t470.length co23)).setCell ⟨gb460,2,none⟩ (.slice Ao25 t473.length co25)).heap[gb460]? = some (.cells #[.bool t469,.slice Ao23 t470.length co23,.slice Ao25 t473.length co25] 50 (0,0))):=⟨by (with_reducible repeat (first | apply kn_ | apply kd_ | apply ka_)); refine blk_put (cs:=#[.bool t469,.slice Ao23 t470.length co23,.slice A1_2 l1_2.length c1_2]) ?_ 2 _ rfl; (with_reducible repeat (first | apply kn_ | apply kd_ | apply ka_)); refine blk_put (cs:=#[.bool t469,.slice A1_1 l1_1.length c1_1,.slice A1_2 l1_2.length c1_2]) ?_ 1 _ rfl; (with_reducible repeat (first | apply kn_ | apply kd_ | apply ka_)); refine blk_put (cs:=#[.bool a1_0,.slice A1_1 l1_1.length c1_1,.slice A1_2 l1_2.length c1_2]) ?_ 0 _ rfl; (with_reducible repeat (first | apply kn_ | apply kd_ | apply ka_)); refine blk_far ?_ NB460_459.out _; (with_reducible repeat (first | apply kn_ | apply kd_ | apply ka_)); refine blk_far ?_ NB460_459.out _; (with_reducible repeat (first | apply kn_ | apply kd_ | apply ka_)); refine blk_far ?_ NB460_459.out _; (with_reducible repeat (first | apply kn_ | apply kd_ | apply ka_)); exact BK460.out⟩
 have n10_ : Aside0 (((((((w16.setCell ⟨gb459,0,none⟩ (.bool t462)).setCell ⟨gb459,1,none⟩ (.slice Ao18 t463.length co18)).setCell ⟨gb459,2,none⟩ (.slice Ao20 t466.length co20)).setCell ⟨gb460,0,none⟩ (.bool t469)).setCell ⟨gb460,1,none⟩ (.slice Ao23 t470.length co23)).setCell ⟨gb460,2,none⟩ (.slice Ao25 t473.length co25)).heap[gb461]? = some (.cells #[.bool false,.slice none 0 0,.slice none 0 0] 50 (0,0))):=⟨by (with_reducible repeat (first | apply kn_ | apply kd_ | apply ka_)); refine blk_far ?_ NB461_460.out _; (with_reducible repeat (first | apply kn_ | apply kd_ | apply ka_)); refine blk_far ?_ NB461_460.out _; (with_reducible repeat (first | apply kn_ | apply kd_ | apply ka_)); refine blk_far ?_ NB461_460.out _; (with_reducible repeat (first | apply kn_ | apply kd_ | apply ka_)); refine blk_far ?_ NB461_459.out _; (with_reducible repeat (first | apply kn_ | apply kd_ | apply ka_)); refine blk_far ?_ NB461_459.out _; (with_reducible repeat (first | apply kn_ | apply kd_ | apply ka_)); refine blk_far ?_ NB461_459.out _; (with_reducible repeat (first | apply kn_ | apply kd_ | apply ka_)); exact BK461.out⟩
 have n11_ : Aside0 (Below w.heap.size w ((((((w16.setCell ⟨gb459,0,none⟩ (.bool t462)).setCell ⟨gb459,1,none⟩ (.slice Ao18 t463.length co18)).setCell ⟨gb459,2,none⟩ (.slice Ao20 t466.length co20)).setCell ⟨gb460,0,none⟩ (.bool t469)).setCell ⟨gb460,1,none⟩ (.slice Ao23 t470.length co23)).setCell ⟨gb460,2,none⟩ (.slice Ao25 t473.length co25))):=⟨bh_⟩
 (try clear HO0_1)
 (try clear HO0_2)
 (try clear HO1_1)
 (try clear HO1_2)
 (try clear HO465)
 (try clear HO468)
 (try clear HO472)
 (try clear HO475)
 (try clear BK459)
 (try clear BK460)
 (try clear BK461)
 (try clear HB)
 generalize ((((((w16.setCell ⟨gb459,0,none⟩ (.bool t462)).setCell ⟨gb459,1,none⟩ (.slice Ao18 t463.length co18)).setCell ⟨gb459,2,none⟩ (.slice Ao20 t466.length co20)).setCell ⟨gb460,0,none⟩ (.bool t469)).setCell ⟨gb460,1,none⟩ (.slice Ao23 t470.length co23)).setCell ⟨gb460,2,none⟩ (.slice Ao25 t473.length co25)) = w27 at n0_ n1_ n2_ n3_ n4_ n5_ n6_ n7_ n8_ n9_ n10_ n11_ ⊢
 have HO0_1:=n0_
 have HO0_2:=n1_
 have HO1_1:=n2_
 have HO1_2:=n3_
 have HO465:=n4_
 have HO468:=n5_
 have HO472:=n6_
 have HO475:=n7_
 have BK459:=n8_
 have BK460:=n9_
 have BK461:=n10_
 have HB:=n11_
 clear n0_ n1_ n2_ n3_ n4_ n5_ n6_ n7_ n8_ n9_ n10_ n11_
 have n0_:=Aside0.mk (Kd.V_drew HO0_1.out)
 have n1_:=Aside0.mk (Kd.V_drew HO0_2.out)
 have n2_:=Aside0.mk (Kd.V_drew HO1_1.out)
 have n3_:=Aside0.mk (Kd.V_drew HO1_2.out)
 have n4_:=Aside0.mk (Kd.V_drew HO465.out)
 have n5_:=Aside0.mk (Kd.V_drew HO468.out)
 have n6_:=Aside0.mk (Kd.V_drew HO472.out)
 have n7_:=Aside0.mk (Kd.V_drew HO475.out)
 have n8_:=Aside0.mk (blk_drew BK459.out)
 have n9_:=Aside0.mk (blk_drew BK460.out)
 have n10_:=Aside0.mk (blk_drew BK461.out)
 have n11_:=Aside0.mk (below_drew1 HB.out)
 clear HO0_1
 clear HO0_2
 clear HO1_1
 clear HO1_2
 clear HO465
 clear HO468
 clear HO472
 clear HO475
 clear BK459
 clear BK460
 clear BK461
 clear HB
 have HO0_1:=n0_
 have HO0_2:=n1_
 have HO1_1:=n2_
 have HO1_2:=n3_
 have HO465:=n4_
 have HO468:=n5_
 have HO472:=n6_
 have HO475:=n7_
 have BK459:=n8_
 have BK460:=n9_
 have BK461:=n10_
 have HB:=n11_
 clear n0_ n1_ n2_ n3_ n4_ n5_ n6_ n7_ n8_ n9_ n10_ n11_
 refine start_ (n:=18) (S:=fun w'=>w'.cell? ⟨gb459,0,none⟩ = some (.bool t462) ∧ w'.cell? ⟨gb459,1,none⟩ = some (.slice Ao18 t463.length co18) ∧ w'.cell? ⟨gb459,2,none⟩ = some (.slice Ao20 t466.length co20) ∧ w'.cell? ⟨gb460,0,none⟩ = some (.bool t469) ∧ w'.cell? ⟨gb460,1,none⟩ = some (.slice Ao23 t470.length co23) ∧ w'.cell? ⟨gb460,2,none⟩ = some (.slice Ao25 t473.length co25)) (ds:=[]) #[false,false,false,false,false,false,false,false,false,false,false,false,false,false,false,false,false,false] (by kernel_rfl) rfl rfl ⟨bc_ BK459 0,bc_ BK459 1,bc_ BK459 2,bc_ BK460 0,bc_ BK460 1,bc_ BK460 2⟩ (fun hHeld=>?_); refine with_tabW ratio_R_Add.tab2 ratio_R_Add.bits2 (fun HT_ HW_=>?_)
 generalize w27.drew = w28 at HO0_1 HO0_2 HO1_1 HO1_2 HO465 HO468 HO472 HO475 BK459 BK460 BK461 HB hHeld ⊢
 refine pure_ (i:=0) (N:=some 16) (v:=?_) (a':=?_) #[true,false,false,false,false,false,false,false,false,false,false,false,false,false,false,false,false,false] rfl rfl (any_of HT_.out (by kernel_rfl)) (fun _ _ _ h=>h) (Or.inl ⟨by rfl,?_⟩) ?_ ?_
 rotate_left
 ·
  intro w'
  go_simp
  with_reducible rfl
 rotate_left
 ·
  simp only [Act.put,p1_,p2_,p3_,i64_w,i32_w]
  rfl
 refine pure_ (i:=2) (N:=some 18) (v:=?_) (a':=?_) #[true,false,true,false,false,false,false,false,false,false,false,false,false,false,false,false,false,false] rfl rfl (any_of HT_.out (by kernel_rfl)) (fun _ _ _ h=>h) (Or.inl ⟨by rfl,?_⟩) ?_ ?_
 rotate_left
 ·
  intro w'
  go_simp
  with_reducible rfl
 rotate_left
 ·
  simp only [Act.put,p1_,p2_,p3_,i64_w,i32_w]
  rfl
 refine pure_ (i:=5) (N:=some 21) (v:=?_) (a':=?_) #[true,false,true,false,false,true,false,false,false,false,false,false,false,false,false,false,false,false] rfl rfl (any_of HT_.out (by kernel_rfl)) (fun _ _ _ h=>h) (Or.inl ⟨by rfl,?_⟩) ?_ ?_
 rotate_left
 ·
  intro w'
  go_simp
  with_reducible rfl
 rotate_left
 ·
  simp only [Act.put,p1_,p2_,p3_,i64_w,i32_w]
  rfl
 refine pure_ (i:=7) (N:=some 23) (v:=?_) (a':=?_) #[true,false,true,false,false,true,false,true,false,false,false,false,false,false,false,false,false,false] rfl rfl (any_of HT_.out (by kernel_rfl)) (fun _ _ _ h=>h) (Or.inl ⟨by rfl,?_⟩) ?_ ?_
 rotate_left
 ·
  intro w'
  go_simp
  with_reducible rfl
 rotate_left
 ·
  simp only [Act.put,p1_,p2_,p3_,i64_w,i32_w]
  rfl
 refine pure_ (i:=10) (N:=some 26) (v:=?_) (a':=?_) #[true,false,true,false,false,true,false,true,false,false,true,false,false,false,false,false,false,false] rfl rfl (any_of HT_.out (by kernel_rfl)) (fun _ _ _ h=>h) (Or.inl ⟨by rfl,?_⟩) ?_ ?_
 rotate_left
 ·
  intro w'
  go_simp
  with_reducible rfl
 rotate_left
 ·
  simp only [Act.put,p1_,p2_,p3_,i64_w,i32_w]
  rfl
 refine pure_ (i:=12) (N:=some 28) (v:=?_) (a':=?_) #[true,false,true,false,false,true,false,true,false,false,true,false,true,false,false,false,false,false] rfl rfl (any_of HT_.out (by kernel_rfl)) (fun _ _ _ h=>h) (Or.inl ⟨by rfl,?_⟩) ?_ ?_
 rotate_left
 ·
  intro w'
  go_simp
  with_reducible rfl
 rotate_left
 ·
  simp only [Act.put,p1_,p2_,p3_,i64_w,i32_w]
  rfl
 refine take_ (i:=1) (N:=some 17) (v:=?_) (a':=?_) #[true,true,true,false,false,true,false,true,false,false,true,false,true,false,false,false,false,false] rfl rfl (take_ofW HT_.out HW_.out (by kernel_rfl)) (fun _ _ _ h=>h) (Or.inl ⟨by rfl,?_⟩) hHeld ?_ ?_
 rotate_left
 ·
  rintro w' ⟨s0,s1,s2,s3,s4,s5⟩
  go_simp
  with_reducible rfl
 rotate_left
 ·
  simp only [Act.put,p1_,p2_,p3_,i64_w,i32_w]
  rfl
 refine take_ (i:=3) (N:=some 19) (v:=?_) (a':=?_) #[true,true,true,true,false,true,false,true,false,false,true,false,true,false,false,false,false,false] rfl rfl (take_ofW HT_.out HW_.out (by kernel_rfl)) (fun _ _ _ h=>h) (Or.inl ⟨by rfl,?_⟩) hHeld ?_ ?_
 rotate_left
 ·
  rintro w' ⟨s0,s1,s2,s3,s4,s5⟩
  go_simp
  with_reducible rfl
 rotate_left
 ·
  simp only [Act.put,p1_,p2_,p3_,i64_w,i32_w]
  rfl
 refine take_ (i:=6) (N:=some 22) (v:=?_) (a':=?_) #[true,true,true,true,false,true,true,true,false,false,true,false,true,false,false,false,false,false] rfl rfl (take_ofW HT_.out HW_.out (by kernel_rfl)) (fun _ _ _ h=>h) (Or.inl ⟨by rfl,?_⟩) hHeld ?_ ?_
 rotate_left
 ·
  rintro w' ⟨s0,s1,s2,s3,s4,s5⟩
  go_simp
  with_reducible rfl
 rotate_left
 ·
  simp only [Act.put,p1_,p2_,p3_,i64_w,i32_w]
  rfl
 refine take_ (i:=8) (N:=some 24) (v:=?_) (a':=?_) #[true,true,true,true,false,true,true,true,true,false,true,false,true,false,false,false,false,false] rfl rfl (take_ofW HT_.out HW_.out (by kernel_rfl)) (fun _ _ _ h=>h) (Or.inl ⟨by rfl,?_⟩) hHeld ?_ ?_
 rotate_left
 ·
  rintro w' ⟨s0,s1,s2,s3,s4,s5⟩
  go_simp
  with_reducible rfl
 rotate_left
 ·
  simp only [Act.put,p1_,p2_,p3_,i64_w,i32_w]
  rfl
 refine take_ (i:=11) (N:=some 27) (v:=?_) (a':=?_) #[true,true,true,true,false,true,true,true,true,false,true,true,true,false,false,false,false,false] rfl rfl (take_ofW HT_.out HW_.out (by kernel_rfl)) (fun _ _ _ h=>h) (Or.inl ⟨by rfl,?_⟩) hHeld ?_ ?_
 rotate_left
 ·
  rintro w' ⟨s0,s1,s2,s3,s4,s5⟩
  go_simp
  with_reducible rfl
 rotate_left
 ·
  simp only [Act.put,p1_,p2_,p3_,i64_w,i32_w]
  rfl
 refine take_ (i:=13) (N:=some 29) (v:=?_) (a':=?_) #[true,true,true,true,false,true,true,true,true,false,true,true,true,true,false,false,false,false] rfl rfl (take_ofW HT_.out HW_.out (by kernel_rfl)) (fun _ _ _ h=>h) (Or.inl ⟨by rfl,?_⟩) hHeld ?_ ?_
 rotate_left
 ·
  rintro w' ⟨s0,s1,s2,s3,s4,s5⟩
  go_simp
  with_reducible rfl
 rotate_left
 ·
  simp only [Act.put,p1_,p2_,p3_,i64_w,i32_w]
  rfl
 refine one_ (i:=4) (N:=some 20) #[true,true,true,true,true,true,true,true,true,false,true,true,true,true,false,false,false,false] rfl rfl (one_of HT_.out (by kernel_rfl)) (by decide) (fun K hK=>?_)
 refine goesN_ Try.func67 (by kernel_rfl) rfl [.slice Ao18 t463.length co18,.slice Ao25 t473.length co25] (by rfl) rfl rfl (by rfl) ?_
 with_reducible refine (nat_Nat_Mul.calls k _ _ t463 _ _ t473 t476 _ ?side1 ?side2 ?side3 ?side4 A5.out).mono ?_
 (case side1=>repeat first | exact (Kd.V_reads' HO465.out).2.2 | with_reducible first | apply ca_ | apply cn_ | apply cd_)
 (case side2=>exact (Kd.V_reads' HO465.out).2.1)
 (case side3=>repeat first | exact (Kd.V_reads' HO475.out).2.2 | with_reducible first | apply ca_ | apply cn_ | apply cd_)
 (case side4=>exact (Kd.V_reads' HO475.out).2.1)
 rintro e w29 ⟨v477,rfl,ho0,hb⟩
 refine ⟨_,rfl,?_⟩
 have n0_:=vb_ HO0_1 hb
 have n1_:=vb_ HO0_2 hb
 have n2_:=vb_ HO1_1 hb
 have n3_:=vb_ HO1_2 hb
 have n4_:=vb_ HO465 hb
 have n5_:=vb_ HO468 hb
 have n6_:=vb_ HO472 hb
 have n7_:=vb_ HO475 hb
 have n8_:=Aside0.mk (Kd.V_lower (Kd.V_mono (ok':=fun k_=>((P0_1_ k_ ∨ P0_2_ k_ ∨ P1_1_ k_ ∨ P1_2_ k_) ∨ w.heap.size ≤ k_) ∧ k_ ≠ gb459 ∧ k_ ≠ gb460 ∧ k_ ≠ gb461) ho0 (fun k_ hk_=>⟨(.inr (Nat.le_trans (below_size bh_) hk_)),(fb_ BK459 k_ hk_),(fb_ BK460 k_ hk_),(fb_ BK461 k_ hk_)⟩)) (below_size bh_))
 have n9_:=kb_ BK459 hb
 have n10_:=kb_ BK460 hb
 have n11_:=kb_ BK461 hb
 have n12_:=bq_ hb
 clear HO0_1
 clear HO0_2
 clear HO1_1
 clear HO1_2
 clear HO465
 clear HO468
 clear HO472
 clear HO475
 clear BK459
 clear BK460
 clear BK461
 clear HB
 have HO0_1:=n0_
 have HO0_2:=n1_
 have HO1_1:=n2_
 have HO1_2:=n3_
 have HO465:=n4_
 have HO468:=n5_
 have HO472:=n6_
 have HO475:=n7_
 have HO478:=n8_
 have BK459:=n9_
 have BK460:=n10_
 have BK461:=n11_
 have HB:=n12_
 clear n0_ n1_ n2_ n3_ n4_ n5_ n6_ n7_ n8_ n9_ n10_ n11_ n12_
 (try clear hb)
 (try clear hb2)
 (try clear hk)
 (try clear hi)
 (try clear ho0)
 refine hK.out _ _ ⟨bc_ BK459 0,bc_ BK459 1,bc_ BK459 2,bc_ BK460 0,bc_ BK460 1,bc_ BK460 2⟩ (fun hHeld=>?_)
 clear hK K
 refine norm_ (a':=?_) ?_ ?_
 rotate_left
 ·
  show Act.put _ (some 20) _ = _
  simp only [Act.put,p1_,p2_,p3_,i64_w,i32_w]
  rfl
 refine one_ (i:=9) (N:=some 25) #[true,true,true,true,true,true,true,true,true,true,true,true,true,true,false,false,false,false] rfl rfl (one_of HT_.out (by kernel_rfl)) (by decide) (fun K hK=>?_)
 refine goesN_ Try.func67 (by kernel_rfl) rfl [.slice Ao23 t470.length co23,.slice Ao20 t466.length co20] (by rfl) rfl rfl (by rfl) ?_
 with_reducible refine (nat_Nat_Mul.calls k _ _ t470 _ _ t466 t479 _ ?side1 ?side2 ?side3 ?side4 A6.out).mono ?_
 (case side1=>repeat first | exact (Kd.V_reads' HO472.out).2.2 | with_reducible first | apply ca_ | apply cn_ | apply cd_)
 (case side2=>exact (Kd.V_reads' HO472.out).2.1)
 (case side3=>repeat first | exact (Kd.V_reads' HO468.out).2.2 | with_reducible first | apply ca_ | apply cn_ | apply cd_)
 (case side4=>exact (Kd.V_reads' HO468.out).2.1)
 rintro e w30 ⟨v480,rfl,ho0,hb⟩
 refine ⟨_,rfl,?_⟩
 have n0_:=vb_ HO0_1 hb
 have n1_:=vb_ HO0_2 hb
 have n2_:=vb_ HO1_1 hb
 have n3_:=vb_ HO1_2 hb
 have n4_:=vb_ HO465 hb
 have n5_:=vb_ HO468 hb
 have n6_:=vb_ HO472 hb
 have n7_:=vb_ HO475 hb
 have n8_:=vb_ HO478 hb
 have n9_:=Aside0.mk (Kd.V_lower (Kd.V_mono (ok':=fun k_=>((P0_1_ k_ ∨ P0_2_ k_ ∨ P1_1_ k_ ∨ P1_2_ k_) ∨ w.heap.size ≤ k_) ∧ k_ ≠ gb459 ∧ k_ ≠ gb460 ∧ k_ ≠ gb461) ho0 (fun k_ hk_=>⟨(.inr (Nat.le_trans (below_size bh_) hk_)),(fb_ BK459 k_ hk_),(fb_ BK460 k_ hk_),(fb_ BK461 k_ hk_)⟩)) (below_size bh_))
 have n10_:=kb_ BK459 hb
 have n11_:=kb_ BK460 hb
 have n12_:=kb_ BK461 hb
 have n13_:=bq_ hb
 clear HO0_1
 clear HO0_2
 clear HO1_1
 clear HO1_2
 clear HO465
 clear HO468
 clear HO472
 clear HO475
 clear HO478
 clear BK459
 clear BK460
 clear BK461
 clear HB
 have HO0_1:=n0_
 have HO0_2:=n1_
 have HO1_1:=n2_
 have HO1_2:=n3_
 have HO465:=n4_
 have HO468:=n5_
 have HO472:=n6_
 have HO475:=n7_
 have HO478:=n8_
 have HO481:=n9_
 have BK459:=n10_
 have BK460:=n11_
 have BK461:=n12_
 have HB:=n13_
 clear n0_ n1_ n2_ n3_ n4_ n5_ n6_ n7_ n8_ n9_ n10_ n11_ n12_ n13_
 (try clear hb)
 (try clear hb2)
 (try clear hk)
 (try clear hi)
 (try clear ho0)
 refine hK.out _ _ ⟨bc_ BK459 0,bc_ BK459 1,bc_ BK459 2,bc_ BK460 0,bc_ BK460 1,bc_ BK460 2⟩ (fun hHeld=>?_)
 clear hK K
 refine norm_ (a':=?_) ?_ ?_
 rotate_left
 ·
  show Act.put _ (some 25) _ = _
  simp only [Act.put,p1_,p2_,p3_,i64_w,i32_w]
  rfl
 refine one_ (i:=14) (N:=some 30) #[true,true,true,true,true,true,true,true,true,true,true,true,true,true,true,false,false,false] rfl rfl (one_of HT_.out (by kernel_rfl)) (by decide) (fun K hK=>?_)
 refine goesN_ Try.func67 (by kernel_rfl) rfl [.slice Ao20 t466.length co20,.slice Ao25 t473.length co25] (by rfl) rfl rfl (by rfl) ?_
 with_reducible refine (nat_Nat_Mul.calls k _ _ t466 _ _ t473 t482 _ ?side1 ?side2 ?side3 ?side4 A7.out).mono ?_
 (case side1=>repeat first | exact (Kd.V_reads' HO468.out).2.2 | with_reducible first | apply ca_ | apply cn_ | apply cd_)
 (case side2=>exact (Kd.V_reads' HO468.out).2.1)
 (case side3=>repeat first | exact (Kd.V_reads' HO475.out).2.2 | with_reducible first | apply ca_ | apply cn_ | apply cd_)
 (case side4=>exact (Kd.V_reads' HO475.out).2.1)
 rintro e w31 ⟨v483,rfl,ho0,hb⟩
 refine ⟨_,rfl,?_⟩
 have n0_:=vb_ HO0_1 hb
 have n1_:=vb_ HO0_2 hb
 have n2_:=vb_ HO1_1 hb
 have n3_:=vb_ HO1_2 hb
 have n4_:=vb_ HO465 hb
 have n5_:=vb_ HO468 hb
 have n6_:=vb_ HO472 hb
 have n7_:=vb_ HO475 hb
 have n8_:=vb_ HO478 hb
 have n9_:=vb_ HO481 hb
 have n10_:=Aside0.mk (Kd.V_lower (Kd.V_mono (ok':=fun k_=>((P0_1_ k_ ∨ P0_2_ k_ ∨ P1_1_ k_ ∨ P1_2_ k_) ∨ w.heap.size ≤ k_) ∧ k_ ≠ gb459 ∧ k_ ≠ gb460 ∧ k_ ≠ gb461) ho0 (fun k_ hk_=>⟨(.inr (Nat.le_trans (below_size bh_) hk_)),(fb_ BK459 k_ hk_),(fb_ BK460 k_ hk_),(fb_ BK461 k_ hk_)⟩)) (below_size bh_))
 have n11_:=kb_ BK459 hb
 have n12_:=kb_ BK460 hb
 have n13_:=kb_ BK461 hb
 have n14_:=bq_ hb
 clear HO0_1
 clear HO0_2
 clear HO1_1
 clear HO1_2
 clear HO465
 clear HO468
 clear HO472
 clear HO475
 clear HO478
 clear HO481
 clear BK459
 clear BK460
 clear BK461
 clear HB
 have HO0_1:=n0_
 have HO0_2:=n1_
 have HO1_1:=n2_
 have HO1_2:=n3_
 have HO465:=n4_
 have HO468:=n5_
 have HO472:=n6_
 have HO475:=n7_
 have HO478:=n8_
 have HO481:=n9_
 have HO484:=n10_
 have BK459:=n11_
 have BK460:=n12_
 have BK461:=n13_
 have HB:=n14_
 clear n0_ n1_ n2_ n3_ n4_ n5_ n6_ n7_ n8_ n9_ n10_ n11_ n12_ n13_ n14_
 (try clear hb)
 (try clear hb2)
 (try clear hk)
 (try clear hi)
 (try clear ho0)
 refine hK.out _ _ ⟨bc_ BK459 0,bc_ BK459 1,bc_ BK459 2,bc_ BK460 0,bc_ BK460 1,bc_ BK460 2⟩ (fun hHeld=>?_)
 clear hK K
 refine norm_ (a':=?_) ?_ ?_
 rotate_left
 ·
  show Act.put _ (some 30) _ = _
  simp only [Act.put,p1_,p2_,p3_,i64_w,i32_w]
  rfl
 refine pure_ (i:=15) (N:=some 5) (v:=?_) (a':=?_) #[true,true,true,true,true,true,true,true,true,true,true,true,true,true,true,true,false,false] rfl rfl (any_of HT_.out (by kernel_rfl)) (fun _ _ _ h=>h) (Or.inl ⟨by rfl,?_⟩) ?_ ?_
 rotate_left
 ·
  intro w'
  go_simp
  with_reducible rfl
 rotate_left
 ·
  simp only [Act.put,p1_,p2_,p3_,i64_w,i32_w]
  rfl
 refine pure_ (i:=16) (N:=some 6) (v:=?_) (a':=?_) #[true,true,true,true,true,true,true,true,true,true,true,true,true,true,true,true,true,false] rfl rfl (any_of HT_.out (by kernel_rfl)) (fun _ _ _ h=>h) (Or.inl ⟨by rfl,?_⟩) ?_ ?_
 rotate_left
 ·
  intro w'
  go_simp
  with_reducible rfl
 rotate_left
 ·
  simp only [Act.put,p1_,p2_,p3_,i64_w,i32_w]
  rfl
 refine pure_ (i:=17) (N:=some 7) (v:=?_) (a':=?_) #[true,true,true,true,true,true,true,true,true,true,true,true,true,true,true,true,true,true] rfl rfl (any_of HT_.out (by kernel_rfl)) (fun _ _ _ h=>h) (Or.inl ⟨by rfl,?_⟩) ?_ ?_
 rotate_left
 ·
  intro w'
  go_simp
  with_reducible rfl
 rotate_left
 ·
  simp only [Act.put,p1_,p2_,p3_,i64_w,i32_w]
  rfl
 refine done_ (done_of HT_.out (by kernel_rfl)) ?_
 have hnb32:=NB459_460.out
 have hnc32:=NB460_459.out
 have hnb33:=NB459_461.out
 have hnc33:=NB461_459.out
 have hcz34_0 : w31.cell? ⟨gb459,0,none⟩ = some (.bool t462):=bc_ BK459 0
 have hcz34_1 : w31.cell? ⟨gb459,1,none⟩ = some (.slice Ao18 t463.length co18):=bc_ BK459 1
 have hcz34_2 : w31.cell? ⟨gb459,2,none⟩ = some (.slice Ao20 t466.length co20):=bc_ BK459 2
 have hfz34_0:=blk_frozen BK459.out 0
 have hfz34_1:=blk_frozen BK459.out 1
 have hfz34_2:=blk_frozen BK459.out 2
 have hnb35:=NB460_461.out
 have hnc35:=NB461_460.out
 have H:=HH1_.out
 clear HH1_
 by_cases c8 : (t462 == t469) = true
 case pos =>
  rw [if_pos c8] at H
  have c8b0 : (t462 == t469) = true:=c8
  (try (have c8b1 : decide (t462 = t469) = true:=by simpa using c8))
  (try (have c8b2 : (t462 == t469) = true:=by simpa using c8))
  clear c8
  replace H:=Option.bind_eq_some_iff.mp H
  obtain ⟨t485,A90,H⟩:=H
  replace H : ((ratio_low.f k t462 t485 t482).bind fun bt488=>(some (bt488.1,bt488.2.1,bt488.2.2))) = some (r1,r2,r3):=H
  have A9:=Aside0.mk A90
  clear A90
  replace H:=Option.bind_eq_some_iff.mp H
  obtain ⟨⟨t488,t489,t492⟩,A100,H⟩:=H
  replace H : (some (t488,t489,t492)) = some (r1,r2,r3):=H
  have A10:=Aside0.mk A100
  clear A100
  simp only [Option.some.injEq,Prod.mk.injEq] at H
  obtain ⟨rfl,rfl,rfl⟩:=H
  (try simp only [c8b0])
  have hcz36_0 : w31.cell? ⟨gb460,0,none⟩ = some (.bool t469):=bc_ BK460 0
  have hcz36_1 : w31.cell? ⟨gb460,1,none⟩ = some (.slice Ao23 t470.length co23):=bc_ BK460 1
  have hcz36_2 : w31.cell? ⟨gb460,2,none⟩ = some (.slice Ao25 t473.length co25):=bc_ BK460 2
  have hfz36_0:=blk_frozen BK460.out 0
  have hfz36_1:=blk_frozen BK460.out 1
  have hfz36_2:=blk_frozen BK460.out 2
  try go_wp2
  have n0_:=Aside0.mk (Kd.V_drew HO0_1.out)
  have n1_:=Aside0.mk (Kd.V_drew HO0_2.out)
  have n2_:=Aside0.mk (Kd.V_drew HO1_1.out)
  have n3_:=Aside0.mk (Kd.V_drew HO1_2.out)
  have n4_:=Aside0.mk (Kd.V_drew HO465.out)
  have n5_:=Aside0.mk (Kd.V_drew HO468.out)
  have n6_:=Aside0.mk (Kd.V_drew HO472.out)
  have n7_:=Aside0.mk (Kd.V_drew HO475.out)
  have n8_:=Aside0.mk (Kd.V_drew HO478.out)
  have n9_:=Aside0.mk (Kd.V_drew HO481.out)
  have n10_:=Aside0.mk (Kd.V_drew HO484.out)
  have n11_:=Aside0.mk (blk_drew BK459.out)
  have n12_:=Aside0.mk (blk_drew BK460.out)
  have n13_:=Aside0.mk (blk_drew BK461.out)
  have n14_:=Aside0.mk (below_drew1 HB.out)
  clear HO0_1
  clear HO0_2
  clear HO1_1
  clear HO1_2
  clear HO465
  clear HO468
  clear HO472
  clear HO475
  clear HO478
  clear HO481
  clear HO484
  clear BK459
  clear BK460
  clear BK461
  clear HB
  have HO0_1:=n0_
  have HO0_2:=n1_
  have HO1_1:=n2_
  have HO1_2:=n3_
  have HO465:=n4_
  have HO468:=n5_
  have HO472:=n6_
  have HO475:=n7_
  have HO478:=n8_
  have HO481:=n9_
  have HO484:=n10_
  have BK459:=n11_
  have BK460:=n12_
  have BK461:=n13_
  have HB:=n14_
  clear n0_ n1_ n2_ n3_ n4_ n5_ n6_ n7_ n8_ n9_ n10_ n11_ n12_ n13_ n14_
  obtain ⟨Ao38,co38,eo38⟩:=Kd.V_slice HO478.out
  (first | subst eo38 | (injection eo38 with f1_ f2_ f3_; have f4_:=f1_.symm; have f5_:=f3_.symm; clear f1_ f2_ f3_; subst f4_; subst f5_))
  obtain ⟨Ao39,co39,eo39⟩:=Kd.V_slice HO481.out
  (first | subst eo39 | (injection eo39 with f1_ f2_ f3_; have f4_:=f1_.symm; have f5_:=f3_.symm; clear f1_ f2_ f3_; subst f4_; subst f5_))
  refine start_ (n:=8) (S:=fun w'=>w'.cell? ⟨gb459,0,none⟩ = some (.bool t462) ∧ w'.cell? ⟨gb459,1,none⟩ = some (.slice Ao18 t463.length co18) ∧ w'.cell? ⟨gb459,2,none⟩ = some (.slice Ao20 t466.length co20)) (ds:=[]) #[false,false,false,false,false,false,false,false] (by kernel_rfl) rfl rfl ⟨bc_ BK459 0,bc_ BK459 1,bc_ BK459 2⟩ (fun hHeld=>?_); refine with_tabW ratio_R_Add.tab4 ratio_R_Add.bits4 (fun HT_ HW_=>?_)
  generalize w31.drew = w37 at HO0_1 HO0_2 HO1_1 HO1_2 HO465 HO468 HO472 HO475 HO478 HO481 HO484 BK459 BK460 BK461 HB hHeld ⊢
  refine pure_ (i:=0) (N:=some 36) (v:=?_) (a':=?_) #[true,false,false,false,false,false,false,false] rfl rfl (any_of HT_.out (by kernel_rfl)) (fun _ _ _ h=>h) (Or.inl ⟨by rfl,?_⟩) ?_ ?_
  rotate_left
  ·
   intro w'
   go_simp
   with_reducible rfl
  rotate_left
  ·
   simp only [Act.put,p1_,p2_,p3_,i64_w,i32_w]
   rfl
  refine pure_ (i:=2) (N:=some 38) (v:=?_) (a':=?_) #[true,false,true,false,false,false,false,false] rfl rfl (any_of HT_.out (by kernel_rfl)) (fun _ _ _ h=>h) (Or.inl ⟨by rfl,?_⟩) ?_ ?_
  rotate_left
  ·
   intro w'
   go_simp
   with_reducible rfl
  rotate_left
  ·
   simp only [Act.put,p1_,p2_,p3_,i64_w,i32_w]
   rfl
  refine pure_ (i:=3) (N:=some 39) (v:=?_) (a':=?_) #[true,false,true,true,false,false,false,false] rfl rfl (any_of HT_.out (by kernel_rfl)) (fun _ _ _ h=>h) (Or.inl ⟨by rfl,?_⟩) ?_ ?_
  rotate_left
  ·
   intro w'
   go_simp
   with_reducible rfl
  rotate_left
  ·
   simp only [Act.put,p1_,p2_,p3_,i64_w,i32_w]
   rfl
  refine pure_ (i:=5) (N:=some 41) (v:=?_) (a':=?_) #[true,false,true,true,false,true,false,false] rfl rfl (any_of HT_.out (by kernel_rfl)) (fun _ _ _ h=>h) (Or.inl ⟨by rfl,?_⟩) ?_ ?_
  rotate_left
  ·
   intro w'
   go_simp
   with_reducible rfl
  rotate_left
  ·
   simp only [Act.put,p1_,p2_,p3_,i64_w,i32_w]
   rfl
  refine take_ (i:=1) (N:=some 37) (v:=?_) (a':=?_) #[true,true,true,true,false,true,false,false] rfl rfl (take_ofW HT_.out HW_.out (by kernel_rfl)) (fun _ _ _ h=>h) (Or.inl ⟨by rfl,?_⟩) hHeld ?_ ?_
  rotate_left
  ·
   rintro w' ⟨s0,s1,s2⟩
   go_simp
   with_reducible rfl
  rotate_left
  ·
   simp only [Act.put,p1_,p2_,p3_,i64_w,i32_w]
   rfl
  refine one_ (i:=4) (N:=some 40) #[true,true,true,true,true,true,false,false] rfl rfl (one_of HT_.out (by kernel_rfl)) (by decide) (fun K hK=>?_)
  refine goesN_ Try.func104 (by kernel_rfl) rfl [.slice Ao38 t476.length co38,.slice Ao39 t479.length co39] (by rfl) rfl rfl (by rfl) ?_
  with_reducible refine (nat_Nat_Add.calls k _ _ t476 _ _ t479 t485 _ ?side1 ?side2 ?side3 ?side4 A9.out).mono ?_
  (case side1=>repeat first | exact (Kd.V_reads' HO478.out).2.2 | with_reducible first | apply ca_ | apply cn_ | apply cd_)
  (case side2=>exact (Kd.V_reads' HO478.out).2.1)
  (case side3=>repeat first | exact (Kd.V_reads' HO481.out).2.2 | with_reducible first | apply ca_ | apply cn_ | apply cd_)
  (case side4=>exact (Kd.V_reads' HO481.out).2.1)
  rintro e w40 ⟨v486,rfl,ho0,hb⟩
  refine ⟨_,rfl,?_⟩
  have n10_:=vb_ HO484 hb
  have n11_:=Aside0.mk (Kd.V_lower (Kd.V_mono (ok':=fun k_=>((P0_1_ k_ ∨ P0_2_ k_ ∨ P1_1_ k_ ∨ P1_2_ k_) ∨ w.heap.size ≤ k_) ∧ k_ ≠ gb459 ∧ k_ ≠ gb460 ∧ k_ ≠ gb461) ho0 (fun k_ hk_=>⟨(.inr (Nat.le_trans (below_size bh_) hk_)),(fb_ BK459 k_ hk_),(fb_ BK460 k_ hk_),(fb_ BK461 k_ hk_)⟩)) (below_size bh_))
  have n12_:=kb_ BK459 hb
  have n13_:=kb_ BK460 hb
  have n14_:=kb_ BK461 hb
  have n15_:=bq_ hb
  (try clear BK459)
  (try clear BK460)
  (try clear BK461)
  (try clear HB)
  (try clear HO484)
  have HO484:=n10_
  have HO487:=n11_
  have BK459:=n12_
  have BK460:=n13_
  have BK461:=n14_
  have HB:=n15_
  clear n10_ n11_ n12_ n13_ n14_ n15_
  (try clear hb)
  (try clear hb2)
  (try clear hk)
  (try clear hi)
  (try clear ho0)
  obtain ⟨Ao41,co41,eo41⟩:=Kd.V_slice HO487.out
  (first | subst eo41 | (injection eo41 with f1_ f2_ f3_; have f4_:=f1_.symm; have f5_:=f3_.symm; clear f1_ f2_ f3_; subst f4_; subst f5_))
  obtain ⟨Ao42,co42,eo42⟩:=Kd.V_slice HO484.out
  (first | subst eo42 | (injection eo42 with f1_ f2_ f3_; have f4_:=f1_.symm; have f5_:=f3_.symm; clear f1_ f2_ f3_; subst f4_; subst f5_))
  refine hK.out _ _ ⟨bc_ BK459 0,bc_ BK459 1,bc_ BK459 2⟩ (fun hHeld=>?_)
  clear hK K
  refine norm_ (a':=?_) ?_ ?_
  rotate_left
  ·
   show Act.put _ (some 40) _ = _
   simp only [Act.put,p1_,p2_,p3_,i64_w,i32_w]
   rfl
  refine one_ (i:=6) (N:=some 42) #[true,true,true,true,true,true,true,false] rfl rfl (one_of HT_.out (by kernel_rfl)) (by decide) (fun K hK=>?_)
  refine goesN_ Try.func73 (by kernel_rfl) rfl [.bool t462,.slice Ao41 t485.length co41,.slice Ao42 t482.length co42] (by rfl) rfl rfl (by rfl) ?_
  with_reducible refine (ratio_low.calls k t462 (fun k_=>(((P0_1_ k_ ∨ P0_2_ k_ ∨ P1_1_ k_ ∨ P1_2_ k_) ∨ w.heap.size ≤ k_) ∧ (k_ ≠ gb459 ∧ (k_ ≠ gb460 ∧ k_ ≠ gb461)))) _ _ t485 (fun k_=>(((P0_1_ k_ ∨ P0_2_ k_ ∨ P1_1_ k_ ∨ P1_2_ k_) ∨ w.heap.size ≤ k_) ∧ (k_ ≠ gb459 ∧ (k_ ≠ gb460 ∧ k_ ≠ gb461)))) _ _ t482 t488 t489 t492 _ ?side1 ?side2 A10.out).mono ?_
  (case side1=>exact HO487.out)
  (case side2=>exact HO484.out)
  rintro e w43 ⟨v490,v493,rfl,ho0,ho1,hb⟩
  refine ⟨_,rfl,?_⟩
  have n12_:=Aside0.mk (Kd.V_lower (Kd.V_mono (ok':=fun k_=>((P0_1_ k_ ∨ P0_2_ k_ ∨ P1_1_ k_ ∨ P1_2_ k_) ∨ w.heap.size ≤ k_) ∧ k_ ≠ gb459 ∧ k_ ≠ gb460 ∧ k_ ≠ gb461) ho0 (fun k_ hk_=>⟨Or.elim hk_ (fun hs_=>Or.elim hs_ (fun hs_=>hs_.1) (fun hs_=>hs_.1)) (fun hn_=>(.inr (Nat.le_trans (below_size bh_) hn_))),Or.elim hk_ (fun hs_=>Or.elim hs_ (fun hs_=>hs_.2.1) (fun hs_=>hs_.2.1)) (fun hn_=>(fb_ BK459 k_ hn_)),Or.elim hk_ (fun hs_=>Or.elim hs_ (fun hs_=>hs_.2.2.1) (fun hs_=>hs_.2.2.1)) (fun hn_=>(fb_ BK460 k_ hn_)),Or.elim hk_ (fun hs_=>Or.elim hs_ (fun hs_=>hs_.2.2.2) (fun hs_=>hs_.2.2.2)) (fun hn_=>(fb_ BK461 k_ hn_))⟩)) (below_size bh_))
  have n13_:=Aside0.mk (Kd.V_lower (Kd.V_mono (ok':=fun k_=>((P0_1_ k_ ∨ P0_2_ k_ ∨ P1_1_ k_ ∨ P1_2_ k_) ∨ w.heap.size ≤ k_) ∧ k_ ≠ gb459 ∧ k_ ≠ gb460 ∧ k_ ≠ gb461) ho1 (fun k_ hk_=>⟨Or.elim hk_ (fun hs_=>Or.elim hs_ (fun hs_=>hs_.1) (fun hs_=>hs_.1)) (fun hn_=>(.inr (Nat.le_trans (below_size bh_) hn_))),Or.elim hk_ (fun hs_=>Or.elim hs_ (fun hs_=>hs_.2.1) (fun hs_=>hs_.2.1)) (fun hn_=>(fb_ BK459 k_ hn_)),Or.elim hk_ (fun hs_=>Or.elim hs_ (fun hs_=>hs_.2.2.1) (fun hs_=>hs_.2.2.1)) (fun hn_=>(fb_ BK460 k_ hn_)),Or.elim hk_ (fun hs_=>Or.elim hs_ (fun hs_=>hs_.2.2.2) (fun hs_=>hs_.2.2.2)) (fun hn_=>(fb_ BK461 k_ hn_))⟩)) (below_size bh_))
  have n14_:=kb_ BK459 hb
  have n16_:=kb_ BK461 hb
  have n17_:=bq_ hb
  (try clear BK459)
  (try clear BK461)
  (try clear HB)
  have HO491:=n12_
  have HO494:=n13_
  have BK459:=n14_
  have BK461:=n16_
  have HB:=n17_
  clear n12_ n13_ n14_ n16_ n17_
  (try clear hb)
  (try clear hb2)
  (try clear hk)
  (try clear hi)
  (try clear ho0)
  (try clear ho1)
  obtain ⟨Ao45,co45,eo45⟩:=Kd.V_slice HO491.out
  (first | subst eo45 | (injection eo45 with f1_ f2_ f3_; have f4_:=f1_.symm; have f5_:=f3_.symm; clear f1_ f2_ f3_; subst f4_; subst f5_))
  obtain ⟨Ao47,co47,eo47⟩:=Kd.V_slice HO494.out
  (first | subst eo47 | (injection eo47 with f1_ f2_ f3_; have f4_:=f1_.symm; have f5_:=f3_.symm; clear f1_ f2_ f3_; subst f4_; subst f5_))
  refine hK.out _ _ ⟨bc_ BK459 0,bc_ BK459 1,bc_ BK459 2⟩ (fun hHeld=>?_)
  clear hK K
  refine norm_ (a':=?_) ?_ ?_
  rotate_left
  ·
   show Act.put _ (some 42) _ = _
   simp only [Act.put,p1_,p2_,p3_,i64_w,i32_w]
   rfl
  refine one_ (i:=7) (N:=none) #[true,true,true,true,true,true,true,true] rfl rfl (one_of HT_.out (by kernel_rfl)) (by decide) (fun K hK=>?_)
  have hs44 : w43.cell? ⟨gb461,0,none⟩ = some (.bool false):=bc_ BK461 0
  have hfs44:=blk_frozen BK461.out 0
  have hns44_0:=NB459_461.out
  have hns44_1:=NB460_461.out
  have hms44_0:=NB461_459.out
  have hms44_1:=NB461_460.out
  have hs46 : w43.cell? ⟨gb461,1,none⟩ = some (.slice none 0 0):=bc_ BK461 1
  have hfs46:=blk_frozen BK461.out 1
  have hns46_0:=NB459_461.out
  have hns46_1:=NB460_461.out
  have hms46_0:=NB461_459.out
  have hms46_1:=NB461_460.out
  have hs48 : w43.cell? ⟨gb461,2,none⟩ = some (.slice none 0 0):=bc_ BK461 2
  have hfs48:=blk_frozen BK461.out 2
  have hns48_0:=NB459_461.out
  have hns48_1:=NB460_461.out
  have hms48_0:=NB461_459.out
  have hms48_1:=NB461_460.out
  refine skip_ (w1:=?_) (by rfl) rfl ?_ ?_
  rotate_left
  ·
   go_simp
   rfl
  refine hK.out _ _ ⟨((cell_far (p:=⟨gb461,_,none⟩) NB459_461.out _).trans (((cell_far (p:=⟨gb461,_,none⟩) NB459_461.out _).trans (((cell_far (p:=⟨gb461,_,none⟩) NB459_461.out _).trans (hHeld.1)))))),((cell_far (p:=⟨gb461,_,none⟩) NB459_461.out _).trans (((cell_far (p:=⟨gb461,_,none⟩) NB459_461.out _).trans (((cell_far (p:=⟨gb461,_,none⟩) NB459_461.out _).trans (hHeld.2.1)))))),((cell_far (p:=⟨gb461,_,none⟩) NB459_461.out _).trans (((cell_far (p:=⟨gb461,_,none⟩) NB459_461.out _).trans (((cell_far (p:=⟨gb461,_,none⟩) NB459_461.out _).trans (hHeld.2.2))))))⟩ (fun hHeld=>?_)
  clear hK K
  refine done_ (done_of HT_.out (by kernel_rfl)) ?_
  try go_wp2
  refine bodyPost_ret (results_cell_row rfl _ _ gb461 50 #[.bool t488,.slice Ao45 t489.length co45,.slice Ao47 t492.length co47] (0,0) _ rfl (by (with_reducible repeat (first | apply kn_ | apply kd_ | apply ka_)); refine blk_put (cs:=#[.bool t488,.slice Ao45 t489.length co45,.slice none 0 0]) ?_ 2 _ rfl; (with_reducible repeat (first | apply kn_ | apply kd_ | apply ka_)); refine blk_put (cs:=#[.bool t488,.slice none 0 0,.slice none 0 0]) ?_ 1 _ rfl; (with_reducible repeat (first | apply kn_ | apply kd_ | apply ka_)); refine blk_put (cs:=#[.bool false,.slice none 0 0,.slice none 0 0]) ?_ 0 _ rfl; (with_reducible repeat (first | apply kn_ | apply kd_ | apply ka_)); exact BK461.out) Try.underlying50 rfl (by kernel_rfl)) rfl ?_
  exact ⟨_,_,eh_,by (with_reducible repeat (first | apply va_ | apply vn_ | apply vd_)); exact Kd.V_mono (Kd.V_far (p:=⟨gb461,2,none⟩) (Kd.V_far (p:=⟨gb461,1,none⟩) (Kd.V_far (p:=⟨gb461,0,none⟩) (Kd.V_mono HO491.out (fun k_ hk=>(⟨hk,hk.2.2.2⟩ : _ ∧ k_ ≠ gb461))) (fun _ hk=>hk.2) (.bool t488)) (fun _ hk=>hk.2) (.slice Ao45 t489.length co45)) (fun _ hk=>hk.2) (.slice Ao47 t492.length co47)) (fun _ hk=>hk.1.1),by (with_reducible repeat (first | apply va_ | apply vn_ | apply vd_)); exact Kd.V_mono (Kd.V_far (p:=⟨gb461,2,none⟩) (Kd.V_far (p:=⟨gb461,1,none⟩) (Kd.V_far (p:=⟨gb461,0,none⟩) (Kd.V_mono HO494.out (fun k_ hk=>(⟨hk,hk.2.2.2⟩ : _ ∧ k_ ≠ gb461))) (fun _ hk=>hk.2) (.bool t488)) (fun _ hk=>hk.2) (.slice Ao45 t489.length co45)) (fun _ hk=>hk.2) (.slice Ao47 t492.length co47)) (fun _ hk=>hk.1.1),bh_⟩
 rw [if_neg c8] at H
 have c8b0 : (t462 == t469) = false:=by simpa using c8
 (try (have c8b1 : decide (t462 = t469) = false:=by simpa using c8))
 (try (have c8b2 : (t462 == t469) = false:=by simpa using c8))
 (try (have c8b3 : ¬ (t462 = t469):=by simpa using c8))
 clear c8
 replace H:=Option.bind_eq_some_iff.mp H
 obtain ⟨⟨t495,t498⟩,A490,H⟩:=H
 replace H : (if t498 = true then ((ratio_low.f k t462 t495 t482).bind fun bt499=>(some (bt499.1,bt499.2.1,bt499.2.2))) else ((nat_Nat_Sub.f k t479 t476).bind fun bt506=>((ratio_low.f k t469 bt506.1 t482).bind fun bt510=>(some (bt510.1,bt510.2.1,bt510.2.2))))) = some (r1,r2,r3):=H
 have A49:=Aside0.mk A490
 clear A490
 have HH2_:=Aside0.mk H
 clear H
 (try simp only [c8b0])
 have hcz77_0 : w31.cell? ⟨gb460,0,none⟩ = some (.bool t469):=bc_ BK460 0
 have hcz77_1 : w31.cell? ⟨gb460,1,none⟩ = some (.slice Ao23 t470.length co23):=bc_ BK460 1
 have hcz77_2 : w31.cell? ⟨gb460,2,none⟩ = some (.slice Ao25 t473.length co25):=bc_ BK460 2
 have hfz77_0:=blk_frozen BK460.out 0
 have hfz77_1:=blk_frozen BK460.out 1
 have hfz77_2:=blk_frozen BK460.out 2
 obtain ⟨Ao78,co78,eo78⟩:=Kd.V_slice HO478.out
 subst eo78
 obtain ⟨Ao79,co79,eo79⟩:=Kd.V_slice HO481.out
 subst eo79
 have H:=HH2_.out
 clear HH2_
 by_cases c50 : t498 = true
 case pos =>
  subst c50
  have H1 : ((ratio_low.f k t462 t495 t482).bind fun bt499=>(some (bt499.1,bt499.2.1,bt499.2.2))) = some (r1,r2,r3):=by rw [if_pos rfl] at H; exact H
  clear H
  have H:=H1
  clear H1
  replace H:=Option.bind_eq_some_iff.mp H
  obtain ⟨⟨t499,t500,t503⟩,A510,H⟩:=H
  replace H : (some (t499,t500,t503)) = some (r1,r2,r3):=H
  have A51:=Aside0.mk A510
  clear A510
  simp only [Option.some.injEq,Prod.mk.injEq] at H
  obtain ⟨rfl,rfl,rfl⟩:=H
  try go_wp2_with (first | ((with_reducible refine gc_ 105 rfl ?_); refine gM_ (some 46) Try.func105 [.slice Ao78 t476.length co78,.slice Ao79 t479.length co79] ?_; (with_reducible refine (nat_Nat_Sub.calls k _ _ t476 _ _ t479 t495 true _ ?side1 ?side2 ?side3 ?side4 A49.out).mono ?_); (case side1=>repeat first | exact (Kd.V_reads' HO478.out).2.2 | with_reducible first | apply ca_ | apply cn_ | apply cd_); (case side2=>exact (Kd.V_reads' HO478.out).2.1); (case side3=>repeat first | exact (Kd.V_reads' HO481.out).2.2 | with_reducible first | apply ca_ | apply cn_ | apply cd_); (case side4=>exact (Kd.V_reads' HO481.out).2.1); rintro e w80 ⟨v496,rfl,ho0,hb⟩; refine ⟨_,rfl,?_⟩; replace HO478:=vb_ HO478 hb; replace HO481:=vb_ HO481 hb; replace HO484:=vb_ HO484 hb; have HO497:=Aside0.mk (Kd.V_lower (Kd.V_mono (ok':=fun k_=>((P0_1_ k_ ∨ P0_2_ k_ ∨ P1_1_ k_ ∨ P1_2_ k_) ∨ w.heap.size ≤ k_) ∧ k_ ≠ gb459 ∧ k_ ≠ gb460 ∧ k_ ≠ gb461) ho0 (fun k_ hk_=>⟨(.inr (Nat.le_trans (below_size bh_) hk_)),(fb_ BK459 k_ hk_),(fb_ BK460 k_ hk_),(fb_ BK461 k_ hk_)⟩)) (below_size bh_)); replace BK459:=kb_ BK459 hb; replace BK460:=kb_ BK460 hb; replace BK461:=kb_ BK461 hb; replace HB:=bq_ hb; skip; have hcz81_0 : w80.cell? ⟨gb459,0,none⟩ = some (.bool t462):=bc_ BK459 0; have hcz81_1 : w80.cell? ⟨gb459,1,none⟩ = some (.slice Ao18 t463.length co18):=bc_ BK459 1; have hcz81_2 : w80.cell? ⟨gb459,2,none⟩ = some (.slice Ao20 t466.length co20):=bc_ BK459 2; have hfz81_0:=blk_frozen BK459.out 0; have hfz81_1:=blk_frozen BK459.out 1; have hfz81_2:=blk_frozen BK459.out 2; obtain ⟨Ao82,co82,eo82⟩:=Kd.V_slice HO497.out; subst eo82; obtain ⟨Ao83,co83,eo83⟩:=Kd.V_slice HO484.out; subst eo83) | ((with_reducible refine gc_ 73 rfl ?_); refine gM_ (some 54) Try.func73 [.bool t462,.slice Ao82 t495.length co82,.slice Ao83 t482.length co83] ?_; (with_reducible refine (ratio_low.calls k t462 (fun k_=>(((P0_1_ k_ ∨ P0_2_ k_ ∨ P1_1_ k_ ∨ P1_2_ k_) ∨ w.heap.size ≤ k_) ∧ (k_ ≠ gb459 ∧ (k_ ≠ gb460 ∧ k_ ≠ gb461)))) _ _ t495 (fun k_=>(((P0_1_ k_ ∨ P0_2_ k_ ∨ P1_1_ k_ ∨ P1_2_ k_) ∨ w.heap.size ≤ k_) ∧ (k_ ≠ gb459 ∧ (k_ ≠ gb460 ∧ k_ ≠ gb461)))) _ _ t482 t499 t500 t503 _ ?side1 ?side2 A51.out).mono ?_); (case side1=>exact HO497.out); (case side2=>exact HO484.out); rintro e w84 ⟨v501,v504,rfl,ho0,ho1,hb⟩; refine ⟨_,rfl,?_⟩; replace HO478:=vb_ HO478 hb; replace HO481:=vb_ HO481 hb; replace HO484:=vb_ HO484 hb; have HO502:=Aside0.mk (Kd.V_lower (Kd.V_mono (ok':=fun k_=>((P0_1_ k_ ∨ P0_2_ k_ ∨ P1_1_ k_ ∨ P1_2_ k_) ∨ w.heap.size ≤ k_) ∧ k_ ≠ gb459 ∧ k_ ≠ gb460 ∧ k_ ≠ gb461) ho0 (fun k_ hk_=>⟨Or.elim hk_ (fun hs_=>Or.elim hs_ (fun hs_=>hs_.1) (fun hs_=>hs_.1)) (fun hn_=>(.inr (Nat.le_trans (below_size bh_) hn_))),Or.elim hk_ (fun hs_=>Or.elim hs_ (fun hs_=>hs_.2.1) (fun hs_=>hs_.2.1)) (fun hn_=>(fb_ BK459 k_ hn_)),Or.elim hk_ (fun hs_=>Or.elim hs_ (fun hs_=>hs_.2.2.1) (fun hs_=>hs_.2.2.1)) (fun hn_=>(fb_ BK460 k_ hn_)),Or.elim hk_ (fun hs_=>Or.elim hs_ (fun hs_=>hs_.2.2.2) (fun hs_=>hs_.2.2.2)) (fun hn_=>(fb_ BK461 k_ hn_))⟩)) (below_size bh_)); have HO505:=Aside0.mk (Kd.V_lower (Kd.V_mono (ok':=fun k_=>((P0_1_ k_ ∨ P0_2_ k_ ∨ P1_1_ k_ ∨ P1_2_ k_) ∨ w.heap.size ≤ k_) ∧ k_ ≠ gb459 ∧ k_ ≠ gb460 ∧ k_ ≠ gb461) ho1 (fun k_ hk_=>⟨Or.elim hk_ (fun hs_=>Or.elim hs_ (fun hs_=>hs_.1) (fun hs_=>hs_.1)) (fun hn_=>(.inr (Nat.le_trans (below_size bh_) hn_))),Or.elim hk_ (fun hs_=>Or.elim hs_ (fun hs_=>hs_.2.1) (fun hs_=>hs_.2.1)) (fun hn_=>(fb_ BK459 k_ hn_)),Or.elim hk_ (fun hs_=>Or.elim hs_ (fun hs_=>hs_.2.2.1) (fun hs_=>hs_.2.2.1)) (fun hn_=>(fb_ BK460 k_ hn_)),Or.elim hk_ (fun hs_=>Or.elim hs_ (fun hs_=>hs_.2.2.2) (fun hs_=>hs_.2.2.2)) (fun hn_=>(fb_ BK461 k_ hn_))⟩)) (below_size bh_)); replace BK459:=kb_ BK459 hb; replace BK460:=kb_ BK460 hb; replace BK461:=kb_ BK461 hb; replace HB:=bq_ hb; skip; have hcz85_0 : w84.cell? ⟨gb461,0,none⟩ = some (.bool false):=bc_ BK461 0; have hcz85_1 : w84.cell? ⟨gb461,1,none⟩ = some (.slice none 0 0):=bc_ BK461 1; have hcz85_2 : w84.cell? ⟨gb461,2,none⟩ = some (.slice none 0 0):=bc_ BK461 2; have hfz85_0:=blk_frozen BK461.out 0; have hfz85_1:=blk_frozen BK461.out 1; have hfz85_2:=blk_frozen BK461.out 2; obtain ⟨Ao86,co86,eo86⟩:=Kd.V_slice HO502.out; subst eo86; obtain ⟨Ao87,co87,eo87⟩:=Kd.V_slice HO505.out; subst eo87))
  refine bodyPost_ret (results_cell_row rfl _ _ gb461 50 #[.bool t499,.slice Ao86 t500.length co86,.slice Ao87 t503.length co87] (0,0) _ rfl (by (with_reducible repeat (first | apply kn_ | apply kd_ | apply ka_)); refine blk_put (cs:=#[.bool t499,.slice Ao86 t500.length co86,.slice none 0 0]) ?_ 2 _ rfl; (with_reducible repeat (first | apply kn_ | apply kd_ | apply ka_)); refine blk_put (cs:=#[.bool t499,.slice none 0 0,.slice none 0 0]) ?_ 1 _ rfl; (with_reducible repeat (first | apply kn_ | apply kd_ | apply ka_)); refine blk_put (cs:=#[.bool false,.slice none 0 0,.slice none 0 0]) ?_ 0 _ rfl; (with_reducible repeat (first | apply kn_ | apply kd_ | apply ka_)); exact BK461.out) Try.underlying50 rfl (by kernel_rfl)) rfl ?_
  exact ⟨_,_,eh_,by (with_reducible repeat (first | apply va_ | apply vn_ | apply vd_)); exact Kd.V_mono (Kd.V_far (p:=⟨gb461,2,none⟩) (Kd.V_far (p:=⟨gb461,1,none⟩) (Kd.V_far (p:=⟨gb461,0,none⟩) (Kd.V_mono HO502.out (fun k_ hk=>(⟨hk,hk.2.2.2⟩ : _ ∧ k_ ≠ gb461))) (fun _ hk=>hk.2) (.bool t499)) (fun _ hk=>hk.2) (.slice Ao86 t500.length co86)) (fun _ hk=>hk.2) (.slice Ao87 t503.length co87)) (fun _ hk=>hk.1.1),by (with_reducible repeat (first | apply va_ | apply vn_ | apply vd_)); exact Kd.V_mono (Kd.V_far (p:=⟨gb461,2,none⟩) (Kd.V_far (p:=⟨gb461,1,none⟩) (Kd.V_far (p:=⟨gb461,0,none⟩) (Kd.V_mono HO505.out (fun k_ hk=>(⟨hk,hk.2.2.2⟩ : _ ∧ k_ ≠ gb461))) (fun _ hk=>hk.2) (.bool t499)) (fun _ hk=>hk.2) (.slice Ao86 t500.length co86)) (fun _ hk=>hk.2) (.slice Ao87 t503.length co87)) (fun _ hk=>hk.1.1),bh_⟩
 replace c50:=Bool.eq_false_iff.mpr c50
 subst c50
 have H1 : ((nat_Nat_Sub.f k t479 t476).bind fun bt506=>((ratio_low.f k t469 bt506.1 t482).bind fun bt510=>(some (bt510.1,bt510.2.1,bt510.2.2)))) = some (r1,r2,r3):=by rw [if_neg (show ¬ (false = true) by decide)] at H; exact H
 clear H
 have H:=H1
 clear H1
 replace H:=Option.bind_eq_some_iff.mp H
 obtain ⟨⟨t506,t509⟩,A880,H⟩:=H
 replace H : ((ratio_low.f k t469 t506 t482).bind fun bt510=>(some (bt510.1,bt510.2.1,bt510.2.2))) = some (r1,r2,r3):=H
 have A88:=Aside0.mk A880
 clear A880
 replace H:=Option.bind_eq_some_iff.mp H
 obtain ⟨⟨t510,t511,t514⟩,A890,H⟩:=H
 replace H : (some (t510,t511,t514)) = some (r1,r2,r3):=H
 have A89:=Aside0.mk A890
 clear A890
 simp only [Option.some.injEq,Prod.mk.injEq] at H
 obtain ⟨rfl,rfl,rfl⟩:=H
 try go_wp2_with (first | ((with_reducible refine gc_ 105 rfl ?_); refine gM_ (some 46) Try.func105 [.slice Ao78 t476.length co78,.slice Ao79 t479.length co79] ?_; (with_reducible refine (nat_Nat_Sub.calls k _ _ t476 _ _ t479 t495 false _ ?side1 ?side2 ?side3 ?side4 A49.out).mono ?_); (case side1=>repeat first | exact (Kd.V_reads' HO478.out).2.2 | with_reducible first | apply ca_ | apply cn_ | apply cd_); (case side2=>exact (Kd.V_reads' HO478.out).2.1); (case side3=>repeat first | exact (Kd.V_reads' HO481.out).2.2 | with_reducible first | apply ca_ | apply cn_ | apply cd_); (case side4=>exact (Kd.V_reads' HO481.out).2.1); rintro e w118 ⟨v496,rfl,ho0,hb⟩; refine ⟨_,rfl,?_⟩; replace HO478:=vb_ HO478 hb; replace HO481:=vb_ HO481 hb; replace HO484:=vb_ HO484 hb; replace BK459:=kb_ BK459 hb; replace BK460:=kb_ BK460 hb; replace BK461:=kb_ BK461 hb; replace HB:=bq_ hb) | ((with_reducible refine gc_ 105 rfl ?_); refine gM_ (some 58) Try.func105 [.slice Ao79 t479.length co79,.slice Ao78 t476.length co78] ?_; (with_reducible refine (nat_Nat_Sub.calls k _ _ t479 _ _ t476 t506 t509 _ ?side1 ?side2 ?side3 ?side4 A88.out).mono ?_); (case side1=>repeat first | exact (Kd.V_reads' HO481.out).2.2 | with_reducible first | apply ca_ | apply cn_ | apply cd_); (case side2=>exact (Kd.V_reads' HO481.out).2.1); (case side3=>repeat first | exact (Kd.V_reads' HO478.out).2.2 | with_reducible first | apply ca_ | apply cn_ | apply cd_); (case side4=>exact (Kd.V_reads' HO478.out).2.1); rintro e w119 ⟨v507,rfl,ho0,hb⟩; refine ⟨_,rfl,?_⟩; replace HO484:=vb_ HO484 hb; have HO508:=Aside0.mk (Kd.V_lower (Kd.V_mono (ok':=fun k_=>((P0_1_ k_ ∨ P0_2_ k_ ∨ P1_1_ k_ ∨ P1_2_ k_) ∨ w.heap.size ≤ k_) ∧ k_ ≠ gb459 ∧ k_ ≠ gb460 ∧ k_ ≠ gb461) ho0 (fun k_ hk_=>⟨(.inr (Nat.le_trans (below_size bh_) hk_)),(fb_ BK459 k_ hk_),(fb_ BK460 k_ hk_),(fb_ BK461 k_ hk_)⟩)) (below_size bh_)); replace BK459:=kb_ BK459 hb; replace BK460:=kb_ BK460 hb; replace BK461:=kb_ BK461 hb; replace HB:=bq_ hb; skip; have hcz120_0 : w119.cell? ⟨gb460,0,none⟩ = some (.bool t469):=bc_ BK460 0; have hcz120_1 : w119.cell? ⟨gb460,1,none⟩ = some (.slice Ao23 t470.length co23):=bc_ BK460 1; have hcz120_2 : w119.cell? ⟨gb460,2,none⟩ = some (.slice Ao25 t473.length co25):=bc_ BK460 2; have hfz120_0:=blk_frozen BK460.out 0; have hfz120_1:=blk_frozen BK460.out 1; have hfz120_2:=blk_frozen BK460.out 2; obtain ⟨Ao121,co121,eo121⟩:=Kd.V_slice HO508.out; subst eo121; obtain ⟨Ao122,co122,eo122⟩:=Kd.V_slice HO484.out; subst eo122) | ((with_reducible refine gc_ 73 rfl ?_); refine gM_ (some 65) Try.func73 [.bool t469,.slice Ao121 t506.length co121,.slice Ao122 t482.length co122] ?_; (with_reducible refine (ratio_low.calls k t469 (fun k_=>(((P0_1_ k_ ∨ P0_2_ k_ ∨ P1_1_ k_ ∨ P1_2_ k_) ∨ w.heap.size ≤ k_) ∧ (k_ ≠ gb459 ∧ (k_ ≠ gb460 ∧ k_ ≠ gb461)))) _ _ t506 (fun k_=>(((P0_1_ k_ ∨ P0_2_ k_ ∨ P1_1_ k_ ∨ P1_2_ k_) ∨ w.heap.size ≤ k_) ∧ (k_ ≠ gb459 ∧ (k_ ≠ gb460 ∧ k_ ≠ gb461)))) _ _ t482 t510 t511 t514 _ ?side1 ?side2 A89.out).mono ?_); (case side1=>exact HO508.out); (case side2=>exact HO484.out); rintro e w123 ⟨v512,v515,rfl,ho0,ho1,hb⟩; refine ⟨_,rfl,?_⟩; have HO513:=Aside0.mk (Kd.V_lower (Kd.V_mono (ok':=fun k_=>((P0_1_ k_ ∨ P0_2_ k_ ∨ P1_1_ k_ ∨ P1_2_ k_) ∨ w.heap.size ≤ k_) ∧ k_ ≠ gb459 ∧ k_ ≠ gb460 ∧ k_ ≠ gb461) ho0 (fun k_ hk_=>⟨Or.elim hk_ (fun hs_=>Or.elim hs_ (fun hs_=>hs_.1) (fun hs_=>hs_.1)) (fun hn_=>(.inr (Nat.le_trans (below_size bh_) hn_))),Or.elim hk_ (fun hs_=>Or.elim hs_ (fun hs_=>hs_.2.1) (fun hs_=>hs_.2.1)) (fun hn_=>(fb_ BK459 k_ hn_)),Or.elim hk_ (fun hs_=>Or.elim hs_ (fun hs_=>hs_.2.2.1) (fun hs_=>hs_.2.2.1)) (fun hn_=>(fb_ BK460 k_ hn_)),Or.elim hk_ (fun hs_=>Or.elim hs_ (fun hs_=>hs_.2.2.2) (fun hs_=>hs_.2.2.2)) (fun hn_=>(fb_ BK461 k_ hn_))⟩)) (below_size bh_)); have HO516:=Aside0.mk (Kd.V_lower (Kd.V_mono (ok':=fun k_=>((P0_1_ k_ ∨ P0_2_ k_ ∨ P1_1_ k_ ∨ P1_2_ k_) ∨ w.heap.size ≤ k_) ∧ k_ ≠ gb459 ∧ k_ ≠ gb460 ∧ k_ ≠ gb461) ho1 (fun k_ hk_=>⟨Or.elim hk_ (fun hs_=>Or.elim hs_ (fun hs_=>hs_.1) (fun hs_=>hs_.1)) (fun hn_=>(.inr (Nat.le_trans (below_size bh_) hn_))),Or.elim hk_ (fun hs_=>Or.elim hs_ (fun hs_=>hs_.2.1) (fun hs_=>hs_.2.1)) (fun hn_=>(fb_ BK459 k_ hn_)),Or.elim hk_ (fun hs_=>Or.elim hs_ (fun hs_=>hs_.2.2.1) (fun hs_=>hs_.2.2.1)) (fun hn_=>(fb_ BK460 k_ hn_)),Or.elim hk_ (fun hs_=>Or.elim hs_ (fun hs_=>hs_.2.2.2) (fun hs_=>hs_.2.2.2)) (fun hn_=>(fb_ BK461 k_ hn_))⟩)) (below_size bh_)); replace BK461:=kb_ BK461 hb; replace HB:=bq_ hb; skip; have hcz124_0 : w123.cell? ⟨gb461,0,none⟩ = some (.bool false):=bc_ BK461 0; have hcz124_1 : w123.cell? ⟨gb461,1,none⟩ = some (.slice none 0 0):=bc_ BK461 1; have hcz124_2 : w123.cell? ⟨gb461,2,none⟩ = some (.slice none 0 0):=bc_ BK461 2; have hfz124_0:=blk_frozen BK461.out 0; have hfz124_1:=blk_frozen BK461.out 1; have hfz124_2:=blk_frozen BK461.out 2; obtain ⟨Ao125,co125,eo125⟩:=Kd.V_slice HO513.out; subst eo125; obtain ⟨Ao126,co126,eo126⟩:=Kd.V_slice HO516.out; subst eo126))
 refine bodyPost_ret (results_cell_row rfl _ _ gb461 50 #[.bool t510,.slice Ao125 t511.length co125,.slice Ao126 t514.length co126] (0,0) _ rfl (by (with_reducible repeat (first | apply kn_ | apply kd_ | apply ka_)); refine blk_put (cs:=#[.bool t510,.slice Ao125 t511.length co125,.slice none 0 0]) ?_ 2 _ rfl; (with_reducible repeat (first | apply kn_ | apply kd_ | apply ka_)); refine blk_put (cs:=#[.bool t510,.slice none 0 0,.slice none 0 0]) ?_ 1 _ rfl; (with_reducible repeat (first | apply kn_ | apply kd_ | apply ka_)); refine blk_put (cs:=#[.bool false,.slice none 0 0,.slice none 0 0]) ?_ 0 _ rfl; (with_reducible repeat (first | apply kn_ | apply kd_ | apply ka_)); exact BK461.out) Try.underlying50 rfl (by kernel_rfl)) rfl ?_
 exact ⟨_,_,eh_,by (with_reducible repeat (first | apply va_ | apply vn_ | apply vd_)); exact Kd.V_mono (Kd.V_far (p:=⟨gb461,2,none⟩) (Kd.V_far (p:=⟨gb461,1,none⟩) (Kd.V_far (p:=⟨gb461,0,none⟩) (Kd.V_mono HO513.out (fun k_ hk=>(⟨hk,hk.2.2.2⟩ : _ ∧ k_ ≠ gb461))) (fun _ hk=>hk.2) (.bool t510)) (fun _ hk=>hk.2) (.slice Ao125 t511.length co125)) (fun _ hk=>hk.2) (.slice Ao126 t514.length co126)) (fun _ hk=>hk.1.1),by (with_reducible repeat (first | apply va_ | apply vn_ | apply vd_)); exact Kd.V_mono (Kd.V_far (p:=⟨gb461,2,none⟩) (Kd.V_far (p:=⟨gb461,1,none⟩) (Kd.V_far (p:=⟨gb461,0,none⟩) (Kd.V_mono HO516.out (fun k_ hk=>(⟨hk,hk.2.2.2⟩ : _ ∧ k_ ≠ gb461))) (fun _ hk=>hk.2) (.bool t510)) (fun _ hk=>hk.2) (.slice Ao125 t511.length co125)) (fun _ hk=>hk.2) (.slice Ao126 t514.length co126)) (fun _ hk=>hk.1.1),bh_⟩

/-! ### ratio_R_Neg1: function 79 -/
def ratio_R_Neg1.f (k : Nat) (a0_0 : Bool) (l0_1 : List Int) (l0_2 : List Int) : Option (Bool × List Int × List Int):=(ratio_low.f k (!a0_0) l0_1 l0_2).bind fun bt519=>(some (bt519.1,bt519.2.1,bt519.2.2))
theorem ratio_R_Neg1.mono : ∀ a0 a1 a2 k,LeO (ratio_R_Neg1.f k a0 a1 a2) (ratio_R_Neg1.f (k + 1) a0 a1 a2):=by
 intro a0 a1 a2 k
 unfold ratio_R_Neg1.f
 repeat' with_reducible first | exact ratio_low.mono _ _ _ _ | exact LeO.refl _ | exact LeO.none _ | refine LeO.ite ?_ ?_ | refine LeO.bind ?_ (fun _=>?_)
set_option maxHeartbeats 8000000 in
set_option maxRecDepth 100000 in
theorem ratio_R_Neg1.calls (k : Nat) (a0_0 : Bool) (P0_1_ : Nat → Prop) (A0_1 : Option Addr) (c0_1 : Nat) (l0_1 : List Int) (P0_2_ : Nat → Prop) (A0_2 : Option Addr) (c0_2 : Nat) (l0_2 : List Int) (r1 : Bool) (r2 : List Int) (r3 : List Int) (w : World) (hs0_1 : Kd.V (Kd.int .u32) 123 w w.heap.size (fun k_=>P0_1_ k_) (.slice A0_1 l0_1.length c0_1) l0_1) (hs0_2 : Kd.V (Kd.int .u32) 123 w w.heap.size (fun k_=>P0_2_ k_) (.slice A0_2 l0_2.length c0_2) l0_2) (h : ratio_R_Neg1.f k a0_0 l0_1 l0_2 = some (r1,r2,r3)) :
  Calls Try.prog 79 #[.agg #[.bool a0_0,.slice A0_1 l0_1.length c0_1,.slice A0_2 l0_2.length c0_2]] w fun e w'=>∃ v1_ v2_ : Value,e = .returned (.agg #[.bool r1,v1_,v2_]) ∧ Kd.V (Kd.int .u32) 123 w' w.heap.size (fun k_=>((P0_1_ k_ ∨ P0_2_ k_) ∨ w.heap.size ≤ k_)) v1_ r2 ∧ Kd.V (Kd.int .u32) 123 w' w.heap.size (fun k_=>((P0_1_ k_ ∨ P0_2_ k_) ∨ w.heap.size ≤ k_)) v2_ r3 ∧ Below w.heap.size w w':=by
 have hu50:=Try.underlying50
 have HO0_1:=Aside0.mk (show Kd.V (Kd.int .u32) 123 w w.heap.size (fun k_=>((P0_1_ k_ ∨ P0_2_ k_) ∨ w.heap.size ≤ k_)) (.slice A0_1 l0_1.length c0_1) l0_1 from Kd.V_mono hs0_1 (fun k_ hk=>.inl (.inl hk)))
 have HO0_2:=Aside0.mk (show Kd.V (Kd.int .u32) 123 w w.heap.size (fun k_=>((P0_1_ k_ ∨ P0_2_ k_) ∨ w.heap.size ≤ k_)) (.slice A0_2 l0_2.length c0_2) l0_2 from Kd.V_mono hs0_2 (fun k_ hk=>.inl (.inr hk)))
 have HB:=Aside0.mk (Below.refl w.heap.size w)
 have H : ((ratio_low.f k (!a0_0) l0_1 l0_2).bind fun bt519=>(some (bt519.1,bt519.2.1,bt519.2.2))) = some (r1,r2,r3):=h
 clear h
 replace H:=Option.bind_eq_some_iff.mp H
 obtain ⟨⟨t519,t520,t523⟩,A20,H⟩:=H
 replace H : (some (t519,t520,t523)) = some (r1,r2,r3):=H
 have A2:=Aside0.mk A20
 clear A20
 simp only [Option.some.injEq,Prod.mk.injEq] at H
 obtain ⟨rfl,rfl,rfl⟩:=H
 go_enter Try.func79,Try.ntmps79
 go_wp2_with (first | ((with_reducible refine gate_dst (N:=1) rfl ?_); refine box_event ?hg (N:=1) ?hd (cs:=#[.bool a0_0,.slice A0_1 l0_1.length c0_1,.slice A0_2 l0_2.length c0_2]) (t:=50) ?hr ?_; (case hd=>rfl); (case hg=>rfl); (case hr=>first | (go_simp; done) | (go_simp; rfl)); intro gb517 hg w3 hbox hb; have n0_:=ve_ HO0_1 hg hb; have n1_:=ve_ HO0_2 hg hb; have n2_:=bq_ hb; have n3_:=Aside0.mk (hbox); have n5_:=bz_ hg; clear HO0_1 HO0_2 HB; have HO0_1:=n0_; have HO0_2:=n1_; have HB:=n2_; have BK517:=n3_; have GE517:=n5_; clear n0_ n1_ n2_ n3_ n5_; clear hb hbox hg) | ((with_reducible refine gate_dst (N:=2) rfl ?_); refine box_event ?hg (N:=2) ?hd (cs:=#[.bool false,.slice none 0 0,.slice none 0 0]) (t:=50) ?hr ?_; (case hd=>rfl); (case hg=>rfl); (case hr=>first | (go_simp; done) | (go_simp; rfl)); intro gb518 hg w4 hbox hb; have n0_:=ve_ HO0_1 hg hb; have n1_:=ve_ HO0_2 hg hb; have n2_:=kb_ BK517 hb; have n3_:=bq_ hb; have n4_:=Aside0.mk (hbox); have n6_:=bz_ hg; have n7_:=Aside0.mk ((by rw [hg]; exact Nat.ne_of_lt (blk_lt (g:=gb517) (o:=.cells #[.bool a0_0,.slice A0_1 l0_1.length c0_1,.slice A0_2 l0_2.length c0_2] 50 (0,0)) (by (with_reducible repeat (first | apply kn_ | apply kd_ | apply ka_)); exact BK517.out)) : gb517 ≠ gb518)); have n8_:=Aside0.mk ((by rw [hg]; exact Nat.ne_of_gt (blk_lt (g:=gb517) (o:=.cells #[.bool a0_0,.slice A0_1 l0_1.length c0_1,.slice A0_2 l0_2.length c0_2] 50 (0,0)) (by (with_reducible repeat (first | apply kn_ | apply kd_ | apply ka_)); exact BK517.out)) : gb518 ≠ gb517)); clear HO0_1 HO0_2 BK517 HB; have HO0_1:=n0_; have HO0_2:=n1_; have BK517:=n2_; have HB:=n3_; have BK518:=n4_; have GE518:=n6_; have NB517_518:=n7_; have NB518_517:=n8_; clear n0_ n1_ n2_ n3_ n4_ n6_ n7_ n8_; clear hb hbox hg; have hnb5:=NB517_518.out; have hnc5:=NB518_517.out; have hcz6_0 : w4.cell? ⟨gb517,0,none⟩ = some (.bool a0_0):=bc_ BK517 0; have hcz6_1 : w4.cell? ⟨gb517,1,none⟩ = some (.slice A0_1 l0_1.length c0_1):=bc_ BK517 1; have hcz6_2 : w4.cell? ⟨gb517,2,none⟩ = some (.slice A0_2 l0_2.length c0_2):=bc_ BK517 2; have hfz6_0:=blk_frozen BK517.out 0; have hfz6_1:=blk_frozen BK517.out 1; have hfz6_2:=blk_frozen BK517.out 2) | ((with_reducible refine gc_ 73 rfl ?_); refine gM_ (some 10) Try.func73 [.bool (!a0_0),.slice A0_1 l0_1.length c0_1,.slice A0_2 l0_2.length c0_2] ?_; (with_reducible refine (ratio_low.calls k (!a0_0) (fun k_=>((((P0_1_ k_ ∨ P0_2_ k_) ∨ w.heap.size ≤ k_) ∧ k_ ≠ gb517) ∧ k_ ≠ gb518)) _ _ l0_1 (fun k_=>((((P0_1_ k_ ∨ P0_2_ k_) ∨ w.heap.size ≤ k_) ∧ k_ ≠ gb517) ∧ k_ ≠ gb518)) _ _ l0_2 t519 t520 t523 _ ?side1 ?side2 A2.out).mono ?_); (case side1=>exact HO0_1.out); (case side2=>exact HO0_2.out); rintro e w7 ⟨v521,v524,rfl,ho0,ho1,hb⟩; refine ⟨_,rfl,?_⟩; have HO522:=Aside0.mk (Kd.V_lower (Kd.V_mono (ok':=fun k_=>((P0_1_ k_ ∨ P0_2_ k_) ∨ w.heap.size ≤ k_) ∧ k_ ≠ gb517 ∧ k_ ≠ gb518) ho0 (fun k_ hk_=>⟨Or.elim hk_ (fun hs_=>Or.elim hs_ (fun hs_=>hs_.1.1) (fun hs_=>hs_.1.1)) (fun hn_=>(.inr (Nat.le_trans (below_size bh_) hn_))),Or.elim hk_ (fun hs_=>Or.elim hs_ (fun hs_=>hs_.1.2) (fun hs_=>hs_.1.2)) (fun hn_=>(fb_ BK517 k_ hn_)),Or.elim hk_ (fun hs_=>Or.elim hs_ (fun hs_=>hs_.2) (fun hs_=>hs_.2)) (fun hn_=>(fb_ BK518 k_ hn_))⟩)) (below_size bh_)); have HO525:=Aside0.mk (Kd.V_lower (Kd.V_mono (ok':=fun k_=>((P0_1_ k_ ∨ P0_2_ k_) ∨ w.heap.size ≤ k_) ∧ k_ ≠ gb517 ∧ k_ ≠ gb518) ho1 (fun k_ hk_=>⟨Or.elim hk_ (fun hs_=>Or.elim hs_ (fun hs_=>hs_.1.1) (fun hs_=>hs_.1.1)) (fun hn_=>(.inr (Nat.le_trans (below_size bh_) hn_))),Or.elim hk_ (fun hs_=>Or.elim hs_ (fun hs_=>hs_.1.2) (fun hs_=>hs_.1.2)) (fun hn_=>(fb_ BK517 k_ hn_)),Or.elim hk_ (fun hs_=>Or.elim hs_ (fun hs_=>hs_.2) (fun hs_=>hs_.2)) (fun hn_=>(fb_ BK518 k_ hn_))⟩)) (below_size bh_)); replace BK518:=kb_ BK518 hb; replace HB:=bq_ hb; skip; have hcz8_0 : w7.cell? ⟨gb518,0,none⟩ = some (.bool false):=bc_ BK518 0; have hcz8_1 : w7.cell? ⟨gb518,1,none⟩ = some (.slice none 0 0):=bc_ BK518 1; have hcz8_2 : w7.cell? ⟨gb518,2,none⟩ = some (.slice none 0 0):=bc_ BK518 2; have hfz8_0:=blk_frozen BK518.out 0; have hfz8_1:=blk_frozen BK518.out 1; have hfz8_2:=blk_frozen BK518.out 2; obtain ⟨Ao9,co9,eo9⟩:=Kd.V_slice HO522.out; subst eo9; obtain ⟨Ao10,co10,eo10⟩:=Kd.V_slice HO525.out; subst eo10))
 refine bodyPost_ret (results_cell_row rfl _ _ gb518 50 #[.bool t519,.slice Ao9 t520.length co9,.slice Ao10 t523.length co10] (0,0) _ rfl (by (with_reducible repeat (first | apply kn_ | apply kd_ | apply ka_)); refine blk_put (cs:=#[.bool t519,.slice Ao9 t520.length co9,.slice none 0 0]) ?_ 2 _ rfl; (with_reducible repeat (first | apply kn_ | apply kd_ | apply ka_)); refine blk_put (cs:=#[.bool t519,.slice none 0 0,.slice none 0 0]) ?_ 1 _ rfl; (with_reducible repeat (first | apply kn_ | apply kd_ | apply ka_)); refine blk_put (cs:=#[.bool false,.slice none 0 0,.slice none 0 0]) ?_ 0 _ rfl; (with_reducible repeat (first | apply kn_ | apply kd_ | apply ka_)); exact BK518.out) Try.underlying50 rfl (by kernel_rfl)) rfl ?_
 exact ⟨_,_,eh_,by (with_reducible repeat (first | apply va_ | apply vn_ | apply vd_)); exact Kd.V_mono (Kd.V_far (p:=⟨gb518,2,none⟩) (Kd.V_far (p:=⟨gb518,1,none⟩) (Kd.V_far (p:=⟨gb518,0,none⟩) (Kd.V_mono HO522.out (fun k_ hk=>(⟨hk,hk.2.2⟩ : _ ∧ k_ ≠ gb518))) (fun _ hk=>hk.2) (.bool t519)) (fun _ hk=>hk.2) (.slice Ao9 t520.length co9)) (fun _ hk=>hk.2) (.slice Ao10 t523.length co10)) (fun _ hk=>hk.1.1),by (with_reducible repeat (first | apply va_ | apply vn_ | apply vd_)); exact Kd.V_mono (Kd.V_far (p:=⟨gb518,2,none⟩) (Kd.V_far (p:=⟨gb518,1,none⟩) (Kd.V_far (p:=⟨gb518,0,none⟩) (Kd.V_mono HO525.out (fun k_ hk=>(⟨hk,hk.2.2⟩ : _ ∧ k_ ≠ gb518))) (fun _ hk=>hk.2) (.bool t519)) (fun _ hk=>hk.2) (.slice Ao9 t520.length co9)) (fun _ hk=>hk.2) (.slice Ao10 t523.length co10)) (fun _ hk=>hk.1.1),bh_⟩

/-! ### ratio_R_Sub: function 42 -/
def ratio_R_Sub.f (k : Nat) (a0_0 : Bool) (l0_1 : List Int) (l0_2 : List Int) (a1_0 : Bool) (l1_1 : List Int) (l1_2 : List Int) : Option (Bool × List Int × List Int):=(ratio_R_Neg1.f k a1_0 l1_1 l1_2).bind fun bt529=>((ratio_R_Add.f k a0_0 l0_1 l0_2 bt529.1 bt529.2.1 bt529.2.2).bind fun bt536=>(some (bt536.1,bt536.2.1,bt536.2.2)))
theorem ratio_R_Sub.mono : ∀ a0 a1 a2 a3 a4 a5 k,LeO (ratio_R_Sub.f k a0 a1 a2 a3 a4 a5) (ratio_R_Sub.f (k + 1) a0 a1 a2 a3 a4 a5):=by
 intro a0 a1 a2 a3 a4 a5 k
 unfold ratio_R_Sub.f
 repeat' with_reducible first | exact ratio_R_Add.mono _ _ _ _ _ _ _ | exact ratio_R_Neg1.mono _ _ _ _ | exact LeO.refl _ | exact LeO.none _ | refine LeO.ite ?_ ?_ | refine LeO.bind ?_ (fun _=>?_)
set_option maxHeartbeats 8000000 in
set_option maxRecDepth 100000 in
theorem ratio_R_Sub.calls (k : Nat) (a0_0 : Bool) (P0_1_ : Nat → Prop) (A0_1 : Option Addr) (c0_1 : Nat) (l0_1 : List Int) (P0_2_ : Nat → Prop) (A0_2 : Option Addr) (c0_2 : Nat) (l0_2 : List Int) (a1_0 : Bool) (P1_1_ : Nat → Prop) (A1_1 : Option Addr) (c1_1 : Nat) (l1_1 : List Int) (P1_2_ : Nat → Prop) (A1_2 : Option Addr) (c1_2 : Nat) (l1_2 : List Int) (r1 : Bool) (r2 : List Int) (r3 : List Int) (w : World) (hs0_1 : Kd.V (Kd.int .u32) 123 w w.heap.size (fun k_=>P0_1_ k_) (.slice A0_1 l0_1.length c0_1) l0_1) (hs0_2 : Kd.V (Kd.int .u32) 123 w w.heap.size (fun k_=>P0_2_ k_) (.slice A0_2 l0_2.length c0_2) l0_2) (hs1_1 : Kd.V (Kd.int .u32) 123 w w.heap.size (fun k_=>P1_1_ k_) (.slice A1_1 l1_1.length c1_1) l1_1) (hs1_2 : Kd.V (Kd.int .u32) 123 w w.heap.size (fun k_=>P1_2_ k_) (.slice A1_2 l1_2.length c1_2) l1_2) (h : ratio_R_Sub.f k a0_0 l0_1 l0_2 a1_0 l1_1 l1_2 = some (r1,r2,r3)) :
  Calls Try.prog 42 #[.agg #[.bool a0_0,.slice A0_1 l0_1.length c0_1,.slice A0_2 l0_2.length c0_2],.agg #[.bool a1_0,.slice A1_1 l1_1.length c1_1,.slice A1_2 l1_2.length c1_2]] w fun e w'=>∃ v1_ v2_ : Value,e = .returned (.agg #[.bool r1,v1_,v2_]) ∧ Kd.V (Kd.int .u32) 123 w' w.heap.size (fun k_=>((P0_1_ k_ ∨ P0_2_ k_ ∨ P1_1_ k_ ∨ P1_2_ k_) ∨ w.heap.size ≤ k_)) v1_ r2 ∧ Kd.V (Kd.int .u32) 123 w' w.heap.size (fun k_=>((P0_1_ k_ ∨ P0_2_ k_ ∨ P1_1_ k_ ∨ P1_2_ k_) ∨ w.heap.size ≤ k_)) v2_ r3 ∧ Below w.heap.size w w':=by
 have hu50:=Try.underlying50
 have HO0_1:=Aside0.mk (show Kd.V (Kd.int .u32) 123 w w.heap.size (fun k_=>((P0_1_ k_ ∨ P0_2_ k_ ∨ P1_1_ k_ ∨ P1_2_ k_) ∨ w.heap.size ≤ k_)) (.slice A0_1 l0_1.length c0_1) l0_1 from Kd.V_mono hs0_1 (fun k_ hk=>.inl (.inl hk)))
 have HO0_2:=Aside0.mk (show Kd.V (Kd.int .u32) 123 w w.heap.size (fun k_=>((P0_1_ k_ ∨ P0_2_ k_ ∨ P1_1_ k_ ∨ P1_2_ k_) ∨ w.heap.size ≤ k_)) (.slice A0_2 l0_2.length c0_2) l0_2 from Kd.V_mono hs0_2 (fun k_ hk=>.inl (.inr (.inl hk))))
 have HO1_1:=Aside0.mk (show Kd.V (Kd.int .u32) 123 w w.heap.size (fun k_=>((P0_1_ k_ ∨ P0_2_ k_ ∨ P1_1_ k_ ∨ P1_2_ k_) ∨ w.heap.size ≤ k_)) (.slice A1_1 l1_1.length c1_1) l1_1 from Kd.V_mono hs1_1 (fun k_ hk=>.inl (.inr (.inr (.inl hk)))))
 have HO1_2:=Aside0.mk (show Kd.V (Kd.int .u32) 123 w w.heap.size (fun k_=>((P0_1_ k_ ∨ P0_2_ k_ ∨ P1_1_ k_ ∨ P1_2_ k_) ∨ w.heap.size ≤ k_)) (.slice A1_2 l1_2.length c1_2) l1_2 from Kd.V_mono hs1_2 (fun k_ hk=>.inl (.inr (.inr (.inr hk)))))
 have HB:=Aside0.mk (Below.refl w.heap.size w)
 have H : ((ratio_R_Neg1.f k a1_0 l1_1 l1_2).bind fun bt529=>((ratio_R_Add.f k a0_0 l0_1 l0_2 bt529.1 bt529.2.1 bt529.2.2).bind fun bt536=>(some (bt536.1,bt536.2.1,bt536.2.2)))) = some (r1,r2,r3):=h
 clear h
 replace H:=Option.bind_eq_some_iff.mp H
 obtain ⟨⟨t529,t530,t533⟩,A30,H⟩:=H
 replace H : ((ratio_R_Add.f k a0_0 l0_1 l0_2 t529 t530 t533).bind fun bt536=>(some (bt536.1,bt536.2.1,bt536.2.2))) = some (r1,r2,r3):=H
 have A3:=Aside0.mk A30
 clear A30
 replace H:=Option.bind_eq_some_iff.mp H
 obtain ⟨⟨t536,t537,t540⟩,A40,H⟩:=H
 replace H : (some (t536,t537,t540)) = some (r1,r2,r3):=H
 have A4:=Aside0.mk A40
 clear A40
 simp only [Option.some.injEq,Prod.mk.injEq] at H
 obtain ⟨rfl,rfl,rfl⟩:=H
 go_enter Try.func42,Try.ntmps42
 try go_wp2_with (first | ((with_reducible refine gate_dst (N:=2) rfl ?_); refine box_event ?hg (N:=2) ?hd (cs:=#[.bool a0_0,.slice A0_1 l0_1.length c0_1,.slice A0_2 l0_2.length c0_2]) (t:=50) ?hr ?_; (case hd=>rfl); (case hg=>rfl); (case hr=>first | (go_simp; done) | (go_simp; rfl)); intro gb526 hg w5 hbox hb; have n0_:=ve_ HO0_1 hg hb; have n1_:=ve_ HO0_2 hg hb; have n2_:=ve_ HO1_1 hg hb; have n3_:=ve_ HO1_2 hg hb; have n4_:=bq_ hb; have n5_:=Aside0.mk (hbox); have n7_:=bz_ hg; clear HO0_1 HO0_2 HO1_1 HO1_2 HB; have HO0_1:=n0_; have HO0_2:=n1_; have HO1_1:=n2_; have HO1_2:=n3_; have HB:=n4_; have BK526:=n5_; have GE526:=n7_; clear n0_ n1_ n2_ n3_ n4_ n5_ n7_; clear hb hbox hg) | ((with_reducible refine gate_dst (N:=3) rfl ?_); refine box_event ?hg (N:=3) ?hd (cs:=#[.bool a1_0,.slice A1_1 l1_1.length c1_1,.slice A1_2 l1_2.length c1_2]) (t:=50) ?hr ?_; (case hd=>rfl); (case hg=>rfl); (case hr=>first | (go_simp; done) | (go_simp; rfl)); intro gb527 hg w6 hbox hb; have n0_:=ve_ HO0_1 hg hb; have n1_:=ve_ HO0_2 hg hb; have n2_:=ve_ HO1_1 hg hb; have n3_:=ve_ HO1_2 hg hb; have n4_:=kb_ BK526 hb; have n5_:=bq_ hb; have n6_:=Aside0.mk (hbox); have n8_:=bz_ hg; clear HO0_1 HO0_2 HO1_1 HO1_2 BK526 HB; have HO0_1:=n0_; have HO0_2:=n1_; have HO1_1:=n2_; have HO1_2:=n3_; have BK526:=n4_; have HB:=n5_; have BK527:=n6_; have GE527:=n8_; clear n0_ n1_ n2_ n3_ n4_ n5_ n6_ n8_; clear hb hbox hg) | ((with_reducible refine gate_dst (N:=4) rfl ?_); refine box_event ?hg (N:=4) ?hd (cs:=#[.bool false,.slice none 0 0,.slice none 0 0]) (t:=50) ?hr ?_; (case hd=>rfl); (case hg=>rfl); (case hr=>first | (go_simp; done) | (go_simp; rfl)); intro gb528 hg w7 hbox hb; have n0_:=ve_ HO0_1 hg hb; have n1_:=ve_ HO0_2 hg hb; have n2_:=ve_ HO1_1 hg hb; have n3_:=ve_ HO1_2 hg hb; have n4_:=kb_ BK526 hb; have n5_:=kb_ BK527 hb; have n6_:=bq_ hb; have n7_:=Aside0.mk (hbox); have n9_:=bz_ hg; have n10_:=Aside0.mk ((by rw [hg]; exact Nat.ne_of_lt (blk_lt (g:=gb526) (o:=.cells #[.bool a0_0,.slice A0_1 l0_1.length c0_1,.slice A0_2 l0_2.length c0_2] 50 (0,0)) (by (with_reducible repeat (first | apply kn_ | apply kd_ | apply ka_)); exact BK526.out)) : gb526 ≠ gb528)); have n11_:=Aside0.mk ((by rw [hg]; exact Nat.ne_of_gt (blk_lt (g:=gb526) (o:=.cells #[.bool a0_0,.slice A0_1 l0_1.length c0_1,.slice A0_2 l0_2.length c0_2] 50 (0,0)) (by (with_reducible repeat (first | apply kn_ | apply kd_ | apply ka_)); exact BK526.out)) : gb528 ≠ gb526)); have n12_:=Aside0.mk ((by rw [hg]; exact Nat.ne_of_lt (blk_lt (g:=gb527) (o:=.cells #[.bool a1_0,.slice A1_1 l1_1.length c1_1,.slice A1_2 l1_2.length c1_2] 50 (0,0)) (by (with_reducible repeat (first | apply kn_ | apply kd_ | apply ka_)); exact BK527.out)) : gb527 ≠ gb528)); have n13_:=Aside0.mk ((by rw [hg]; exact Nat.ne_of_gt (blk_lt (g:=gb527) (o:=.cells #[.bool a1_0,.slice A1_1 l1_1.length c1_1,.slice A1_2 l1_2.length c1_2] 50 (0,0)) (by (with_reducible repeat (first | apply kn_ | apply kd_ | apply ka_)); exact BK527.out)) : gb528 ≠ gb527)); clear HO0_1 HO0_2 HO1_1 HO1_2 BK526 BK527 HB; have HO0_1:=n0_; have HO0_2:=n1_; have HO1_1:=n2_; have HO1_2:=n3_; have BK526:=n4_; have BK527:=n5_; have HB:=n6_; have BK528:=n7_; have GE528:=n9_; have NB526_528:=n10_; have NB528_526:=n11_; have NB527_528:=n12_; have NB528_527:=n13_; clear n0_ n1_ n2_ n3_ n4_ n5_ n6_ n7_ n9_ n10_ n11_ n12_ n13_; clear hb hbox hg))
 have n0_:=Aside0.mk (Kd.V_drew HO0_1.out)
 have n1_:=Aside0.mk (Kd.V_drew HO0_2.out)
 have n2_:=Aside0.mk (Kd.V_drew HO1_1.out)
 have n3_:=Aside0.mk (Kd.V_drew HO1_2.out)
 have n4_:=Aside0.mk (blk_drew BK526.out)
 have n5_:=Aside0.mk (blk_drew BK527.out)
 have n6_:=Aside0.mk (blk_drew BK528.out)
 have n7_:=Aside0.mk (below_drew1 HB.out)
 clear HO0_1
 clear HO0_2
 clear HO1_1
 clear HO1_2
 clear BK526
 clear BK527
 clear BK528
 clear HB
 have HO0_1:=n0_
 have HO0_2:=n1_
 have HO1_1:=n2_
 have HO1_2:=n3_
 have BK526:=n4_
 have BK527:=n5_
 have BK528:=n6_
 have HB:=n7_
 clear n0_ n1_ n2_ n3_ n4_ n5_ n6_ n7_
 refine start_ (n:=5) (S:=fun w'=>w'.cell? ⟨gb526,0,none⟩ = some (.bool a0_0) ∧ w'.cell? ⟨gb526,1,none⟩ = some (.slice A0_1 l0_1.length c0_1) ∧ w'.cell? ⟨gb526,2,none⟩ = some (.slice A0_2 l0_2.length c0_2) ∧ w'.cell? ⟨gb527,0,none⟩ = some (.bool a1_0) ∧ w'.cell? ⟨gb527,1,none⟩ = some (.slice A1_1 l1_1.length c1_1) ∧ w'.cell? ⟨gb527,2,none⟩ = some (.slice A1_2 l1_2.length c1_2)) (ds:=[]) #[false,false,false,false,false] (by kernel_rfl) rfl rfl ⟨bc_ BK526 0,bc_ BK526 1,bc_ BK526 2,bc_ BK527 0,bc_ BK527 1,bc_ BK527 2⟩ (fun hHeld=>?_)
 generalize w7.drew = w8 at HO0_1 HO0_2 HO1_1 HO1_2 BK526 BK527 BK528 HB hHeld ⊢
 refine take_ (i:=0) (N:=some 5) (v:=?_) (a':=?_) #[true,false,false,false,false] rfl rfl (by kernel_rfl) (fun _ _ _ h=>h) (Or.inl ⟨by rfl,?_⟩) hHeld ?_ ?_
 rotate_left
 ·
  rintro w' ⟨s0,s1,s2,s3,s4,s5⟩
  go_simp
  with_reducible rfl
 rotate_left
 ·
  simp only [Act.put,p1_,p2_,p3_,i64_w,i32_w]
  rfl
 refine take_ (i:=1) (N:=some 6) (v:=?_) (a':=?_) #[true,true,false,false,false] rfl rfl (by kernel_rfl) (fun _ _ _ h=>h) (Or.inl ⟨by rfl,?_⟩) hHeld ?_ ?_
 rotate_left
 ·
  rintro w' ⟨s0,s1,s2,s3,s4,s5⟩
  go_simp
  with_reducible rfl
 rotate_left
 ·
  simp only [Act.put,p1_,p2_,p3_,i64_w,i32_w]
  rfl
 refine one_ (i:=2) (N:=some 7) #[true,true,true,false,false] rfl rfl (by kernel_rfl) (by decide) (fun K hK=>?_)
 refine goesN_ Try.func79 (by kernel_rfl) rfl [.agg #[.bool a1_0,.slice A1_1 l1_1.length c1_1,.slice A1_2 l1_2.length c1_2]] (by rfl) rfl rfl (by rfl) ?_
 with_reducible refine (ratio_R_Neg1.calls k a1_0 (fun k_=>(((((P0_1_ k_ ∨ P0_2_ k_ ∨ P1_1_ k_ ∨ P1_2_ k_) ∨ w.heap.size ≤ k_) ∧ k_ ≠ gb526) ∧ k_ ≠ gb527) ∧ k_ ≠ gb528)) _ _ l1_1 (fun k_=>(((((P0_1_ k_ ∨ P0_2_ k_ ∨ P1_1_ k_ ∨ P1_2_ k_) ∨ w.heap.size ≤ k_) ∧ k_ ≠ gb526) ∧ k_ ≠ gb527) ∧ k_ ≠ gb528)) _ _ l1_2 t529 t530 t533 _ ?side1 ?side2 A3.out).mono ?_
 (case side1=>exact HO1_1.out)
 (case side2=>exact HO1_2.out)
 rintro e w9 ⟨v531,v534,rfl,ho0,ho1,hb⟩
 refine ⟨_,rfl,?_⟩
 have n0_:=vb_ HO0_1 hb
 have n1_:=vb_ HO0_2 hb
 have n4_:=Aside0.mk (Kd.V_lower (Kd.V_mono (ok':=fun k_=>((P0_1_ k_ ∨ P0_2_ k_ ∨ P1_1_ k_ ∨ P1_2_ k_) ∨ w.heap.size ≤ k_) ∧ k_ ≠ gb526 ∧ k_ ≠ gb527 ∧ k_ ≠ gb528) ho0 (fun k_ hk_=>⟨Or.elim hk_ (fun hs_=>Or.elim hs_ (fun hs_=>hs_.1.1.1) (fun hs_=>hs_.1.1.1)) (fun hn_=>(.inr (Nat.le_trans (below_size bh_) hn_))),Or.elim hk_ (fun hs_=>Or.elim hs_ (fun hs_=>hs_.1.1.2) (fun hs_=>hs_.1.1.2)) (fun hn_=>(fb_ BK526 k_ hn_)),Or.elim hk_ (fun hs_=>Or.elim hs_ (fun hs_=>hs_.1.2) (fun hs_=>hs_.1.2)) (fun hn_=>(fb_ BK527 k_ hn_)),Or.elim hk_ (fun hs_=>Or.elim hs_ (fun hs_=>hs_.2) (fun hs_=>hs_.2)) (fun hn_=>(fb_ BK528 k_ hn_))⟩)) (below_size bh_))
 have n5_:=Aside0.mk (Kd.V_lower (Kd.V_mono (ok':=fun k_=>((P0_1_ k_ ∨ P0_2_ k_ ∨ P1_1_ k_ ∨ P1_2_ k_) ∨ w.heap.size ≤ k_) ∧ k_ ≠ gb526 ∧ k_ ≠ gb527 ∧ k_ ≠ gb528) ho1 (fun k_ hk_=>⟨Or.elim hk_ (fun hs_=>Or.elim hs_ (fun hs_=>hs_.1.1.1) (fun hs_=>hs_.1.1.1)) (fun hn_=>(.inr (Nat.le_trans (below_size bh_) hn_))),Or.elim hk_ (fun hs_=>Or.elim hs_ (fun hs_=>hs_.1.1.2) (fun hs_=>hs_.1.1.2)) (fun hn_=>(fb_ BK526 k_ hn_)),Or.elim hk_ (fun hs_=>Or.elim hs_ (fun hs_=>hs_.1.2) (fun hs_=>hs_.1.2)) (fun hn_=>(fb_ BK527 k_ hn_)),Or.elim hk_ (fun hs_=>Or.elim hs_ (fun hs_=>hs_.2) (fun hs_=>hs_.2)) (fun hn_=>(fb_ BK528 k_ hn_))⟩)) (below_size bh_))
 have n6_:=kb_ BK526 hb
 have n7_:=kb_ BK527 hb
 have n8_:=kb_ BK528 hb
 have n9_:=bq_ hb
 (try clear BK526)
 (try clear BK527)
 (try clear BK528)
 (try clear HB)
 (try clear HO0_1)
 (try clear HO0_2)
 have HO0_1:=n0_
 have HO0_2:=n1_
 have HO532:=n4_
 have HO535:=n5_
 have BK526:=n6_
 have BK527:=n7_
 have BK528:=n8_
 have HB:=n9_
 clear n0_ n1_ n4_ n5_ n6_ n7_ n8_ n9_
 (try clear hb)
 (try clear hb2)
 (try clear hk)
 (try clear hi)
 (try clear ho0)
 (try clear ho1)
 obtain ⟨Ao10,co10,eo10⟩:=Kd.V_slice HO532.out
 (first | subst eo10 | (injection eo10 with f1_ f2_ f3_; have f4_:=f1_.symm; have f5_:=f3_.symm; clear f1_ f2_ f3_; subst f4_; subst f5_))
 obtain ⟨Ao11,co11,eo11⟩:=Kd.V_slice HO535.out
 (first | subst eo11 | (injection eo11 with f1_ f2_ f3_; have f4_:=f1_.symm; have f5_:=f3_.symm; clear f1_ f2_ f3_; subst f4_; subst f5_))
 refine hK.out _ _ ⟨bc_ BK526 0,bc_ BK526 1,bc_ BK526 2,bc_ BK527 0,bc_ BK527 1,bc_ BK527 2⟩ (fun hHeld=>?_)
 clear hK K
 refine norm_ (a':=?_) ?_ ?_
 rotate_left
 ·
  show Act.put _ (some 7) _ = _
  simp only [Act.put,p1_,p2_,p3_,i64_w,i32_w]
  rfl
 refine one_ (i:=3) (N:=some 8) #[true,true,true,true,false] rfl rfl (by kernel_rfl) (by decide) (fun K hK=>?_)
 refine goesN_ Try.func78 (by kernel_rfl) rfl [.agg #[.bool a0_0,.slice A0_1 l0_1.length c0_1,.slice A0_2 l0_2.length c0_2],.agg #[.bool t529,.slice Ao10 t530.length co10,.slice Ao11 t533.length co11]] (by rfl) rfl rfl (by rfl) ?_
 with_reducible refine (ratio_R_Add.calls k a0_0 (fun k_=>(((((P0_1_ k_ ∨ P0_2_ k_ ∨ P1_1_ k_ ∨ P1_2_ k_) ∨ w.heap.size ≤ k_) ∧ k_ ≠ gb526) ∧ k_ ≠ gb527) ∧ k_ ≠ gb528)) _ _ l0_1 (fun k_=>(((((P0_1_ k_ ∨ P0_2_ k_ ∨ P1_1_ k_ ∨ P1_2_ k_) ∨ w.heap.size ≤ k_) ∧ k_ ≠ gb526) ∧ k_ ≠ gb527) ∧ k_ ≠ gb528)) _ _ l0_2 t529 (fun k_=>(((P0_1_ k_ ∨ P0_2_ k_ ∨ P1_1_ k_ ∨ P1_2_ k_) ∨ w.heap.size ≤ k_) ∧ (k_ ≠ gb526 ∧ (k_ ≠ gb527 ∧ k_ ≠ gb528)))) _ _ t530 (fun k_=>(((P0_1_ k_ ∨ P0_2_ k_ ∨ P1_1_ k_ ∨ P1_2_ k_) ∨ w.heap.size ≤ k_) ∧ (k_ ≠ gb526 ∧ (k_ ≠ gb527 ∧ k_ ≠ gb528)))) _ _ t533 t536 t537 t540 _ ?side1 ?side2 ?side3 ?side4 A4.out).mono ?_
 (case side1=>exact HO0_1.out)
 (case side2=>exact HO0_2.out)
 (case side3=>exact HO532.out)
 (case side4=>exact HO535.out)
 rintro e w12 ⟨v538,v541,rfl,ho0,ho1,hb⟩
 refine ⟨_,rfl,?_⟩
 have n6_:=Aside0.mk (Kd.V_lower (Kd.V_mono (ok':=fun k_=>((P0_1_ k_ ∨ P0_2_ k_ ∨ P1_1_ k_ ∨ P1_2_ k_) ∨ w.heap.size ≤ k_) ∧ k_ ≠ gb526 ∧ k_ ≠ gb527 ∧ k_ ≠ gb528) ho0 (fun k_ hk_=>⟨Or.elim hk_ (fun hs_=>Or.elim hs_ (fun hs_=>hs_.1.1.1) (fun hs_=>Or.elim hs_ (fun hs_=>hs_.1.1.1) (fun hs_=>Or.elim hs_ (fun hs_=>hs_.1) (fun hs_=>hs_.1)))) (fun hn_=>(.inr (Nat.le_trans (below_size bh_) hn_))),Or.elim hk_ (fun hs_=>Or.elim hs_ (fun hs_=>hs_.1.1.2) (fun hs_=>Or.elim hs_ (fun hs_=>hs_.1.1.2) (fun hs_=>Or.elim hs_ (fun hs_=>hs_.2.1) (fun hs_=>hs_.2.1)))) (fun hn_=>(fb_ BK526 k_ hn_)),Or.elim hk_ (fun hs_=>Or.elim hs_ (fun hs_=>hs_.1.2) (fun hs_=>Or.elim hs_ (fun hs_=>hs_.1.2) (fun hs_=>Or.elim hs_ (fun hs_=>hs_.2.2.1) (fun hs_=>hs_.2.2.1)))) (fun hn_=>(fb_ BK527 k_ hn_)),Or.elim hk_ (fun hs_=>Or.elim hs_ (fun hs_=>hs_.2) (fun hs_=>Or.elim hs_ (fun hs_=>hs_.2) (fun hs_=>Or.elim hs_ (fun hs_=>hs_.2.2.2) (fun hs_=>hs_.2.2.2)))) (fun hn_=>(fb_ BK528 k_ hn_))⟩)) (below_size bh_))
 have n7_:=Aside0.mk (Kd.V_lower (Kd.V_mono (ok':=fun k_=>((P0_1_ k_ ∨ P0_2_ k_ ∨ P1_1_ k_ ∨ P1_2_ k_) ∨ w.heap.size ≤ k_) ∧ k_ ≠ gb526 ∧ k_ ≠ gb527 ∧ k_ ≠ gb528) ho1 (fun k_ hk_=>⟨Or.elim hk_ (fun hs_=>Or.elim hs_ (fun hs_=>hs_.1.1.1) (fun hs_=>Or.elim hs_ (fun hs_=>hs_.1.1.1) (fun hs_=>Or.elim hs_ (fun hs_=>hs_.1) (fun hs_=>hs_.1)))) (fun hn_=>(.inr (Nat.le_trans (below_size bh_) hn_))),Or.elim hk_ (fun hs_=>Or.elim hs_ (fun hs_=>hs_.1.1.2) (fun hs_=>Or.elim hs_ (fun hs_=>hs_.1.1.2) (fun hs_=>Or.elim hs_ (fun hs_=>hs_.2.1) (fun hs_=>hs_.2.1)))) (fun hn_=>(fb_ BK526 k_ hn_)),Or.elim hk_ (fun hs_=>Or.elim hs_ (fun hs_=>hs_.1.2) (fun hs_=>Or.elim hs_ (fun hs_=>hs_.1.2) (fun hs_=>Or.elim hs_ (fun hs_=>hs_.2.2.1) (fun hs_=>hs_.2.2.1)))) (fun hn_=>(fb_ BK527 k_ hn_)),Or.elim hk_ (fun hs_=>Or.elim hs_ (fun hs_=>hs_.2) (fun hs_=>Or.elim hs_ (fun hs_=>hs_.2) (fun hs_=>Or.elim hs_ (fun hs_=>hs_.2.2.2) (fun hs_=>hs_.2.2.2)))) (fun hn_=>(fb_ BK528 k_ hn_))⟩)) (below_size bh_))
 have n8_:=kb_ BK526 hb
 have n9_:=kb_ BK527 hb
 have n10_:=kb_ BK528 hb
 have n11_:=bq_ hb
 (try clear BK526)
 (try clear BK527)
 (try clear BK528)
 (try clear HB)
 have HO539:=n6_
 have HO542:=n7_
 have BK526:=n8_
 have BK527:=n9_
 have BK528:=n10_
 have HB:=n11_
 clear n6_ n7_ n8_ n9_ n10_ n11_
 (try clear hb)
 (try clear hb2)
 (try clear hk)
 (try clear hi)
 (try clear ho0)
 (try clear ho1)
 obtain ⟨Ao14,co14,eo14⟩:=Kd.V_slice HO539.out
 (first | subst eo14 | (injection eo14 with f1_ f2_ f3_; have f4_:=f1_.symm; have f5_:=f3_.symm; clear f1_ f2_ f3_; subst f4_; subst f5_))
 obtain ⟨Ao16,co16,eo16⟩:=Kd.V_slice HO542.out
 (first | subst eo16 | (injection eo16 with f1_ f2_ f3_; have f4_:=f1_.symm; have f5_:=f3_.symm; clear f1_ f2_ f3_; subst f4_; subst f5_))
 refine hK.out _ _ ⟨bc_ BK526 0,bc_ BK526 1,bc_ BK526 2,bc_ BK527 0,bc_ BK527 1,bc_ BK527 2⟩ (fun hHeld=>?_)
 clear hK K
 refine norm_ (a':=?_) ?_ ?_
 rotate_left
 ·
  show Act.put _ (some 8) _ = _
  simp only [Act.put,p1_,p2_,p3_,i64_w,i32_w]
  rfl
 refine one_ (i:=4) (N:=none) #[true,true,true,true,true] rfl rfl (by kernel_rfl) (by decide) (fun K hK=>?_)
 have hs13 : w12.cell? ⟨gb528,0,none⟩ = some (.bool false):=bc_ BK528 0
 have hfs13:=blk_frozen BK528.out 0
 have hns13_0:=NB526_528.out
 have hns13_1:=NB527_528.out
 have hms13_0:=NB528_526.out
 have hms13_1:=NB528_527.out
 have hs15 : w12.cell? ⟨gb528,1,none⟩ = some (.slice none 0 0):=bc_ BK528 1
 have hfs15:=blk_frozen BK528.out 1
 have hns15_0:=NB526_528.out
 have hns15_1:=NB527_528.out
 have hms15_0:=NB528_526.out
 have hms15_1:=NB528_527.out
 have hs17 : w12.cell? ⟨gb528,2,none⟩ = some (.slice none 0 0):=bc_ BK528 2
 have hfs17:=blk_frozen BK528.out 2
 have hns17_0:=NB526_528.out
 have hns17_1:=NB527_528.out
 have hms17_0:=NB528_526.out
 have hms17_1:=NB528_527.out
 refine skip_ (w1:=?_) (by rfl) rfl ?_ ?_
 rotate_left
 ·
  go_simp
  rfl
 refine hK.out _ _ ⟨((cell_far (p:=⟨gb528,_,none⟩) NB526_528.out _).trans (((cell_far (p:=⟨gb528,_,none⟩) NB526_528.out _).trans (((cell_far (p:=⟨gb528,_,none⟩) NB526_528.out _).trans (hHeld.1)))))),((cell_far (p:=⟨gb528,_,none⟩) NB526_528.out _).trans (((cell_far (p:=⟨gb528,_,none⟩) NB526_528.out _).trans (((cell_far (p:=⟨gb528,_,none⟩) NB526_528.out _).trans (hHeld.2.1)))))),((cell_far (p:=⟨gb528,_,none⟩) NB526_528.out _).trans (((cell_far (p:=⟨gb528,_,none⟩) NB526_528.out _).trans (((cell_far (p:=⟨gb528,_,none⟩) NB526_528.out _).trans (hHeld.2.2.1)))))),((cell_far (p:=⟨gb528,_,none⟩) NB527_528.out _).trans (((cell_far (p:=⟨gb528,_,none⟩) NB527_528.out _).trans (((cell_far (p:=⟨gb528,_,none⟩) NB527_528.out _).trans (hHeld.2.2.2.1)))))),((cell_far (p:=⟨gb528,_,none⟩) NB527_528.out _).trans (((cell_far (p:=⟨gb528,_,none⟩) NB527_528.out _).trans (((cell_far (p:=⟨gb528,_,none⟩) NB527_528.out _).trans (hHeld.2.2.2.2.1)))))),((cell_far (p:=⟨gb528,_,none⟩) NB527_528.out _).trans (((cell_far (p:=⟨gb528,_,none⟩) NB527_528.out _).trans (((cell_far (p:=⟨gb528,_,none⟩) NB527_528.out _).trans (hHeld.2.2.2.2.2))))))⟩ (fun hHeld=>?_)
 clear hK K
 refine done_ (by kernel_rfl) ?_
 try go_wp2
 refine bodyPost_ret (results_cell_row rfl _ _ gb528 50 #[.bool t536,.slice Ao14 t537.length co14,.slice Ao16 t540.length co16] (0,0) _ rfl (by (with_reducible repeat (first | apply kn_ | apply kd_ | apply ka_)); refine blk_put (cs:=#[.bool t536,.slice Ao14 t537.length co14,.slice none 0 0]) ?_ 2 _ rfl; (with_reducible repeat (first | apply kn_ | apply kd_ | apply ka_)); refine blk_put (cs:=#[.bool t536,.slice none 0 0,.slice none 0 0]) ?_ 1 _ rfl; (with_reducible repeat (first | apply kn_ | apply kd_ | apply ka_)); refine blk_put (cs:=#[.bool false,.slice none 0 0,.slice none 0 0]) ?_ 0 _ rfl; (with_reducible repeat (first | apply kn_ | apply kd_ | apply ka_)); exact BK528.out) Try.underlying50 rfl (by kernel_rfl)) rfl ?_
 exact ⟨_,_,eh_,by (with_reducible repeat (first | apply va_ | apply vn_ | apply vd_)); exact Kd.V_mono (Kd.V_far (p:=⟨gb528,2,none⟩) (Kd.V_far (p:=⟨gb528,1,none⟩) (Kd.V_far (p:=⟨gb528,0,none⟩) (Kd.V_mono HO539.out (fun k_ hk=>(⟨hk,hk.2.2.2⟩ : _ ∧ k_ ≠ gb528))) (fun _ hk=>hk.2) (.bool t536)) (fun _ hk=>hk.2) (.slice Ao14 t537.length co14)) (fun _ hk=>hk.2) (.slice Ao16 t540.length co16)) (fun _ hk=>hk.1.1),by (with_reducible repeat (first | apply va_ | apply vn_ | apply vd_)); exact Kd.V_mono (Kd.V_far (p:=⟨gb528,2,none⟩) (Kd.V_far (p:=⟨gb528,1,none⟩) (Kd.V_far (p:=⟨gb528,0,none⟩) (Kd.V_mono HO542.out (fun k_ hk=>(⟨hk,hk.2.2.2⟩ : _ ∧ k_ ≠ gb528))) (fun _ hk=>hk.2) (.bool t536)) (fun _ hk=>hk.2) (.slice Ao14 t537.length co14)) (fun _ hk=>hk.2) (.slice Ao16 t540.length co16)) (fun _ hk=>hk.1.1),bh_⟩

/-! ### ratio_R_Abs: function 43 -/
def ratio_R_Abs.f (k : Nat) (a0_0 : Bool) (l0_1 : List Int) (l0_2 : List Int) : Option (Bool × List Int × List Int):=(ratio_low.f k false l0_1 l0_2).bind fun bt545=>(some (bt545.1,bt545.2.1,bt545.2.2))
theorem ratio_R_Abs.mono : ∀ a0 a1 a2 k,LeO (ratio_R_Abs.f k a0 a1 a2) (ratio_R_Abs.f (k + 1) a0 a1 a2):=by
 intro a0 a1 a2 k
 unfold ratio_R_Abs.f
 repeat' with_reducible first | exact ratio_low.mono _ _ _ _ | exact LeO.refl _ | exact LeO.none _ | refine LeO.ite ?_ ?_ | refine LeO.bind ?_ (fun _=>?_)
set_option maxHeartbeats 8000000 in
set_option maxRecDepth 100000 in
theorem ratio_R_Abs.calls (k : Nat) (a0_0 : Bool) (P0_1_ : Nat → Prop) (A0_1 : Option Addr) (c0_1 : Nat) (l0_1 : List Int) (P0_2_ : Nat → Prop) (A0_2 : Option Addr) (c0_2 : Nat) (l0_2 : List Int) (r1 : Bool) (r2 : List Int) (r3 : List Int) (w : World) (hs0_1 : Kd.V (Kd.int .u32) 123 w w.heap.size (fun k_=>P0_1_ k_) (.slice A0_1 l0_1.length c0_1) l0_1) (hs0_2 : Kd.V (Kd.int .u32) 123 w w.heap.size (fun k_=>P0_2_ k_) (.slice A0_2 l0_2.length c0_2) l0_2) (h : ratio_R_Abs.f k a0_0 l0_1 l0_2 = some (r1,r2,r3)) :
  Calls Try.prog 43 #[.agg #[.bool a0_0,.slice A0_1 l0_1.length c0_1,.slice A0_2 l0_2.length c0_2]] w fun e w'=>∃ v1_ v2_ : Value,e = .returned (.agg #[.bool r1,v1_,v2_]) ∧ Kd.V (Kd.int .u32) 123 w' w.heap.size (fun k_=>((P0_1_ k_ ∨ P0_2_ k_) ∨ w.heap.size ≤ k_)) v1_ r2 ∧ Kd.V (Kd.int .u32) 123 w' w.heap.size (fun k_=>((P0_1_ k_ ∨ P0_2_ k_) ∨ w.heap.size ≤ k_)) v2_ r3 ∧ Below w.heap.size w w':=by
 have hu50:=Try.underlying50
 have HO0_1:=Aside0.mk (show Kd.V (Kd.int .u32) 123 w w.heap.size (fun k_=>((P0_1_ k_ ∨ P0_2_ k_) ∨ w.heap.size ≤ k_)) (.slice A0_1 l0_1.length c0_1) l0_1 from Kd.V_mono hs0_1 (fun k_ hk=>.inl (.inl hk)))
 have HO0_2:=Aside0.mk (show Kd.V (Kd.int .u32) 123 w w.heap.size (fun k_=>((P0_1_ k_ ∨ P0_2_ k_) ∨ w.heap.size ≤ k_)) (.slice A0_2 l0_2.length c0_2) l0_2 from Kd.V_mono hs0_2 (fun k_ hk=>.inl (.inr hk)))
 have HB:=Aside0.mk (Below.refl w.heap.size w)
 have H : ((ratio_low.f k false l0_1 l0_2).bind fun bt545=>(some (bt545.1,bt545.2.1,bt545.2.2))) = some (r1,r2,r3):=h
 clear h
 replace H:=Option.bind_eq_some_iff.mp H
 obtain ⟨⟨t545,t546,t549⟩,A20,H⟩:=H
 replace H : (some (t545,t546,t549)) = some (r1,r2,r3):=H
 have A2:=Aside0.mk A20
 clear A20
 simp only [Option.some.injEq,Prod.mk.injEq] at H
 obtain ⟨rfl,rfl,rfl⟩:=H
 go_enter Try.func43,Try.ntmps43
 go_wp2_with (first | ((with_reducible refine gate_dst (N:=1) rfl ?_); refine box_event ?hg (N:=1) ?hd (cs:=#[.bool a0_0,.slice A0_1 l0_1.length c0_1,.slice A0_2 l0_2.length c0_2]) (t:=50) ?hr ?_; (case hd=>rfl); (case hg=>rfl); (case hr=>first | (go_simp; done) | (go_simp; rfl)); intro gb543 hg w3 hbox hb; have n0_:=ve_ HO0_1 hg hb; have n1_:=ve_ HO0_2 hg hb; have n2_:=bq_ hb; have n3_:=Aside0.mk (hbox); have n5_:=bz_ hg; clear HO0_1 HO0_2 HB; have HO0_1:=n0_; have HO0_2:=n1_; have HB:=n2_; have BK543:=n3_; have GE543:=n5_; clear n0_ n1_ n2_ n3_ n5_; clear hb hbox hg) | ((with_reducible refine gate_dst (N:=2) rfl ?_); refine box_event ?hg (N:=2) ?hd (cs:=#[.bool false,.slice none 0 0,.slice none 0 0]) (t:=50) ?hr ?_; (case hd=>rfl); (case hg=>rfl); (case hr=>first | (go_simp; done) | (go_simp; rfl)); intro gb544 hg w4 hbox hb; have n0_:=ve_ HO0_1 hg hb; have n1_:=ve_ HO0_2 hg hb; have n2_:=kb_ BK543 hb; have n3_:=bq_ hb; have n4_:=Aside0.mk (hbox); have n6_:=bz_ hg; have n7_:=Aside0.mk ((by rw [hg]; exact Nat.ne_of_lt (blk_lt (g:=gb543) (o:=.cells #[.bool a0_0,.slice A0_1 l0_1.length c0_1,.slice A0_2 l0_2.length c0_2] 50 (0,0)) (by (with_reducible repeat (first | apply kn_ | apply kd_ | apply ka_)); exact BK543.out)) : gb543 ≠ gb544)); have n8_:=Aside0.mk ((by rw [hg]; exact Nat.ne_of_gt (blk_lt (g:=gb543) (o:=.cells #[.bool a0_0,.slice A0_1 l0_1.length c0_1,.slice A0_2 l0_2.length c0_2] 50 (0,0)) (by (with_reducible repeat (first | apply kn_ | apply kd_ | apply ka_)); exact BK543.out)) : gb544 ≠ gb543)); clear HO0_1 HO0_2 BK543 HB; have HO0_1:=n0_; have HO0_2:=n1_; have BK543:=n2_; have HB:=n3_; have BK544:=n4_; have GE544:=n6_; have NB543_544:=n7_; have NB544_543:=n8_; clear n0_ n1_ n2_ n3_ n4_ n6_ n7_ n8_; clear hb hbox hg; have hnb5:=NB543_544.out; have hnc5:=NB544_543.out; have hcz6_0 : w4.cell? ⟨gb543,0,none⟩ = some (.bool a0_0):=bc_ BK543 0; have hcz6_1 : w4.cell? ⟨gb543,1,none⟩ = some (.slice A0_1 l0_1.length c0_1):=bc_ BK543 1; have hcz6_2 : w4.cell? ⟨gb543,2,none⟩ = some (.slice A0_2 l0_2.length c0_2):=bc_ BK543 2; have hfz6_0:=blk_frozen BK543.out 0; have hfz6_1:=blk_frozen BK543.out 1; have hfz6_2:=blk_frozen BK543.out 2) | ((with_reducible refine gc_ 73 rfl ?_); refine gM_ (some 7) Try.func73 [.bool false,.slice A0_1 l0_1.length c0_1,.slice A0_2 l0_2.length c0_2] ?_; (with_reducible refine (ratio_low.calls k false (fun k_=>((((P0_1_ k_ ∨ P0_2_ k_) ∨ w.heap.size ≤ k_) ∧ k_ ≠ gb543) ∧ k_ ≠ gb544)) _ _ l0_1 (fun k_=>((((P0_1_ k_ ∨ P0_2_ k_) ∨ w.heap.size ≤ k_) ∧ k_ ≠ gb543) ∧ k_ ≠ gb544)) _ _ l0_2 t545 t546 t549 _ ?side1 ?side2 A2.out).mono ?_); (case side1=>exact HO0_1.out); (case side2=>exact HO0_2.out); rintro e w7 ⟨v547,v550,rfl,ho0,ho1,hb⟩; refine ⟨_,rfl,?_⟩; have HO548:=Aside0.mk (Kd.V_lower (Kd.V_mono (ok':=fun k_=>((P0_1_ k_ ∨ P0_2_ k_) ∨ w.heap.size ≤ k_) ∧ k_ ≠ gb543 ∧ k_ ≠ gb544) ho0 (fun k_ hk_=>⟨Or.elim hk_ (fun hs_=>Or.elim hs_ (fun hs_=>hs_.1.1) (fun hs_=>hs_.1.1)) (fun hn_=>(.inr (Nat.le_trans (below_size bh_) hn_))),Or.elim hk_ (fun hs_=>Or.elim hs_ (fun hs_=>hs_.1.2) (fun hs_=>hs_.1.2)) (fun hn_=>(fb_ BK543 k_ hn_)),Or.elim hk_ (fun hs_=>Or.elim hs_ (fun hs_=>hs_.2) (fun hs_=>hs_.2)) (fun hn_=>(fb_ BK544 k_ hn_))⟩)) (below_size bh_)); have HO551:=Aside0.mk (Kd.V_lower (Kd.V_mono (ok':=fun k_=>((P0_1_ k_ ∨ P0_2_ k_) ∨ w.heap.size ≤ k_) ∧ k_ ≠ gb543 ∧ k_ ≠ gb544) ho1 (fun k_ hk_=>⟨Or.elim hk_ (fun hs_=>Or.elim hs_ (fun hs_=>hs_.1.1) (fun hs_=>hs_.1.1)) (fun hn_=>(.inr (Nat.le_trans (below_size bh_) hn_))),Or.elim hk_ (fun hs_=>Or.elim hs_ (fun hs_=>hs_.1.2) (fun hs_=>hs_.1.2)) (fun hn_=>(fb_ BK543 k_ hn_)),Or.elim hk_ (fun hs_=>Or.elim hs_ (fun hs_=>hs_.2) (fun hs_=>hs_.2)) (fun hn_=>(fb_ BK544 k_ hn_))⟩)) (below_size bh_)); replace BK544:=kb_ BK544 hb; replace HB:=bq_ hb; skip; have hcz8_0 : w7.cell? ⟨gb544,0,none⟩ = some (.bool false):=bc_ BK544 0; have hcz8_1 : w7.cell? ⟨gb544,1,none⟩ = some (.slice none 0 0):=bc_ BK544 1; have hcz8_2 : w7.cell? ⟨gb544,2,none⟩ = some (.slice none 0 0):=bc_ BK544 2; have hfz8_0:=blk_frozen BK544.out 0; have hfz8_1:=blk_frozen BK544.out 1; have hfz8_2:=blk_frozen BK544.out 2; obtain ⟨Ao9,co9,eo9⟩:=Kd.V_slice HO548.out; subst eo9; obtain ⟨Ao10,co10,eo10⟩:=Kd.V_slice HO551.out; subst eo10))
 refine bodyPost_ret (results_cell_row rfl _ _ gb544 50 #[.bool t545,.slice Ao9 t546.length co9,.slice Ao10 t549.length co10] (0,0) _ rfl (by (with_reducible repeat (first | apply kn_ | apply kd_ | apply ka_)); refine blk_put (cs:=#[.bool t545,.slice Ao9 t546.length co9,.slice none 0 0]) ?_ 2 _ rfl; (with_reducible repeat (first | apply kn_ | apply kd_ | apply ka_)); refine blk_put (cs:=#[.bool t545,.slice none 0 0,.slice none 0 0]) ?_ 1 _ rfl; (with_reducible repeat (first | apply kn_ | apply kd_ | apply ka_)); refine blk_put (cs:=#[.bool false,.slice none 0 0,.slice none 0 0]) ?_ 0 _ rfl; (with_reducible repeat (first | apply kn_ | apply kd_ | apply ka_)); exact BK544.out) Try.underlying50 rfl (by kernel_rfl)) rfl ?_
 exact ⟨_,_,eh_,by (with_reducible repeat (first | apply va_ | apply vn_ | apply vd_)); exact Kd.V_mono (Kd.V_far (p:=⟨gb544,2,none⟩) (Kd.V_far (p:=⟨gb544,1,none⟩) (Kd.V_far (p:=⟨gb544,0,none⟩) (Kd.V_mono HO548.out (fun k_ hk=>(⟨hk,hk.2.2⟩ : _ ∧ k_ ≠ gb544))) (fun _ hk=>hk.2) (.bool t545)) (fun _ hk=>hk.2) (.slice Ao9 t546.length co9)) (fun _ hk=>hk.2) (.slice Ao10 t549.length co10)) (fun _ hk=>hk.1.1),by (with_reducible repeat (first | apply va_ | apply vn_ | apply vd_)); exact Kd.V_mono (Kd.V_far (p:=⟨gb544,2,none⟩) (Kd.V_far (p:=⟨gb544,1,none⟩) (Kd.V_far (p:=⟨gb544,0,none⟩) (Kd.V_mono HO551.out (fun k_ hk=>(⟨hk,hk.2.2⟩ : _ ∧ k_ ≠ gb544))) (fun _ hk=>hk.2) (.bool t545)) (fun _ hk=>hk.2) (.slice Ao9 t546.length co9)) (fun _ hk=>hk.2) (.slice Ao10 t549.length co10)) (fun _ hk=>hk.1.1),bh_⟩

/-! ### ratio_Int: function 44 -/
def ratio_Int.f (k : Nat) (a0 : Int) : Option (Bool × List Int × List Int):=if a0 < 0 then ((nat_New.f k (IntKind.u64.wrap (-(IntKind.u64.wrap (a0))))).bind fun t553=>((nat_New.f k 1).bind fun t556=>((ratio_low.f k true t553 t556).bind fun bt559=>(some (bt559.1,bt559.2.1,bt559.2.2))))) else ((nat_New.f k (IntKind.u64.wrap (a0))).bind fun t566=>((nat_New.f k 1).bind fun t569=>((ratio_low.f k false t566 t569).bind fun bt572=>(some (bt572.1,bt572.2.1,bt572.2.2)))))
theorem ratio_Int.mono : ∀ a0 k,LeO (ratio_Int.f k a0) (ratio_Int.f (k + 1) a0):=by
 intro a0 k
 unfold ratio_Int.f
 repeat' with_reducible first | exact nat_New.mono _ _ | exact ratio_low.mono _ _ _ _ | exact LeO.refl _ | exact LeO.none _ | refine LeO.ite ?_ ?_ | refine LeO.bind ?_ (fun _=>?_)
set_option maxHeartbeats 8000000 in
set_option maxRecDepth 100000 in
theorem ratio_Int.calls (k : Nat) (a0 : Int) (r1 : Bool) (r2 : List Int) (r3 : List Int) (w : World) (h : ratio_Int.f k a0 = some (r1,r2,r3)) :
  Calls Try.prog 44 #[.int .i64 a0] w fun e w'=>∃ v1_ v2_ : Value,e = .returned (.agg #[.bool r1,v1_,v2_]) ∧ Kd.V (Kd.int .u32) 123 w' w.heap.size (fun k_=>(w.heap.size ≤ k_)) v1_ r2 ∧ Kd.V (Kd.int .u32) 123 w' w.heap.size (fun k_=>(w.heap.size ≤ k_)) v2_ r3 ∧ Below w.heap.size w w':=by
 have hu50:=Try.underlying50
 have HB:=Aside0.mk (Below.refl w.heap.size w)
 have H : (if a0 < 0 then ((nat_New.f k (IntKind.u64.wrap (-(IntKind.u64.wrap (a0))))).bind fun t553=>((nat_New.f k 1).bind fun t556=>((ratio_low.f k true t553 t556).bind fun bt559=>(some (bt559.1,bt559.2.1,bt559.2.2))))) else ((nat_New.f k (IntKind.u64.wrap (a0))).bind fun t566=>((nat_New.f k 1).bind fun t569=>((ratio_low.f k false t566 t569).bind fun bt572=>(some (bt572.1,bt572.2.1,bt572.2.2)))))) = some (r1,r2,r3):=h
 clear h
 by_cases c2 : a0 < 0
 case neg =>
  rw [if_neg c2] at H
  have c2b0 : decide (a0 < 0) = false:=decide_eq_false c2
  clear c2
  replace H:=Option.bind_eq_some_iff.mp H
  obtain ⟨t566,A150,H⟩:=H
  replace H : ((nat_New.f k 1).bind fun t569=>((ratio_low.f k false t566 t569).bind fun bt572=>(some (bt572.1,bt572.2.1,bt572.2.2)))) = some (r1,r2,r3):=H
  have A15:=Aside0.mk A150
  clear A150
  replace H:=Option.bind_eq_some_iff.mp H
  obtain ⟨t569,A160,H⟩:=H
  replace H : ((ratio_low.f k false t566 t569).bind fun bt572=>(some (bt572.1,bt572.2.1,bt572.2.2))) = some (r1,r2,r3):=H
  have A16:=Aside0.mk A160
  clear A160
  replace H:=Option.bind_eq_some_iff.mp H
  obtain ⟨⟨t572,t573,t576⟩,A170,H⟩:=H
  replace H : (some (t572,t573,t576)) = some (r1,r2,r3):=H
  have A17:=Aside0.mk A170
  clear A170
  simp only [Option.some.injEq,Prod.mk.injEq] at H
  obtain ⟨rfl,rfl,rfl⟩:=H
  go_enter Try.func44,Try.ntmps44
  go_wp2_with (first | ((with_reducible refine gate_dst (N:=2) rfl ?_); refine box_event ?hg (N:=2) ?hd (cs:=#[.bool false,.slice none 0 0,.slice none 0 0]) (t:=50) ?hr ?_; (case hd=>rfl); (case hg=>rfl); (case hr=>first | (go_simp; done) | (go_simp; rfl)); intro gb552 hg w18 hbox hb; have n0_:=bq_ hb; have n1_:=Aside0.mk (hbox); have n3_:=bz_ hg; clear HB; have HB:=n0_; have BK552:=n1_; have GE552:=n3_; clear n0_ n1_ n3_; clear hb hbox hg) | ((with_reducible refine gc_ 56 rfl ?_); refine gM_ (some 13) Try.func56 [.int .u64 (IntKind.u64.wrap (a0))] ?_; (with_reducible refine (nat_New.calls k (IntKind.u64.wrap (a0)) t566 _ A15.out).mono ?_); rintro e w19 ⟨v567,rfl,ho0,hb⟩; refine ⟨_,rfl,?_⟩; have HO568:=Aside0.mk (Kd.V_lower (Kd.V_mono (ok':=fun k_=>(w.heap.size ≤ k_) ∧ k_ ≠ gb552) ho0 (fun k_ hk_=>⟨(Nat.le_trans (below_size bh_) hk_),(fb_ BK552 k_ hk_)⟩)) (below_size bh_)); replace BK552:=kb_ BK552 hb; replace HB:=bq_ hb) | ((with_reducible refine gc_ 56 rfl ?_); refine gM_ (some 14) Try.func56 [.int .u64 1] ?_; (with_reducible refine (nat_New.calls k 1 t569 _ A16.out).mono ?_); rintro e w20 ⟨v570,rfl,ho0,hb⟩; refine ⟨_,rfl,?_⟩; replace HO568:=vb_ HO568 hb; have HO571:=Aside0.mk (Kd.V_lower (Kd.V_mono (ok':=fun k_=>(w.heap.size ≤ k_) ∧ k_ ≠ gb552) ho0 (fun k_ hk_=>⟨(Nat.le_trans (below_size bh_) hk_),(fb_ BK552 k_ hk_)⟩)) (below_size bh_)); replace BK552:=kb_ BK552 hb; replace HB:=bq_ hb; skip; obtain ⟨Ao21,co21,eo21⟩:=Kd.V_slice HO568.out; subst eo21; obtain ⟨Ao22,co22,eo22⟩:=Kd.V_slice HO571.out; subst eo22) | ((with_reducible refine gc_ 73 rfl ?_); refine gM_ (some 15) Try.func73 [.bool false,.slice Ao21 t566.length co21,.slice Ao22 t569.length co22] ?_; (with_reducible refine (ratio_low.calls k false (fun k_=>((w.heap.size ≤ k_) ∧ k_ ≠ gb552)) _ _ t566 (fun k_=>((w.heap.size ≤ k_) ∧ k_ ≠ gb552)) _ _ t569 t572 t573 t576 _ ?side1 ?side2 A17.out).mono ?_); (case side1=>exact HO568.out); (case side2=>exact HO571.out); rintro e w23 ⟨v574,v577,rfl,ho0,ho1,hb⟩; refine ⟨_,rfl,?_⟩; have HO575:=Aside0.mk (Kd.V_lower (Kd.V_mono (ok':=fun k_=>(w.heap.size ≤ k_) ∧ k_ ≠ gb552) ho0 (fun k_ hk_=>⟨Or.elim hk_ (fun hs_=>Or.elim hs_ (fun hs_=>hs_.1) (fun hs_=>hs_.1)) (fun hn_=>(Nat.le_trans (below_size bh_) hn_)),Or.elim hk_ (fun hs_=>Or.elim hs_ (fun hs_=>hs_.2) (fun hs_=>hs_.2)) (fun hn_=>(fb_ BK552 k_ hn_))⟩)) (below_size bh_)); have HO578:=Aside0.mk (Kd.V_lower (Kd.V_mono (ok':=fun k_=>(w.heap.size ≤ k_) ∧ k_ ≠ gb552) ho1 (fun k_ hk_=>⟨Or.elim hk_ (fun hs_=>Or.elim hs_ (fun hs_=>hs_.1) (fun hs_=>hs_.1)) (fun hn_=>(Nat.le_trans (below_size bh_) hn_)),Or.elim hk_ (fun hs_=>Or.elim hs_ (fun hs_=>hs_.2) (fun hs_=>hs_.2)) (fun hn_=>(fb_ BK552 k_ hn_))⟩)) (below_size bh_)); replace BK552:=kb_ BK552 hb; replace HB:=bq_ hb; skip; have hcz24_0 : w23.cell? ⟨gb552,0,none⟩ = some (.bool false):=bc_ BK552 0; have hcz24_1 : w23.cell? ⟨gb552,1,none⟩ = some (.slice none 0 0):=bc_ BK552 1; have hcz24_2 : w23.cell? ⟨gb552,2,none⟩ = some (.slice none 0 0):=bc_ BK552 2; have hfz24_0:=blk_frozen BK552.out 0; have hfz24_1:=blk_frozen BK552.out 1; have hfz24_2:=blk_frozen BK552.out 2; obtain ⟨Ao25,co25,eo25⟩:=Kd.V_slice HO575.out; subst eo25; obtain ⟨Ao26,co26,eo26⟩:=Kd.V_slice HO578.out; subst eo26))
  refine bodyPost_ret (results_cell_row rfl _ _ gb552 50 #[.bool t572,.slice Ao25 t573.length co25,.slice Ao26 t576.length co26] (0,0) _ rfl (by (with_reducible repeat (first | apply kn_ | apply kd_ | apply ka_)); refine blk_put (cs:=#[.bool t572,.slice Ao25 t573.length co25,.slice none 0 0]) ?_ 2 _ rfl; (with_reducible repeat (first | apply kn_ | apply kd_ | apply ka_)); refine blk_put (cs:=#[.bool t572,.slice none 0 0,.slice none 0 0]) ?_ 1 _ rfl; (with_reducible repeat (first | apply kn_ | apply kd_ | apply ka_)); refine blk_put (cs:=#[.bool false,.slice none 0 0,.slice none 0 0]) ?_ 0 _ rfl; (with_reducible repeat (first | apply kn_ | apply kd_ | apply ka_)); exact BK552.out) Try.underlying50 rfl (by kernel_rfl)) rfl ?_
  exact ⟨_,_,eh_,by (with_reducible repeat (first | apply va_ | apply vn_ | apply vd_)); exact Kd.V_mono (Kd.V_far (p:=⟨gb552,2,none⟩) (Kd.V_far (p:=⟨gb552,1,none⟩) (Kd.V_far (p:=⟨gb552,0,none⟩) (Kd.V_mono HO575.out (fun k_ hk=>(⟨hk,hk.2⟩ : _ ∧ k_ ≠ gb552))) (fun _ hk=>hk.2) (.bool t572)) (fun _ hk=>hk.2) (.slice Ao25 t573.length co25)) (fun _ hk=>hk.2) (.slice Ao26 t576.length co26)) (fun _ hk=>hk.1.1),by (with_reducible repeat (first | apply va_ | apply vn_ | apply vd_)); exact Kd.V_mono (Kd.V_far (p:=⟨gb552,2,none⟩) (Kd.V_far (p:=⟨gb552,1,none⟩) (Kd.V_far (p:=⟨gb552,0,none⟩) (Kd.V_mono HO578.out (fun k_ hk=>(⟨hk,hk.2⟩ : _ ∧ k_ ≠ gb552))) (fun _ hk=>hk.2) (.bool t572)) (fun _ hk=>hk.2) (.slice Ao25 t573.length co25)) (fun _ hk=>hk.2) (.slice Ao26 t576.length co26)) (fun _ hk=>hk.1.1),bh_⟩
 rw [if_pos c2] at H
 have c2b0 : decide (a0 < 0) = true:=decide_eq_true c2
 clear c2
 replace H:=Option.bind_eq_some_iff.mp H
 obtain ⟨t553,A30,H⟩:=H
 replace H : ((nat_New.f k 1).bind fun t556=>((ratio_low.f k true t553 t556).bind fun bt559=>(some (bt559.1,bt559.2.1,bt559.2.2)))) = some (r1,r2,r3):=H
 have A3:=Aside0.mk A30
 clear A30
 replace H:=Option.bind_eq_some_iff.mp H
 obtain ⟨t556,A40,H⟩:=H
 replace H : ((ratio_low.f k true t553 t556).bind fun bt559=>(some (bt559.1,bt559.2.1,bt559.2.2))) = some (r1,r2,r3):=H
 have A4:=Aside0.mk A40
 clear A40
 replace H:=Option.bind_eq_some_iff.mp H
 obtain ⟨⟨t559,t560,t563⟩,A50,H⟩:=H
 replace H : (some (t559,t560,t563)) = some (r1,r2,r3):=H
 have A5:=Aside0.mk A50
 clear A50
 simp only [Option.some.injEq,Prod.mk.injEq] at H
 obtain ⟨rfl,rfl,rfl⟩:=H
 go_enter Try.func44,Try.ntmps44
 go_wp2_with (first | ((with_reducible refine gate_dst (N:=2) rfl ?_); refine box_event ?hg (N:=2) ?hd (cs:=#[.bool false,.slice none 0 0,.slice none 0 0]) (t:=50) ?hr ?_; (case hd=>rfl); (case hg=>rfl); (case hr=>first | (go_simp; done) | (go_simp; rfl)); intro gb552 hg w6 hbox hb; have n0_:=bq_ hb; have n1_:=Aside0.mk (hbox); have n3_:=bz_ hg; clear HB; have HB:=n0_; have BK552:=n1_; have GE552:=n3_; clear n0_ n1_ n3_; clear hb hbox hg) | ((with_reducible refine gc_ 56 rfl ?_); refine gM_ (some 8) Try.func56 [.int .u64 (IntKind.u64.wrap (-(IntKind.u64.wrap (a0))))] ?_; (with_reducible refine (nat_New.calls k (IntKind.u64.wrap (-(IntKind.u64.wrap (a0)))) t553 _ A3.out).mono ?_); rintro e w7 ⟨v554,rfl,ho0,hb⟩; refine ⟨_,rfl,?_⟩; have HO555:=Aside0.mk (Kd.V_lower (Kd.V_mono (ok':=fun k_=>(w.heap.size ≤ k_) ∧ k_ ≠ gb552) ho0 (fun k_ hk_=>⟨(Nat.le_trans (below_size bh_) hk_),(fb_ BK552 k_ hk_)⟩)) (below_size bh_)); replace BK552:=kb_ BK552 hb; replace HB:=bq_ hb) | ((with_reducible refine gc_ 56 rfl ?_); refine gM_ (some 9) Try.func56 [.int .u64 1] ?_; (with_reducible refine (nat_New.calls k 1 t556 _ A4.out).mono ?_); rintro e w8 ⟨v557,rfl,ho0,hb⟩; refine ⟨_,rfl,?_⟩; replace HO555:=vb_ HO555 hb; have HO558:=Aside0.mk (Kd.V_lower (Kd.V_mono (ok':=fun k_=>(w.heap.size ≤ k_) ∧ k_ ≠ gb552) ho0 (fun k_ hk_=>⟨(Nat.le_trans (below_size bh_) hk_),(fb_ BK552 k_ hk_)⟩)) (below_size bh_)); replace BK552:=kb_ BK552 hb; replace HB:=bq_ hb; skip; obtain ⟨Ao9,co9,eo9⟩:=Kd.V_slice HO555.out; subst eo9; obtain ⟨Ao10,co10,eo10⟩:=Kd.V_slice HO558.out; subst eo10) | ((with_reducible refine gc_ 73 rfl ?_); refine gM_ (some 10) Try.func73 [.bool true,.slice Ao9 t553.length co9,.slice Ao10 t556.length co10] ?_; (with_reducible refine (ratio_low.calls k true (fun k_=>((w.heap.size ≤ k_) ∧ k_ ≠ gb552)) _ _ t553 (fun k_=>((w.heap.size ≤ k_) ∧ k_ ≠ gb552)) _ _ t556 t559 t560 t563 _ ?side1 ?side2 A5.out).mono ?_); (case side1=>exact HO555.out); (case side2=>exact HO558.out); rintro e w11 ⟨v561,v564,rfl,ho0,ho1,hb⟩; refine ⟨_,rfl,?_⟩; have HO562:=Aside0.mk (Kd.V_lower (Kd.V_mono (ok':=fun k_=>(w.heap.size ≤ k_) ∧ k_ ≠ gb552) ho0 (fun k_ hk_=>⟨Or.elim hk_ (fun hs_=>Or.elim hs_ (fun hs_=>hs_.1) (fun hs_=>hs_.1)) (fun hn_=>(Nat.le_trans (below_size bh_) hn_)),Or.elim hk_ (fun hs_=>Or.elim hs_ (fun hs_=>hs_.2) (fun hs_=>hs_.2)) (fun hn_=>(fb_ BK552 k_ hn_))⟩)) (below_size bh_)); have HO565:=Aside0.mk (Kd.V_lower (Kd.V_mono (ok':=fun k_=>(w.heap.size ≤ k_) ∧ k_ ≠ gb552) ho1 (fun k_ hk_=>⟨Or.elim hk_ (fun hs_=>Or.elim hs_ (fun hs_=>hs_.1) (fun hs_=>hs_.1)) (fun hn_=>(Nat.le_trans (below_size bh_) hn_)),Or.elim hk_ (fun hs_=>Or.elim hs_ (fun hs_=>hs_.2) (fun hs_=>hs_.2)) (fun hn_=>(fb_ BK552 k_ hn_))⟩)) (below_size bh_)); replace BK552:=kb_ BK552 hb; replace HB:=bq_ hb; skip; have hcz12_0 : w11.cell? ⟨gb552,0,none⟩ = some (.bool false):=bc_ BK552 0; have hcz12_1 : w11.cell? ⟨gb552,1,none⟩ = some (.slice none 0 0):=bc_ BK552 1; have hcz12_2 : w11.cell? ⟨gb552,2,none⟩ = some (.slice none 0 0):=bc_ BK552 2; have hfz12_0:=blk_frozen BK552.out 0; have hfz12_1:=blk_frozen BK552.out 1; have hfz12_2:=blk_frozen BK552.out 2; obtain ⟨Ao13,co13,eo13⟩:=Kd.V_slice HO562.out; subst eo13; obtain ⟨Ao14,co14,eo14⟩:=Kd.V_slice HO565.out; subst eo14))
 refine bodyPost_ret (results_cell_row rfl _ _ gb552 50 #[.bool t559,.slice Ao13 t560.length co13,.slice Ao14 t563.length co14] (0,0) _ rfl (by (with_reducible repeat (first | apply kn_ | apply kd_ | apply ka_)); refine blk_put (cs:=#[.bool t559,.slice Ao13 t560.length co13,.slice none 0 0]) ?_ 2 _ rfl; (with_reducible repeat (first | apply kn_ | apply kd_ | apply ka_)); refine blk_put (cs:=#[.bool t559,.slice none 0 0,.slice none 0 0]) ?_ 1 _ rfl; (with_reducible repeat (first | apply kn_ | apply kd_ | apply ka_)); refine blk_put (cs:=#[.bool false,.slice none 0 0,.slice none 0 0]) ?_ 0 _ rfl; (with_reducible repeat (first | apply kn_ | apply kd_ | apply ka_)); exact BK552.out) Try.underlying50 rfl (by kernel_rfl)) rfl ?_
 exact ⟨_,_,eh_,by (with_reducible repeat (first | apply va_ | apply vn_ | apply vd_)); exact Kd.V_mono (Kd.V_far (p:=⟨gb552,2,none⟩) (Kd.V_far (p:=⟨gb552,1,none⟩) (Kd.V_far (p:=⟨gb552,0,none⟩) (Kd.V_mono HO562.out (fun k_ hk=>(⟨hk,hk.2⟩ : _ ∧ k_ ≠ gb552))) (fun _ hk=>hk.2) (.bool t559)) (fun _ hk=>hk.2) (.slice Ao13 t560.length co13)) (fun _ hk=>hk.2) (.slice Ao14 t563.length co14)) (fun _ hk=>hk.1.1),by (with_reducible repeat (first | apply va_ | apply vn_ | apply vd_)); exact Kd.V_mono (Kd.V_far (p:=⟨gb552,2,none⟩) (Kd.V_far (p:=⟨gb552,1,none⟩) (Kd.V_far (p:=⟨gb552,0,none⟩) (Kd.V_mono HO565.out (fun k_ hk=>(⟨hk,hk.2⟩ : _ ∧ k_ ≠ gb552))) (fun _ hk=>hk.2) (.bool t559)) (fun _ hk=>hk.2) (.slice Ao13 t560.length co13)) (fun _ hk=>hk.2) (.slice Ao14 t563.length co14)) (fun _ hk=>hk.1.1),bh_⟩

end Go.Proofs.Ytfglpaaeipblcaa.P
