/- Walks of one package: what each function returns, wherever the Lean function beside it has an answer. -/
import Derived.Test.YtfglpaaeipblcaaP0
import Derived.Test.YtfglpaaeipblcaaPBits1
import Derived.Test.YtfglpaaeipblcaaPNat1
import Derived.Test.YtfglpaaeipblcaaPSlices1
namespace Go.Proofs.Ytfglpaaeipblcaa.P
open Go.RowKit Go.Proofs.YtfglpaaeipblcaaW.PrintWords Go.Proofs.YtfglpaaeipblcaaW.PrintLast Go.Proofs.YtfglpaaeipblcaaW.PrintMore
attribute [local go_sem] max2_int min2_int max_two min_two max_three min_three max_four min_four   -- for this text's walks alone
set_option linter.unusedVariables false
set_option linter.unusedSimpArgs false

-- GIVENTEXT
/-! ### nat_Nat_Div: function 69 -/
def nat_Nat_Div.l0 : Nat → Int → List Int → List Int → List Int → Int → Option (List Int × List Int × Int)
 | 0,_,_,_,_,_=>none
 | k + 1,x9,x10,x11,x12,x13=>if x13 ≥ 0 then (if x13.toNat + (x11.length + 1) ≤ x10.length then ((nat_step.f k ((x10.drop x13.toNat).take (x11.length + 1)) x11).bind fun bt310=>(if 0 ≤ x13 then (if x13 < (x12.length : Int) then (nat_Nat_Div.l0 k x9 (x10.take x13.toNat ++ bt310.2 ++ x10.drop (x13.toNat + (x11.length + 1))) x11 (x12.set (x13 : Int).toNat bt310.1) (wrap64 (x13 - 1))) else (none)) else (none))) else (none)) else ((nat_trim.f k x12).bind fun t313=>((nat_Nat_Shr.f k x10 x9).bind fun t316=>(some (t313,t316,0))))
def nat_Nat_Div.f (k : Nat) (l0 : List Int) (l1 : List Int) : Option (List Int × List Int × Int):=(nat_trim.f k l0).bind fun t282=>((nat_trim.f k l1).bind fun t285=>(if (t285.length : Int) = 0 then (some (([] : List Int),([] : List Int),21)) else ((nat_Nat_Cmp.f k t282 t285).bind fun t288=>(if t288 < 0 then ((nat_Nat_uint32_96.f t282).bind fun t289=>(some (([] : List Int),t289,0))) else (if (t285.length : Int) = 1 then (if 0 < (t285.length : Int) then ((nat_Nat_short.f k t282 (rd t285 0)).bind fun bt293=>(some (bt293.1,bt293.2,0))) else (none)) else (if 0 ≤ (wrap64 ((t285.length : Int) - 1)) then (if (wrap64 ((t285.length : Int) - 1)) < (t285.length : Int) then ((bits_LeadingZeros32.f (rd t285 (wrap64 ((t285.length : Int) - 1)))).bind fun t300=>((nat_shifted.f k t282 t300 (wrap64 ((t282.length : Int) + 1))).bind fun t301=>((nat_shifted.f k t285 t300 (t285.length : Int)).bind fun t304=>(if 0 ≤ (wrap64 ((wrap64 ((t282.length : Int) - (t285.length : Int))) + 1)) then (if (wrap64 ((wrap64 ((t282.length : Int) - (t285.length : Int))) + 1) : Int).toNat ≤ 70368744177664 then ((some (List.replicate (wrap64 ((wrap64 ((t282.length : Int) - (t285.length : Int))) + 1) : Int).toNat 0 : List Int)).bind fun y307=>(nat_Nat_Div.l0 k t300 t301 t304 y307 (wrap64 ((y307.length : Int) - 1)))) else (none)) else (none))))) else (none)) else (none)))))))
theorem nat_Nat_Div.mono_l : ∀ k,(∀ y0 y1 y2 y3 y4,LeO (nat_Nat_Div.l0 k y0 y1 y2 y3 y4) (nat_Nat_Div.l0 (k + 1) y0 y1 y2 y3 y4))
 | 0=>fun _ _ _ _ _ r h=>by simp [nat_Nat_Div.l0] at h
 | k + 1=>by
  have ih0:=nat_Nat_Div.mono_l k
  ·
   intro y0 y1 y2 y3 y4
   unfold nat_Nat_Div.l0
   repeat' with_reducible first | exact ih0 _ _ _ _ _ | exact nat_Nat_Cmp.mono _ _ _ | exact nat_Nat_Shr.mono _ _ _ | exact nat_Nat_short.mono _ _ _ | exact nat_shifted.mono _ _ _ _ | exact nat_step.mono _ _ _ | exact nat_trim.mono _ _ | exact LeO.refl _ | exact LeO.none _ | refine LeO.ite ?_ ?_ | refine LeO.bind ?_ (fun _=>?_)
theorem nat_Nat_Div.mono : ∀ a0 a1 k,LeO (nat_Nat_Div.f k a0 a1) (nat_Nat_Div.f (k + 1) a0 a1):=by
 intro a0 a1 k
 have ih0:=nat_Nat_Div.mono_l k
 unfold nat_Nat_Div.f
 repeat' with_reducible first | exact ih0 _ _ _ _ _ | exact nat_Nat_Cmp.mono _ _ _ | exact nat_Nat_Shr.mono _ _ _ | exact nat_Nat_short.mono _ _ _ | exact nat_shifted.mono _ _ _ _ | exact nat_step.mono _ _ _ | exact nat_trim.mono _ _ | exact LeO.refl _ | exact LeO.none _ | refine LeO.ite ?_ ?_ | refine LeO.bind ?_ (fun _=>?_)
set_option maxHeartbeats 8000000 in
set_option maxRecDepth 100000 in
theorem nat_Nat_Div.calls (k : Nat) (P0_ : Nat → Prop) (A0 : Option Addr) (c0 : Nat) (l0 : List Int) (P1_ : Nat → Prop) (A1 : Option Addr) (c1 : Nat) (l1 : List Int) (r1 : List Int) (r2 : List Int) (r3 : Int) (w : World) (hs0 : Kd.V (Kd.int .u32) 123 w w.heap.size (fun k_=>P0_ k_) (.slice A0 l0.length c0) l0) (hs1 : Kd.V (Kd.int .u32) 123 w w.heap.size (fun k_=>P1_ k_) (.slice A1 l1.length c1) l1) (h : nat_Nat_Div.f k l0 l1 = some (r1,r2,r3)) :
  Calls Try.prog 69 #[.slice A0 l0.length c0,.slice A1 l1.length c1] w fun e w'=>∃ v0_ v1_ : Value,e = .returned (.tuple #[v0_,v1_,.int .i64 r3]) ∧ Kd.V (Kd.int .u32) 123 w' w.heap.size (fun k_=>((P0_ k_ ∨ P1_ k_) ∨ w.heap.size ≤ k_)) v0_ r1 ∧ Kd.V (Kd.int .u32) 123 w' w.heap.size (fun k_=>((P0_ k_ ∨ P1_ k_) ∨ w.heap.size ≤ k_)) v1_ r2 ∧ Below w.heap.size w w':=by
 have HO0:=Aside0.mk (show Kd.V (Kd.int .u32) 123 w w.heap.size (fun k_=>((P0_ k_ ∨ P1_ k_) ∨ w.heap.size ≤ k_)) (.slice A0 l0.length c0) l0 from Kd.V_mono hs0 (fun k_ hk=>.inl (.inl hk)))
 have HO1:=Aside0.mk (show Kd.V (Kd.int .u32) 123 w w.heap.size (fun k_=>((P0_ k_ ∨ P1_ k_) ∨ w.heap.size ≤ k_)) (.slice A1 l1.length c1) l1 from Kd.V_mono hs1 (fun k_ hk=>.inl (.inr hk)))
 have HB:=Aside0.mk (Below.refl w.heap.size w)
 have H : ((nat_trim.f k l0).bind fun t282=>((nat_trim.f k l1).bind fun t285=>(if (t285.length : Int) = 0 then (some (([] : List Int),([] : List Int),21)) else ((nat_Nat_Cmp.f k t282 t285).bind fun t288=>(if t288 < 0 then ((nat_Nat_uint32_96.f t282).bind fun t289=>(some (([] : List Int),t289,0))) else (if (t285.length : Int) = 1 then (if 0 < (t285.length : Int) then ((nat_Nat_short.f k t282 (rd t285 0)).bind fun bt293=>(some (bt293.1,bt293.2,0))) else (none)) else (if 0 ≤ (wrap64 ((t285.length : Int) - 1)) then (if (wrap64 ((t285.length : Int) - 1)) < (t285.length : Int) then ((bits_LeadingZeros32.f (rd t285 (wrap64 ((t285.length : Int) - 1)))).bind fun t300=>((nat_shifted.f k t282 t300 (wrap64 ((t282.length : Int) + 1))).bind fun t301=>((nat_shifted.f k t285 t300 (t285.length : Int)).bind fun t304=>(if 0 ≤ (wrap64 ((wrap64 ((t282.length : Int) - (t285.length : Int))) + 1)) then (if (wrap64 ((wrap64 ((t282.length : Int) - (t285.length : Int))) + 1) : Int).toNat ≤ 70368744177664 then ((some (List.replicate (wrap64 ((wrap64 ((t282.length : Int) - (t285.length : Int))) + 1) : Int).toNat 0 : List Int)).bind fun y307=>(nat_Nat_Div.l0 k t300 t301 t304 y307 (wrap64 ((y307.length : Int) - 1)))) else (none)) else (none))))) else (none)) else (none)))))))) = some (r1,r2,r3):=h
 clear h
 replace H:=Option.bind_eq_some_iff.mp H
 obtain ⟨t282,A30,H⟩:=H
 replace H : ((nat_trim.f k l1).bind fun t285=>(if (t285.length : Int) = 0 then (some (([] : List Int),([] : List Int),21)) else ((nat_Nat_Cmp.f k t282 t285).bind fun t288=>(if t288 < 0 then ((nat_Nat_uint32_96.f t282).bind fun t289=>(some (([] : List Int),t289,0))) else (if (t285.length : Int) = 1 then (if 0 < (t285.length : Int) then ((nat_Nat_short.f k t282 (rd t285 0)).bind fun bt293=>(some (bt293.1,bt293.2,0))) else (none)) else (if 0 ≤ (wrap64 ((t285.length : Int) - 1)) then (if (wrap64 ((t285.length : Int) - 1)) < (t285.length : Int) then ((bits_LeadingZeros32.f (rd t285 (wrap64 ((t285.length : Int) - 1)))).bind fun t300=>((nat_shifted.f k t282 t300 (wrap64 ((t282.length : Int) + 1))).bind fun t301=>((nat_shifted.f k t285 t300 (t285.length : Int)).bind fun t304=>(if 0 ≤ (wrap64 ((wrap64 ((t282.length : Int) - (t285.length : Int))) + 1)) then (if (wrap64 ((wrap64 ((t282.length : Int) - (t285.length : Int))) + 1) : Int).toNat ≤ 70368744177664 then ((some (List.replicate (wrap64 ((wrap64 ((t282.length : Int) - (t285.length : Int))) + 1) : Int).toNat 0 : List Int)).bind fun y307=>(nat_Nat_Div.l0 k t300 t301 t304 y307 (wrap64 ((y307.length : Int) - 1)))) else (none)) else (none))))) else (none)) else (none))))))) = some (r1,r2,r3):=H
 have A3:=Aside0.mk A30
 clear A30
 replace H:=Option.bind_eq_some_iff.mp H
 obtain ⟨t285,A40,H⟩:=H
 replace H : (if (t285.length : Int) = 0 then (some (([] : List Int),([] : List Int),21)) else ((nat_Nat_Cmp.f k t282 t285).bind fun t288=>(if t288 < 0 then ((nat_Nat_uint32_96.f t282).bind fun t289=>(some (([] : List Int),t289,0))) else (if (t285.length : Int) = 1 then (if 0 < (t285.length : Int) then ((nat_Nat_short.f k t282 (rd t285 0)).bind fun bt293=>(some (bt293.1,bt293.2,0))) else (none)) else (if 0 ≤ (wrap64 ((t285.length : Int) - 1)) then (if (wrap64 ((t285.length : Int) - 1)) < (t285.length : Int) then ((bits_LeadingZeros32.f (rd t285 (wrap64 ((t285.length : Int) - 1)))).bind fun t300=>((nat_shifted.f k t282 t300 (wrap64 ((t282.length : Int) + 1))).bind fun t301=>((nat_shifted.f k t285 t300 (t285.length : Int)).bind fun t304=>(if 0 ≤ (wrap64 ((wrap64 ((t282.length : Int) - (t285.length : Int))) + 1)) then (if (wrap64 ((wrap64 ((t282.length : Int) - (t285.length : Int))) + 1) : Int).toNat ≤ 70368744177664 then ((some (List.replicate (wrap64 ((wrap64 ((t282.length : Int) - (t285.length : Int))) + 1) : Int).toNat 0 : List Int)).bind fun y307=>(nat_Nat_Div.l0 k t300 t301 t304 y307 (wrap64 ((y307.length : Int) - 1)))) else (none)) else (none))))) else (none)) else (none)))))) = some (r1,r2,r3):=H
 have A4:=Aside0.mk A40
 clear A40
 by_cases c5 : (t285.length : Int) = 0
 case pos =>
  rw [if_pos c5] at H
  have c5b0 : ((t285.length : Int) == 0) = true:=beq_iff_eq.mpr c5
  have c5b1 : ((t285.length : Int) != 0) = false:=bne_eq_false_iff_eq.mpr c5
  clear c5
  simp only [Option.some.injEq,Prod.mk.injEq] at H
  obtain ⟨rfl,rfl,rfl⟩:=H
  go_enter Try.func69,Try.ntmps69
  go_wp2_with (first | ((with_reducible refine gc_ 85 rfl ?_); refine gM_ (some 15) Try.func85 [.slice A0 l0.length c0] ?_; (with_reducible refine (nat_trim.calls k (fun k_=>((P0_ k_ ∨ P1_ k_) ∨ w.heap.size ≤ k_)) _ _ l0 t282 _ ?side1 A3.out).mono ?_); (case side1=>exact HO0.out); rintro e w6 ⟨v283,rfl,ho0,hb⟩; refine ⟨_,rfl,?_⟩; replace HO1:=vb_ HO1 hb; replace HB:=bq_ hb) | ((with_reducible refine gc_ 85 rfl ?_); refine gM_ (some 17) Try.func85 [.slice A1 l1.length c1] ?_; (with_reducible refine (nat_trim.calls k (fun k_=>((P0_ k_ ∨ P1_ k_) ∨ w.heap.size ≤ k_)) _ _ l1 t285 _ ?side1 A4.out).mono ?_); (case side1=>exact HO1.out); rintro e w7 ⟨v286,rfl,ho0,hb⟩; refine ⟨_,rfl,?_⟩; have HO287:=Aside0.mk (Kd.V_lower (Kd.V_mono (ok':=fun k_=>((P0_ k_ ∨ P1_ k_) ∨ w.heap.size ≤ k_)) ho0 (fun k_ hk_=>Or.elim hk_ (fun hs_=>hs_) (fun hn_=>(.inr (Nat.le_trans (below_size bh_) hn_))))) (below_size bh_)); replace HB:=bq_ hb; skip; obtain ⟨Ao8,co8,eo8⟩:=Kd.V_slice HO287.out; subst eo8))
  go_ret3
  exact ⟨.slice none 0 0,.slice none 0 0,eh_,Kd.R_V (base:=0) (Kd.R_nil _ _ _ _ _),Kd.R_V (base:=0) (Kd.R_nil _ _ _ _ _),bh_⟩
 rw [if_neg c5] at H
 have c5b0 : ((t285.length : Int) == 0) = false:=beq_eq_false_iff_ne.mpr c5
 have c5b1 : ((t285.length : Int) != 0) = true:=bne_iff_ne.mpr c5
 have c5b2 : ¬ (t285 = []):=fun h_=>c5 (by rw [h_]; rfl)
 replace H:=Option.bind_eq_some_iff.mp H
 obtain ⟨t288,A90,H⟩:=H
 replace H : (if t288 < 0 then ((nat_Nat_uint32_96.f t282).bind fun t289=>(some (([] : List Int),t289,0))) else (if (t285.length : Int) = 1 then (if 0 < (t285.length : Int) then ((nat_Nat_short.f k t282 (rd t285 0)).bind fun bt293=>(some (bt293.1,bt293.2,0))) else (none)) else (if 0 ≤ (wrap64 ((t285.length : Int) - 1)) then (if (wrap64 ((t285.length : Int) - 1)) < (t285.length : Int) then ((bits_LeadingZeros32.f (rd t285 (wrap64 ((t285.length : Int) - 1)))).bind fun t300=>((nat_shifted.f k t282 t300 (wrap64 ((t282.length : Int) + 1))).bind fun t301=>((nat_shifted.f k t285 t300 (t285.length : Int)).bind fun t304=>(if 0 ≤ (wrap64 ((wrap64 ((t282.length : Int) - (t285.length : Int))) + 1)) then (if (wrap64 ((wrap64 ((t282.length : Int) - (t285.length : Int))) + 1) : Int).toNat ≤ 70368744177664 then ((some (List.replicate (wrap64 ((wrap64 ((t282.length : Int) - (t285.length : Int))) + 1) : Int).toNat 0 : List Int)).bind fun y307=>(nat_Nat_Div.l0 k t300 t301 t304 y307 (wrap64 ((y307.length : Int) - 1)))) else (none)) else (none))))) else (none)) else (none)))) = some (r1,r2,r3):=H
 have A9:=Aside0.mk A90
 clear A90
 by_cases c10 : t288 < 0
 case pos =>
  rw [if_pos c10] at H
  have c10b0 : decide (t288 < 0) = true:=decide_eq_true c10
  clear c10
  replace H:=Option.bind_eq_some_iff.mp H
  obtain ⟨t289,A110,H⟩:=H
  replace H : (some (([] : List Int),t289,0)) = some (r1,r2,r3):=H
  have A11:=Aside0.mk A110
  clear A110
  simp only [Option.some.injEq,Prod.mk.injEq] at H
  obtain ⟨rfl,rfl,rfl⟩:=H
  go_enter Try.func69,Try.ntmps69
  go_wp2_with (first | ((with_reducible refine gc_ 85 rfl ?_); refine gM_ (some 15) Try.func85 [.slice A0 l0.length c0] ?_; (with_reducible refine (nat_trim.calls k (fun k_=>((P0_ k_ ∨ P1_ k_) ∨ w.heap.size ≤ k_)) _ _ l0 t282 _ ?side1 A3.out).mono ?_); (case side1=>exact HO0.out); rintro e w12 ⟨v283,rfl,ho0,hb⟩; refine ⟨_,rfl,?_⟩; replace HO1:=vb_ HO1 hb; have HO284:=Aside0.mk (Kd.V_lower (Kd.V_mono (ok':=fun k_=>((P0_ k_ ∨ P1_ k_) ∨ w.heap.size ≤ k_)) ho0 (fun k_ hk_=>Or.elim hk_ (fun hs_=>hs_) (fun hn_=>(.inr (Nat.le_trans (below_size bh_) hn_))))) (below_size bh_)); replace HB:=bq_ hb) | ((with_reducible refine gc_ 85 rfl ?_); refine gM_ (some 17) Try.func85 [.slice A1 l1.length c1] ?_; (with_reducible refine (nat_trim.calls k (fun k_=>((P0_ k_ ∨ P1_ k_) ∨ w.heap.size ≤ k_)) _ _ l1 t285 _ ?side1 A4.out).mono ?_); (case side1=>exact HO1.out); rintro e w13 ⟨v286,rfl,ho0,hb⟩; refine ⟨_,rfl,?_⟩; replace HO284:=vb_ HO284 hb; have HO287:=Aside0.mk (Kd.V_lower (Kd.V_mono (ok':=fun k_=>((P0_ k_ ∨ P1_ k_) ∨ w.heap.size ≤ k_)) ho0 (fun k_ hk_=>Or.elim hk_ (fun hs_=>hs_) (fun hn_=>(.inr (Nat.le_trans (below_size bh_) hn_))))) (below_size bh_)); replace HB:=bq_ hb; skip; obtain ⟨Ao14,co14,eo14⟩:=Kd.V_slice HO287.out; subst eo14; obtain ⟨Ao15,co15,eo15⟩:=Kd.V_slice HO284.out; subst eo15) | ((with_reducible refine gc_ 75 rfl ?_); refine gM_ (some 25) Try.func75 [.slice Ao15 t282.length co15,.slice Ao14 t285.length co14] ?_; (with_reducible refine (nat_Nat_Cmp.calls k _ _ t282 _ _ t285 t288 _ ?side1 ?side2 ?side3 ?side4 A9.out).mono ?_); (case side1=>repeat first | exact (Kd.V_reads' HO284.out).2.2 | with_reducible first | apply ca_ | apply cn_ | apply cd_); (case side2=>exact (Kd.V_reads' HO284.out).2.1); (case side3=>repeat first | exact (Kd.V_reads' HO287.out).2.2 | with_reducible first | apply ca_ | apply cn_ | apply cd_); (case side4=>exact (Kd.V_reads' HO287.out).2.1); rintro e w' ⟨rfl,⟨nd,rfl⟩⟩; refine ⟨_,rfl,?_⟩) | ((with_reducible refine gc_ 96 rfl ?_); refine gM_ (some 28) Try.func96 [.slice Ao15 t282.length co15] ?_; (with_reducible refine (nat_Nat_uint32_96.calls _ _ t282 t289 _ ?side1 ?side2 A11.out).mono ?_); (case side1=>repeat first | exact (Kd.V_reads' HO284.out).2.2 | with_reducible first | apply ca_ | apply cn_ | apply cd_); (case side2=>exact (Kd.V_reads' HO284.out).2.1); rintro e w16 ⟨v290,rfl,ho0,hb⟩; refine ⟨_,rfl,?_⟩; have HO291:=Aside0.mk (Kd.V_lower (Kd.V_mono (ok':=fun k_=>((P0_ k_ ∨ P1_ k_) ∨ w.heap.size ≤ k_)) ho0 (fun k_ hk_=>(.inr (Nat.le_trans (below_size bh_) hk_)))) (below_size bh_)); replace HB:=bq_ hb))
  go_ret3
  exact ⟨.slice none 0 0,_,eh_,Kd.R_V (base:=0) (Kd.R_nil _ _ _ _ _),by (with_reducible repeat (first | apply va_ | apply vn_ | apply vd_)); exact HO291.out,bh_⟩
 rw [if_neg c10] at H
 have c10b0 : decide (t288 < 0) = false:=decide_eq_false c10
 clear c10
 by_cases c17 : (t285.length : Int) = 1
 case pos =>
  rw [if_pos c17] at H
  have c17b0 : ((t285.length : Int) == 1) = true:=beq_iff_eq.mpr c17
  have c17b1 : ((t285.length : Int) != 1) = false:=bne_eq_false_iff_eq.mpr c17
  clear c17
  by_cases c18 : 0 < (t285.length : Int)
  case neg =>
   rw [if_neg c18] at H
   exact absurd H (by simp)
  rw [if_pos c18] at H
  have c18b0 : decide (0 < (t285.length : Int)) = true:=decide_eq_true c18
  have c18b1 : decide (0 < t285.length) = true:=decide_eq_true (by omega)
  clear c18
  replace H:=Option.bind_eq_some_iff.mp H
  obtain ⟨⟨t293,t296⟩,A190,H⟩:=H
  replace H : (some (t293,t296,0)) = some (r1,r2,r3):=H
  have A19:=Aside0.mk A190
  clear A190
  simp only [Option.some.injEq,Prod.mk.injEq] at H
  obtain ⟨rfl,rfl,rfl⟩:=H
  go_enter Try.func69,Try.ntmps69
  go_wp2_with (first | ((with_reducible refine gc_ 85 rfl ?_); refine gM_ (some 15) Try.func85 [.slice A0 l0.length c0] ?_; (with_reducible refine (nat_trim.calls k (fun k_=>((P0_ k_ ∨ P1_ k_) ∨ w.heap.size ≤ k_)) _ _ l0 t282 _ ?side1 A3.out).mono ?_); (case side1=>exact HO0.out); rintro e w20 ⟨v283,rfl,ho0,hb⟩; refine ⟨_,rfl,?_⟩; replace HO1:=vb_ HO1 hb; have HO284:=Aside0.mk (Kd.V_lower (Kd.V_mono (ok':=fun k_=>((P0_ k_ ∨ P1_ k_) ∨ w.heap.size ≤ k_)) ho0 (fun k_ hk_=>Or.elim hk_ (fun hs_=>hs_) (fun hn_=>(.inr (Nat.le_trans (below_size bh_) hn_))))) (below_size bh_)); replace HB:=bq_ hb) | ((with_reducible refine gc_ 85 rfl ?_); refine gM_ (some 17) Try.func85 [.slice A1 l1.length c1] ?_; (with_reducible refine (nat_trim.calls k (fun k_=>((P0_ k_ ∨ P1_ k_) ∨ w.heap.size ≤ k_)) _ _ l1 t285 _ ?side1 A4.out).mono ?_); (case side1=>exact HO1.out); rintro e w21 ⟨v286,rfl,ho0,hb⟩; refine ⟨_,rfl,?_⟩; replace HO284:=vb_ HO284 hb; have HO287:=Aside0.mk (Kd.V_lower (Kd.V_mono (ok':=fun k_=>((P0_ k_ ∨ P1_ k_) ∨ w.heap.size ≤ k_)) ho0 (fun k_ hk_=>Or.elim hk_ (fun hs_=>hs_) (fun hn_=>(.inr (Nat.le_trans (below_size bh_) hn_))))) (below_size bh_)); replace HB:=bq_ hb; skip; obtain ⟨Ao22,co22,eo22⟩:=Kd.V_slice HO287.out; subst eo22; obtain ⟨Ao23,co23,eo23⟩:=Kd.V_slice HO284.out; subst eo23) | ((with_reducible refine gc_ 75 rfl ?_); refine gM_ (some 25) Try.func75 [.slice Ao23 t282.length co23,.slice Ao22 t285.length co22] ?_; (with_reducible refine (nat_Nat_Cmp.calls k _ _ t282 _ _ t285 t288 _ ?side1 ?side2 ?side3 ?side4 A9.out).mono ?_); (case side1=>repeat first | exact (Kd.V_reads' HO284.out).2.2 | with_reducible first | apply ca_ | apply cn_ | apply cd_); (case side2=>exact (Kd.V_reads' HO284.out).2.1); (case side3=>repeat first | exact (Kd.V_reads' HO287.out).2.2 | with_reducible first | apply ca_ | apply cn_ | apply cd_); (case side4=>exact (Kd.V_reads' HO287.out).2.1); rintro e w' ⟨rfl,⟨nd,rfl⟩⟩; refine ⟨_,rfl,?_⟩; have p292 : 0 ≤ (0 : Int):=(by omega); have q292 : 0 < (t285.length : Int):=of_decide_eq_true (by first | (with_reducible assumption) | assumption); obtain ⟨ad292,e292,hx292_0⟩:=Kd.at_int (Kd.V_reads' HO287.out).2.2 0 p292 q292; cases e292; have qi292 : (0 < t285.length) = True:=eq_true (by omega); (try rw [show ((0 : Int)).toNat = 0 from rfl] at hx292_0); (try rw [Addr.add_zero'] at hx292_0); replace p292:=eq_true p292; replace q292:=eq_true q292) | ((with_reducible refine gc_ 97 rfl ?_); refine gM_ (some 38) Try.func97 [.slice Ao23 t282.length co23,.int .u32 (rd t285 0)] ?_; (with_reducible refine (nat_Nat_short.calls k _ _ t282 (rd t285 0) t293 t296 _ ?side1 ?side2 A19.out).mono ?_); (case side1=>repeat first | exact (Kd.V_reads' HO284.out).2.2 | with_reducible first | apply ca_ | apply cn_ | apply cd_); (case side2=>exact (Kd.V_reads' HO284.out).2.1); rintro e w24 ⟨v294,v297,rfl,ho0,ho1,hb⟩; refine ⟨_,rfl,?_⟩; have HO295:=Aside0.mk (Kd.V_lower (Kd.V_mono (ok':=fun k_=>((P0_ k_ ∨ P1_ k_) ∨ w.heap.size ≤ k_)) ho0 (fun k_ hk_=>(.inr (Nat.le_trans (below_size bh_) hk_)))) (below_size bh_)); have HO298:=Aside0.mk (Kd.V_lower (Kd.V_mono (ok':=fun k_=>((P0_ k_ ∨ P1_ k_) ∨ w.heap.size ≤ k_)) ho1 (fun k_ hk_=>(.inr (Nat.le_trans (below_size bh_) hk_)))) (below_size bh_)); replace HB:=bq_ hb))
  go_ret3
  exact ⟨_,_,eh_,by (with_reducible repeat (first | apply va_ | apply vn_ | apply vd_)); exact HO295.out,by (with_reducible repeat (first | apply va_ | apply vn_ | apply vd_)); exact HO298.out,bh_⟩
 rw [if_neg c17] at H
 have c17b0 : ((t285.length : Int) == 1) = false:=beq_eq_false_iff_ne.mpr c17
 have c17b1 : ((t285.length : Int) != 1) = true:=bne_iff_ne.mpr c17
 obtain ⟨ji25,hji25⟩ : ∃ j_ : Int,(wrap64 ((t285.length : Int) - 1)) = j_:=⟨_,rfl⟩
 replace H : (if 0 ≤ (ji25) then (if (ji25) < (t285.length : Int) then ((bits_LeadingZeros32.f (rd t285 (ji25))).bind fun t300=>((nat_shifted.f k t282 t300 (wrap64 ((t282.length : Int) + 1))).bind fun t301=>((nat_shifted.f k t285 t300 (t285.length : Int)).bind fun t304=>(if 0 ≤ (wrap64 ((wrap64 ((t282.length : Int) - (t285.length : Int))) + 1)) then (if (wrap64 ((wrap64 ((t282.length : Int) - (t285.length : Int))) + 1) : Int).toNat ≤ 70368744177664 then ((some (List.replicate (wrap64 ((wrap64 ((t282.length : Int) - (t285.length : Int))) + 1) : Int).toNat 0 : List Int)).bind fun y307=>(nat_Nat_Div.l0 k t300 t301 t304 y307 (wrap64 ((y307.length : Int) - 1)))) else (none)) else (none))))) else (none)) else (none)) = some (r1,r2,r3):=by first | (rw [hji25] at H; exact H) | (simp only [hji25] at H ⊢; exact H)
 (try rw [hji25] at A3)
 (try rw [hji25] at A4)
 (try rw [hji25] at A9)
 have hji25w : (IntKind.i64.wrap ((t285.length : Int) - 1)) = ji25:=(i64_w _).trans hji25
 by_cases c26 : 0 ≤ (ji25)
 case neg =>
  rw [if_neg c26] at H
  exact absurd H (by simp)
 rw [if_pos c26] at H
 have c26b0 : decide (0 ≤ (ji25)) = true:=decide_eq_true c26
 clear c26
 by_cases c27 : (ji25) < (t285.length : Int)
 case neg =>
  rw [if_neg c27] at H
  exact absurd H (by simp)
 rw [if_pos c27] at H
 have c27b0 : decide ((ji25) < (t285.length : Int)) = true:=decide_eq_true c27
 clear c27
 replace H:=Option.bind_eq_some_iff.mp H
 obtain ⟨t300,A280,H⟩:=H
 replace H : ((nat_shifted.f k t282 t300 (wrap64 ((t282.length : Int) + 1))).bind fun t301=>((nat_shifted.f k t285 t300 (t285.length : Int)).bind fun t304=>(if 0 ≤ (wrap64 ((wrap64 ((t282.length : Int) - (t285.length : Int))) + 1)) then (if (wrap64 ((wrap64 ((t282.length : Int) - (t285.length : Int))) + 1) : Int).toNat ≤ 70368744177664 then ((some (List.replicate (wrap64 ((wrap64 ((t282.length : Int) - (t285.length : Int))) + 1) : Int).toNat 0 : List Int)).bind fun y307=>(nat_Nat_Div.l0 k t300 t301 t304 y307 (wrap64 ((y307.length : Int) - 1)))) else (none)) else (none)))) = some (r1,r2,r3):=H
 have A28:=Aside0.mk A280
 clear A280
 replace H:=Option.bind_eq_some_iff.mp H
 obtain ⟨t301,A290,H⟩:=H
 replace H : ((nat_shifted.f k t285 t300 (t285.length : Int)).bind fun t304=>(if 0 ≤ (wrap64 ((wrap64 ((t282.length : Int) - (t285.length : Int))) + 1)) then (if (wrap64 ((wrap64 ((t282.length : Int) - (t285.length : Int))) + 1) : Int).toNat ≤ 70368744177664 then ((some (List.replicate (wrap64 ((wrap64 ((t282.length : Int) - (t285.length : Int))) + 1) : Int).toNat 0 : List Int)).bind fun y307=>(nat_Nat_Div.l0 k t300 t301 t304 y307 (wrap64 ((y307.length : Int) - 1)))) else (none)) else (none))) = some (r1,r2,r3):=H
 have A29:=Aside0.mk A290
 clear A290
 replace H:=Option.bind_eq_some_iff.mp H
 obtain ⟨t304,A300,H⟩:=H
 replace H : (if 0 ≤ (wrap64 ((wrap64 ((t282.length : Int) - (t285.length : Int))) + 1)) then (if (wrap64 ((wrap64 ((t282.length : Int) - (t285.length : Int))) + 1) : Int).toNat ≤ 70368744177664 then ((some (List.replicate (wrap64 ((wrap64 ((t282.length : Int) - (t285.length : Int))) + 1) : Int).toNat 0 : List Int)).bind fun y307=>(nat_Nat_Div.l0 k t300 t301 t304 y307 (wrap64 ((y307.length : Int) - 1)))) else (none)) else (none)) = some (r1,r2,r3):=H
 have A30:=Aside0.mk A300
 clear A300
 obtain ⟨ji31,hji31⟩ : ∃ j_ : Int,(wrap64 ((wrap64 ((t282.length : Int) - (t285.length : Int))) + 1)) = j_:=⟨_,rfl⟩
 replace H : (if 0 ≤ (ji31) then (if (ji31 : Int).toNat ≤ 70368744177664 then ((some (List.replicate (ji31 : Int).toNat 0 : List Int)).bind fun y307=>(nat_Nat_Div.l0 k t300 t301 t304 y307 (wrap64 ((y307.length : Int) - 1)))) else (none)) else (none)) = some (r1,r2,r3):=by first | (rw [hji31] at H; exact H) | (simp only [hji31] at H ⊢; exact H)
 (try rw [hji31] at A3)
 (try rw [hji31] at A4)
 (try rw [hji31] at A9)
 (try rw [hji31] at A28)
 (try rw [hji31] at A29)
 (try rw [hji31] at A30)
 have hji31w : (IntKind.i64.wrap ((wrap64 ((t282.length : Int) - (t285.length : Int))) + 1)) = ji31:=(i64_w _).trans hji31
 by_cases c32 : 0 ≤ (ji31)
 case neg =>
  rw [if_neg c32] at H
  exact absurd H (by simp)
 rw [if_pos c32] at H
 have c32b0:=eq_true c32
 have c32b1 : decide (0 ≤ (ji31)) = true:=decide_eq_true c32
 clear c32
 by_cases c33 : (ji31 : Int).toNat ≤ 70368744177664
 case neg =>
  rw [if_neg c33] at H
  exact absurd H (by simp)
 rw [if_pos c33] at H
 have c33b0:=eq_true c33
 have c33b1 : decide ((ji31 : Int).toNat ≤ 70368744177664) = true:=decide_eq_true c33
 clear c33
 obtain ⟨y307,hy307⟩ : ∃ y_ : List Int,y_ = (List.replicate (ji31 : Int).toNat 0):=⟨_,rfl⟩
 replace H : (nat_Nat_Div.l0 k t300 t301 t304 y307 (wrap64 ((y307.length : Int) - 1))) = some (r1,r2,r3):=by first | (rw [hy307]; with_reducible exact H) | (have H2_:=(Option.bind_some _ _).symm.trans H; rw [hy307]; with_reducible exact H2_) | (have H2_:=(Option.bind_some _ _).symm.trans H; with_reducible exact H2_) | with_reducible exact H | (rw [hy307]; exact H) | exact H
 have Ny307:=Aside0.mk hy307
 clear hy307
 have H':=Aside0.mk H
 clear H
 go_enter Try.func69,Try.ntmps69
 go_wp2_with (first | ((with_reducible refine gc_ 85 rfl ?_); refine gM_ (some 15) Try.func85 [.slice A0 l0.length c0] ?_; (with_reducible refine (nat_trim.calls k (fun k_=>((P0_ k_ ∨ P1_ k_) ∨ w.heap.size ≤ k_)) _ _ l0 t282 _ ?side1 A3.out).mono ?_); (case side1=>exact HO0.out); rintro e w34 ⟨v283,rfl,ho0,hb⟩; refine ⟨_,rfl,?_⟩; replace HO1:=vb_ HO1 hb; have HO284:=Aside0.mk (Kd.V_lower (Kd.V_mono (ok':=fun k_=>((P0_ k_ ∨ P1_ k_) ∨ w.heap.size ≤ k_)) ho0 (fun k_ hk_=>Or.elim hk_ (fun hs_=>hs_) (fun hn_=>(.inr (Nat.le_trans (below_size bh_) hn_))))) (below_size bh_)); replace HB:=bq_ hb) | ((with_reducible refine gc_ 85 rfl ?_); refine gM_ (some 17) Try.func85 [.slice A1 l1.length c1] ?_; (with_reducible refine (nat_trim.calls k (fun k_=>((P0_ k_ ∨ P1_ k_) ∨ w.heap.size ≤ k_)) _ _ l1 t285 _ ?side1 A4.out).mono ?_); (case side1=>exact HO1.out); rintro e w35 ⟨v286,rfl,ho0,hb⟩; refine ⟨_,rfl,?_⟩; replace HO284:=vb_ HO284 hb; have HO287:=Aside0.mk (Kd.V_lower (Kd.V_mono (ok':=fun k_=>((P0_ k_ ∨ P1_ k_) ∨ w.heap.size ≤ k_)) ho0 (fun k_ hk_=>Or.elim hk_ (fun hs_=>hs_) (fun hn_=>(.inr (Nat.le_trans (below_size bh_) hn_))))) (below_size bh_)); replace HB:=bq_ hb; skip; obtain ⟨Ao36,co36,eo36⟩:=Kd.V_slice HO287.out; subst eo36; obtain ⟨Ao37,co37,eo37⟩:=Kd.V_slice HO284.out; subst eo37) | ((with_reducible refine gc_ 75 rfl ?_); refine gM_ (some 25) Try.func75 [.slice Ao37 t282.length co37,.slice Ao36 t285.length co36] ?_; (with_reducible refine (nat_Nat_Cmp.calls k _ _ t282 _ _ t285 t288 _ ?side1 ?side2 ?side3 ?side4 A9.out).mono ?_); (case side1=>repeat first | exact (Kd.V_reads' HO284.out).2.2 | with_reducible first | apply ca_ | apply cn_ | apply cd_); (case side2=>exact (Kd.V_reads' HO284.out).2.1); (case side3=>repeat first | exact (Kd.V_reads' HO287.out).2.2 | with_reducible first | apply ca_ | apply cn_ | apply cd_); (case side4=>exact (Kd.V_reads' HO287.out).2.1); rintro e w' ⟨rfl,⟨nd,rfl⟩⟩; refine ⟨_,rfl,?_⟩; have p299 : 0 ≤ ((ji25) : Int):=of_decide_eq_true (by first | (with_reducible assumption) | assumption); have q299 : (ji25) < (t285.length : Int):=of_decide_eq_true (by first | (with_reducible assumption) | assumption); obtain ⟨ad299,e299,hx299_0⟩:=Kd.at_int (Kd.V_reads' HO287.out).2.2 (ji25) p299 q299; cases e299; replace p299:=eq_true p299; replace q299:=eq_true q299) | ((with_reducible refine gc_ 98 rfl ?_); refine goesL_ (some 49) rfl rfl Try.func98 (by kernel_rfl) rfl #[.int .u32 (rd t285 (ji25))] rfl (by (try simp only [List.map_toArray,List.map_cons,List.map_nil]); first | done | (simp only [hji25]; rfl) | rfl | (simp only [List.length_drop,List.length_take]; rfl)) ?_; (with_reducible refine (bits_LeadingZeros32.calls (rd t285 (ji25)) t300 _ A28.out).mono ?_); rintro e w' ⟨rfl,⟨nd,rfl⟩⟩; refine ⟨_,rfl,?_⟩) | ((with_reducible refine gc_ 99 rfl ?_); refine gM_ (some 55) Try.func99 [.slice Ao37 t282.length co37,.int .i64 t300,.int .i64 (wrap64 ((t282.length : Int) + 1))] ?_; (with_reducible refine (nat_shifted.calls k _ _ t282 t300 (wrap64 ((t282.length : Int) + 1)) t301 _ ?side1 ?side2 A29.out).mono ?_); (case side1=>repeat first | exact (Kd.V_reads' HO284.out).2.2 | with_reducible first | apply ca_ | apply cn_ | apply cd_); (case side2=>exact (Kd.V_reads' HO284.out).2.1); rintro e w38 ⟨v302,rfl,ho0,hb⟩; refine ⟨_,rfl,?_⟩; replace HO287:=Aside0.mk (Kd.V_elder' (by (with_reducible repeat (first | apply va_ | apply vn_ | apply vd_)); exact HO287.out) (Kd.R_base ho0) hb); have HO303:=Aside0.mk (Kd.R_lower (Kd.R_newM (M:=fun k_=>(w.heap.size ≤ k_)) ho0 (below_size bh_) (fun k_ h_=>h_)) (below_size bh_)); replace HB:=bq_ hb) | ((with_reducible refine gc_ 99 rfl ?_); refine gM_ (some 60) Try.func99 [.slice (some ad299) t285.length co36,.int .i64 t300,.int .i64 (t285.length : Int)] ?_; (with_reducible refine (nat_shifted.calls k _ _ t285 t300 (t285.length : Int) t304 _ ?side1 ?side2 A30.out).mono ?_); (case side1=>repeat first | exact (Kd.V_reads' HO287.out).2.2 | with_reducible first | apply ca_ | apply cn_ | apply cd_); (case side2=>exact (Kd.V_reads' HO287.out).2.1); rintro e w39 ⟨v305,rfl,ho0,hb⟩; refine ⟨_,rfl,?_⟩; have n4_:=re_ HO303 (Kd.R_base ho0) hb; have n5_:=Aside0.mk (Kd.R_lower (Kd.R_new' (Kd.R_newM (M:=fun k_=>(w.heap.size ≤ k_)) ho0 (below_size bh_) (fun k_ h_=>h_)) (rl_ HO303)) (below_size bh_)); have n6_:=bq_ hb; clear HO303 HB; have HO303:=n4_; have HO306:=n5_; have HB:=n6_; clear n4_ n5_ n6_) | ((with_reducible refine gate_dst (N:=67) rfl ?_); refine Kd.R_make (Kd.int .u32) _ 123 rfl (N:=67) rfl 47 _ _ rfl ji31 rfl rfl Try.underlying47 (.int .u32 0) 4 info123 rfl (by decide) (by omega) 0 (ok:=fun _=>True) (okp:=fun _=>True) rfl (fun _ hk=>hk) trivial (of_decide_eq_true (by first | (with_reducible assumption) | assumption)) (Nat.le_trans (Nat.mul_le_mul_right _ (of_decide_eq_true (by first | (with_reducible assumption) | assumption) : ji31.toNat ≤ 70368744177664)) (by omega)) (Below.refl _ _) (Nat.le_refl _) ?_; intro v308 w40 ho41 hb hg_ hnew_; clear hg_ hnew_; (first | rw [← Ny307.out] at ho41 | (simp only [Int.reduceToNat] at ho41; rw [← Ny307.out] at ho41)); have n4_:=re_ HO303 (Kd.R_base ho41) hb; have n5_:=re_ HO306 (Kd.R_base ho41) hb; have n6_:=Aside0.mk (Kd.R_lower (Kd.R_new' (Kd.R_new' (Kd.R_newM (M:=fun k_=>(w.heap.size ≤ k_)) ho41 (below_size bh_) (fun k_ h_=>h_)) (rl_ HO303)) (rl_ HO306)) (below_size bh_)); have n7_:=bq_ hb; clear HO303 HO306 HB; have HO303:=n4_; have HO306:=n5_; have HO309:=n6_; have HB:=n7_; clear n4_ n5_ n6_ n7_; clear hb ho41; obtain ⟨Ao42,co42,eo42⟩:=Kd.R_slice HO309.out; subst eo42))
 (try simp only [Act.put,p1_,p2_,p3_])
 go_loopg [13] k (fun kq v13 w'=>∃ (x10_1 : List Int) (x12_1 : List Int) (x13_1 : Int),v13 = .int .i64 x13_1 ∧ Aside0 (nat_Nat_Div.l0 kq t300 x10_1 t304 x12_1 x13_1 = some (r1,r2,r3)) ∧ Aside0 (kq ≤ k) ∧ Aside0 (Kd.R (Kd.int .u32) 123 w' w.heap.size (fun k_=>(w.heap.size ≤ k_) ∧ some k_ ≠ (v305 : Value).ownBlock ∧ some k_ ≠ ((.slice Ao42 y307.length co42) : Value).ownBlock) v302 x10_1) ∧ Aside0 (Kd.R (Kd.int .u32) 123 w' w.heap.size (fun k_=>(w.heap.size ≤ k_) ∧ some k_ ≠ (v302 : Value).ownBlock ∧ some k_ ≠ ((.slice Ao42 y307.length co42) : Value).ownBlock) v305 t304) ∧ Aside0 (Kd.R (Kd.int .u32) 123 w' w.heap.size (fun k_=>(w.heap.size ≤ k_) ∧ some k_ ≠ (v302 : Value).ownBlock ∧ some k_ ≠ (v305 : Value).ownBlock) (.slice Ao42 y307.length co42) x12_1) ∧ Aside0 (Below w.heap.size w w'))
 case atStart=>exact ⟨(t301),(y307),(wrap64 ((y307.length : Int) - 1)),(sh_),H',⟨Nat.le_refl _⟩,⟨by (with_reducible repeat (first | apply ra_ | apply rn_ | apply rd_)); exact Kd.R_mono HO303.out (fun _ hk=>⟨hk.1.1.1,⟨hk.1.2,hk.2⟩⟩)⟩,⟨by (with_reducible repeat (first | apply ra_ | apply rn_ | apply rd_)); exact Kd.R_mono HO306.out (fun _ hk=>⟨hk.1.1.1,⟨hk.1.2,hk.2⟩⟩)⟩,⟨by (with_reducible repeat (first | apply ra_ | apply rn_ | apply rd_)); exact Kd.R_mono HO309.out (fun _ hk=>⟨hk.1.1.1,⟨hk.1.2,hk.2⟩⟩)⟩,⟨bh_⟩⟩
 case round =>
  clear H'
  try clear c1
  try clear c2
  try clear p2
  try clear q2
  try clear hx2
  try clear qi2
  try clear c3
  try clear c5
  try clear c5b0
  try clear c5b1
  try clear c5b2
  try clear c6
  try clear p6
  try clear c7
  try clear c8
  try clear c9
  try clear c10
  try clear c10b0
  try clear c17
  try clear c17b0
  try clear c17b1
  try clear c18
  try clear c18b0
  try clear c18b1
  try clear c26
  try clear c26b0
  try clear c27
  try clear c27b0
  try clear p29
  try clear q29
  try clear hx29
  try clear qi29
  try clear c32
  try clear c32b0
  try clear c32b1
  try clear c33
  try clear c33b0
  try clear c33b1
  try clear hx292_0
  try clear hx299_0
  try clear p292
  try clear p299
  try clear q292
  try clear q299
  obtain ⟨x10_1,x12_1,x13_1,rfl,HA,HK1,HO_10,HO_11,HO_12,HB⟩:=hrel
  have hl12_1:=(Kd.R_reads' HO_12.out).1
  rw [hl12_1] at HO_12
  (try simp only [hl12_1])
  (try simp only [hl12_1] at HO_10)
  (try simp only [hl12_1] at HO_11)
  cases gk with
  | zero=>exact absurd HA.out (by simp [nat_Nat_Div.l0])
  | succ k1 =>
   have H:=HA.out
   clear HA
   simp only [nat_Nat_Div.l0] at H
   by_cases c43 : x13_1 ≥ 0
   case neg =>
    rw [if_neg c43] at H
    have c43b0 : decide (0 ≤ x13_1) = false:=decide_eq_false c43
    clear c43
    replace H:=Option.bind_eq_some_iff.mp H
    obtain ⟨t313,A530,H⟩:=H
    replace H : ((nat_Nat_Shr.f k1 x10_1 t300).bind fun t316=>(some (t313,t316,0))) = some (r1,r2,r3):=H
    have A53:=Aside0.mk A530
    clear A530
    replace H:=Option.bind_eq_some_iff.mp H
    obtain ⟨t316,A540,H⟩:=H
    replace H : (some (t313,t316,0)) = some (r1,r2,r3):=H
    have A54:=Aside0.mk A540
    clear A540
    simp only [Option.some.injEq,Prod.mk.injEq] at H
    obtain ⟨rfl,rfl,rfl⟩:=H
    go_wp2_with (first | ((with_reducible refine gc_ 85 rfl ?_); refine gM_ (some 89) Try.func85 [.slice Ao42 x12_1.length co42] ?_; (with_reducible refine (nat_trim.calls k1 (fun k_=>some k_ = (.slice Ao42 x12_1.length co42 : Value).ownBlock) _ _ x12_1 t313 _ ?side1 A53.out).mono ?_); (case side1=>exact Kd.R_V (Kd.R_tight rfl (HO_12.out))); rintro e w55 ⟨v314,rfl,ho0,hb⟩; refine ⟨_,rfl,?_⟩; have n0_:=rb_ HO_10 hb; have n1_:=rb_ HO_11 hb; have n2_:=rb_ HO_12 hb; have n3_:=Aside0.mk (Kd.V_lower (Kd.V_mono (ok':=fun k_=>((P0_ k_ ∨ P1_ k_) ∨ w.heap.size ≤ k_) ∧ some k_ ≠ (v302 : Value).ownBlock ∧ some k_ ≠ (v305 : Value).ownBlock) ho0 (fun k_ hk_=>⟨Or.elim hk_ (fun hs_=>(.inr (((HO_12.out).1 k_ hs_.symm).1))) (fun hn_=>(.inr (Nat.le_trans (below_size bh_) hn_))),Or.elim hk_ (fun hs_=>((HO_12.out).1 k_ hs_.symm).2.1) (fun hn_=>(Kd.fresh' (rl_ HO_10) k_ hn_)),Or.elim hk_ (fun hs_=>((HO_12.out).1 k_ hs_.symm).2.2) (fun hn_=>(Kd.fresh' (rl_ HO_11) k_ hn_))⟩)) (below_size bh_)); have n4_:=bq_ hb; clear HO_10 HO_11 HO_12 HB; have HO_10:=n0_; have HO_11:=n1_; have HO_12:=n2_; have HO315:=n3_; have HB:=n4_; clear n0_ n1_ n2_ n3_ n4_; skip; obtain ⟨Ao56,co56,eo56⟩:=Kd.R_slice HO_10.out; subst eo56) | ((with_reducible refine gc_ 101 rfl ?_); refine gM_ (some 92) Try.func101 [.slice Ao56 x10_1.length co56,.int .i64 t300] ?_; (with_reducible refine (nat_Nat_Shr.calls k1 _ _ x10_1 t300 t316 _ ?side1 ?side2 A54.out).mono ?_); (case side1=>repeat first | exact (Kd.R_reads' HO_10.out).2.2 | with_reducible first | apply ca_ | apply cn_ | apply cd_); (case side2=>exact (Kd.R_reads' HO_10.out).2.1); rintro e w57 ⟨v317,rfl,ho0,hb⟩; refine ⟨_,rfl,?_⟩; replace HO315:=vb_ HO315 hb; have HO318:=Aside0.mk (Kd.V_lower (Kd.V_mono (ok':=fun k_=>((P0_ k_ ∨ P1_ k_) ∨ w.heap.size ≤ k_) ∧ some k_ ≠ (.slice Ao56 x10_1.length co56 : Value).ownBlock ∧ some k_ ≠ (v305 : Value).ownBlock ∧ some k_ ≠ (.slice Ao42 x12_1.length co42 : Value).ownBlock) ho0 (fun k_ hk_=>⟨(.inr (Nat.le_trans (below_size bh_) hk_)),(Kd.fresh' (rl_ HO_10) k_ hk_),(Kd.fresh' (rl_ HO_11) k_ hk_),(Kd.fresh' (rl_ HO_12) k_ hk_)⟩)) (below_size bh_)); replace HB:=bq_ hb))
    go_ret3
    exact ⟨_,_,by first | rfl | (simp [errW_none,errW_some] <;> rfl) | (simp only [← hji25,← hji31]; first | rfl | (simp [errW_none,errW_some] <;> rfl)) | (simp [*,errW_none,errW_some] <;> rfl),by (with_reducible repeat (first | apply va_ | apply vn_ | apply vd_)); exact Kd.V_mono HO315.out (fun _ hk=>hk.1),by (with_reducible repeat (first | apply va_ | apply vn_ | apply vd_)); exact Kd.V_mono HO318.out (fun _ hk=>hk.1),bh_⟩
   rw [if_pos c43] at H
   have c43b0 : decide (0 ≤ x13_1) = true:=decide_eq_true c43
   clear c43
   by_cases ccut : x13_1.toNat + (t304.length + 1) ≤ x10_1.length
   case neg=>rw [if_neg ccut] at H; exact absurd H (by simp)
   rw [if_pos ccut] at H
   replace H:=Option.bind_eq_some_iff.mp H
   obtain ⟨⟨t310,t311⟩,A440,H⟩:=H
   replace H : (if 0 ≤ x13_1 then (if x13_1 < (x12_1.length : Int) then (nat_Nat_Div.l0 k1 t300 (x10_1.take x13_1.toNat ++ t311 ++ x10_1.drop (x13_1.toNat + (t304.length + 1))) t304 (x12_1.set (x13_1 : Int).toNat t310) (wrap64 (x13_1 - 1))) else (none)) else (none)) = some (r1,r2,r3):=H
   have A44:=Aside0.mk A440
   clear A440
   by_cases c45 : 0 ≤ x13_1
   case neg =>
    rw [if_neg c45] at H
    exact absurd H (by simp)
   rw [if_pos c45] at H
   have c45b0 : decide (0 ≤ x13_1) = true:=decide_eq_true c45
   clear c45
   by_cases c46 : x13_1 < (x12_1.length : Int)
   case neg =>
    rw [if_neg c46] at H
    exact absurd H (by simp)
   rw [if_pos c46] at H
   have c46b0 : decide (x13_1 < (x12_1.length : Int)) = true:=decide_eq_true c46
   clear c46
   obtain ⟨y312,hy312⟩ : ∃ y_ : List Int,y_ = (x12_1.set (x13_1 : Int).toNat t310):=⟨_,rfl⟩
   replace H : (nat_Nat_Div.l0 k1 t300 (x10_1.take x13_1.toNat ++ t311 ++ x10_1.drop (x13_1.toNat + (t304.length + 1))) t304 y312 (wrap64 (x13_1 - 1))) = some (r1,r2,r3):=by first | (rw [hy312]; with_reducible exact H) | (have H2_:=(Option.bind_some _ _).symm.trans H; rw [hy312]; with_reducible exact H2_) | (have H2_:=(Option.bind_some _ _).symm.trans H; with_reducible exact H2_) | with_reducible exact H | (rw [hy312]; exact H) | exact H
   have Ny312:=Aside0.mk hy312
   clear hy312
   have H':=Aside0.mk H
   clear H
   obtain ⟨Ao48,co48,eo48⟩:=Kd.R_slice HO_11.out
   subst eo48
   obtain ⟨Ao49,co49,eo49⟩:=Kd.R_slice HO_10.out
   subst eo49
   obtain ⟨g10_,c10_,e10_,_,_,_,_⟩:=Kd.R_form HO_10.out (by omega)
   (first | cases e10_ | (injection e10_ with ea_ en_ ec_; (first | subst ea_ | (injection ea_ with ea_; subst ea_)); subst ec_; clear en_))
   have hC10_:=(Kd.R_reads' HO_10.out).2.1
   have hm10_:=(Kd.R_reads' HO_10.out).2.2.2.1
   have h013_ : 0 ≤ x13_1:=of_decide_eq_true (by first | (with_reducible assumption) | assumption)
   obtain ⟨jb_,hjb_⟩ : ∃ j_ : Int,(IntKind.i64.wrap (x13_1 + (t304.length : Int))) = j_:=⟨_,rfl⟩
   have hjbe_ : jb_ = x13_1 + (t304.length : Int):=by rw [← hjb_,IntKind.wrap_i64]; omega
   obtain ⟨jc_,hjc_⟩ : ∃ j_ : Int,(IntKind.i64.wrap (jb_ + 1)) = j_:=⟨_,rfl⟩
   have hjce_ : jc_ = x13_1 + (t304.length : Int) + 1:=by rw [← hjc_,hjbe_,IntKind.wrap_i64]; omega
   have hcut_ : ∀ W : World,(Instr.slice 47 (.slice (some ⟨g10_,0,none⟩) x10_1.length co49) (some (.int .i64 x13_1)) (some (.int .i64 jc_)) none).run Try.prog W = .ok (.slice (some ⟨g10_,x13_1.toNat,none⟩) (t304.length + 1) (co49 - x13_1.toNat)) W:=fun W=>cut_run W Try.underlying47 info123 g10_ x10_1.length co49 x13_1 jc_ t304.length h013_ hjce_ ccut hC10_
   have hccut_:=Aside0.mk ccut
   clear hjbe_ hjce_ ccut h013_
   have ccut:=hccut_.out
   clear hm10_
   go_wp2_with (first | ((with_reducible refine gc_ 100 rfl ?_); refine gM_ (some 86) Try.func100 [.slice (some ⟨g10_,x13_1.toNat,none⟩) (t304.length + 1) (co49 - x13_1.toNat),.slice Ao48 t304.length co48] ?_; (with_reducible refine (nat_step.calls k1 (fun k_=>some k_ = (.slice (some ⟨g10_,0,none⟩) x10_1.length co49 : Value).ownBlock) (.slice (some ⟨g10_,0,none⟩) x10_1.length co49) (x10_1.take x13_1.toNat) (x10_1.drop (x13_1.toNat + (t304.length + 1))) (.slice (some ⟨g10_,x13_1.toNat,none⟩) (t304.length + 1) (co49 - x13_1.toNat)) ((x10_1.drop x13_1.toNat).take (t304.length + 1)) _ _ t304 t310 t311 w _ ?side1 ?side2 ?side3 ?side4 A44.out).mono ?_); (case side1=>repeat (first | (with_reducible first | exact HB.out | apply below_alloc | apply pw_below_drewN | apply below_drew1) | exact HB.out)); (case side2=>exact CutR.of_R (Kd.R_tight rfl HO_10.out) _ _ ccut hC10_); (case side3=>exact Kd.C_kept_own (HO_11.out) (fun k_ hk_ hs_=>(hk_.2.1) hs_)); (case side4=>exact (Kd.R_reads' HO_11.out).2.1); rintro e w50 ⟨rfl,hy0,hb,hkp⟩; refine ⟨_,rfl,?_⟩; replace HO_10:=Aside0.mk (Kd.R_reok rfl (CutR.whole hy0) (fun k_ e_=>HO_10.out.1 k_ e_)); replace HO_11:=Aside0.mk (Kd.R_mono (ok':=fun k_=>(w.heap.size ≤ k_) ∧ some k_ ≠ (.slice (some ⟨g10_,0,none⟩) x10_1.length co49 : Value).ownBlock ∧ some k_ ≠ (.slice Ao42 x12_1.length co42 : Value).ownBlock) (Kd.R_keptB (HO_11.out) hkp (fun k_ hk_ hs_=>(hk_.2.1) hs_)) (fun k_ hk_=>⟨hk_.1.1,hk_.1.2.1,hk_.1.2.2⟩)); replace HO_12:=Aside0.mk (Kd.R_mono (ok':=fun k_=>(w.heap.size ≤ k_) ∧ some k_ ≠ (.slice (some ⟨g10_,0,none⟩) x10_1.length co49 : Value).ownBlock ∧ some k_ ≠ (.slice Ao48 t304.length co48 : Value).ownBlock) (Kd.R_keptB (HO_12.out) hkp (fun k_ hk_ hs_=>(hk_.2.1) hs_)) (fun k_ hk_=>⟨hk_.1.1,hk_.1.2.1,hk_.1.2.2⟩)); replace HB:=Aside0.mk (hb); (try clear hb); (try clear hkp); (try clear hy0); have p47 : 0 ≤ (x13_1 : Int):=of_decide_eq_true (by first | (with_reducible assumption) | assumption); have q47 : (x13_1 : Int) < ((x12_1.length : Int) : Int):=of_decide_eq_true (by first | (with_reducible assumption) | assumption); obtain ⟨go47,co47,eo47,gb47,gl47,cl47,HG47⟩:=Kd.R_form HO_12.out (by omega); (first | cases eo47 | (injection eo47 with ea_ en_ ec_; (first | subst ea_ | (injection ea_ with ea_; subst ea_)); subst ec_; clear en_)); have GB47:=Aside0.mk gb47; have GG47:=Aside0.mk HG47; clear gb47 gl47 HG47; obtain ⟨hx47_0,hf47_0⟩:=Kd.R_celln 0 HO_12.out (x13_1 : Int) p47 q47; replace p47:=eq_true p47; replace q47:=eq_true q47; obtain ⟨hy51_,hz51_⟩:=Kd.R_celln 0 HO_12.out (x13_1 : Int) (of_decide_eq_true (by first | (with_reducible assumption) | assumption)) (of_decide_eq_true (by first | (with_reducible assumption) | assumption)); have HP51:=Kd.R_putg HO_12.out (x13_1 : Int) t310) | ((with_reducible refine gate_store (t:=123) (p:=87) rfl ?_); refine store_event (t:=123) (p:=87) (v:=?vo_w52) (w1:=(w50.setCell ⟨go47,(x13_1 : Int).toNat,none⟩ (.int .u32 t310))) ?hg ?ho ?hn ?hr ?_; (case ho=>rfl); (case hg=>rfl); (case hn=>rfl); (case hr=>first | (go_simp; done) | (go_simp; rfl)); intro w52 hw; have hg : w50.grownBy w52 (some go47):=(by rw [hw]; exact HP51.2); have hp_ : Kd.R (Kd.int .u32) 123 w52 w.heap.size (fun k_=>(w.heap.size ≤ k_) ∧ some k_ ≠ (.slice (some ⟨g10_,0,none⟩) x10_1.length co49 : Value).ownBlock ∧ some k_ ≠ (.slice Ao48 t304.length co48 : Value).ownBlock) (.slice (some ⟨go47,0,none⟩) x12_1.length co42) y312:=(by rw [hw,Ny312.out]; exact HP51.1); clear HP51; replace HO_10:=Aside0.mk (Kd.R_after (v:=(.slice (some ⟨go47,0,none⟩) x12_1.length co42)) (v1:=(.slice (some ⟨go47,0,none⟩) x12_1.length co42)) (ok:=(fun k_=>(w.heap.size ≤ k_) ∧ some k_ ≠ (.slice Ao48 t304.length co48 : Value).ownBlock)) (by (with_reducible repeat (first | apply ra_ | apply rn_ | apply rd_)); exact Kd.R_mono HO_10.out (fun _ hk=>⟨⟨hk.1,hk.2.1⟩,hk.2.2⟩)) hg (.inl rfl)); replace HO_11:=Aside0.mk (Kd.R_after (v:=(.slice (some ⟨go47,0,none⟩) x12_1.length co42)) (v1:=(.slice (some ⟨go47,0,none⟩) x12_1.length co42)) (ok:=(fun k_=>(w.heap.size ≤ k_) ∧ some k_ ≠ (.slice (some ⟨g10_,0,none⟩) x10_1.length co49 : Value).ownBlock)) (by (with_reducible repeat (first | apply ra_ | apply rn_ | apply rd_)); exact Kd.R_mono HO_11.out (fun _ hk=>⟨⟨hk.1,hk.2.1⟩,hk.2.2⟩)) hg (.inl rfl)); replace HO_12:=Aside0.mk (hp_); replace HB:=Aside0.mk ((by rw [hw]; exact below_set (HB.out) GB47.out : Below w.heap.size w w52)); clear hg hw hp_))
   (try simp only [← hl12_1])
   go_roundg k1
   case measure=>have:=HK1.out; omega
   case rel=>exact ⟨(x10_1.take x13_1.toNat ++ t311 ++ x10_1.drop (x13_1.toNat + (t304.length + 1))),(y312),(wrap64 (x13_1 - 1)),(sh_),H',⟨by have:=HK1.out; omega⟩,⟨by (try simp only [hl12_1]); (with_reducible repeat (first | apply ra_ | apply rn_ | apply rd_)); exact Kd.R_mono HO_10.out (fun _ hk=>⟨hk.1.1,⟨hk.1.2,hk.2⟩⟩)⟩,⟨by (try simp only [hl12_1]); (with_reducible repeat (first | apply ra_ | apply rn_ | apply rd_)); exact Kd.R_mono HO_11.out (fun _ hk=>⟨hk.1.1,⟨hk.1.2,hk.2⟩⟩)⟩,⟨by (try simp only [hl12_1]); (with_reducible repeat (first | apply ra_ | apply rn_ | apply rd_)); exact HO_12.out⟩,⟨bh_⟩⟩

/-! ### nat_Nat_Gcd: function 103 -/
def nat_Nat_Gcd.l0 : Nat → List Int → List Int → Option (List Int)
 | 0,_,_=>none
 | k + 1,x0,x1=>if (x1.length : Int) > 0 then ((nat_Nat_Div.f k x0 x1).bind fun bt331=>(nat_Nat_Gcd.l0 k x1 bt331.2.1)) else (some x0)
def nat_Nat_Gcd.f (k : Nat) (l0 : List Int) (l1 : List Int) : Option (List Int):=(nat_trim.f k l0).bind fun t319=>((nat_Nat_uint32_96.f t319).bind fun t322=>((nat_trim.f k l1).bind fun t325=>((nat_Nat_uint32_96.f t325).bind fun t328=>(nat_Nat_Gcd.l0 k t322 t328))))
theorem nat_Nat_Gcd.mono_l : ∀ k,(∀ y0 y1,LeO (nat_Nat_Gcd.l0 k y0 y1) (nat_Nat_Gcd.l0 (k + 1) y0 y1))
 | 0=>fun _ _ r h=>by simp [nat_Nat_Gcd.l0] at h
 | k + 1=>by
  have ih0:=nat_Nat_Gcd.mono_l k
  ·
   intro y0 y1
   unfold nat_Nat_Gcd.l0
   repeat' with_reducible first | exact ih0 _ _ | exact nat_Nat_Div.mono _ _ _ | exact nat_trim.mono _ _ | exact LeO.refl _ | exact LeO.none _ | refine LeO.ite ?_ ?_ | refine LeO.bind ?_ (fun _=>?_)
theorem nat_Nat_Gcd.mono : ∀ a0 a1 k,LeO (nat_Nat_Gcd.f k a0 a1) (nat_Nat_Gcd.f (k + 1) a0 a1):=by
 intro a0 a1 k
 have ih0:=nat_Nat_Gcd.mono_l k
 unfold nat_Nat_Gcd.f
 repeat' with_reducible first | exact ih0 _ _ | exact nat_Nat_Div.mono _ _ _ | exact nat_trim.mono _ _ | exact LeO.refl _ | exact LeO.none _ | refine LeO.ite ?_ ?_ | refine LeO.bind ?_ (fun _=>?_)
set_option maxHeartbeats 8000000 in
set_option maxRecDepth 100000 in
theorem nat_Nat_Gcd.calls (k : Nat) (P0_ : Nat → Prop) (A0 : Option Addr) (c0 : Nat) (l0 : List Int) (P1_ : Nat → Prop) (A1 : Option Addr) (c1 : Nat) (l1 : List Int) (r : List Int) (w : World) (hs0 : Kd.V (Kd.int .u32) 123 w w.heap.size (fun k_=>P0_ k_) (.slice A0 l0.length c0) l0) (hs1 : Kd.V (Kd.int .u32) 123 w w.heap.size (fun k_=>P1_ k_) (.slice A1 l1.length c1) l1) (h : nat_Nat_Gcd.f k l0 l1 = some r) :
  Calls Try.prog 103 #[.slice A0 l0.length c0,.slice A1 l1.length c1] w fun e w'=>∃ v0_ : Value,e = .returned (v0_) ∧ Kd.V (Kd.int .u32) 123 w' w.heap.size (fun k_=>((P0_ k_ ∨ P1_ k_) ∨ w.heap.size ≤ k_)) v0_ r ∧ Below w.heap.size w w':=by
 have HO0:=Aside0.mk (show Kd.V (Kd.int .u32) 123 w w.heap.size (fun k_=>((P0_ k_ ∨ P1_ k_) ∨ w.heap.size ≤ k_)) (.slice A0 l0.length c0) l0 from Kd.V_mono hs0 (fun k_ hk=>.inl (.inl hk)))
 have HO1:=Aside0.mk (show Kd.V (Kd.int .u32) 123 w w.heap.size (fun k_=>((P0_ k_ ∨ P1_ k_) ∨ w.heap.size ≤ k_)) (.slice A1 l1.length c1) l1 from Kd.V_mono hs1 (fun k_ hk=>.inl (.inr hk)))
 have HB:=Aside0.mk (Below.refl w.heap.size w)
 have H : ((nat_trim.f k l0).bind fun t319=>((nat_Nat_uint32_96.f t319).bind fun t322=>((nat_trim.f k l1).bind fun t325=>((nat_Nat_uint32_96.f t325).bind fun t328=>(nat_Nat_Gcd.l0 k t322 t328))))) = some r:=h
 clear h
 replace H:=Option.bind_eq_some_iff.mp H
 obtain ⟨t319,A30,H⟩:=H
 replace H : ((nat_Nat_uint32_96.f t319).bind fun t322=>((nat_trim.f k l1).bind fun t325=>((nat_Nat_uint32_96.f t325).bind fun t328=>(nat_Nat_Gcd.l0 k t322 t328)))) = some r:=H
 have A3:=Aside0.mk A30
 clear A30
 replace H:=Option.bind_eq_some_iff.mp H
 obtain ⟨t322,A40,H⟩:=H
 replace H : ((nat_trim.f k l1).bind fun t325=>((nat_Nat_uint32_96.f t325).bind fun t328=>(nat_Nat_Gcd.l0 k t322 t328))) = some r:=H
 have A4:=Aside0.mk A40
 clear A40
 replace H:=Option.bind_eq_some_iff.mp H
 obtain ⟨t325,A50,H⟩:=H
 replace H : ((nat_Nat_uint32_96.f t325).bind fun t328=>(nat_Nat_Gcd.l0 k t322 t328)) = some r:=H
 have A5:=Aside0.mk A50
 clear A50
 replace H:=Option.bind_eq_some_iff.mp H
 obtain ⟨t328,A60,H⟩:=H
 replace H : (nat_Nat_Gcd.l0 k t322 t328) = some r:=H
 have A6:=Aside0.mk A60
 clear A60
 have H':=Aside0.mk H
 clear H
 go_enter Try.func103,Try.ntmps103
 go_wp2_with (first | ((with_reducible refine gc_ 85 rfl ?_); refine gM_ (some 9) Try.func85 [.slice A0 l0.length c0] ?_; (with_reducible refine (nat_trim.calls k (fun k_=>((P0_ k_ ∨ P1_ k_) ∨ w.heap.size ≤ k_)) _ _ l0 t319 _ ?side1 A3.out).mono ?_); (case side1=>exact HO0.out); rintro e w7 ⟨v320,rfl,ho0,hb⟩; refine ⟨_,rfl,?_⟩; replace HO1:=vb_ HO1 hb; have HO321:=Aside0.mk (Kd.V_lower (Kd.V_mono (ok':=fun k_=>((P0_ k_ ∨ P1_ k_) ∨ w.heap.size ≤ k_)) ho0 (fun k_ hk_=>Or.elim hk_ (fun hs_=>hs_) (fun hn_=>(.inr (Nat.le_trans (below_size bh_) hn_))))) (below_size bh_)); replace HB:=bq_ hb; skip; obtain ⟨Ao8,co8,eo8⟩:=Kd.V_slice HO321.out; subst eo8) | ((with_reducible refine gc_ 96 rfl ?_); refine gM_ (some 10) Try.func96 [.slice Ao8 t319.length co8] ?_; (with_reducible refine (nat_Nat_uint32_96.calls _ _ t319 t322 _ ?side1 ?side2 A4.out).mono ?_); (case side1=>repeat first | exact (Kd.V_reads' HO321.out).2.2 | with_reducible first | apply ca_ | apply cn_ | apply cd_); (case side2=>exact (Kd.V_reads' HO321.out).2.1); rintro e w9 ⟨v323,rfl,ho0,hb⟩; refine ⟨_,rfl,?_⟩; replace HO1:=vb_ HO1 hb; have HO324:=Aside0.mk (Kd.V_lower (Kd.V_mono (ok':=fun k_=>((P0_ k_ ∨ P1_ k_) ∨ w.heap.size ≤ k_)) ho0 (fun k_ hk_=>(.inr (Nat.le_trans (below_size bh_) hk_)))) (below_size bh_)); replace HB:=bq_ hb) | ((with_reducible refine gc_ 85 rfl ?_); refine gM_ (some 12) Try.func85 [.slice A1 l1.length c1] ?_; (with_reducible refine (nat_trim.calls k (fun k_=>((P0_ k_ ∨ P1_ k_) ∨ w.heap.size ≤ k_)) _ _ l1 t325 _ ?side1 A5.out).mono ?_); (case side1=>exact HO1.out); rintro e w10 ⟨v326,rfl,ho0,hb⟩; refine ⟨_,rfl,?_⟩; replace HO324:=vb_ HO324 hb; have HO327:=Aside0.mk (Kd.V_lower (Kd.V_mono (ok':=fun k_=>((P0_ k_ ∨ P1_ k_) ∨ w.heap.size ≤ k_)) ho0 (fun k_ hk_=>Or.elim hk_ (fun hs_=>hs_) (fun hn_=>(.inr (Nat.le_trans (below_size bh_) hn_))))) (below_size bh_)); replace HB:=bq_ hb; skip; obtain ⟨Ao11,co11,eo11⟩:=Kd.V_slice HO327.out; subst eo11) | ((with_reducible refine gc_ 96 rfl ?_); refine gM_ (some 13) Try.func96 [.slice Ao11 t325.length co11] ?_; (with_reducible refine (nat_Nat_uint32_96.calls _ _ t325 t328 _ ?side1 ?side2 A6.out).mono ?_); (case side1=>repeat first | exact (Kd.V_reads' HO327.out).2.2 | with_reducible first | apply ca_ | apply cn_ | apply cd_); (case side2=>exact (Kd.V_reads' HO327.out).2.1); rintro e w12 ⟨v329,rfl,ho0,hb⟩; refine ⟨_,rfl,?_⟩; replace HO324:=vb_ HO324 hb; have HO330:=Aside0.mk (Kd.V_lower (Kd.V_mono (ok':=fun k_=>((P0_ k_ ∨ P1_ k_) ∨ w.heap.size ≤ k_)) ho0 (fun k_ hk_=>(.inr (Nat.le_trans (below_size bh_) hk_)))) (below_size bh_)); replace HB:=bq_ hb))
 (try simp only [Act.put,p1_,p2_,p3_])
 go_loopg [0,1] k (fun kq v0 v1 w'=>∃ (x0_1 : List Int) (x1_1 : List Int),Aside0 (nat_Nat_Gcd.l0 kq x0_1 x1_1 = some r) ∧ Aside0 (kq ≤ k) ∧ Aside0 (Kd.V (Kd.int .u32) 123 w' w.heap.size (fun k_=>((P0_ k_ ∨ P1_ k_) ∨ w.heap.size ≤ k_)) v0 x0_1) ∧ Aside0 (Kd.V (Kd.int .u32) 123 w' w.heap.size (fun k_=>((P0_ k_ ∨ P1_ k_) ∨ w.heap.size ≤ k_)) v1 x1_1) ∧ Aside0 (Below w.heap.size w w'))
 case atStart=>exact ⟨(t322),(t328),H',⟨Nat.le_refl _⟩,⟨by (with_reducible repeat (first | apply va_ | apply vn_ | apply vd_)); exact HO324.out⟩,⟨by (with_reducible repeat (first | apply va_ | apply vn_ | apply vd_)); exact HO330.out⟩,⟨bh_⟩⟩
 case round =>
  clear H'
  try clear c1
  try clear p2
  try clear c8
  try clear c9
  try clear c10
  obtain ⟨x0_1,x1_1,HA,HK1,HO_0,HO_1,HB⟩:=hrel
  cases gk with
  | zero=>exact absurd HA.out (by simp [nat_Nat_Gcd.l0])
  | succ k1 =>
   have H:=HA.out
   clear HA
   simp only [nat_Nat_Gcd.l0] at H
   by_cases c13 : (x1_1.length : Int) > 0
   case neg =>
    rw [if_neg c13] at H
    have c13b0 : decide (0 < (x1_1.length : Int)) = false:=decide_eq_false c13
    have c13b1 : decide (0 < x1_1.length) = false:=decide_eq_false (by omega)
    clear c13
    obtain rfl:=Option.some.inj H
    obtain ⟨Ao18,co18,eo18⟩:=Kd.V_slice HO_1.out
    subst eo18
    go_wp2
    go_ret
    exact ⟨_,eh_,by (with_reducible repeat (first | apply va_ | apply vn_ | apply vd_)); exact HO_0.out,bh_⟩
   rw [if_pos c13] at H
   have c13b0 : decide (0 < (x1_1.length : Int)) = true:=decide_eq_true c13
   have c13b1 : decide (0 < x1_1.length) = true:=decide_eq_true (by omega)
   clear c13
   replace H:=Option.bind_eq_some_iff.mp H
   obtain ⟨⟨t331,t334,t337⟩,A140,H⟩:=H
   replace H : (nat_Nat_Gcd.l0 k1 x1_1 t334) = some r:=H
   have A14:=Aside0.mk A140
   clear A140
   have H':=Aside0.mk H
   clear H
   obtain ⟨Ao15,co15,eo15⟩:=Kd.V_slice HO_1.out
   subst eo15
   obtain ⟨Ao16,co16,eo16⟩:=Kd.V_slice HO_0.out
   subst eo16
   go_wp2_with (first | ((with_reducible refine gc_ 69 rfl ?_); refine gM_ (some 20) Try.func69 [.slice Ao16 x0_1.length co16,.slice Ao15 x1_1.length co15] ?_; (with_reducible refine (nat_Nat_Div.calls k1 (fun k_=>((P0_ k_ ∨ P1_ k_) ∨ w.heap.size ≤ k_)) _ _ x0_1 (fun k_=>((P0_ k_ ∨ P1_ k_) ∨ w.heap.size ≤ k_)) _ _ x1_1 t331 t334 t337 _ ?side1 ?side2 A14.out).mono ?_); (case side1=>exact HO_0.out); (case side2=>exact HO_1.out); rintro e w17 ⟨v332,v335,rfl,ho0,ho1,hb⟩; refine ⟨_,rfl,?_⟩; replace HO_0:=vb_ HO_0 hb; replace HO_1:=vb_ HO_1 hb; have HO336:=Aside0.mk (Kd.V_lower (Kd.V_mono (ok':=fun k_=>((P0_ k_ ∨ P1_ k_) ∨ w.heap.size ≤ k_)) ho1 (fun k_ hk_=>Or.elim hk_ (fun hs_=>Or.elim hs_ (fun hs_=>hs_) (fun hs_=>hs_)) (fun hn_=>(.inr (Nat.le_trans (below_size bh_) hn_))))) (below_size bh_)); replace HB:=bq_ hb))
   go_roundg k1
   case measure=>have:=HK1.out; omega
   case rel=>exact ⟨(x1_1),(t334),H',⟨by have:=HK1.out; omega⟩,⟨by (with_reducible repeat (first | apply va_ | apply vn_ | apply vd_)); exact HO_1.out⟩,⟨by (with_reducible repeat (first | apply va_ | apply vn_ | apply vd_)); exact HO336.out⟩,⟨bh_⟩⟩

/-! ### nat_Nat_Mul: function 67 -/
mutual
def nat_Nat_Mul.l0 : Nat → List Int → List Int → List Int → Int → Int → Option (List Int)
 | 0,_,_,_,_,_=>none
 | k + 1,x1,x5,x17,x18,x19=>if x19 < x18 then (if 0 ≤ x19 then (if x19 < (x17.length : Int) then (nat_Nat_Mul.l1 k x1 x5 x19 (rd x17 x19) 0 x17 x18 x19 x1 (x1.length : Int) 0) else (none)) else (none)) else ((nat_trim.f k x5).bind fun t399=>(some t399))
def nat_Nat_Mul.l1 : Nat → List Int → List Int → Int → Int → Int → List Int → Int → Int → List Int → Int → Int → Option (List Int)
 | 0,_,_,_,_,_,_,_,_,_,_,_=>none
 | k + 1,x1,x5,x6,x7,x8,x17,x18,x19,x24,x25,x26=>if x26 < x25 then (if 0 ≤ x26 then (if x26 < (x24.length : Int) then (if 0 ≤ (wrap64 (x6 + x26)) then (if (wrap64 (x6 + x26)) < (x5.length : Int) then (nat_Nat_Mul.l1 k x1 (x5.set ((wrap64 (x6 + x26)) : Int).toNat ((IntKind.u64.wrap (x8 + (IntKind.u64.wrap ((IntKind.u64.wrap ((IntKind.u64.wrap (x7)) * (IntKind.u64.wrap (rd x24 x26)))) + (IntKind.u64.wrap (rd x5 (wrap64 (x6 + x26)))))))) % 4294967296)) x6 x7 ((IntKind.u64.wrap (x8 + (IntKind.u64.wrap ((IntKind.u64.wrap ((IntKind.u64.wrap (x7)) * (IntKind.u64.wrap (rd x24 x26)))) + (IntKind.u64.wrap (rd x5 (wrap64 (x6 + x26)))))))) / 4294967296) x17 x18 x19 x24 x25 (wrap64 (x26 + 1))) else (none)) else (none)) else (none)) else (none)) else (if 0 ≤ (wrap64 (x6 + (x1.length : Int))) then (if (wrap64 (x6 + (x1.length : Int))) < (x5.length : Int) then (nat_Nat_Mul.l0 k x1 (x5.set ((wrap64 (x6 + (x1.length : Int))) : Int).toNat ((x8) % 4294967296)) x17 x18 (wrap64 (x19 + 1))) else (none)) else (none))
end
def nat_Nat_Mul.f (k : Nat) (l0 : List Int) (l1 : List Int) : Option (List Int):=if 0 ≤ (wrap64 ((l0.length : Int) + (l1.length : Int))) then (if (wrap64 ((l0.length : Int) + (l1.length : Int)) : Int).toNat ≤ 70368744177664 then (nat_Nat_Mul.l0 k l1 (List.replicate (wrap64 ((l0.length : Int) + (l1.length : Int)) : Int).toNat 0) l0 (l0.length : Int) 0) else (none)) else (none)
theorem nat_Nat_Mul.mono_l : ∀ k,(∀ y0 y1 y2 y3 y4,LeO (nat_Nat_Mul.l0 k y0 y1 y2 y3 y4) (nat_Nat_Mul.l0 (k + 1) y0 y1 y2 y3 y4)) ∧ (∀ y0 y1 y2 y3 y4 y5 y6 y7 y8 y9 y10,LeO (nat_Nat_Mul.l1 k y0 y1 y2 y3 y4 y5 y6 y7 y8 y9 y10) (nat_Nat_Mul.l1 (k + 1) y0 y1 y2 y3 y4 y5 y6 y7 y8 y9 y10))
 | 0=>⟨fun _ _ _ _ _ r h=>by simp [nat_Nat_Mul.l0] at h,fun _ _ _ _ _ _ _ _ _ _ _ r h=>by simp [nat_Nat_Mul.l1] at h⟩
 | k + 1=>by
  obtain ⟨ih0,ih1⟩:=nat_Nat_Mul.mono_l k
  refine ⟨?_,?_⟩
  ·
   intro y0 y1 y2 y3 y4
   unfold nat_Nat_Mul.l0
   repeat' with_reducible first | exact ih0 _ _ _ _ _ | exact ih1 _ _ _ _ _ _ _ _ _ _ _ | exact nat_trim.mono _ _ | exact LeO.refl _ | exact LeO.none _ | refine LeO.ite ?_ ?_ | refine LeO.bind ?_ (fun _=>?_)
  ·
   intro y0 y1 y2 y3 y4 y5 y6 y7 y8 y9 y10
   unfold nat_Nat_Mul.l1
   repeat' with_reducible first | exact ih0 _ _ _ _ _ | exact ih1 _ _ _ _ _ _ _ _ _ _ _ | exact nat_trim.mono _ _ | exact LeO.refl _ | exact LeO.none _ | refine LeO.ite ?_ ?_ | refine LeO.bind ?_ (fun _=>?_)
theorem nat_Nat_Mul.mono : ∀ a0 a1 k,LeO (nat_Nat_Mul.f k a0 a1) (nat_Nat_Mul.f (k + 1) a0 a1):=by
 intro a0 a1 k
 obtain ⟨ih0,ih1⟩:=nat_Nat_Mul.mono_l k
 unfold nat_Nat_Mul.f
 repeat' with_reducible first | exact ih0 _ _ _ _ _ | exact ih1 _ _ _ _ _ _ _ _ _ _ _ | exact nat_trim.mono _ _ | exact LeO.refl _ | exact LeO.none _ | refine LeO.ite ?_ ?_ | refine LeO.bind ?_ (fun _=>?_)
set_option maxHeartbeats 8000000 in
set_option maxRecDepth 100000 in
theorem nat_Nat_Mul.calls (k : Nat) (A0 : Option Addr) (c0 : Nat) (l0 : List Int) (A1 : Option Addr) (c1 : Nat) (l1 : List Int) (r : List Int) (w : World) (hr0 : Kd.C (Kd.int .u32) w A0 l0.length l0) (hc0 : l0.length ≤ c0) (hr1 : Kd.C (Kd.int .u32) w A1 l1.length l1) (hc1 : l1.length ≤ c1) (h : nat_Nat_Mul.f k l0 l1 = some r) :
  Calls Try.prog 67 #[.slice A0 l0.length c0,.slice A1 l1.length c1] w fun e w'=>∃ v0_ : Value,e = .returned (v0_) ∧ Kd.V (Kd.int .u32) 123 w' w.heap.size (fun k_=>(w.heap.size ≤ k_)) v0_ r ∧ Below w.heap.size w w':=by
 have HR0:=Aside0.mk hr0
 have HC0:=Aside0.mk hc0
 clear hr0 hc0
 have HR1:=Aside0.mk hr1
 have HC1:=Aside0.mk hc1
 clear hr1 hc1
 have HB:=Aside0.mk (Below.refl w.heap.size w)
 have H : (if 0 ≤ (wrap64 ((l0.length : Int) + (l1.length : Int))) then (if (wrap64 ((l0.length : Int) + (l1.length : Int)) : Int).toNat ≤ 70368744177664 then (nat_Nat_Mul.l0 k l1 (List.replicate (wrap64 ((l0.length : Int) + (l1.length : Int)) : Int).toNat 0) l0 (l0.length : Int) 0) else (none)) else (none)) = some r:=h
 clear h
 obtain ⟨ji3,hji3⟩ : ∃ j_ : Int,(wrap64 ((l0.length : Int) + (l1.length : Int))) = j_:=⟨_,rfl⟩
 replace H : (if 0 ≤ (ji3) then (if (ji3 : Int).toNat ≤ 70368744177664 then (nat_Nat_Mul.l0 k l1 (List.replicate (ji3 : Int).toNat 0) l0 (l0.length : Int) 0) else (none)) else (none)) = some r:=by first | (rw [hji3] at H; exact H) | (simp only [hji3] at H ⊢; exact H)
 have hji3w : (IntKind.i64.wrap ((l0.length : Int) + (l1.length : Int))) = ji3:=(i64_w _).trans hji3
 by_cases c4 : 0 ≤ (ji3)
 case neg =>
  rw [if_neg c4] at H
  exact absurd H (by simp)
 rw [if_pos c4] at H
 have c4b0:=eq_true c4
 have c4b1 : decide (0 ≤ (ji3)) = true:=decide_eq_true c4
 clear c4
 by_cases c5 : (ji3 : Int).toNat ≤ 70368744177664
 case neg =>
  rw [if_neg c5] at H
  exact absurd H (by simp)
 rw [if_pos c5] at H
 have c5b0:=eq_true c5
 have c5b1 : decide ((ji3 : Int).toNat ≤ 70368744177664) = true:=decide_eq_true c5
 clear c5
 obtain ⟨y396,hy396⟩ : ∃ y_ : List Int,y_ = (List.replicate (ji3 : Int).toNat 0):=⟨_,rfl⟩
 replace H : (nat_Nat_Mul.l0 k l1 y396 l0 (l0.length : Int) 0) = some r:=by first | (rw [hy396]; with_reducible exact H) | (have H2_:=(Option.bind_some _ _).symm.trans H; rw [hy396]; with_reducible exact H2_) | (have H2_:=(Option.bind_some _ _).symm.trans H; with_reducible exact H2_) | with_reducible exact H | (rw [hy396]; exact H) | exact H
 have Ny396:=Aside0.mk hy396
 clear hy396
 have H':=Aside0.mk H
 clear H
 go_enter Try.func67,Try.ntmps67
 go_wp2_with (first | ((with_reducible refine gate_dst (N:=16) rfl ?_); refine Kd.R_make (Kd.int .u32) _ 123 rfl (N:=16) rfl 47 _ _ rfl ji3 rfl rfl Try.underlying47 (.int .u32 0) 4 info123 rfl (by decide) (by omega) 0 (ok:=fun _=>True) (okp:=fun _=>True) rfl (fun _ hk=>hk) trivial (of_decide_eq_true (by first | (with_reducible assumption) | assumption)) (Nat.le_trans (Nat.mul_le_mul_right _ (of_decide_eq_true (by first | (with_reducible assumption) | assumption) : ji3.toNat ≤ 70368744177664)) (by omega)) (Below.refl _ _) (Nat.le_refl _) ?_; intro v397 w6 ho7 hb hg_ hnew_; clear hg_ hnew_; (first | rw [← Ny396.out] at ho7 | (simp only [Int.reduceToNat] at ho7; rw [← Ny396.out] at ho7)); have HO398:=Aside0.mk (Kd.R_lower (Kd.R_newM (M:=fun k_=>(w.heap.size ≤ k_)) ho7 (below_size bh_) (fun k_ h_=>h_)) (below_size bh_)); replace HB:=bq_ hb; clear hb ho7))
 (try simp only [Act.put,p1_,p2_,p3_])
 go_loopg [19] k (fun kq v19 w'=>∃ (x5_1 : List Int) (x19_1 : Int),v19 = .int .i64 x19_1 ∧ Aside0 (nat_Nat_Mul.l0 kq l1 x5_1 l0 (l0.length : Int) x19_1 = some r) ∧ Aside0 (kq ≤ k) ∧ Aside0 (Kd.R (Kd.int .u32) 123 w' w.heap.size (fun k_=>(w.heap.size ≤ k_)) v397 x5_1) ∧ Aside0 (Below w.heap.size w w'))
 case atStart=>exact ⟨(y396),(0),(sh_),H',⟨Nat.le_refl _⟩,⟨by (with_reducible repeat (first | apply ra_ | apply rn_ | apply rd_)); exact Kd.R_mono HO398.out (fun _ hk=>hk.1)⟩,⟨bh_⟩⟩
 case round =>
  clear H'
  try clear c1
  try clear p2
  try clear c4
  try clear c4b0
  try clear c4b1
  try clear c5
  try clear c5b0
  try clear c5b1
  try clear c6
  try clear p6
  obtain ⟨x5_1,x19_1,rfl,HA,HK1,HO_5,HB⟩:=hrel
  cases gk with
  | zero=>exact absurd HA.out (by simp [nat_Nat_Mul.l0])
  | succ k1 =>
   have H:=HA.out
   clear HA
   simp only [nat_Nat_Mul.l0] at H
   by_cases c8 : x19_1 < (l0.length : Int)
   case neg =>
    rw [if_neg c8] at H
    have c8b0 : decide (x19_1 < (l0.length : Int)) = false:=decide_eq_false c8
    clear c8
    replace H:=Option.bind_eq_some_iff.mp H
    obtain ⟨t399,A270,H⟩:=H
    replace H : (some t399) = some r:=H
    have A27:=Aside0.mk A270
    clear A270
    obtain rfl:=Option.some.inj H
    obtain ⟨Ao28,co28,eo28⟩:=Kd.R_slice HO_5.out
    subst eo28
    go_wp2_with (first | ((with_reducible refine gc_ 85 rfl ?_); refine gM_ (some 66) Try.func85 [.slice Ao28 x5_1.length co28] ?_; (with_reducible refine (nat_trim.calls k1 (fun k_=>some k_ = (.slice Ao28 x5_1.length co28 : Value).ownBlock) _ _ x5_1 t399 _ ?side1 A27.out).mono ?_); (case side1=>exact Kd.R_V (Kd.R_tight rfl (HO_5.out))); rintro e w29 ⟨v400,rfl,ho0,hb⟩; refine ⟨_,rfl,?_⟩; have HO401:=Aside0.mk (Kd.V_lower (Kd.V_mono (ok':=fun k_=>(w.heap.size ≤ k_)) ho0 (fun k_ hk_=>Or.elim hk_ (fun hs_=>((HO_5.out).1 k_ hs_.symm)) (fun hn_=>(Nat.le_trans (below_size bh_) hn_)))) (below_size bh_)); replace HB:=bq_ hb))
    go_ret
    exact ⟨_,by first | rfl | (simp [errW_none,errW_some] <;> rfl) | (simp only [← hji3]; first | rfl | (simp [errW_none,errW_some] <;> rfl)) | (simp [*,errW_none,errW_some] <;> rfl),by (with_reducible repeat (first | apply va_ | apply vn_ | apply vd_)); exact HO401.out,bh_⟩
   rw [if_pos c8] at H
   have c8b0 : decide (x19_1 < (l0.length : Int)) = true:=decide_eq_true c8
   clear c8
   by_cases c9 : 0 ≤ x19_1
   case neg =>
    rw [if_neg c9] at H
    exact absurd H (by simp)
   rw [if_pos c9] at H
   have c9b0 : decide (0 ≤ x19_1) = true:=decide_eq_true c9
   clear c9
   by_cases c10 : x19_1 < (l0.length : Int)
   case neg =>
    rw [if_neg c10] at H
    exact absurd H (by simp)
   rw [if_pos c10] at H
   have c10b0 : decide (x19_1 < (l0.length : Int)) = true:=decide_eq_true c10
   clear c10
   have H':=Aside0.mk H
   clear H
   have p402 : 0 ≤ (x19_1 : Int):=of_decide_eq_true (by first | (with_reducible assumption) | assumption)
   have q402 : x19_1 < (l0.length : Int):=of_decide_eq_true (by first | (with_reducible assumption) | assumption)
   obtain ⟨ad402,e402,hx402_0⟩:=Kd.at_int HR0.out x19_1 p402 q402
   cases e402
   replace hx402_0:=(HB.out.cell (World.block_lt_of_cell? w _ hx402_0)).trans hx402_0
   replace p402:=eq_true p402
   replace q402:=eq_true q402
   go_wp2
   (try simp only [Act.put,p1_,p2_,p3_])
   go_loopg [8,26] k1 (fun kq v8 v26 w'=>∃ (x5_2 : List Int) (x8_2 : Int) (x26_2 : Int),v8 = .int .u64 x8_2 ∧ v26 = .int .i64 x26_2 ∧ Aside0 (nat_Nat_Mul.l1 kq l1 x5_2 x19_1 (rd l0 x19_1) x8_2 l0 (l0.length : Int) x19_1 l1 (l1.length : Int) x26_2 = some r) ∧ Aside0 (kq ≤ k1) ∧ Aside0 (Kd.R (Kd.int .u32) 123 w' w.heap.size (fun k_=>(w.heap.size ≤ k_)) v397 x5_2) ∧ Aside0 (Below w.heap.size w w'))
   case atStart=>exact ⟨(x5_1),(0),(0),(sh_),(sh_),H',⟨Nat.le_refl _⟩,⟨by (with_reducible repeat (first | apply ra_ | apply rn_ | apply rd_)); exact HO_5.out⟩,⟨bh_⟩⟩
   case round =>
    clear H'
    try clear c1
    try clear p2
    try clear c4
    try clear c4b0
    try clear c4b1
    try clear p4
    try clear q4
    try clear hx4
    try clear c5
    try clear c5b0
    try clear c5b1
    try clear c6
    try clear p6
    try clear c8
    try clear c8b0
    try clear c9
    try clear c9b0
    try clear c10
    try clear c10b0
    try clear hx402_0
    try clear p2
    try clear p402
    try clear p6
    try clear q402
    obtain ⟨x5_2,x8_2,x26_2,rfl,rfl,HA,HK2,HO_5,HB⟩:=hrel
    cases gk with
    | zero=>exact absurd HA.out (by simp [nat_Nat_Mul.l1])
    | succ k2 =>
     have H:=HA.out
     clear HA
     simp only [nat_Nat_Mul.l1] at H
     by_cases c11 : x26_2 < (l1.length : Int)
     case neg =>
      rw [if_neg c11] at H
      have c11b0 : decide (x26_2 < (l1.length : Int)) = false:=decide_eq_false c11
      clear c11
      obtain ⟨ji21,hji21⟩ : ∃ j_ : Int,(wrap64 (x19_1 + (l1.length : Int))) = j_:=⟨_,rfl⟩
      replace H : (if 0 ≤ (ji21) then (if (ji21) < (x5_2.length : Int) then (nat_Nat_Mul.l0 k2 l1 (x5_2.set ((ji21) : Int).toNat ((x8_2) % 4294967296)) l0 (l0.length : Int) (wrap64 (x19_1 + 1))) else (none)) else (none)) = some r:=by first | (rw [hji21] at H; exact H) | (simp only [hji21] at H ⊢; exact H)
      have hji21w : (IntKind.i64.wrap (x19_1 + (l1.length : Int))) = ji21:=(i64_w _).trans hji21
      by_cases c22 : 0 ≤ (ji21)
      case neg =>
       rw [if_neg c22] at H
       exact absurd H (by simp)
      rw [if_pos c22] at H
      have c22b0 : decide (0 ≤ (ji21)) = true:=decide_eq_true c22
      clear c22
      by_cases c23 : (ji21) < (x5_2.length : Int)
      case neg =>
       rw [if_neg c23] at H
       exact absurd H (by simp)
      rw [if_pos c23] at H
      have c23b0 : decide ((ji21) < (x5_2.length : Int)) = true:=decide_eq_true c23
      clear c23
      obtain ⟨y406,hy406⟩ : ∃ y_ : List Int,y_ = (x5_2.set ((ji21) : Int).toNat ((x8_2) % 4294967296)):=⟨_,rfl⟩
      replace H : (nat_Nat_Mul.l0 k2 l1 y406 l0 (l0.length : Int) (wrap64 (x19_1 + 1))) = some r:=by first | (rw [hy406]; with_reducible exact H) | (have H2_:=(Option.bind_some _ _).symm.trans H; rw [hy406]; with_reducible exact H2_) | (have H2_:=(Option.bind_some _ _).symm.trans H; with_reducible exact H2_) | with_reducible exact H | (rw [hy406]; exact H) | exact H
      have Ny406:=Aside0.mk hy406
      clear hy406
      have H':=Aside0.mk H
      clear H
      have p24 : 0 ≤ ((ji21) : Int):=of_decide_eq_true (by first | (with_reducible assumption) | assumption)
      have q24 : ((ji21) : Int) < ((x5_2.length : Int) : Int):=of_decide_eq_true (by first | (with_reducible assumption) | assumption)
      obtain ⟨go24,co24,eo24,gb24,gl24,cl24,HG24⟩:=Kd.R_form HO_5.out (by omega)
      (first | cases eo24 | (injection eo24 with ea_ en_ ec_; (first | subst ea_ | (injection ea_ with ea_; subst ea_)); subst ec_; clear en_))
      have GB24:=Aside0.mk gb24
      have GG24:=Aside0.mk HG24
      clear gb24 gl24 HG24
      obtain ⟨hx24_0,hf24_0⟩:=Kd.R_celln 0 HO_5.out ((ji21) : Int) p24 q24
      replace p24:=eq_true p24
      replace q24:=eq_true q24
      have HP25:=Kd.R_putg HO_5.out ((ji21) : Int) ((x8_2) % 4294967296)
      go_wp2_with (first | ((with_reducible refine gate_store (t:=123) (p:=63) rfl ?_); refine store_event (t:=123) (p:=63) (v:=?vo_w26) (w1:=(wr.setCell ⟨go24,((ji21) : Int).toNat,none⟩ (.int .u32 ((x8_2) % 4294967296)))) ?hg ?ho ?hn ?hr ?_; (case ho=>rfl); (case hg=>rfl); (case hn=>rfl); (case hr=>first | (go_simp; done) | (go_simp; rfl)); intro w26 hw; have hg : wr.grownBy w26 (some go24):=(by rw [hw]; exact HP25.2); have hp_ : Kd.R (Kd.int .u32) 123 w26 w.heap.size (fun k_=>(w.heap.size ≤ k_)) (.slice (some ⟨go24,0,none⟩) x5_2.length co24) y406:=(by rw [hw,Ny406.out]; exact HP25.1); clear HP25; replace HO_5:=Aside0.mk (hp_); replace HB:=Aside0.mk ((by rw [hw]; exact below_set (HB.out) GB24.out : Below w.heap.size w w26)); clear hg hw hp_))
      go_roundg k2
      case measure=>have:=HK1.out; have:=HK2.out; omega
      case rel=>exact ⟨(y406),(wrap64 (x19_1 + 1)),(sh_),H',⟨by have:=HK1.out; have:=HK2.out; omega⟩,⟨by (with_reducible repeat (first | apply ra_ | apply rn_ | apply rd_)); exact HO_5.out⟩,⟨bh_⟩⟩
     rw [if_pos c11] at H
     have c11b0 : decide (x26_2 < (l1.length : Int)) = true:=decide_eq_true c11
     clear c11
     by_cases c12 : 0 ≤ x26_2
     case neg =>
      rw [if_neg c12] at H
      exact absurd H (by simp)
     rw [if_pos c12] at H
     have c12b0 : decide (0 ≤ x26_2) = true:=decide_eq_true c12
     clear c12
     by_cases c13 : x26_2 < (l1.length : Int)
     case neg =>
      rw [if_neg c13] at H
      exact absurd H (by simp)
     rw [if_pos c13] at H
     have c13b0 : decide (x26_2 < (l1.length : Int)) = true:=decide_eq_true c13
     clear c13
     obtain ⟨ji14,hji14⟩ : ∃ j_ : Int,(wrap64 (x19_1 + x26_2)) = j_:=⟨_,rfl⟩
     replace H : (if 0 ≤ (ji14) then (if (ji14) < (x5_2.length : Int) then (nat_Nat_Mul.l1 k2 l1 (x5_2.set ((ji14) : Int).toNat ((IntKind.u64.wrap (x8_2 + (IntKind.u64.wrap ((IntKind.u64.wrap ((IntKind.u64.wrap ((rd l0 x19_1))) * (IntKind.u64.wrap (rd l1 x26_2)))) + (IntKind.u64.wrap (rd x5_2 (ji14))))))) % 4294967296)) x19_1 (rd l0 x19_1) ((IntKind.u64.wrap (x8_2 + (IntKind.u64.wrap ((IntKind.u64.wrap ((IntKind.u64.wrap ((rd l0 x19_1))) * (IntKind.u64.wrap (rd l1 x26_2)))) + (IntKind.u64.wrap (rd x5_2 (ji14))))))) / 4294967296) l0 (l0.length : Int) x19_1 l1 (l1.length : Int) (wrap64 (x26_2 + 1))) else (none)) else (none)) = some r:=by first | (rw [hji14] at H; exact H) | (simp only [hji14] at H ⊢; exact H)
     have hji14w : (IntKind.i64.wrap (x19_1 + x26_2)) = ji14:=(i64_w _).trans hji14
     by_cases c15 : 0 ≤ (ji14)
     case neg =>
      rw [if_neg c15] at H
      exact absurd H (by simp)
     rw [if_pos c15] at H
     have c15b0 : decide (0 ≤ (ji14)) = true:=decide_eq_true c15
     clear c15
     by_cases c16 : (ji14) < (x5_2.length : Int)
     case neg =>
      rw [if_neg c16] at H
      exact absurd H (by simp)
     rw [if_pos c16] at H
     have c16b0 : decide ((ji14) < (x5_2.length : Int)) = true:=decide_eq_true c16
     clear c16
     obtain ⟨y405,hy405⟩ : ∃ y_ : List Int,y_ = (x5_2.set ((ji14) : Int).toNat ((IntKind.u64.wrap (x8_2 + (IntKind.u64.wrap ((IntKind.u64.wrap ((IntKind.u64.wrap ((rd l0 x19_1))) * (IntKind.u64.wrap (rd l1 x26_2)))) + (IntKind.u64.wrap (rd x5_2 (ji14))))))) % 4294967296)):=⟨_,rfl⟩
     replace H : (nat_Nat_Mul.l1 k2 l1 y405 x19_1 (rd l0 x19_1) ((IntKind.u64.wrap (x8_2 + (IntKind.u64.wrap ((IntKind.u64.wrap ((IntKind.u64.wrap ((rd l0 x19_1))) * (IntKind.u64.wrap (rd l1 x26_2)))) + (IntKind.u64.wrap (rd x5_2 (ji14))))))) / 4294967296) l0 (l0.length : Int) x19_1 l1 (l1.length : Int) (wrap64 (x26_2 + 1))) = some r:=by first | (rw [hy405]; with_reducible exact H) | (have H2_:=(Option.bind_some _ _).symm.trans H; rw [hy405]; with_reducible exact H2_) | (have H2_:=(Option.bind_some _ _).symm.trans H; with_reducible exact H2_) | with_reducible exact H | (rw [hy405]; exact H) | exact H
     have Ny405:=Aside0.mk hy405
     clear hy405
     have H':=Aside0.mk H
     clear H
     have p403 : 0 ≤ (x26_2 : Int):=of_decide_eq_true (by first | (with_reducible assumption) | assumption)
     have q403 : x26_2 < (l1.length : Int):=of_decide_eq_true (by first | (with_reducible assumption) | assumption)
     obtain ⟨ad403,e403,hx403_0⟩:=Kd.at_int HR1.out x26_2 p403 q403
     cases e403
     replace hx403_0:=(HB.out.cell (World.block_lt_of_cell? w _ hx403_0)).trans hx403_0
     replace p403:=eq_true p403
     replace q403:=eq_true q403
     obtain ⟨Ao18,co18,eo18⟩:=Kd.R_slice HO_5.out
     subst eo18
     have p404 : 0 ≤ ((ji14) : Int):=of_decide_eq_true (by first | (with_reducible assumption) | assumption)
     have q404 : (ji14) < (x5_2.length : Int):=of_decide_eq_true (by first | (with_reducible assumption) | assumption)
     obtain ⟨ad404,e404,hx404_0⟩:=Kd.at_int (Kd.R_reads' HO_5.out).2.2 (ji14) p404 q404
     cases e404
     replace p404:=eq_true p404
     replace q404:=eq_true q404
     have p17 : 0 ≤ ((ji14) : Int):=of_decide_eq_true (by first | (with_reducible assumption) | assumption)
     have q17 : ((ji14) : Int) < ((x5_2.length : Int) : Int):=of_decide_eq_true (by first | (with_reducible assumption) | assumption)
     obtain ⟨go17,co17,eo17,gb17,gl17,cl17,HG17⟩:=Kd.R_form HO_5.out (by omega)
     (first | cases eo17 | (injection eo17 with ea_ en_ ec_; (first | subst ea_ | (injection ea_ with ea_; subst ea_)); subst ec_; clear en_))
     have GB17:=Aside0.mk gb17
     have GG17:=Aside0.mk HG17
     clear gb17 gl17 HG17
     (first | simp only [add_plain] at hx404_0 | skip)
     obtain ⟨hx17_0,hf17_0⟩:=Kd.R_celln 0 HO_5.out ((ji14) : Int) p17 q17
     replace p17:=eq_true p17
     replace q17:=eq_true q17
     have HP19:=Kd.R_putg HO_5.out ((ji14) : Int) ((IntKind.u64.wrap (x8_2 + (IntKind.u64.wrap ((IntKind.u64.wrap ((IntKind.u64.wrap ((rd l0 x19_1))) * (IntKind.u64.wrap (rd l1 x26_2)))) + (IntKind.u64.wrap (rd x5_2 (ji14))))))) % 4294967296)
     go_wp2_with (first | ((with_reducible refine gate_store (t:=123) (p:=52) rfl ?_); refine store_event (t:=123) (p:=52) (v:=?vo_w20) (w1:=(wr.setCell ⟨go17,((ji14) : Int).toNat,none⟩ (.int .u32 ((IntKind.u64.wrap (x8_2 + (IntKind.u64.wrap ((IntKind.u64.wrap ((IntKind.u64.wrap ((rd l0 x19_1))) * (IntKind.u64.wrap (rd l1 x26_2)))) + (IntKind.u64.wrap (rd x5_2 (ji14))))))) % 4294967296)))) ?hg ?ho ?hn ?hr ?_; (case ho=>rfl); (case hg=>rfl); (case hn=>rfl); (case hr=>first | (go_simp; done) | (go_simp; rfl)); intro w20 hw; have hg : wr.grownBy w20 (some go17):=(by rw [hw]; exact HP19.2); have hp_ : Kd.R (Kd.int .u32) 123 w20 w.heap.size (fun k_=>(w.heap.size ≤ k_)) (.slice (some ⟨go17,0,none⟩) x5_2.length co18) y405:=(by rw [hw,Ny405.out]; exact HP19.1); clear HP19; replace HO_5:=Aside0.mk (hp_); replace HB:=Aside0.mk ((by rw [hw]; exact below_set (HB.out) GB17.out : Below w.heap.size w w20)); clear hg hw hp_))
     go_roundg k2
     case measure=>have:=HK1.out; have:=HK2.out; omega
     case rel=>exact ⟨(y405),((IntKind.u64.wrap (x8_2 + (IntKind.u64.wrap ((IntKind.u64.wrap ((IntKind.u64.wrap ((rd l0 x19_1))) * (IntKind.u64.wrap (rd l1 x26_2)))) + (IntKind.u64.wrap (rd x5_2 (ji14))))))) / 4294967296),(wrap64 (x26_2 + 1)),(by first | rfl | (simp; done) | (simp only [← hji14] <;> (first | rfl | simp)) | (simp [*]; done)),(sh_),H',⟨by have:=HK1.out; have:=HK2.out; omega⟩,⟨by (with_reducible repeat (first | apply ra_ | apply rn_ | apply rd_)); exact HO_5.out⟩,⟨bh_⟩⟩

/-! ### nat_Nat_Add: function 104 -/
def nat_Nat_Add.l0 : Nat → List Int → List Int → List Int → Int → Int → Int → Option (List Int)
 | 0,_,_,_,_,_,_=>none
 | k + 1,x0,x1,x5,x6,x12,x13=>if x13 < x12 then ((nat_Nat_at.f x0 x13).bind fun t439=>((nat_Nat_at.f x1 x13).bind fun t440=>(if x5.length < 35184372088832 then (nat_Nat_Add.l0 k x0 x1 (x5 ++ [(IntKind.u64.wrap (x6 + (IntKind.u64.wrap (t439 + t440)))) % 4294967296]) ((IntKind.u64.wrap (x6 + (IntKind.u64.wrap (t439 + t440)))) / 4294967296) x12 (wrap64 (x13 + 1))) else (none)))) else (if x5.length < 35184372088832 then ((nat_trim.f k (x5 ++ [(x6) % 4294967296])).bind fun t447=>(some t447)) else (none))
def nat_Nat_Add.f (k : Nat) (l0 : List Int) (l1 : List Int) : Option (List Int):=nat_Nat_Add.l0 k l0 l1 ([] : List Int) 0 (mx (l0.length : Int) (l1.length : Int)) 0
theorem nat_Nat_Add.mono_l : ∀ k,(∀ y0 y1 y2 y3 y4 y5,LeO (nat_Nat_Add.l0 k y0 y1 y2 y3 y4 y5) (nat_Nat_Add.l0 (k + 1) y0 y1 y2 y3 y4 y5))
 | 0=>fun _ _ _ _ _ _ r h=>by simp [nat_Nat_Add.l0] at h
 | k + 1=>by
  have ih0:=nat_Nat_Add.mono_l k
  ·
   intro y0 y1 y2 y3 y4 y5
   unfold nat_Nat_Add.l0
   repeat' with_reducible first | exact ih0 _ _ _ _ _ _ | exact nat_trim.mono _ _ | exact LeO.refl _ | exact LeO.none _ | refine LeO.ite ?_ ?_ | refine LeO.bind ?_ (fun _=>?_)
theorem nat_Nat_Add.mono : ∀ a0 a1 k,LeO (nat_Nat_Add.f k a0 a1) (nat_Nat_Add.f (k + 1) a0 a1):=by
 intro a0 a1 k
 have ih0:=nat_Nat_Add.mono_l k
 unfold nat_Nat_Add.f
 repeat' with_reducible first | exact ih0 _ _ _ _ _ _ | exact nat_trim.mono _ _ | exact LeO.refl _ | exact LeO.none _ | refine LeO.ite ?_ ?_ | refine LeO.bind ?_ (fun _=>?_)
set_option maxHeartbeats 8000000 in
set_option maxRecDepth 100000 in
theorem nat_Nat_Add.calls (k : Nat) (A0 : Option Addr) (c0 : Nat) (l0 : List Int) (A1 : Option Addr) (c1 : Nat) (l1 : List Int) (r : List Int) (w : World) (hr0 : Kd.C (Kd.int .u32) w A0 l0.length l0) (hc0 : l0.length ≤ c0) (hr1 : Kd.C (Kd.int .u32) w A1 l1.length l1) (hc1 : l1.length ≤ c1) (h : nat_Nat_Add.f k l0 l1 = some r) :
  Calls Try.prog 104 #[.slice A0 l0.length c0,.slice A1 l1.length c1] w fun e w'=>∃ v0_ : Value,e = .returned (v0_) ∧ Kd.V (Kd.int .u32) 123 w' w.heap.size (fun k_=>(w.heap.size ≤ k_)) v0_ r ∧ Below w.heap.size w w':=by
 have HR0:=Aside0.mk hr0
 have HC0:=Aside0.mk hc0
 clear hr0 hc0
 have HR1:=Aside0.mk hr1
 have HC1:=Aside0.mk hc1
 clear hr1 hc1
 have HB:=Aside0.mk (Below.refl w.heap.size w)
 have H : (nat_Nat_Add.l0 k l0 l1 ([] : List Int) 0 (mx (l0.length : Int) (l1.length : Int)) 0) = some r:=h
 clear h
 obtain ⟨ji3,hji3⟩ : ∃ j_ : Int,(mx (l0.length : Int) (l1.length : Int)) = j_:=⟨_,rfl⟩
 replace H : (nat_Nat_Add.l0 k l0 l1 ([] : List Int) 0 ji3 0) = some r:=by first | (rw [hji3] at H; exact H) | (simp only [hji3] at H ⊢; exact H)
 (try (have hji3l : 0 ≤ ji3:=by (rw [← hji3]; unfold mx; (repeat' split) <;> omega)))
 (try (have hji3m : 0 ≤ ji3:=by omega))
 have hji3_ : (if (l0.length : Int) < (l1.length : Int) then (l1.length : Int) else (l0.length : Int)) = ji3:=hji3
 have hji3n_ : (if l0.length < l1.length then (l1.length : Int) else (l0.length : Int)) = ji3:=by rw [← hji3_]; simp only [Int.ofNat_lt]
 have H':=Aside0.mk H
 clear H
 go_enter Try.func104,Try.ntmps104
 go_wp2
 (try simp only [Act.put,p1_,p2_,p3_])
 go_loopg [5,6,13] k (fun kq v5 v6 v13 w'=>∃ (x5_1 : List Int) (x6_1 : Int) (x13_1 : Int),v6 = .int .u64 x6_1 ∧ v13 = .int .i64 x13_1 ∧ Aside0 (nat_Nat_Add.l0 kq l0 l1 x5_1 x6_1 ji3 x13_1 = some r) ∧ Aside0 (kq ≤ k) ∧ Aside0 (Kd.R (Kd.int .u32) 123 w' w.heap.size (fun k_=>(w.heap.size ≤ k_)) v5 x5_1) ∧ Aside0 (Below w.heap.size w w'))
 case atStart=>exact ⟨(([] : List Int)),(0),(0),(sh_),(sh_),H',⟨Nat.le_refl _⟩,⟨by first | exact Kd.R_nil _ _ _ _ _ | exact Kd.N_nil _ _ _ _ _ | exact Kd.V_nil _ _ _ _ _ | exact Kd.Q_nil _ _ _ _ _ | exact Kd.S_nil _ _ _ _ _⟩,⟨bh_⟩⟩
 case round =>
  clear H'
  try clear c1
  try clear p2
  obtain ⟨x5_1,x6_1,x13_1,rfl,rfl,HA,HK1,HO_5,HB⟩:=hrel
  cases gk with
  | zero=>exact absurd HA.out (by simp [nat_Nat_Add.l0])
  | succ k1 =>
   have H:=HA.out
   clear HA
   simp only [nat_Nat_Add.l0] at H
   by_cases c4 : x13_1 < ji3
   case neg =>
    rw [if_neg c4] at H
    have c4b0 : decide (x13_1 < ji3) = false:=decide_eq_false c4
    clear c4
    by_cases c9 : x5_1.length < 35184372088832
    case neg =>
     rw [if_neg c9] at H
     exact absurd H (by simp)
    rw [if_pos c9] at H
    have LMc9:=Aside0.mk c9
    clear c9
    obtain ⟨y444,hy444⟩ : ∃ y_ : List Int,y_ = (x5_1 ++ [(x6_1) % 4294967296]):=⟨_,rfl⟩
    replace H : ((nat_trim.f k1 y444).bind fun t447=>(some t447)) = some r:=by first | (rw [hy444]; with_reducible exact H) | (have H2_:=(Option.bind_some _ _).symm.trans H; rw [hy444]; with_reducible exact H2_) | (have H2_:=(Option.bind_some _ _).symm.trans H; with_reducible exact H2_) | with_reducible exact H | (rw [hy444]; exact H) | exact H
    have Ny444:=Aside0.mk hy444
    clear hy444
    replace H:=Option.bind_eq_some_iff.mp H
    obtain ⟨t447,A100,H⟩:=H
    replace H : (some t447) = some r:=H
    have A10:=Aside0.mk A100
    clear A100
    obtain rfl:=Option.some.inj H
    go_wp2_with (first | ((with_reducible refine gate_builtin (b:=.append) (xs:=#[.tmp 33,.tmp 36]) rfl ?_); at_builtin; refine Kd.R_append (Kd.int .u32) (w0:=w) w.heap.size rfl (.tmp 33) (.tmp 36) 48 123 (.int .u32 0) 4 rfl Try.underlying48 info123 rfl (by decide) (by omega) u5 x5_1 ((x6_1) % 4294967296) [.int .u32 ((x6_1) % 4294967296)] (fun k_=>(w.heap.size ≤ k_)) (fun _=>False) rfl rfl ?aP (fun _ hk=>hk.elim) ?aF ?aO ?aB ?aS ?aL ?_; (case aP=>exact rfl); (case aB=>exact bh_); (case aF=>exact (fun k_ hk=>(Nat.le_trans (below_size bh_) hk))); (case aO=>exact (by (with_reducible repeat (first | apply ra_ | apply rn_ | apply rd_)); exact HO_5.out)); (case aS=>exact (below_size bh_)); (case aL=>have:=LMc9.out; omega); intro v445 w11 ho hb hg hat; rw [← Ny444.out] at ho; replace HB:=Aside0.mk (hb); have HO446:=Aside0.mk (ho); clear ho hb hg hat; obtain ⟨Ao12,co12,eo12⟩:=Kd.R_slice HO446.out; subst eo12) | ((with_reducible refine gc_ 85 rfl ?_); refine gM_ (some 38) Try.func85 [.slice Ao12 y444.length co12] ?_; (with_reducible refine (nat_trim.calls k1 (fun k_=>some k_ = (.slice Ao12 y444.length co12 : Value).ownBlock) _ _ y444 t447 _ ?side1 A10.out).mono ?_); (case side1=>exact Kd.R_V (Kd.R_tight rfl (HO446.out))); rintro e w13 ⟨v448,rfl,ho0,hb⟩; refine ⟨_,rfl,?_⟩; have HO449:=Aside0.mk (Kd.V_lower (Kd.V_mono (ok':=fun k_=>(w.heap.size ≤ k_)) ho0 (fun k_ hk_=>Or.elim hk_ (fun hs_=>((HO446.out).1 k_ hs_.symm)) (fun hn_=>(Nat.le_trans (below_size bh_) hn_)))) (below_size bh_)); replace HB:=bq_ hb))
    go_ret
    exact ⟨_,by first | rfl | (simp [errW_none,errW_some] <;> rfl) | (simp only [← hji3]; first | rfl | (simp [errW_none,errW_some] <;> rfl)) | (simp [*,errW_none,errW_some] <;> rfl),by (with_reducible repeat (first | apply va_ | apply vn_ | apply vd_)); exact HO449.out,bh_⟩
   rw [if_pos c4] at H
   have c4b0 : decide (x13_1 < ji3) = true:=decide_eq_true c4
   clear c4
   replace H:=Option.bind_eq_some_iff.mp H
   obtain ⟨t439,A50,H⟩:=H
   replace H : ((nat_Nat_at.f l1 x13_1).bind fun t440=>(if x5_1.length < 35184372088832 then (nat_Nat_Add.l0 k1 l0 l1 (x5_1 ++ [(IntKind.u64.wrap (x6_1 + (IntKind.u64.wrap (t439 + t440)))) % 4294967296]) ((IntKind.u64.wrap (x6_1 + (IntKind.u64.wrap (t439 + t440)))) / 4294967296) ji3 (wrap64 (x13_1 + 1))) else (none))) = some r:=H
   have A5:=Aside0.mk A50
   clear A50
   replace H:=Option.bind_eq_some_iff.mp H
   obtain ⟨t440,A60,H⟩:=H
   replace H : (if x5_1.length < 35184372088832 then (nat_Nat_Add.l0 k1 l0 l1 (x5_1 ++ [(IntKind.u64.wrap (x6_1 + (IntKind.u64.wrap (t439 + t440)))) % 4294967296]) ((IntKind.u64.wrap (x6_1 + (IntKind.u64.wrap (t439 + t440)))) / 4294967296) ji3 (wrap64 (x13_1 + 1))) else (none)) = some r:=H
   have A6:=Aside0.mk A60
   clear A60
   by_cases c7 : x5_1.length < 35184372088832
   case neg =>
    rw [if_neg c7] at H
    exact absurd H (by simp)
   rw [if_pos c7] at H
   have LMc7:=Aside0.mk c7
   clear c7
   obtain ⟨y441,hy441⟩ : ∃ y_ : List Int,y_ = (x5_1 ++ [(IntKind.u64.wrap (x6_1 + (IntKind.u64.wrap (t439 + t440)))) % 4294967296]):=⟨_,rfl⟩
   replace H : (nat_Nat_Add.l0 k1 l0 l1 y441 ((IntKind.u64.wrap (x6_1 + (IntKind.u64.wrap (t439 + t440)))) / 4294967296) ji3 (wrap64 (x13_1 + 1))) = some r:=by first | (rw [hy441]; with_reducible exact H) | (have H2_:=(Option.bind_some _ _).symm.trans H; rw [hy441]; with_reducible exact H2_) | (have H2_:=(Option.bind_some _ _).symm.trans H; with_reducible exact H2_) | with_reducible exact H | (rw [hy441]; exact H) | exact H
   have Ny441:=Aside0.mk hy441
   clear hy441
   have H':=Aside0.mk H
   clear H
   go_wp2_with (first | ((with_reducible refine gc_ 102 rfl ?_); refine gM_ (some 19) Try.func102 [.slice A0 l0.length c0,.int .i64 x13_1] ?_; (with_reducible refine (nat_Nat_at.calls _ _ l0 x13_1 t439 _ ?side1 ?side2 A5.out).mono ?_); (case side1=>exact ch_ HR0.out); (case side2=>exact HC0.out); rintro e w' ⟨rfl,⟨nd,rfl⟩⟩; refine ⟨_,rfl,?_⟩) | ((with_reducible refine gc_ 102 rfl ?_); refine gM_ (some 22) Try.func102 [.slice A1 l1.length c1,.int .i64 x13_1] ?_; (with_reducible refine (nat_Nat_at.calls _ _ l1 x13_1 t440 _ ?side1 ?side2 A6.out).mono ?_); (case side1=>repeat (first | exact (Kd.C_below HR1.out bh_) | (with_reducible refine Kd.C_alloc ?_ _) | (with_reducible refine Kd.C_drewN ?_ _) | (with_reducible refine Kd.C_drew ?_))); (case side2=>exact HC1.out); rintro e w' ⟨rfl,⟨nd,rfl⟩⟩; refine ⟨_,rfl,?_⟩) | ((with_reducible refine gate_builtin (b:=.append) (xs:=#[.tmp 25,.tmp 28]) rfl ?_); at_builtin; refine Kd.R_append (Kd.int .u32) (w0:=w) w.heap.size rfl (.tmp 25) (.tmp 28) 48 123 (.int .u32 0) 4 rfl Try.underlying48 info123 rfl (by decide) (by omega) u5 x5_1 ((IntKind.u64.wrap (x6_1 + (IntKind.u64.wrap (t439 + t440)))) % 4294967296) [.int .u32 ((IntKind.u64.wrap (x6_1 + (IntKind.u64.wrap (t439 + t440)))) % 4294967296)] (fun k_=>(w.heap.size ≤ k_)) (fun _=>False) rfl rfl ?aP (fun _ hk=>hk.elim) ?aF ?aO ?aB ?aS ?aL ?_; (case aP=>exact rfl); (case aB=>exact bh_); (case aF=>exact (fun k_ hk=>(Nat.le_trans (below_size bh_) hk))); (case aO=>exact (by (with_reducible repeat (first | apply ra_ | apply rn_ | apply rd_)); exact HO_5.out)); (case aS=>exact (below_size bh_)); (case aL=>have:=LMc7.out; omega); intro v442 w8 ho hb hg hat; rw [← Ny441.out] at ho; replace HB:=Aside0.mk (hb); have HO443:=Aside0.mk (ho); clear ho hb hg hat))
   go_roundg k1
   case measure=>have:=HK1.out; omega
   case rel=>exact ⟨(y441),((IntKind.u64.wrap (x6_1 + (IntKind.u64.wrap (t439 + t440)))) / 4294967296),(wrap64 (x13_1 + 1)),(sh_),(sh_),H',⟨by have:=HK1.out; omega⟩,⟨by (with_reducible repeat (first | apply ra_ | apply rn_ | apply rd_)); exact HO443.out⟩,⟨bh_⟩⟩

/-! ### nat_Nat_Sub: function 105 -/
def nat_Nat_Sub.l0 : Nat → List Int → List Int → List Int → Int → Int → Int → Option (List Int × Bool)
 | 0,_,_,_,_,_,_=>none
 | k + 1,x0,x1,x6,x7,x15,x16=>if x16 < x15 then ((nat_Nat_at.f x0 x16).bind fun t451=>((nat_Nat_at.f x1 x16).bind fun t452=>(if x6.length < 35184372088832 then (nat_Nat_Sub.l0 k x0 x1 (x6 ++ [(IntKind.u64.wrap ((IntKind.u64.wrap (t451 - t452)) - x7)) % 4294967296]) ((IntKind.u64.wrap ((IntKind.u64.wrap (t451 - t452)) - x7)) / 9223372036854775808) x15 (wrap64 (x16 + 1))) else (none)))) else ((nat_trim.f k x6).bind fun t456=>(some (t456,true)))
def nat_Nat_Sub.f (k : Nat) (l0 : List Int) (l1 : List Int) : Option (List Int × Bool):=(nat_Nat_Cmp.f k l0 l1).bind fun t450=>(if t450 < 0 then (some (([] : List Int),false)) else (nat_Nat_Sub.l0 k l0 l1 ([] : List Int) 0 (l0.length : Int) 0))
theorem nat_Nat_Sub.mono_l : ∀ k,(∀ y0 y1 y2 y3 y4 y5,LeO (nat_Nat_Sub.l0 k y0 y1 y2 y3 y4 y5) (nat_Nat_Sub.l0 (k + 1) y0 y1 y2 y3 y4 y5))
 | 0=>fun _ _ _ _ _ _ r h=>by simp [nat_Nat_Sub.l0] at h
 | k + 1=>by
  have ih0:=nat_Nat_Sub.mono_l k
  ·
   intro y0 y1 y2 y3 y4 y5
   unfold nat_Nat_Sub.l0
   repeat' with_reducible first | exact ih0 _ _ _ _ _ _ | exact nat_Nat_Cmp.mono _ _ _ | exact nat_trim.mono _ _ | exact LeO.refl _ | exact LeO.none _ | refine LeO.ite ?_ ?_ | refine LeO.bind ?_ (fun _=>?_)
theorem nat_Nat_Sub.mono : ∀ a0 a1 k,LeO (nat_Nat_Sub.f k a0 a1) (nat_Nat_Sub.f (k + 1) a0 a1):=by
 intro a0 a1 k
 have ih0:=nat_Nat_Sub.mono_l k
 unfold nat_Nat_Sub.f
 repeat' with_reducible first | exact ih0 _ _ _ _ _ _ | exact nat_Nat_Cmp.mono _ _ _ | exact nat_trim.mono _ _ | exact LeO.refl _ | exact LeO.none _ | refine LeO.ite ?_ ?_ | refine LeO.bind ?_ (fun _=>?_)
set_option maxHeartbeats 8000000 in
set_option maxRecDepth 100000 in
theorem nat_Nat_Sub.calls (k : Nat) (A0 : Option Addr) (c0 : Nat) (l0 : List Int) (A1 : Option Addr) (c1 : Nat) (l1 : List Int) (r1 : List Int) (r2 : Bool) (w : World) (hr0 : Kd.C (Kd.int .u32) w A0 l0.length l0) (hc0 : l0.length ≤ c0) (hr1 : Kd.C (Kd.int .u32) w A1 l1.length l1) (hc1 : l1.length ≤ c1) (h : nat_Nat_Sub.f k l0 l1 = some (r1,r2)) :
  Calls Try.prog 105 #[.slice A0 l0.length c0,.slice A1 l1.length c1] w fun e w'=>∃ v0_ : Value,e = .returned (.tuple #[v0_,.bool r2]) ∧ Kd.V (Kd.int .u32) 123 w' w.heap.size (fun k_=>(w.heap.size ≤ k_)) v0_ r1 ∧ Below w.heap.size w w':=by
 have HR0:=Aside0.mk hr0
 have HC0:=Aside0.mk hc0
 clear hr0 hc0
 have HR1:=Aside0.mk hr1
 have HC1:=Aside0.mk hc1
 clear hr1 hc1
 have HB:=Aside0.mk (Below.refl w.heap.size w)
 have H : ((nat_Nat_Cmp.f k l0 l1).bind fun t450=>(if t450 < 0 then (some (([] : List Int),false)) else (nat_Nat_Sub.l0 k l0 l1 ([] : List Int) 0 (l0.length : Int) 0))) = some (r1,r2):=h
 clear h
 replace H:=Option.bind_eq_some_iff.mp H
 obtain ⟨t450,A30,H⟩:=H
 replace H : (if t450 < 0 then (some (([] : List Int),false)) else (nat_Nat_Sub.l0 k l0 l1 ([] : List Int) 0 (l0.length : Int) 0)) = some (r1,r2):=H
 have A3:=Aside0.mk A30
 clear A30
 by_cases c4 : t450 < 0
 case pos =>
  rw [if_pos c4] at H
  have c4b0 : decide (t450 < 0) = true:=decide_eq_true c4
  clear c4
  simp only [Option.some.injEq,Prod.mk.injEq] at H
  obtain ⟨rfl,rfl⟩:=H
  go_enter Try.func105,Try.ntmps105
  go_wp2_with (first | ((with_reducible refine gc_ 75 rfl ?_); refine gM_ (some 12) Try.func75 [.slice A0 l0.length c0,.slice A1 l1.length c1] ?_; (with_reducible refine (nat_Nat_Cmp.calls k _ _ l0 _ _ l1 t450 _ ?side1 ?side2 ?side3 ?side4 A3.out).mono ?_); (case side1=>repeat first | exact HR0.out | with_reducible first | apply ca_ | apply cn_ | apply cd_); (case side2=>exact HC0.out); (case side3=>repeat first | exact HR1.out | with_reducible first | apply ca_ | apply cn_ | apply cd_); (case side4=>exact HC1.out); rintro e w' ⟨rfl,⟨nd,rfl⟩⟩; refine ⟨_,rfl,?_⟩))
  go_ret2
  exact ⟨_,eh_,Kd.R_V (base:=0) (by first | exact Kd.R_nil _ _ _ _ _ | exact Kd.N_nil _ _ _ _ _ | exact Kd.V_nil _ _ _ _ _ | exact Kd.Q_nil _ _ _ _ _ | exact Kd.S_nil _ _ _ _ _),bh_⟩
 rw [if_neg c4] at H
 have c4b0 : decide (t450 < 0) = false:=decide_eq_false c4
 clear c4
 have H':=Aside0.mk H
 clear H
 go_enter Try.func105,Try.ntmps105
 go_wp2_with (first | ((with_reducible refine gc_ 75 rfl ?_); refine gM_ (some 12) Try.func75 [.slice A0 l0.length c0,.slice A1 l1.length c1] ?_; (with_reducible refine (nat_Nat_Cmp.calls k _ _ l0 _ _ l1 t450 _ ?side1 ?side2 ?side3 ?side4 A3.out).mono ?_); (case side1=>repeat first | exact HR0.out | with_reducible first | apply ca_ | apply cn_ | apply cd_); (case side2=>exact HC0.out); (case side3=>repeat first | exact HR1.out | with_reducible first | apply ca_ | apply cn_ | apply cd_); (case side4=>exact HC1.out); rintro e w' ⟨rfl,⟨nd,rfl⟩⟩; refine ⟨_,rfl,?_⟩))
 (try simp only [Act.put,p1_,p2_,p3_])
 go_loopg [6,7,16] k (fun kq v6 v7 v16 w'=>∃ (x6_1 : List Int) (x7_1 : Int) (x16_1 : Int),v7 = .int .u64 x7_1 ∧ v16 = .int .i64 x16_1 ∧ Aside0 (nat_Nat_Sub.l0 kq l0 l1 x6_1 x7_1 (l0.length : Int) x16_1 = some (r1,r2)) ∧ Aside0 (kq ≤ k) ∧ Aside0 (Kd.R (Kd.int .u32) 123 w' w.heap.size (fun k_=>(w.heap.size ≤ k_)) v6 x6_1) ∧ Aside0 (Below w.heap.size w w'))
 case atStart=>exact ⟨(([] : List Int)),(0),(0),(sh_),(sh_),H',⟨Nat.le_refl _⟩,⟨by first | exact Kd.R_nil _ _ _ _ _ | exact Kd.N_nil _ _ _ _ _ | exact Kd.V_nil _ _ _ _ _ | exact Kd.Q_nil _ _ _ _ _ | exact Kd.S_nil _ _ _ _ _⟩,⟨bh_⟩⟩
 case round =>
  clear H'
  try clear c1
  try clear p2
  try clear c4
  try clear c4b0
  obtain ⟨x6_1,x7_1,x16_1,rfl,rfl,HA,HK1,HO_6,HB⟩:=hrel
  cases gk with
  | zero=>exact absurd HA.out (by simp [nat_Nat_Sub.l0])
  | succ k1 =>
   have H:=HA.out
   clear HA
   simp only [nat_Nat_Sub.l0] at H
   by_cases c5 : x16_1 < (l0.length : Int)
   case neg =>
    rw [if_neg c5] at H
    have c5b0 : decide (x16_1 < (l0.length : Int)) = false:=decide_eq_false c5
    clear c5
    replace H:=Option.bind_eq_some_iff.mp H
    obtain ⟨t456,A100,H⟩:=H
    replace H : (some (t456,true)) = some (r1,r2):=H
    have A10:=Aside0.mk A100
    clear A100
    simp only [Option.some.injEq,Prod.mk.injEq] at H
    obtain ⟨rfl,rfl⟩:=H
    obtain ⟨Ao11,co11,eo11⟩:=Kd.R_slice HO_6.out
    subst eo11
    go_wp2_with (first | ((with_reducible refine gc_ 85 rfl ?_); refine gM_ (some 37) Try.func85 [.slice Ao11 x6_1.length co11] ?_; (with_reducible refine (nat_trim.calls k1 (fun k_=>some k_ = (.slice Ao11 x6_1.length co11 : Value).ownBlock) _ _ x6_1 t456 _ ?side1 A10.out).mono ?_); (case side1=>exact Kd.R_V (Kd.R_tight rfl (HO_6.out))); rintro e w12 ⟨v457,rfl,ho0,hb⟩; refine ⟨_,rfl,?_⟩; have HO458:=Aside0.mk (Kd.V_lower (Kd.V_mono (ok':=fun k_=>(w.heap.size ≤ k_)) ho0 (fun k_ hk_=>Or.elim hk_ (fun hs_=>((HO_6.out).1 k_ hs_.symm)) (fun hn_=>(Nat.le_trans (below_size bh_) hn_)))) (below_size bh_)); replace HB:=bq_ hb))
    go_ret2
    exact ⟨_,eh_,by (with_reducible repeat (first | apply va_ | apply vn_ | apply vd_)); exact HO458.out,bh_⟩
   rw [if_pos c5] at H
   have c5b0 : decide (x16_1 < (l0.length : Int)) = true:=decide_eq_true c5
   clear c5
   replace H:=Option.bind_eq_some_iff.mp H
   obtain ⟨t451,A60,H⟩:=H
   replace H : ((nat_Nat_at.f l1 x16_1).bind fun t452=>(if x6_1.length < 35184372088832 then (nat_Nat_Sub.l0 k1 l0 l1 (x6_1 ++ [(IntKind.u64.wrap ((IntKind.u64.wrap (t451 - t452)) - x7_1)) % 4294967296]) ((IntKind.u64.wrap ((IntKind.u64.wrap (t451 - t452)) - x7_1)) / 9223372036854775808) (l0.length : Int) (wrap64 (x16_1 + 1))) else (none))) = some (r1,r2):=H
   have A6:=Aside0.mk A60
   clear A60
   replace H:=Option.bind_eq_some_iff.mp H
   obtain ⟨t452,A70,H⟩:=H
   replace H : (if x6_1.length < 35184372088832 then (nat_Nat_Sub.l0 k1 l0 l1 (x6_1 ++ [(IntKind.u64.wrap ((IntKind.u64.wrap (t451 - t452)) - x7_1)) % 4294967296]) ((IntKind.u64.wrap ((IntKind.u64.wrap (t451 - t452)) - x7_1)) / 9223372036854775808) (l0.length : Int) (wrap64 (x16_1 + 1))) else (none)) = some (r1,r2):=H
   have A7:=Aside0.mk A70
   clear A70
   by_cases c8 : x6_1.length < 35184372088832
   case neg =>
    rw [if_neg c8] at H
    exact absurd H (by simp)
   rw [if_pos c8] at H
   have LMc8:=Aside0.mk c8
   clear c8
   obtain ⟨y453,hy453⟩ : ∃ y_ : List Int,y_ = (x6_1 ++ [(IntKind.u64.wrap ((IntKind.u64.wrap (t451 - t452)) - x7_1)) % 4294967296]):=⟨_,rfl⟩
   replace H : (nat_Nat_Sub.l0 k1 l0 l1 y453 ((IntKind.u64.wrap ((IntKind.u64.wrap (t451 - t452)) - x7_1)) / 9223372036854775808) (l0.length : Int) (wrap64 (x16_1 + 1))) = some (r1,r2):=by first | (rw [hy453]; with_reducible exact H) | (have H2_:=(Option.bind_some _ _).symm.trans H; rw [hy453]; with_reducible exact H2_) | (have H2_:=(Option.bind_some _ _).symm.trans H; with_reducible exact H2_) | with_reducible exact H | (rw [hy453]; exact H) | exact H
   have Ny453:=Aside0.mk hy453
   clear hy453
   have H':=Aside0.mk H
   clear H
   go_wp2_with (first | ((with_reducible refine gc_ 102 rfl ?_); refine gM_ (some 21) Try.func102 [.slice A0 l0.length c0,.int .i64 x16_1] ?_; (with_reducible refine (nat_Nat_at.calls _ _ l0 x16_1 t451 _ ?side1 ?side2 A6.out).mono ?_); (case side1=>exact ch_ HR0.out); (case side2=>exact HC0.out); rintro e w' ⟨rfl,⟨nd,rfl⟩⟩; refine ⟨_,rfl,?_⟩) | ((with_reducible refine gc_ 102 rfl ?_); refine gM_ (some 24) Try.func102 [.slice A1 l1.length c1,.int .i64 x16_1] ?_; (with_reducible refine (nat_Nat_at.calls _ _ l1 x16_1 t452 _ ?side1 ?side2 A7.out).mono ?_); (case side1=>repeat (first | exact (Kd.C_below HR1.out bh_) | (with_reducible refine Kd.C_alloc ?_ _) | (with_reducible refine Kd.C_drewN ?_ _) | (with_reducible refine Kd.C_drew ?_))); (case side2=>exact HC1.out); rintro e w' ⟨rfl,⟨nd,rfl⟩⟩; refine ⟨_,rfl,?_⟩) | ((with_reducible refine gate_builtin (b:=.append) (xs:=#[.tmp 28,.tmp 31]) rfl ?_); at_builtin; refine Kd.R_append (Kd.int .u32) (w0:=w) w.heap.size rfl (.tmp 28) (.tmp 31) 48 123 (.int .u32 0) 4 rfl Try.underlying48 info123 rfl (by decide) (by omega) u6 x6_1 ((IntKind.u64.wrap ((IntKind.u64.wrap (t451 - t452)) - x7_1)) % 4294967296) [.int .u32 ((IntKind.u64.wrap ((IntKind.u64.wrap (t451 - t452)) - x7_1)) % 4294967296)] (fun k_=>(w.heap.size ≤ k_)) (fun _=>False) rfl rfl ?aP (fun _ hk=>hk.elim) ?aF ?aO ?aB ?aS ?aL ?_; (case aP=>exact rfl); (case aB=>exact bh_); (case aF=>exact (fun k_ hk=>(Nat.le_trans (below_size bh_) hk))); (case aO=>exact (by (with_reducible repeat (first | apply ra_ | apply rn_ | apply rd_)); exact HO_6.out)); (case aS=>exact (below_size bh_)); (case aL=>have:=LMc8.out; omega); intro v454 w9 ho hb hg hat; rw [← Ny453.out] at ho; replace HB:=Aside0.mk (hb); have HO455:=Aside0.mk (ho); clear ho hb hg hat))
   go_roundg k1
   case measure=>have:=HK1.out; omega
   case rel=>exact ⟨(y453),((IntKind.u64.wrap ((IntKind.u64.wrap (t451 - t452)) - x7_1)) / 9223372036854775808),(wrap64 (x16_1 + 1)),(sh_),(sh_),H',⟨by have:=HK1.out; omega⟩,⟨by (with_reducible repeat (first | apply ra_ | apply rn_ | apply rd_)); exact HO455.out⟩,⟨bh_⟩⟩

end Go.Proofs.Ytfglpaaeipblcaa.P
