/- Walks of one package: what each function returns, wherever the Lean function beside it has an answer. -/
import Derived.Test.YtfglpaaeipblcaaP0
import Derived.Test.YtfglpaaeipblcaaPBits1
namespace Go.Proofs.Ytfglpaaeipblcaa.P
open Go.RowKit Go.Proofs.YtfglpaaeipblcaaW.PrintWords Go.Proofs.YtfglpaaeipblcaaW.PrintLast Go.Proofs.YtfglpaaeipblcaaW.PrintMore
attribute [local go_sem] max2_int min2_int max_two min_two max_three min_three max_four min_four   -- for this text's walks alone
set_option linter.unusedVariables false
set_option linter.unusedSimpArgs false

/-! ### nat_trim: function 85 -/
def nat_trim.l0 : Nat → List Int → Option (List Int)
 | 0,_=>none
 | k + 1,x0=>if (x0.length : Int) > 0 then (if 0 ≤ (wrap64 ((x0.length : Int) - 1)) then (if (wrap64 ((x0.length : Int) - 1)) < (x0.length : Int) then (if (rd x0 (wrap64 ((x0.length : Int) - 1))) = 0 then (if (wrap64 ((x0.length : Int) - 1)) ≤ (x0.length : Int) then (nat_trim.l0 k (x0.take ((wrap64 ((x0.length : Int) - 1)) : Int).toNat)) else (none)) else (some x0)) else (none)) else (none)) else (some x0)
def nat_trim.f (k : Nat) (l0 : List Int) : Option (List Int):=nat_trim.l0 k l0
theorem nat_trim.mono_l : ∀ k,(∀ y0,LeO (nat_trim.l0 k y0) (nat_trim.l0 (k + 1) y0))
 | 0=>fun _ r h=>by simp [nat_trim.l0] at h
 | k + 1=>by
  have ih0:=nat_trim.mono_l k
  ·
   intro y0
   unfold nat_trim.l0
   repeat' with_reducible first | exact ih0 _ | exact LeO.refl _ | exact LeO.none _ | refine LeO.ite ?_ ?_ | refine LeO.bind ?_ (fun _=>?_)
theorem nat_trim.mono : ∀ a0 k,LeO (nat_trim.f k a0) (nat_trim.f (k + 1) a0):=by
 intro a0 k
 have ih0:=nat_trim.mono_l k
 unfold nat_trim.f
 repeat' with_reducible first | exact ih0 _ | exact LeO.refl _ | exact LeO.none _ | refine LeO.ite ?_ ?_ | refine LeO.bind ?_ (fun _=>?_)
set_option maxHeartbeats 8000000 in
set_option maxRecDepth 100000 in
theorem nat_trim.calls (k : Nat) (P0_ : Nat → Prop) (A0 : Option Addr) (c0 : Nat) (l0 : List Int) (r : List Int) (w : World) (hs0 : Kd.V (Kd.int .u32) 123 w w.heap.size (fun k_=>P0_ k_) (.slice A0 l0.length c0) l0) (h : nat_trim.f k l0 = some r) :
  Calls Try.prog 85 #[.slice A0 l0.length c0] w fun e w'=>∃ v0_ : Value,e = .returned (v0_) ∧ Kd.V (Kd.int .u32) 123 w' w.heap.size (fun k_=>(P0_ k_ ∨ w.heap.size ≤ k_)) v0_ r ∧ Below w.heap.size w w':=by
 have HO0:=Aside0.mk (show Kd.V (Kd.int .u32) 123 w w.heap.size (fun k_=>(P0_ k_ ∨ w.heap.size ≤ k_)) (.slice A0 l0.length c0) l0 from Kd.V_mono hs0 (fun k_ hk=>.inl hk))
 have HB:=Aside0.mk (Below.refl w.heap.size w)
 have H : (nat_trim.l0 k l0) = some r:=h
 clear h
 have H':=Aside0.mk H
 clear H
 go_enter Try.func85,Try.ntmps85
 go_wp2
 (try simp only [Act.put,p1_,p2_,p3_])
 go_loopg [0] k (fun kq v0 w'=>∃ (x0_1 : List Int),Aside0 (nat_trim.l0 kq x0_1 = some r) ∧ Aside0 (kq ≤ k) ∧ Aside0 (Kd.V (Kd.int .u32) 123 w' w.heap.size (fun k_=>(P0_ k_ ∨ w.heap.size ≤ k_)) v0 x0_1) ∧ Aside0 (Below w.heap.size w w'))
 case atStart=>exact ⟨(l0),H',⟨Nat.le_refl _⟩,⟨by (with_reducible repeat (first | apply va_ | apply vn_ | apply vd_)); exact HO0.out⟩,⟨bh_⟩⟩
 case round =>
  clear H'
  obtain ⟨x0_1,HA,HK1,HO_0,HB⟩:=hrel
  cases gk with
  | zero=>exact absurd HA.out (by simp [nat_trim.l0])
  | succ k1 =>
   have H:=HA.out
   clear HA
   simp only [nat_trim.l0] at H
   by_cases c2 : (x0_1.length : Int) > 0
   case neg =>
    rw [if_neg c2] at H
    have c2b0 : decide (0 < (x0_1.length : Int)) = false:=decide_eq_false c2
    have c2b1 : decide (0 < x0_1.length) = false:=decide_eq_false (by omega)
    clear c2
    obtain rfl:=Option.some.inj H
    obtain ⟨Ao12,co12,eo12⟩:=Kd.V_slice HO_0.out
    subst eo12
    go_wp2
    go_ret
    exact ⟨_,eh_,by (with_reducible repeat (first | apply va_ | apply vn_ | apply vd_)); exact HO_0.out,bh_⟩
   rw [if_pos c2] at H
   have c2b0 : decide (0 < (x0_1.length : Int)) = true:=decide_eq_true c2
   have c2b1 : decide (0 < x0_1.length) = true:=decide_eq_true (by omega)
   clear c2
   obtain ⟨ji3,hji3⟩ : ∃ j_ : Int,(wrap64 ((x0_1.length : Int) - 1)) = j_:=⟨_,rfl⟩
   replace H : (if 0 ≤ (ji3) then (if (ji3) < (x0_1.length : Int) then (if (rd x0_1 (ji3)) = 0 then (if (ji3) ≤ (x0_1.length : Int) then (nat_trim.l0 k1 (x0_1.take ((ji3) : Int).toNat)) else (none)) else (some x0_1)) else (none)) else (none)) = some r:=by first | (rw [hji3] at H; exact H) | (simp only [hji3] at H ⊢; exact H)
   have hji3w : (IntKind.i64.wrap ((x0_1.length : Int) - 1)) = ji3:=(i64_w _).trans hji3
   by_cases c4 : 0 ≤ (ji3)
   case neg =>
    rw [if_neg c4] at H
    exact absurd H (by simp)
   rw [if_pos c4] at H
   have c4b0 : decide (0 ≤ (ji3)) = true:=decide_eq_true c4
   clear c4
   by_cases c5 : (ji3) < (x0_1.length : Int)
   case neg =>
    rw [if_neg c5] at H
    exact absurd H (by simp)
   rw [if_pos c5] at H
   have c5b0 : decide ((ji3) < (x0_1.length : Int)) = true:=decide_eq_true c5
   clear c5
   by_cases c6 : (rd x0_1 (ji3)) = 0
   case neg =>
    rw [if_neg c6] at H
    have c6b0 : ((rd x0_1 (ji3)) == 0) = false:=beq_eq_false_iff_ne.mpr c6
    have c6b1 : ((rd x0_1 (ji3)) != 0) = true:=bne_iff_ne.mpr c6
    obtain rfl:=Option.some.inj H
    obtain ⟨Ao11,co11,eo11⟩:=Kd.V_slice HO_0.out
    subst eo11
    have p216 : 0 ≤ ((ji3) : Int):=of_decide_eq_true (by first | (with_reducible assumption) | assumption)
    have q216 : (ji3) < (x0_1.length : Int):=of_decide_eq_true (by first | (with_reducible assumption) | assumption)
    obtain ⟨ad216,e216,hx216_0⟩:=Kd.at_int (Kd.V_reads' HO_0.out).2.2 (ji3) p216 q216
    cases e216
    replace p216:=eq_true p216
    replace q216:=eq_true q216
    go_wp2
    go_ret
    exact ⟨_,by first | rfl | (simp [errW_none,errW_some] <;> rfl) | (simp only [← hji3]; first | rfl | (simp [errW_none,errW_some] <;> rfl)) | (simp [*,errW_none,errW_some] <;> rfl),by (with_reducible repeat (first | apply va_ | apply vn_ | apply vd_)); exact HO_0.out,bh_⟩
   rw [if_pos c6] at H
   have c6b0 : ((rd x0_1 (ji3)) == 0) = true:=beq_iff_eq.mpr c6
   have c6b1 : ((rd x0_1 (ji3)) != 0) = false:=bne_eq_false_iff_eq.mpr c6
   clear c6
   have c7b0:=eq_true (of_decide_eq_true (by first | (with_reducible assumption) | assumption) : 0 ≤ (ji3))
   by_cases c8 : (ji3) ≤ (x0_1.length : Int)
   case neg =>
    rw [if_neg c8] at H
    exact absurd H (by simp)
   rw [if_pos c8] at H
   have c8b0:=eq_true c8
   have c8b1 : decide ((ji3) ≤ (x0_1.length : Int)) = true:=decide_eq_true c8
   clear c8
   obtain ⟨y217,hy217⟩ : ∃ y_ : List Int,y_ = (x0_1.take ((ji3) : Int).toNat):=⟨_,rfl⟩
   replace H : (nat_trim.l0 k1 y217) = some r:=by first | (rw [hy217]; with_reducible exact H) | (have H2_:=(Option.bind_some _ _).symm.trans H; rw [hy217]; with_reducible exact H2_) | (have H2_:=(Option.bind_some _ _).symm.trans H; with_reducible exact H2_) | with_reducible exact H | (rw [hy217]; exact H) | exact H
   have Ny217:=Aside0.mk hy217
   clear hy217
   have H':=Aside0.mk H
   clear H
   obtain ⟨Ao9,co9,eo9⟩:=Kd.V_slice HO_0.out
   subst eo9
   have p216 : 0 ≤ ((ji3) : Int):=of_decide_eq_true (by first | (with_reducible assumption) | assumption)
   have q216 : (ji3) < (x0_1.length : Int):=of_decide_eq_true (by first | (with_reducible assumption) | assumption)
   obtain ⟨ad216,e216,hx216_0⟩:=Kd.at_int (Kd.V_reads' HO_0.out).2.2 (ji3) p216 q216
   cases e216
   replace p216:=eq_true p216
   replace q216:=eq_true q216
   have q10 : ((ji3) : Int) ≤ ((x0_1.length : Int) : Int):=of_decide_eq_true (by first | (with_reducible assumption) | assumption)
   obtain ⟨i010,hi010,_,hsz10,_⟩:=info_parts info123
   have hroom10 : x0_1.length ≤ co9:=(Kd.V_reads' HO_0.out).2.1
   have hC10 : Kd.F (Kd.int .u32) _ _ (some ad216) x0_1.length x0_1:=(Kd.V_at (base:=w.heap.size) HO_0.out).2.2
   have hcut10:=cut_to (P:=Try.prog) 47 123 .i64 Try.underlying47 hi010 (some ad216) x0_1.length co9 (ji3) (of_decide_eq_true (by first | (with_reducible assumption) | assumption)) q10 hroom10
   have hr10:=Kd.F_take (m:=((ji3) : Int).toNat) hC10 (by omega)
   have hy10 : y217.length = ((ji3) : Int).toNat:=(by rw [Ny217.out,List.length_take]; omega)
   rw [← Ny217.out] at hr10
   rw [← hy10] at hcut10
   have HO221:=Aside0.mk (show Kd.V (Kd.int .u32) 123 _ w.heap.size _ (.slice (some ad216) y217.length co9) y217 from Kd.V_mk (by omega) hr10)
   have HC221:=Aside0.mk (show y217.length ≤ co9 from by omega)
   clear hr10 hC10 hroom10 hi010 hsz10
   have KY10:=Aside0.mk hy10
   clear hy10
   replace q10:=eq_true q10
   go_wp2
   go_roundg k1
   case measure=>have:=HK1.out; omega
   case rel=>exact ⟨(y217),H',⟨by have:=HK1.out; omega⟩,⟨by (with_reducible repeat (first | apply va_ | apply vn_ | apply vd_)); exact HO221.out⟩,⟨bh_⟩⟩

/-! ### nat_New: function 56 -/
def nat_New.f (k : Nat) (a0 : Int) : Option (List Int):=(nat_trim.f k (([(a0) % 4294967296,(a0 / 4294967296) % 4294967296] : List Int))).bind fun t225=>(some t225)
theorem nat_New.mono : ∀ a0 k,LeO (nat_New.f k a0) (nat_New.f (k + 1) a0):=by
 intro a0 k
 unfold nat_New.f
 repeat' with_reducible first | exact nat_trim.mono _ _ | exact LeO.refl _ | exact LeO.none _ | refine LeO.ite ?_ ?_ | refine LeO.bind ?_ (fun _=>?_)
set_option maxHeartbeats 8000000 in
set_option maxRecDepth 100000 in
theorem nat_New.calls (k : Nat) (a0 : Int) (r : List Int) (w : World) (h : nat_New.f k a0 = some r) :
  Calls Try.prog 56 #[.int .u64 a0] w fun e w'=>∃ v0_ : Value,e = .returned (v0_) ∧ Kd.V (Kd.int .u32) 123 w' w.heap.size (fun k_=>(w.heap.size ≤ k_)) v0_ r ∧ Below w.heap.size w w':=by
 have HB:=Aside0.mk (Below.refl w.heap.size w)
 have H : ((nat_trim.f k (([(a0) % 4294967296,(a0 / 4294967296) % 4294967296] : List Int))).bind fun t225=>(some t225)) = some r:=h
 clear h
 obtain ⟨y222,hy222⟩ : ∃ y_ : List Int,y_ = (([(a0) % 4294967296,(a0 / 4294967296) % 4294967296] : List Int)):=⟨_,rfl⟩
 replace H : ((nat_trim.f k y222).bind fun t225=>(some t225)) = some r:=by first | (rw [hy222]; with_reducible exact H) | (have H2_:=(Option.bind_some _ _).symm.trans H; rw [hy222]; with_reducible exact H2_) | (have H2_:=(Option.bind_some _ _).symm.trans H; with_reducible exact H2_) | with_reducible exact H | (rw [hy222]; exact H) | exact H
 have Ny222:=Aside0.mk hy222
 clear hy222
 replace H:=Option.bind_eq_some_iff.mp H
 obtain ⟨t225,A20,H⟩:=H
 replace H : (some t225) = some r:=H
 have A2:=Aside0.mk A20
 clear A20
 obtain rfl:=Option.some.inj H
 go_enter Try.func56,Try.ntmps56
 go_wp2_with (first | ((with_reducible refine gate_dst (N:=8) rfl ?_); refine Kd.R_lit (Kd.int .u32) _ 123 ?hg (N:=8) ?hd (xs:=([(a0) % 4294967296,(a0 / 4294967296) % 4294967296] : List Int)) (inner:=[.int .u32 ((a0) % 4294967296),.int .u32 ((a0 / 4294967296) % 4294967296)]) (ok:=fun _=>True) (okp:=fun _=>True) ?hr ?hp (fun _ hk=>hk) trivial (Below.refl _ _) (Nat.le_refl _) (by simp) ?_; (case hd=>rfl); (case hg=>rfl); (case hr=>first | (go_simp; done) | (go_simp; rfl)); (case hp=>exact (Reps.one (show Kd.M (Kd.int .u32) _ _ _ ((a0) % 4294967296) [.int .u32 ((a0) % 4294967296)] from rfl) (Reps.one (show Kd.M (Kd.int .u32) _ _ _ ((a0 / 4294967296) % 4294967296) [.int .u32 ((a0 / 4294967296) % 4294967296)] from rfl) (Reps.none _ _)))); intro v223 w3 ho4 hb hg_ hnew_; clear hg_ hnew_; (first | rw [← Ny222.out] at ho4 | (simp only [Int.reduceToNat] at ho4; rw [← Ny222.out] at ho4)); have HO224:=Aside0.mk (Kd.R_lower (Kd.R_newM (M:=fun k_=>(w.heap.size ≤ k_)) ho4 (below_size bh_) (fun k_ h_=>h_)) (below_size bh_)); replace HB:=bq_ hb; clear hb ho4; obtain ⟨Ao5,co5,eo5⟩:=Kd.R_slice HO224.out; subst eo5) | ((with_reducible refine gc_ 85 rfl ?_); refine gM_ (some 9) Try.func85 [.slice Ao5 y222.length co5] ?_; (with_reducible refine (nat_trim.calls k (fun k_=>some k_ = (.slice Ao5 y222.length co5 : Value).ownBlock) _ _ y222 t225 _ ?side1 A2.out).mono ?_); (case side1=>exact Kd.R_V (Kd.R_tight rfl (HO224.out))); rintro e w6 ⟨v226,rfl,ho0,hb⟩; refine ⟨_,rfl,?_⟩; have HO227:=Aside0.mk (Kd.V_lower (Kd.V_mono (ok':=fun k_=>(w.heap.size ≤ k_)) ho0 (fun k_ hk_=>Or.elim hk_ (fun hs_=>((HO224.out).1 k_ hs_.symm).1) (fun hn_=>(Nat.le_trans (below_size bh_) hn_)))) (below_size bh_)); replace HB:=bq_ hb))
 go_ret
 exact ⟨_,eh_,by (with_reducible repeat (first | apply va_ | apply vn_ | apply vd_)); exact HO227.out,bh_⟩

/-! ### nat_Nat_Len: function 66 -/
def nat_Nat_Len.f (k : Nat) (l0 : List Int) : Option (Int):=(nat_trim.f k l0).bind fun t228=>(if (t228.length : Int) = 0 then (some 0) else (if 0 ≤ (wrap64 ((t228.length : Int) - 1)) then (if (wrap64 ((t228.length : Int) - 1)) < (t228.length : Int) then ((bits_Len32.f (rd t228 (wrap64 ((t228.length : Int) - 1)))).bind fun t232=>(some (wrap64 ((wrap64 (32 * (wrap64 ((t228.length : Int) - 1)))) + t232)))) else (none)) else (none)))
theorem nat_Nat_Len.mono : ∀ a0 k,LeO (nat_Nat_Len.f k a0) (nat_Nat_Len.f (k + 1) a0):=by
 intro a0 k
 unfold nat_Nat_Len.f
 repeat' with_reducible first | exact nat_trim.mono _ _ | exact LeO.refl _ | exact LeO.none _ | refine LeO.ite ?_ ?_ | refine LeO.bind ?_ (fun _=>?_)
set_option maxHeartbeats 8000000 in
set_option maxRecDepth 100000 in
theorem nat_Nat_Len.calls (k : Nat) (A0 : Option Addr) (c0 : Nat) (l0 : List Int) (r : Int) (w : World) (hr0 : Kd.C (Kd.int .u32) w A0 l0.length l0) (hc0 : l0.length ≤ c0) (h : nat_Nat_Len.f k l0 = some r) :
  Calls Try.prog 66 #[.slice A0 l0.length c0] w fun e w'=>e = .returned (.int .i64 r) ∧ Below w.heap.size w w':=by
 have HR0:=Aside0.mk hr0
 have HC0:=Aside0.mk hc0
 clear hr0 hc0
 have HB:=Aside0.mk (Below.refl w.heap.size w)
 have H : ((nat_trim.f k l0).bind fun t228=>(if (t228.length : Int) = 0 then (some 0) else (if 0 ≤ (wrap64 ((t228.length : Int) - 1)) then (if (wrap64 ((t228.length : Int) - 1)) < (t228.length : Int) then ((bits_Len32.f (rd t228 (wrap64 ((t228.length : Int) - 1)))).bind fun t232=>(some (wrap64 ((wrap64 (32 * (wrap64 ((t228.length : Int) - 1)))) + t232)))) else (none)) else (none)))) = some r:=h
 clear h
 replace H:=Option.bind_eq_some_iff.mp H
 obtain ⟨t228,A20,H⟩:=H
 replace H : (if (t228.length : Int) = 0 then (some 0) else (if 0 ≤ (wrap64 ((t228.length : Int) - 1)) then (if (wrap64 ((t228.length : Int) - 1)) < (t228.length : Int) then ((bits_Len32.f (rd t228 (wrap64 ((t228.length : Int) - 1)))).bind fun t232=>(some (wrap64 ((wrap64 (32 * (wrap64 ((t228.length : Int) - 1)))) + t232)))) else (none)) else (none))) = some r:=H
 have A2:=Aside0.mk A20
 clear A20
 by_cases c3 : (t228.length : Int) = 0
 case pos =>
  rw [if_pos c3] at H
  have c3b0 : ((t228.length : Int) == 0) = true:=beq_iff_eq.mpr c3
  have c3b1 : ((t228.length : Int) != 0) = false:=bne_eq_false_iff_eq.mpr c3
  clear c3
  obtain rfl:=Option.some.inj H
  go_enter Try.func66,Try.ntmps66
  go_wp2_with (first | ((with_reducible refine gc_ 85 rfl ?_); refine gM_ (some 5) Try.func85 [.slice A0 l0.length c0] ?_; (with_reducible refine (nat_trim.calls k (fun k_=>k_ < w.heap.size) _ _ l0 t228 _ ?side1 A2.out).mono ?_); (case side1=>exact Kd.V_mk HC0.out (Kd.F_below (Kd.C_F (Kd.heap_int .u32) HR0.out) bh_)); rintro e w4 ⟨v229,rfl,ho0,hb⟩; refine ⟨_,rfl,?_⟩; have HO230:=Aside0.mk (Kd.V_lower (Kd.V_mono (ok':=fun k_=>True) ho0 (fun k_ hk_=>trivial)) (below_size bh_)); replace HB:=bq_ hb; skip; obtain ⟨Ao5,co5,eo5⟩:=Kd.V_slice HO230.out; subst eo5))
  go_ret
  exact ⟨eh_,bh_⟩
 rw [if_neg c3] at H
 have c3b0 : ((t228.length : Int) == 0) = false:=beq_eq_false_iff_ne.mpr c3
 have c3b1 : ((t228.length : Int) != 0) = true:=bne_iff_ne.mpr c3
 have c3b2 : ¬ (t228 = []):=fun h_=>c3 (by rw [h_]; rfl)
 obtain ⟨ji6,hji6⟩ : ∃ j_ : Int,(wrap64 ((t228.length : Int) - 1)) = j_:=⟨_,rfl⟩
 replace H : (if 0 ≤ (ji6) then (if (ji6) < (t228.length : Int) then ((bits_Len32.f (rd t228 (ji6))).bind fun t232=>(some (wrap64 ((wrap64 (32 * (ji6))) + t232)))) else (none)) else (none)) = some r:=by first | (rw [hji6] at H; exact H) | (simp only [hji6] at H ⊢; exact H)
 (try rw [hji6] at A2)
 have hji6w : (IntKind.i64.wrap ((t228.length : Int) - 1)) = ji6:=(i64_w _).trans hji6
 by_cases c7 : 0 ≤ (ji6)
 case neg =>
  rw [if_neg c7] at H
  exact absurd H (by simp)
 rw [if_pos c7] at H
 have c7b0 : decide (0 ≤ (ji6)) = true:=decide_eq_true c7
 clear c7
 by_cases c8 : (ji6) < (t228.length : Int)
 case neg =>
  rw [if_neg c8] at H
  exact absurd H (by simp)
 rw [if_pos c8] at H
 have c8b0 : decide ((ji6) < (t228.length : Int)) = true:=decide_eq_true c8
 clear c8
 replace H:=Option.bind_eq_some_iff.mp H
 obtain ⟨t232,A90,H⟩:=H
 replace H : (some (wrap64 ((wrap64 (32 * (ji6))) + t232))) = some r:=H
 have A9:=Aside0.mk A90
 clear A90
 obtain rfl:=Option.some.inj H
 go_enter Try.func66,Try.ntmps66
 go_wp2_with (first | ((with_reducible refine gc_ 85 rfl ?_); refine gM_ (some 5) Try.func85 [.slice A0 l0.length c0] ?_; (with_reducible refine (nat_trim.calls k (fun k_=>k_ < w.heap.size) _ _ l0 t228 _ ?side1 A2.out).mono ?_); (case side1=>exact Kd.V_mk HC0.out (Kd.F_below (Kd.C_F (Kd.heap_int .u32) HR0.out) bh_)); rintro e w10 ⟨v229,rfl,ho0,hb⟩; refine ⟨_,rfl,?_⟩; have HO230:=Aside0.mk (Kd.V_lower (Kd.V_mono (ok':=fun k_=>True) ho0 (fun k_ hk_=>trivial)) (below_size bh_)); replace HB:=bq_ hb; skip; obtain ⟨Ao11,co11,eo11⟩:=Kd.V_slice HO230.out; subst eo11; have p231 : 0 ≤ ((ji6) : Int):=of_decide_eq_true (by first | (with_reducible assumption) | assumption); have q231 : (ji6) < (t228.length : Int):=of_decide_eq_true (by first | (with_reducible assumption) | assumption); obtain ⟨ad231,e231,hx231_0⟩:=Kd.at_int (Kd.V_reads' HO230.out).2.2 (ji6) p231 q231; cases e231; replace p231:=eq_true p231; replace q231:=eq_true q231) | ((with_reducible refine gc_ 95 rfl ?_); refine goesL_ (some 19) rfl rfl Try.func95 (by kernel_rfl) rfl #[.int .u32 (rd t228 (ji6))] rfl (by (try simp only [List.map_toArray,List.map_cons,List.map_nil]); first | done | (simp only [hji6]; rfl) | rfl | (simp only [List.length_drop,List.length_take]; rfl)) ?_; (with_reducible refine (bits_Len32.calls (rd t228 (ji6)) t232 _ A9.out).mono ?_); rintro e w' ⟨rfl,⟨nd,rfl⟩⟩; refine ⟨_,rfl,?_⟩))
 go_ret
 exact ⟨by first | rfl | (simp [errW_none,errW_some] <;> rfl) | (simp only [← hji6]; first | rfl | (simp [errW_none,errW_some] <;> rfl)) | (simp [*,errW_none,errW_some] <;> rfl),bh_⟩

/-! ### nat_Nat_Shl: function 72 -/
def nat_Nat_Shl.l0 : Nat → Int → List Int → Int → List Int → Int → Int → Option (List Int × Int)
  | 0,_,_,_,_,_,_=>none
  | k + 1,x1,x7,x8,x32,x33,x34=>if x34 < x33 then (if 0 ≤ x34 then (if x34 < (x32.length : Int) then (if 0 ≤ (Int.tmod x1 32) then (if x7.length < 35184372088832 then (nat_Nat_Shl.l0 k x1 (x7 ++ [(Go.bits .or .u64 x8 (shl .u64 (IntKind.u64.wrap (rd x32 x34)) (Int.tmod x1 32))) % 4294967296]) ((Go.bits .or .u64 x8 (shl .u64 (IntKind.u64.wrap (rd x32 x34)) (Int.tmod x1 32))) / 4294967296) x32 x33 (wrap64 (x34 + 1))) else (none)) else (none)) else (none)) else (none)) else (if x7.length < 35184372088832 then ((nat_trim.f k (x7 ++ [(x8) % 4294967296])).bind fun t244=>(some (t244,0))) else (none))
def nat_Nat_Shl.f (k : Nat) (l0 : List Int) (a1 : Int) : Option (List Int × Int):=(nat_Nat_Len.f k l0).bind fun t233=>(if t233 = 0 then (some (([] : List Int),0)) else (if (mx a1 0) > (wrap64 (65536 - t233)) then (some (([] : List Int),20)) else (if 0 ≤ (wrap64 ((mx a1 0) / 32)) then (if (wrap64 ((mx a1 0) / 32)) ≤ (wrap64 ((wrap64 ((wrap64 ((mx a1 0) / 32)) + (l0.length : Int))) + 1)) then (if (wrap64 ((wrap64 ((wrap64 ((mx a1 0) / 32)) + (l0.length : Int))) + 1) : Int).toNat ≤ 70368744177664 then (nat_Nat_Shl.l0 k (mx a1 0) (List.replicate (wrap64 ((mx a1 0) / 32) : Int).toNat 0) 0 l0 (l0.length : Int) 0) else (none)) else (none)) else (none))))
theorem nat_Nat_Shl.mono_l : ∀ k,(∀ y0 y1 y2 y3 y4 y5,LeO (nat_Nat_Shl.l0 k y0 y1 y2 y3 y4 y5) (nat_Nat_Shl.l0 (k + 1) y0 y1 y2 y3 y4 y5))
  | 0=>fun _ _ _ _ _ _ r h=>by simp [nat_Nat_Shl.l0] at h
  | k + 1=>by
    have ih0:=nat_Nat_Shl.mono_l k
    · intro y0 y1 y2 y3 y4 y5
      unfold nat_Nat_Shl.l0
      repeat' with_reducible first | exact ih0 _ _ _ _ _ _ | exact nat_Nat_Len.mono _ _ | exact nat_trim.mono _ _ | exact LeO.refl _ | exact LeO.none _ | refine LeO.ite ?_ ?_ | refine LeO.bind ?_ (fun _=>?_)
theorem nat_Nat_Shl.mono : ∀ a0 a1 k,LeO (nat_Nat_Shl.f k a0 a1) (nat_Nat_Shl.f (k + 1) a0 a1):=by
  intro a0 a1 k
  have ih0:=nat_Nat_Shl.mono_l k
  unfold nat_Nat_Shl.f
  repeat' with_reducible first | exact ih0 _ _ _ _ _ _ | exact nat_Nat_Len.mono _ _ | exact nat_trim.mono _ _ | exact LeO.refl _ | exact LeO.none _ | refine LeO.ite ?_ ?_ | refine LeO.bind ?_ (fun _=>?_)
-- GIVENTEXT
set_option maxHeartbeats 8000000 in
set_option maxRecDepth 100000 in
theorem nat_Nat_Shl.calls (k : Nat) (A0 : Option Addr) (c0 : Nat) (l0 : List Int) (a1 : Int) (r1 : List Int) (r2 : Int) (w : World) (hr0 : Kd.C (Kd.int .u32) w A0 l0.length l0) (hc0 : l0.length ≤ c0) (h : nat_Nat_Shl.f k l0 a1 = some (r1, r2)) :
    Calls Try.prog 72 #[.slice A0 l0.length c0, .int .i64 a1] w fun e w' => ∃ v0_ : Value, e = .returned (.tuple #[v0_, .int .i64 r2]) ∧ Kd.V (Kd.int .u32) 123 w' w.heap.size (fun k_ => (w.heap.size ≤ k_)) v0_ r1 ∧ Below w.heap.size w w' := by
 have HR0 := Aside0.mk hr0
 have HC0 := Aside0.mk hc0
 clear hr0 hc0
 have HB := Aside0.mk (Below.refl w.heap.size w)
 have H : ((nat_Nat_Len.f k l0).bind fun t437 => (if t437 = 0 then (some (([] : List Int), 0)) else (if (mx a1 0) > (wrap64 (65536 - t437)) then (some (([] : List Int), 20)) else (if 0 ≤ (wrap64 ((mx a1 0) / 32)) then (if (wrap64 ((mx a1 0) / 32)) ≤ (wrap64 ((wrap64 ((wrap64 ((mx a1 0) / 32)) + (l0.length : Int))) + 1)) then (if (wrap64 ((wrap64 ((wrap64 ((mx a1 0) / 32)) + (l0.length : Int))) + 1) : Int).toNat ≤ 70368744177664 then (nat_Nat_Shl.l0 k (mx a1 0) (List.replicate (wrap64 ((mx a1 0) / 32) : Int).toNat 0) 0 l0 (l0.length : Int) 0) else (none)) else (none)) else (none))))) = some (r1, r2) := h
 clear h
 obtain ⟨ji3, hji3⟩ : ∃ j_ : Int, (mx a1 0) = j_ := ⟨_, rfl⟩
 replace H : ((nat_Nat_Len.f k l0).bind fun t437 => (if t437 = 0 then (some (([] : List Int), 0)) else (if (ji3) > (wrap64 (65536 - t437)) then (some (([] : List Int), 20)) else (if 0 ≤ (wrap64 ((ji3) / 32)) then (if (wrap64 ((ji3) / 32)) ≤ (wrap64 ((wrap64 ((wrap64 ((ji3) / 32)) + (l0.length : Int))) + 1)) then (if (wrap64 ((wrap64 ((wrap64 ((ji3) / 32)) + (l0.length : Int))) + 1) : Int).toNat ≤ 70368744177664 then (nat_Nat_Shl.l0 k ji3 (List.replicate (wrap64 ((ji3) / 32) : Int).toNat 0) 0 l0 (l0.length : Int) 0) else (none)) else (none)) else (none))))) = some (r1, r2) := by first | (rw [hji3] at H; exact H) | (simp only [hji3] at H ⊢; exact H)
 (try (have hji3l : 0 ≤ ji3 := by (rw [← hji3]; unfold mx; (repeat' split) <;> omega)))
 (try (have hji3m : 0 ≤ ji3 := by omega))
 have hji3_ : (if a1 < 0 then 0 else a1) = ji3 := hji3
 have ex : wrap64 (ji3.tdiv 32) = wrap64 (ji3 / 32) := by rw [Int.tdiv_eq_ediv_of_nonneg hji3l]
 replace H := Option.bind_eq_some_iff.mp H
 obtain ⟨t437, A40, H⟩ := H
 replace H : (if t437 = 0 then (some (([] : List Int), 0)) else (if (ji3) > (wrap64 (65536 - t437)) then (some (([] : List Int), 20)) else (if 0 ≤ (wrap64 ((ji3) / 32)) then (if (wrap64 ((ji3) / 32)) ≤ (wrap64 ((wrap64 ((wrap64 ((ji3) / 32)) + (l0.length : Int))) + 1)) then (if (wrap64 ((wrap64 ((wrap64 ((ji3) / 32)) + (l0.length : Int))) + 1) : Int).toNat ≤ 70368744177664 then (nat_Nat_Shl.l0 k ji3 (List.replicate (wrap64 ((ji3) / 32) : Int).toNat 0) 0 l0 (l0.length : Int) 0) else (none)) else (none)) else (none)))) = some (r1, r2) := H
 have A4 := Aside0.mk A40
 clear A40
 by_cases c5 : t437 = 0
 case pos =>
  rw [if_pos c5] at H
  have c5b0 : (t437 == 0) = true := beq_iff_eq.mpr c5
  have c5b1 : (t437 != 0) = false := bne_eq_false_iff_eq.mpr c5
  clear c5
  simp only [Option.some.injEq, Prod.mk.injEq] at H
  obtain ⟨rfl, rfl⟩ := H
  go_enter Try.func72, Try.ntmps72
  go_wp2_with (first | ((with_reducible refine gc_ 66 rfl ?_); refine gM_ (some 14) Try.func66 [.slice A0 l0.length c0] ?_; (with_reducible refine (nat_Nat_Len.calls k _ _ l0 t437 _ ?side1 ?side2 A4.out).mono ?_); (case side1 => repeat first | exact HR0.out | with_reducible first | apply ca_ | apply cn_ | apply cd_); (case side2 => exact HC0.out); rintro e w6 ⟨rfl, hb⟩; refine ⟨_, rfl, ?_⟩; replace HB := bq_ hb))
  go_ret2
  exact ⟨_, by first | rfl | (simp [errW_none, errW_some] <;> rfl) | (simp only [← hji3]; first | rfl | (simp [errW_none, errW_some] <;> rfl)) | (simp [*, errW_none, errW_some] <;> rfl), Kd.R_V (base := 0) (by first | exact Kd.R_nil _ _ _ _ _ | exact Kd.N_nil _ _ _ _ _ | exact Kd.V_nil _ _ _ _ _ | exact Kd.Q_nil _ _ _ _ _ | exact Kd.S_nil _ _ _ _ _), bh_⟩
 rw [if_neg c5] at H
 have c5b0 : (t437 == 0) = false := beq_eq_false_iff_ne.mpr c5
 have c5b1 : (t437 != 0) = true := bne_iff_ne.mpr c5
 by_cases c7 : (ji3) > (wrap64 (65536 - t437))
 case pos =>
  rw [if_pos c7] at H
  have c7b0 : decide ((wrap64 (65536 - t437)) < (ji3)) = true := decide_eq_true c7
  clear c7
  simp only [Option.some.injEq, Prod.mk.injEq] at H
  obtain ⟨rfl, rfl⟩ := H
  go_enter Try.func72, Try.ntmps72
  go_wp2_with (first | ((with_reducible refine gc_ 66 rfl ?_); refine gM_ (some 14) Try.func66 [.slice A0 l0.length c0] ?_; (with_reducible refine (nat_Nat_Len.calls k _ _ l0 t437 _ ?side1 ?side2 A4.out).mono ?_); (case side1 => repeat first | exact HR0.out | with_reducible first | apply ca_ | apply cn_ | apply cd_); (case side2 => exact HC0.out); rintro e w8 ⟨rfl, hb⟩; refine ⟨_, rfl, ?_⟩; replace HB := bq_ hb))
  go_ret2
  exact ⟨_, by first | rfl | (simp [errW_none, errW_some] <;> rfl) | (simp only [← hji3]; first | rfl | (simp [errW_none, errW_some] <;> rfl)) | (simp [*, errW_none, errW_some] <;> rfl), Kd.R_V (base := 0) (by first | exact Kd.R_nil _ _ _ _ _ | exact Kd.N_nil _ _ _ _ _ | exact Kd.V_nil _ _ _ _ _ | exact Kd.Q_nil _ _ _ _ _ | exact Kd.S_nil _ _ _ _ _), bh_⟩
 rw [if_neg c7] at H
 have c7b0 : decide ((wrap64 (65536 - t437)) < (ji3)) = false := decide_eq_false c7
 clear c7
 obtain ⟨ji9, hji9⟩ : ∃ j_ : Int, (wrap64 ((ji3) / 32)) = j_ := ⟨_, rfl⟩
 replace H : (if 0 ≤ (ji9) then (if (ji9) ≤ (wrap64 ((wrap64 ((ji9) + (l0.length : Int))) + 1)) then (if (wrap64 ((wrap64 ((ji9) + (l0.length : Int))) + 1) : Int).toNat ≤ 70368744177664 then (nat_Nat_Shl.l0 k ji3 (List.replicate (ji9 : Int).toNat 0) 0 l0 (l0.length : Int) 0) else (none)) else (none)) else (none)) = some (r1, r2) := by first | (rw [hji9] at H; exact H) | (simp only [hji9] at H ⊢; exact H)
 (try rw [hji9] at A4)
 have hji9w : (IntKind.i64.wrap ((ji3) / 32)) = ji9 := (i64_w _).trans hji9
 by_cases c10 : 0 ≤ (ji9)
 case neg =>
  rw [if_neg c10] at H
  exact absurd H (by simp)
 rw [if_pos c10] at H
 have c10b0 := eq_true c10
 have c10b1 : decide (0 ≤ (ji9)) = true := decide_eq_true c10
 clear c10
 by_cases c11 : (ji9) ≤ (wrap64 ((wrap64 ((ji9) + (l0.length : Int))) + 1))
 case neg =>
  rw [if_neg c11] at H
  exact absurd H (by simp)
 rw [if_pos c11] at H
 have c11b0 := eq_true c11
 have c11b1 : decide ((ji9) ≤ (wrap64 ((wrap64 ((ji9) + (l0.length : Int))) + 1))) = true := decide_eq_true c11
 by_cases c12 : (wrap64 ((wrap64 ((ji9) + (l0.length : Int))) + 1) : Int).toNat ≤ 70368744177664
 case neg =>
  rw [if_neg c12] at H
  exact absurd H (by simp)
 rw [if_pos c12] at H
 have c12b0 := eq_true c12
 have c12b1 : decide ((wrap64 ((wrap64 ((ji9) + (l0.length : Int))) + 1) : Int).toNat ≤ 70368744177664) = true := decide_eq_true c12
 obtain ⟨y438, hy438⟩ : ∃ y_ : List Int, y_ = (List.replicate (ji9 : Int).toNat 0) := ⟨_, rfl⟩
 replace H : (nat_Nat_Shl.l0 k ji3 y438 0 l0 (l0.length : Int) 0) = some (r1, r2) := by first | (rw [hy438]; with_reducible exact H) | (have H2_ := (Option.bind_some _ _).symm.trans H; rw [hy438]; with_reducible exact H2_) | (have H2_ := (Option.bind_some _ _).symm.trans H; with_reducible exact H2_) | with_reducible exact H | (rw [hy438]; exact H) | exact H
 have Ny438 := Aside0.mk hy438
 clear hy438
 have H' := Aside0.mk H
 clear H
 go_enter Try.func72, Try.ntmps72
 go_wp2_with (first | ((with_reducible refine gc_ 66 rfl ?_); refine gM_ (some 14) Try.func66 [.slice A0 l0.length c0] ?_; (with_reducible refine (nat_Nat_Len.calls k _ _ l0 t437 _ ?side1 ?side2 A4.out).mono ?_); (case side1 => repeat first | exact HR0.out | with_reducible first | apply ca_ | apply cn_ | apply cd_); (case side2 => exact HC0.out); rintro e w13 ⟨rfl, hb⟩; refine ⟨_, rfl, ?_⟩; replace HB := bq_ hb) | ((with_reducible refine gate_dst (N := 31) rfl ?_); simp only [ex, hji9]; (refine Kd.R_make2 (Kd.int .u32) _ 123 rfl (N := 31) rfl 47 _ _ rfl ji9 (wrap64 ((wrap64 ((ji9) + (l0.length : Int))) + 1)) rfl rfl Try.underlying47 (.int .u32 0) 4 info123 rfl (by decide) (by omega) 0 (ok := fun _ => True) (okp := fun _ => True) rfl (fun _ hk => hk) trivial (of_decide_eq_true c10b1) (of_decide_eq_true c11b1) (Nat.le_trans (Nat.mul_le_mul_right _ (of_decide_eq_true c12b1)) (by omega)) (Below.refl _ _) (Nat.le_refl _) ?_); intro v439 w14 ho15 hb hg_ hnew_; clear hg_ hnew_; (first | rw [← Ny438.out] at ho15 | (simp only [Int.reduceToNat] at ho15; rw [← Ny438.out] at ho15)); have HO440 := Aside0.mk (Kd.R_lower (Kd.R_newM (M := fun k_ => (w.heap.size ≤ k_)) ho15 (below_size bh_) (fun k_ h_ => h_)) (below_size bh_)); replace HB := bq_ hb; clear hb ho15))
 (try simp only [ex, hji9])
 (try simp only [Act.put, p1_, p2_, p3_])
 go_loopg [7, 8, 34] k (fun kq v7 v8 v34 w' => ∃ (x7_1 : List Int) (x8_1 : Int) (x34_1 : Int), v8 = .int .u64 x8_1 ∧ v34 = .int .i64 x34_1 ∧ Aside0 (nat_Nat_Shl.l0 kq ji3 x7_1 x8_1 l0 (l0.length : Int) x34_1 = some (r1, r2)) ∧ Aside0 (kq ≤ k) ∧ Aside0 (Kd.R (Kd.int .u32) 123 w' w.heap.size (fun k_ => (w.heap.size ≤ k_)) v7 x7_1) ∧ Aside0 (Below w.heap.size w w'))
 case atStart => exact ⟨(y438), (0), (0), (sh_), (sh_), H', ⟨Nat.le_refl _⟩, ⟨by (with_reducible repeat (first | apply ra_ | apply rn_ | apply rd_)); exact Kd.R_mono HO440.out (fun _ hk => hk.1)⟩, ⟨bh_⟩⟩
 case round =>
  clear H'
  try clear c1
  try clear p2
  try clear c5
  try clear c5b0
  try clear c5b1
  try clear c6
  try clear p6
  try clear c7
  try clear c7b0
  try clear c10
  try clear c10b0
  try clear c10b1
  try clear c11
  try clear c11b0
  try clear c11b1
  try clear c12
  try clear c12b0
  try clear c12b1
  obtain ⟨x7_1, x8_1, x34_1, rfl, rfl, HA, HK1, HO_7, HB⟩ := hrel
  cases gk with
  | zero => exact absurd HA.out (by simp [nat_Nat_Shl.l0])
  | succ k1 =>
   have H := HA.out
   clear HA
   simp only [nat_Nat_Shl.l0] at H
   by_cases c16 : x34_1 < (l0.length : Int)
   case neg =>
    rw [if_neg c16] at H
    have c16b0 : decide (x34_1 < (l0.length : Int)) = false := decide_eq_false c16
    clear c16
    by_cases c24 : x7_1.length < 35184372088832
    case neg =>
     rw [if_neg c24] at H
     exact absurd H (by simp)
    rw [if_pos c24] at H
    have LMc24 := Aside0.mk c24
    clear c24
    obtain ⟨y445, hy445⟩ : ∃ y_ : List Int, y_ = (x7_1 ++ [(x8_1) % 4294967296]) := ⟨_, rfl⟩
    replace H : ((nat_trim.f k1 y445).bind fun t448 => (some (t448, 0))) = some (r1, r2) := by first | (rw [hy445]; with_reducible exact H) | (have H2_ := (Option.bind_some _ _).symm.trans H; rw [hy445]; with_reducible exact H2_) | (have H2_ := (Option.bind_some _ _).symm.trans H; with_reducible exact H2_) | with_reducible exact H | (rw [hy445]; exact H) | exact H
    have Ny445 := Aside0.mk hy445
    clear hy445
    replace H := Option.bind_eq_some_iff.mp H
    obtain ⟨t448, A250, H⟩ := H
    replace H : (some (t448, 0)) = some (r1, r2) := H
    have A25 := Aside0.mk A250
    clear A250
    simp only [Option.some.injEq, Prod.mk.injEq] at H
    obtain ⟨rfl, rfl⟩ := H
    go_wp2_with (first | ((with_reducible refine gate_builtin (b := .append) (xs := #[.tmp 53, .tmp 56]) rfl ?_); at_builtin; refine Kd.R_append (Kd.int .u32) (w0 := w) w.heap.size rfl (.tmp 53) (.tmp 56) 47 123 (.int .u32 0) 4 rfl Try.underlying47 info123 rfl (by decide) (by omega) u7 x7_1 ((x8_1) % 4294967296) [.int .u32 ((x8_1) % 4294967296)] (fun k_ => (w.heap.size ≤ k_)) (fun _ => False) rfl rfl ?aP (fun _ hk => hk.elim) ?aF ?aO ?aB ?aS ?aL ?_; (case aP => exact rfl); (case aB => exact bh_); (case aF => exact (fun k_ hk => (Nat.le_trans (below_size bh_) hk))); (case aO => exact (by (with_reducible repeat (first | apply ra_ | apply rn_ | apply rd_)); exact HO_7.out)); (case aS => exact (below_size bh_)); (case aL => have := LMc24.out; omega); intro v446 w26 ho hb hg hat; rw [← Ny445.out] at ho; replace HB := Aside0.mk (hb); have HO447 := Aside0.mk (ho); clear ho hb hg hat; obtain ⟨Ao27, co27, eo27⟩ := Kd.R_slice HO447.out; subst eo27) | ((with_reducible refine gc_ 85 rfl ?_); refine gM_ (some 58) Try.func85 [.slice Ao27 y445.length co27] ?_; (with_reducible refine (nat_trim.calls k1 (fun k_ => some k_ = (.slice Ao27 y445.length co27 : Value).ownBlock) _ _ y445 t448 _ ?side1 A25.out).mono ?_); (case side1 => exact Kd.R_V (Kd.R_tight rfl (HO447.out))); rintro e w28 ⟨v449, rfl, ho0, hb⟩; refine ⟨_, rfl, ?_⟩; have HO450 := Aside0.mk (Kd.V_lower (Kd.V_mono (ok' := fun k_ => (w.heap.size ≤ k_)) ho0 (fun k_ hk_ => Or.elim hk_ (fun hs_ => ((HO447.out).1 k_ hs_.symm)) (fun hn_ => (Nat.le_trans (below_size bh_) hn_)))) (below_size bh_)); replace HB := bq_ hb))
    go_ret2
    exact ⟨_, by first | rfl | (simp [errW_none, errW_some] <;> rfl) | (simp only [← hji3, ← hji9]; first | rfl | (simp [errW_none, errW_some] <;> rfl)) | (simp [*, errW_none, errW_some] <;> rfl), by (with_reducible repeat (first | apply va_ | apply vn_ | apply vd_)); exact HO450.out, bh_⟩
   rw [if_pos c16] at H
   have c16b0 : decide (x34_1 < (l0.length : Int)) = true := decide_eq_true c16
   clear c16
   by_cases c17 : 0 ≤ x34_1
   case neg =>
    rw [if_neg c17] at H
    exact absurd H (by simp)
   rw [if_pos c17] at H
   have c17b0 : decide (0 ≤ x34_1) = true := decide_eq_true c17
   clear c17
   by_cases c18 : x34_1 < (l0.length : Int)
   case neg =>
    rw [if_neg c18] at H
    exact absurd H (by simp)
   rw [if_pos c18] at H
   have c18b0 : decide (x34_1 < (l0.length : Int)) = true := decide_eq_true c18
   clear c18
   obtain ⟨ji19, hji19⟩ : ∃ j_ : Int, (Int.tmod ji3 32) = j_ := ⟨_, rfl⟩
   replace H : (if 0 ≤ (ji19) then (if x7_1.length < 35184372088832 then (nat_Nat_Shl.l0 k1 ji3 (x7_1 ++ [(Go.bits .or .u64 x8_1 (shl .u64 (IntKind.u64.wrap (rd l0 x34_1)) (ji19))) % 4294967296]) ((Go.bits .or .u64 x8_1 (shl .u64 (IntKind.u64.wrap (rd l0 x34_1)) (ji19))) / 4294967296) l0 (l0.length : Int) (wrap64 (x34_1 + 1))) else (none)) else (none)) = some (r1, r2) := by first | (rw [hji19] at H; exact H) | (simp only [hji19] at H ⊢; exact H)
   by_cases c20 : 0 ≤ (ji19)
   case neg =>
    rw [if_neg c20] at H
    exact absurd H (by simp)
   rw [if_pos c20] at H
   have c20b0 := eq_true c20
   have c20b1 : decide (0 ≤ (ji19)) = true := decide_eq_true c20
   clear c20
   obtain ⟨ji21, hji21⟩ : ∃ j_ : Int, (shl .u64 (IntKind.u64.wrap (rd l0 x34_1)) (ji19)) = j_ := ⟨_, rfl⟩
   replace H : (if x7_1.length < 35184372088832 then (nat_Nat_Shl.l0 k1 ji3 (x7_1 ++ [(Go.bits .or .u64 x8_1 (ji21)) % 4294967296]) ((Go.bits .or .u64 x8_1 (ji21)) / 4294967296) l0 (l0.length : Int) (wrap64 (x34_1 + 1))) else (none)) = some (r1, r2) := by first | (rw [hji21] at H; exact H) | (simp only [hji21] at H ⊢; exact H)
   have hji21_ : (IntKind.u64.wrap ((IntKind.u64.wrap (rd l0 x34_1)) * 2 ^ min (ji19).toNat 64)) = ji21 := hji21
   have hji21z : (ji19) ≤ 64 → (IntKind.u64.wrap ((IntKind.u64.wrap (rd l0 x34_1)) * 2 ^ (ji19).toNat)) = ji21 := shl_small hji21
   by_cases c22 : x7_1.length < 35184372088832
   case neg =>
    rw [if_neg c22] at H
    exact absurd H (by simp)
   rw [if_pos c22] at H
   have LMc22 := Aside0.mk c22
   clear c22
   obtain ⟨y442, hy442⟩ : ∃ y_ : List Int, y_ = (x7_1 ++ [(Go.bits .or .u64 x8_1 (ji21)) % 4294967296]) := ⟨_, rfl⟩
   replace H : (nat_Nat_Shl.l0 k1 ji3 y442 ((Go.bits .or .u64 x8_1 (ji21)) / 4294967296) l0 (l0.length : Int) (wrap64 (x34_1 + 1))) = some (r1, r2) := by first | (rw [hy442]; with_reducible exact H) | (have H2_ := (Option.bind_some _ _).symm.trans H; rw [hy442]; with_reducible exact H2_) | (have H2_ := (Option.bind_some _ _).symm.trans H; with_reducible exact H2_) | with_reducible exact H | (rw [hy442]; exact H) | exact H
   have Ny442 := Aside0.mk hy442
   clear hy442
   have H' := Aside0.mk H
   clear H
   have p441 : 0 ≤ (x34_1 : Int) := of_decide_eq_true (by first | (with_reducible assumption) | assumption)
   have q441 : x34_1 < (l0.length : Int) := of_decide_eq_true (by first | (with_reducible assumption) | assumption)
   obtain ⟨ad441, e441, hx441_0⟩ := Kd.at_int HR0.out x34_1 p441 q441
   cases e441
   replace hx441_0 := (HB.out.cell (World.block_lt_of_cell? w _ hx441_0)).trans hx441_0
   replace p441 := eq_true p441
   replace q441 := eq_true q441
   go_wp2_with (first | ((with_reducible refine gate_builtin (b := .append) (xs := #[.tmp 45, .tmp 48]) rfl ?_); at_builtin; refine Kd.R_append (Kd.int .u32) (w0 := w) w.heap.size rfl (.tmp 45) (.tmp 48) 47 123 (.int .u32 0) 4 rfl Try.underlying47 info123 rfl (by decide) (by omega) u7 x7_1 ((Go.bits .or .u64 x8_1 (ji21)) % 4294967296) [.int .u32 ((Go.bits .or .u64 x8_1 (ji21)) % 4294967296)] (fun k_ => (w.heap.size ≤ k_)) (fun _ => False) rfl rfl ?aP (fun _ hk => hk.elim) ?aF ?aO ?aB ?aS ?aL ?_; (case aP => exact rfl); (case aB => exact bh_); (case aF => exact (fun k_ hk => (Nat.le_trans (below_size bh_) hk))); (case aO => exact (by (with_reducible repeat (first | apply ra_ | apply rn_ | apply rd_)); exact HO_7.out)); (case aS => exact (below_size bh_)); (case aL => have := LMc22.out; omega); intro v443 w23 ho hb hg hat; rw [← Ny442.out] at ho; replace HB := Aside0.mk (hb); have HO444 := Aside0.mk (ho); clear ho hb hg hat))
   go_roundg k1
   case measure => have := HK1.out; omega
   case rel => exact ⟨(y442), ((Go.bits .or .u64 x8_1 (ji21)) / 4294967296), (wrap64 (x34_1 + 1)), (by first | rfl | (simp; done) | (simp only [← hji21] <;> (first | rfl | simp)) | (simp [*]; done)), (sh_), H', ⟨by have := HK1.out; omega⟩, ⟨by (with_reducible repeat (first | apply ra_ | apply rn_ | apply rd_)); exact HO444.out⟩, ⟨bh_⟩⟩

/-! ### nat_Nat_at: function 102 -/
def nat_Nat_at.f (l0 : List Int) (a1 : Int) : Option (Int):=if a1 < (l0.length : Int) then (if 0 ≤ a1 then (some (IntKind.u64.wrap (rd l0 a1))) else (none)) else (some 0)
set_option maxHeartbeats 8000000 in
set_option maxRecDepth 100000 in
theorem nat_Nat_at.calls (A0 : Option Addr) (c0 : Nat) (l0 : List Int) (a1 : Int) (r : Int) (w : World) (hr0 : Kd.C (Kd.int .u32) w A0 l0.length l0) (hc0 : l0.length ≤ c0) (h : nat_Nat_at.f l0 a1 = some r) :
  Calls Try.prog 102 #[.slice A0 l0.length c0,.int .i64 a1] w fun e w'=>e = .returned (.int .u64 r) ∧ Drawn0 w w':=by
 have HR0:=Aside0.mk hr0
 have HC0:=Aside0.mk hc0
 clear hr0 hc0
 have H : (if a1 < (l0.length : Int) then (if 0 ≤ a1 then (some (IntKind.u64.wrap (rd l0 a1))) else (none)) else (some 0)) = some r:=h
 clear h
 by_cases c3 : a1 < (l0.length : Int)
 case neg =>
  rw [if_neg c3] at H
  have c3b0 : decide (a1 < (l0.length : Int)) = false:=decide_eq_false c3
  clear c3
  obtain rfl:=Option.some.inj H
  go_enter Try.func102,Try.ntmps102
  go_wp2
  go_ret
  exact ⟨sh_,dh_⟩
 rw [if_pos c3] at H
 have c3b0 : decide (a1 < (l0.length : Int)) = true:=decide_eq_true c3
 clear c3
 by_cases c4 : 0 ≤ a1
 case neg =>
  rw [if_neg c4] at H
  exact absurd H (by simp)
 rw [if_pos c4] at H
 have c4b0 : decide (0 ≤ a1) = true:=decide_eq_true c4
 clear c4
 obtain rfl:=Option.some.inj H
 have p247 : 0 ≤ (a1 : Int):=of_decide_eq_true (by first | (with_reducible assumption) | assumption)
 have q247 : a1 < (l0.length : Int):=of_decide_eq_true (by first | (with_reducible assumption) | assumption)
 obtain ⟨ad247,e247,hx247_0⟩:=Kd.at_int HR0.out a1 p247 q247
 cases e247
 replace p247:=eq_true p247
 replace q247:=eq_true q247
 go_enter Try.func102,Try.ntmps102
 go_wp2
 go_ret
 exact ⟨sh_,dh_⟩

/-! ### nat_Nat_Cmp: function 75 -/
def nat_Nat_Cmp.l0 : Nat → List Int → List Int → Int → Option (Int)
 | 0,_,_,_=>none
 | k + 1,x0,x1,x5=>if x5 ≥ 0 then ((nat_Nat_at.f x0 x5).bind fun t248=>((nat_Nat_at.f x1 x5).bind fun t249=>(if t248 = t249 then (nat_Nat_Cmp.l0 k x0 x1 (wrap64 (x5 - 1))) else (if t248 < t249 then (some (-1)) else (some 1))))) else (some 0)
def nat_Nat_Cmp.f (k : Nat) (l0 : List Int) (l1 : List Int) : Option (Int):=nat_Nat_Cmp.l0 k l0 l1 (wrap64 ((mx (l0.length : Int) (l1.length : Int)) - 1))
theorem nat_Nat_Cmp.mono_l : ∀ k,(∀ y0 y1 y2,LeO (nat_Nat_Cmp.l0 k y0 y1 y2) (nat_Nat_Cmp.l0 (k + 1) y0 y1 y2))
 | 0=>fun _ _ _ r h=>by simp [nat_Nat_Cmp.l0] at h
 | k + 1=>by
  have ih0:=nat_Nat_Cmp.mono_l k
  ·
   intro y0 y1 y2
   unfold nat_Nat_Cmp.l0
   repeat' with_reducible first | exact ih0 _ _ _ | exact LeO.refl _ | exact LeO.none _ | refine LeO.ite ?_ ?_ | refine LeO.bind ?_ (fun _=>?_)
theorem nat_Nat_Cmp.mono : ∀ a0 a1 k,LeO (nat_Nat_Cmp.f k a0 a1) (nat_Nat_Cmp.f (k + 1) a0 a1):=by
 intro a0 a1 k
 have ih0:=nat_Nat_Cmp.mono_l k
 unfold nat_Nat_Cmp.f
 repeat' with_reducible first | exact ih0 _ _ _ | exact LeO.refl _ | exact LeO.none _ | refine LeO.ite ?_ ?_ | refine LeO.bind ?_ (fun _=>?_)
set_option maxHeartbeats 8000000 in
set_option maxRecDepth 100000 in
theorem nat_Nat_Cmp.calls (k : Nat) (A0 : Option Addr) (c0 : Nat) (l0 : List Int) (A1 : Option Addr) (c1 : Nat) (l1 : List Int) (r : Int) (w : World) (hr0 : Kd.C (Kd.int .u32) w A0 l0.length l0) (hc0 : l0.length ≤ c0) (hr1 : Kd.C (Kd.int .u32) w A1 l1.length l1) (hc1 : l1.length ≤ c1) (h : nat_Nat_Cmp.f k l0 l1 = some r) :
  Calls Try.prog 75 #[.slice A0 l0.length c0,.slice A1 l1.length c1] w fun e w'=>e = .returned (.int .i64 r) ∧ Drawn0 w w':=by
 have HR0:=Aside0.mk hr0
 have HC0:=Aside0.mk hc0
 clear hr0 hc0
 have HR1:=Aside0.mk hr1
 have HC1:=Aside0.mk hc1
 clear hr1 hc1
 have H : (nat_Nat_Cmp.l0 k l0 l1 (wrap64 ((mx (l0.length : Int) (l1.length : Int)) - 1))) = some r:=h
 clear h
 obtain ⟨ji3,hji3⟩ : ∃ j_ : Int,(mx (l0.length : Int) (l1.length : Int)) = j_:=⟨_,rfl⟩
 replace H : (nat_Nat_Cmp.l0 k l0 l1 (wrap64 ((ji3) - 1))) = some r:=by first | (rw [hji3] at H; exact H) | (simp only [hji3] at H ⊢; exact H)
 (try (have hji3l : 0 ≤ ji3:=by (rw [← hji3]; unfold mx; (repeat' split) <;> omega)))
 (try (have hji3m : 0 ≤ ji3:=by omega))
 have hji3_ : (if (l0.length : Int) < (l1.length : Int) then (l1.length : Int) else (l0.length : Int)) = ji3:=hji3
 have hji3n_ : (if l0.length < l1.length then (l1.length : Int) else (l0.length : Int)) = ji3:=by rw [← hji3_]; simp only [Int.ofNat_lt]
 have H':=Aside0.mk H
 clear H
 go_enter Try.func75,Try.ntmps75
 go_wp2
 (try simp only [Act.put,p1_,p2_,p3_])
 go_loopg [5] k (fun kq v5 w'=>∃ (x5_1 : Int),v5 = .int .i64 x5_1 ∧ Aside0 (nat_Nat_Cmp.l0 kq l0 l1 x5_1 = some r) ∧ Aside0 (kq ≤ k) ∧ Drawn0 w w')
 case atStart=>exact ⟨(wrap64 ((ji3) - 1)),(by first | rfl | (simp; done) | (simp only [← hji3] <;> (first | rfl | simp)) | (simp [*]; done)),H',⟨Nat.le_refl _⟩,dh_⟩
 case round =>
  clear H'
  try clear c1
  try clear p2
  obtain ⟨x5_1,rfl,HA,HK1,⟨m1,rfl⟩⟩:=hrel
  cases gk with
  | zero=>exact absurd HA.out (by simp [nat_Nat_Cmp.l0])
  | succ k1 =>
   have H:=HA.out
   clear HA
   simp only [nat_Nat_Cmp.l0] at H
   by_cases c4 : x5_1 ≥ 0
   case neg =>
    rw [if_neg c4] at H
    have c4b0 : decide (0 ≤ x5_1) = false:=decide_eq_false c4
    clear c4
    obtain rfl:=Option.some.inj H
    go_wp2
    go_ret
    exact ⟨by first | rfl | (simp; done) | (simp only [← hji3] <;> (first | rfl | simp)) | (simp [*]; done),dh_⟩
   rw [if_pos c4] at H
   have c4b0 : decide (0 ≤ x5_1) = true:=decide_eq_true c4
   clear c4
   replace H:=Option.bind_eq_some_iff.mp H
   obtain ⟨t248,A50,H⟩:=H
   replace H : ((nat_Nat_at.f l1 x5_1).bind fun t249=>(if t248 = t249 then (nat_Nat_Cmp.l0 k1 l0 l1 (wrap64 (x5_1 - 1))) else (if t248 < t249 then (some (-1)) else (some 1)))) = some r:=H
   have A5:=Aside0.mk A50
   clear A50
   replace H:=Option.bind_eq_some_iff.mp H
   obtain ⟨t249,A60,H⟩:=H
   replace H : (if t248 = t249 then (nat_Nat_Cmp.l0 k1 l0 l1 (wrap64 (x5_1 - 1))) else (if t248 < t249 then (some (-1)) else (some 1))) = some r:=H
   have A6:=Aside0.mk A60
   clear A60
   by_cases c7 : t248 = t249
   case pos =>
    rw [if_pos c7] at H
    have c7b0 : (t248 == t249) = true:=beq_iff_eq.mpr c7
    have c7b1 : (t248 != t249) = false:=bne_eq_false_iff_eq.mpr c7
    clear c7
    have H':=Aside0.mk H
    clear H
    go_wp2_with (first | ((with_reducible refine gc_ 102 rfl ?_); refine gM_ (some 20) Try.func102 [.slice A0 l0.length c0,.int .i64 x5_1] ?_; (with_reducible refine (nat_Nat_at.calls _ _ l0 x5_1 t248 _ ?side1 ?side2 A5.out).mono ?_); (case side1=>repeat first | exact HR0.out | with_reducible first | apply ca_ | apply cn_ | apply cd_); (case side2=>exact HC0.out); rintro e w' ⟨rfl,⟨nd,rfl⟩⟩; refine ⟨_,rfl,?_⟩) | ((with_reducible refine gc_ 102 rfl ?_); refine gM_ (some 23) Try.func102 [.slice A1 l1.length c1,.int .i64 x5_1] ?_; (with_reducible refine (nat_Nat_at.calls _ _ l1 x5_1 t249 _ ?side1 ?side2 A6.out).mono ?_); (case side1=>repeat first | exact HR1.out | with_reducible first | apply ca_ | apply cn_ | apply cd_); (case side2=>exact HC1.out); rintro e w' ⟨rfl,⟨nd,rfl⟩⟩; refine ⟨_,rfl,?_⟩))
    go_roundg k1
    case measure=>have:=HK1.out; omega
    case rel=>exact ⟨(wrap64 (x5_1 - 1)),(sh_),H',⟨by have:=HK1.out; omega⟩,dh_⟩
   rw [if_neg c7] at H
   have c7b0 : (t248 == t249) = false:=beq_eq_false_iff_ne.mpr c7
   have c7b1 : (t248 != t249) = true:=bne_iff_ne.mpr c7
   by_cases c8 : t248 < t249
   case pos =>
    rw [if_pos c8] at H
    have c8b0 : decide (t248 < t249) = true:=decide_eq_true c8
    clear c8
    obtain rfl:=Option.some.inj H
    go_wp2_with (first | ((with_reducible refine gc_ 102 rfl ?_); refine gM_ (some 20) Try.func102 [.slice A0 l0.length c0,.int .i64 x5_1] ?_; (with_reducible refine (nat_Nat_at.calls _ _ l0 x5_1 t248 _ ?side1 ?side2 A5.out).mono ?_); (case side1=>repeat first | exact HR0.out | with_reducible first | apply ca_ | apply cn_ | apply cd_); (case side2=>exact HC0.out); rintro e w' ⟨rfl,⟨nd,rfl⟩⟩; refine ⟨_,rfl,?_⟩) | ((with_reducible refine gc_ 102 rfl ?_); refine gM_ (some 23) Try.func102 [.slice A1 l1.length c1,.int .i64 x5_1] ?_; (with_reducible refine (nat_Nat_at.calls _ _ l1 x5_1 t249 _ ?side1 ?side2 A6.out).mono ?_); (case side1=>repeat first | exact HR1.out | with_reducible first | apply ca_ | apply cn_ | apply cd_); (case side2=>exact HC1.out); rintro e w' ⟨rfl,⟨nd,rfl⟩⟩; refine ⟨_,rfl,?_⟩))
    go_ret
    exact ⟨by first | rfl | (simp; done) | (simp only [← hji3] <;> (first | rfl | simp)) | (simp [*]; done),dh_⟩
   rw [if_neg c8] at H
   have c8b0 : decide (t248 < t249) = false:=decide_eq_false c8
   clear c8
   obtain rfl:=Option.some.inj H
   go_wp2_with (first | ((with_reducible refine gc_ 102 rfl ?_); refine gM_ (some 20) Try.func102 [.slice A0 l0.length c0,.int .i64 x5_1] ?_; (with_reducible refine (nat_Nat_at.calls _ _ l0 x5_1 t248 _ ?side1 ?side2 A5.out).mono ?_); (case side1=>repeat first | exact HR0.out | with_reducible first | apply ca_ | apply cn_ | apply cd_); (case side2=>exact HC0.out); rintro e w' ⟨rfl,⟨nd,rfl⟩⟩; refine ⟨_,rfl,?_⟩) | ((with_reducible refine gc_ 102 rfl ?_); refine gM_ (some 23) Try.func102 [.slice A1 l1.length c1,.int .i64 x5_1] ?_; (with_reducible refine (nat_Nat_at.calls _ _ l1 x5_1 t249 _ ?side1 ?side2 A6.out).mono ?_); (case side1=>repeat first | exact HR1.out | with_reducible first | apply ca_ | apply cn_ | apply cd_); (case side2=>exact HC1.out); rintro e w' ⟨rfl,⟨nd,rfl⟩⟩; refine ⟨_,rfl,?_⟩))
   go_ret
   exact ⟨by first | rfl | (simp; done) | (simp only [← hji3] <;> (first | rfl | simp)) | (simp [*]; done),dh_⟩

/-! ### nat_Nat_short: function 97 -/
-- GIVENTEXT
theorem made_zeros (w : World) (n : Nat) (hn : n ≤ 70368744177664) :
    (Instr.makeSlice 47 (.int .i64 (n : Int)) (.int .i64 (n : Int))).run Try.prog w = .ok (.slice (some ⟨w.heap.size, 0, none⟩) n n) (w.alloc (.cells (madeCells #[.int .u32 0] n) 123)) ∧
    ∀ (base : Nat) (ok : Nat → Prop), base ≤ w.heap.size → ok w.heap.size → Kd.R (Kd.int .u32) 123 (w.alloc (.cells (madeCells #[.int .u32 0] n) 123)) base ok (.slice (some ⟨w.heap.size, 0, none⟩) n n) (List.replicate n 0) := by
  obtain ⟨i0, hi, hz0, hz1, hz2⟩ := info_parts info123
  have hr := run_make (P := Try.prog) (w := w) 47 123 i0 (.int .u32 0) Try.underlying47 hi hz0 .i64 .i64 (n : Int) (n : Int) (by omega) (by omega) (by rw [hz2]; omega) (by omega)
  simp only [Int.toNat_natCast] at hr
  rw [hz1, Nat.mul_one] at hr
  refine ⟨hr, fun base ok hb hok => ?_⟩
  have hreps : Reps ((Kd.int .u32).M (w.alloc (.cells (madeCells #[.int .u32 0] n) 123)) base (fun k => ok k ∧ some k ≠ (Value.slice (some ⟨w.heap.size, 0, none⟩) n n).ownBlock)) 1 (List.replicate n 0) (madeCells #[.int .u32 0] n).toList :=
    by
      have h := Kd.reps_made (R := (Kd.int .u32).M (w.alloc (.cells (madeCells #[.int .u32 0] n) 123)) base (fun k => ok k ∧ some k ≠ (Value.slice (some ⟨w.heap.size, 0, none⟩) n n).ownBlock)) (z := .int .u32 0) (size := 1) (z0 := 0) rfl (by decide) (show Kd.M (Kd.int .u32) _ _ _ 0 [.int .u32 0] from rfl) n
      rw [Nat.mul_one] at h
      exact h
  refine ⟨fun k hk => by have : w.heap.size = k := by simpa [Value.ownBlock] using hk
                         exact this ▸ hok, (madeCells #[.int .u32 0] n).toList, ?_, hreps⟩
  have h2 := World.ownsRow_lit (base := base) (e := 123) (size := 1) w (madeCells #[.int .u32 0] n) n hb (by unfold maxLen; omega) (by simpa using hreps.1)
  show (w.alloc (.cells (madeCells #[.int .u32 0] n) 123)).ownsRow base 123 1 _ (List.replicate n (0 : Int)).length _
  simpa using h2

/-- A round of nat.short: what is left, and the quotient's words. -/
def nat_Nat_short.step (b : Int) (l : List Int) (st : Int × List Int) (i : Nat) : Int × List Int :=
  (Int.tmod (Go.bits .or .u64 (IntKind.u64.wrap (st.1 * 4294967296)) (IntKind.u64.wrap (l[i]?.getD 0))) b,st.2.set i (IntKind.u32.wrap (IntKind.u64.wrap (Int.tdiv (Go.bits .or .u64 (IntKind.u64.wrap (st.1 * 4294967296)) (IntKind.u64.wrap (l[i]?.getD 0))) b))))
def nat_Nat_short.run (b : Int) (l : List Int) (pre : List Nat) : Int × List Int:=pre.foldl (nat_Nat_short.step b l) (0,List.replicate l.length 0)
theorem nat_Nat_short.run_snoc (b : Int) (l : List Int) (pre : List Nat) (i : Nat) : nat_Nat_short.run b l (pre ++ [i]) = nat_Nat_short.step b l (nat_Nat_short.run b l pre) i:=by simp [run]
theorem nat_Nat_short.run_length (b : Int) (l : List Int) (pre : List Nat) : (nat_Nat_short.run b l pre).2.length = l.length:=by
  suffices ∀ (st : Int × List Int),st.2.length = l.length → (pre.foldl (nat_Nat_short.step b l) st).2.length = l.length from this _ (by simp)
  induction pre with
  | nil=>intro st h; exact h
  | cons i pre ih=>intro st h; exact ih _ (by simp [step,h])
/-- The post of code that does not panic. -/
def OnlyNormal (Q : Exit → Act → World → Prop) : Exit → Act → World → Prop
  | .normal,a,w=>Q .normal a w
  | _,_,_=>False
theorem only_normal {F : Fence} {n : Nat} {P : Program} {c : Code} {Q : Exit → Act → World → Prop} {a : Act} {w : World} (h : c.wpIn F n P (OnlyNormal Q) a w) : c.wpIn F n P Q a w :=
  Code.wpIn_mono (fun e a w h=>by cases e <;> first | exact h | exact False.elim h) h
theorem nat_Nat_short.backs_map (n : Nat) : (backs n).map (fun x : Fin n=>x.1) = (List.range n).reverse:=by
  unfold backs
  rw [List.map_reverse]
  congr 1
  apply List.ext_getElem <;> simp
def nat_Nat_short.f (k : Nat) (l0 : List Int) (a1 : Int) : Option (List Int × List Int) :=
  if 0 < a1 ∧ a1 < 4294967296 ∧ l0.length ≤ 70368744177664 then ((nat_trim.f k (nat_Nat_short.run a1 l0 (List.range l0.length).reverse).2).bind fun t1=>((nat_New.f k (nat_Nat_short.run a1 l0 (List.range l0.length).reverse).1).bind fun t2=>(some (t1,t2)))) else none
theorem nat_Nat_short.mono : ∀ a0 a1 k,LeO (nat_Nat_short.f k a0 a1) (nat_Nat_short.f (k + 1) a0 a1):=by
 intro a0 a1 k
 unfold nat_Nat_short.f
 refine LeO.ite (LeO.bind (nat_trim.mono _ _) (fun _=>LeO.bind (nat_New.mono _ _) (fun _=>LeO.refl _))) (LeO.none _)
open Go.Shelf in
attribute [local go_sem] Oper.semAt_some in
set_option maxHeartbeats 8000000 in
set_option maxRecDepth 100000 in
theorem nat_Nat_short.calls (k : Nat) (A0 : Option Addr) (c0 : Nat) (l0 : List Int) (a1 : Int) (r1 : List Int) (r2 : List Int) (w : World) (hr0 : Kd.C (Kd.int .u32) w A0 l0.length l0) (hc0 : l0.length ≤ c0) (h : nat_Nat_short.f k l0 a1 = some (r1,r2)) :
  Calls Try.prog 97 #[.slice A0 l0.length c0,.int .u32 a1] w fun e w'=>∃ v0_ v1_ : Value,e = .returned (.tuple #[v0_,v1_]) ∧ Kd.V (Kd.int .u32) 123 w' w.heap.size (fun k_=>(w.heap.size ≤ k_)) v0_ r1 ∧ Kd.V (Kd.int .u32) 123 w' w.heap.size (fun k_=>(w.heap.size ≤ k_)) v1_ r2 ∧ Below w.heap.size w w':=by
  unfold nat_Nat_short.f at h
  by_cases hcond : 0 < a1 ∧ a1 < 4294967296 ∧ l0.length ≤ 70368744177664
  case neg=>rw [if_neg hcond] at h; exact absurd h (by simp)
  rw [if_pos hcond] at h
  obtain ⟨ha,ha2,hlm⟩:=hcond
  obtain ⟨t1,A1,h⟩:=Option.bind_eq_some_iff.mp h
  obtain ⟨t2,A2,h⟩:=Option.bind_eq_some_iff.mp h
  obtain ⟨rfl,rfl⟩ : t1 = r1 ∧ t2 = r2:=by simpa using h
  clear h
  refine callsIn_wide (n:=3) |>.1 ?_
  have hro : Fence.wide.round = none:=rfl
  have h1 : 1 ≤ 3:=by omega
  refine callsIn_of_wp_marks Try.func97 rfl trivial ?_ hro
  simp only [Try.ntmps97,List.size_toArray,List.length_cons,List.length_nil,Nat.reduceAdd,Nat.reduceSub,Array.replicate_succ,Array.replicate_zero,List.push_toArray,List.append_toArray,List.nil_append,List.cons_append]
  have hmk:=fun w : World=>(made_zeros w l0.length hlm).1
  gi_wp2_with (refine ⟨trivial,?_⟩; gi_at_call 112; refine (back_in Fence.wide (3 - 1) trivial rfl _ _ _ _).mono ?_; rintro e w' ⟨rfl,rfl⟩)
  have hcells : ∀ j : Nat,j < l0.length → ∃ ad,A0 = some ad ∧ ad.block < w.heap.size ∧ w.cell? (ad.add j) = some (.int .u32 (l0[j]?.getD 0)):=by
    intro j hj
    obtain ⟨ad,e,h⟩:=Kd.at_int hr0 (j : Int) (by omega) (by omega)
    rw [Int.toNat_natCast] at h
    have hlt:=World.block_lt_of_cell? w _ h
    have eb : (ad.add j).block = ad.block:=by unfold Addr.add; split <;> rfl
    refine ⟨ad,e,by omega,?_⟩
    rw [h]
    simp [rd]
  have b1:=Boxed.new w 123 (.int .u32 a1)
  have b2:=(Boxed.new ((w.alloc (.cells #[.int .u32 a1] 123)).alloc (.cells (madeCells #[.int .u32 0] l0.length) 123)) 47 (.slice (some ⟨w.heap.size + 1,0,none⟩) l0.length l0.length))
  have b3:=(Boxed.new (((w.alloc (.cells #[.int .u32 a1] 123)).alloc (.cells (madeCells #[.int .u32 0] l0.length) 123)).alloc (.cells #[.slice (some ⟨w.heap.size + 1,0,none⟩) l0.length l0.length] 47)) 24 (.int .u64 0))
  have b4:=(Boxed.new ((((w.alloc (.cells #[.int .u32 a1] 123)).alloc (.cells (madeCells #[.int .u32 0] l0.length) 123)).alloc (.cells #[.slice (some ⟨w.heap.size + 1,0,none⟩) l0.length l0.length] 47)).alloc (.cells #[.int .u64 0] 24)) 48 (.slice A0 l0.length c0))
  have hq:=(made_zeros (w.alloc (.cells #[.int .u32 a1] 123)) l0.length hlm).2 w.heap.size (fun k_=>k_ = w.heap.size + 1) (by simp) (by simp)
  simp only [World.size_alloc] at b2 b3 b4 hq
  have hB0 : Below w.heap.size w (((((w.alloc (.cells #[.int .u32 a1] 123)).alloc (.cells (madeCells #[.int .u32 0] l0.length) 123)).alloc (.cells #[.slice (some ⟨w.heap.size + 1,0,none⟩) l0.length l0.length] 47)).alloc (.cells #[.int .u64 0] 24)).alloc (.cells #[.slice A0 l0.length c0] 48)) :=
    (((((Below.refl _ w).alloc (Nat.le_refl _) _).alloc (by simp) _).alloc (by simp; omega) _).alloc (by simp; omega) _).alloc (by simp; omega) _
  refine wpIn_rangeFunc_ownG hro h1 (gf:=114) (lb:=#[.pointer (some ⟨w.heap.size + 1 + 1 + 1 + 1,0,none⟩)]) rfl trivial (enters_of Try.func114 (by kernel_rfl) rfl)
    (back_stops Fence.wide (3 - 1) trivial hro (by omega) (w.heap.size + 1 + 1 + 1 + 1) w.heap.size A0 l0.length c0 l0 (by omega) _ (by simp) (by simp; omega) b4.cell (fun j hj=>?cells)) KeepBox.t (KeepBox.b (by simp; omega) (by simp)) (Below.refl _ _) (fun _=>rfl)
    (fun pre W=>((Boxed W w.heap.size 123 (.int .u32 a1) ∧ Boxed W (w.heap.size + 1 + 1) 47 (.slice (some ⟨w.heap.size + 1,0,none⟩) l0.length l0.length) ∧ Boxed W (w.heap.size + 1 + 1 + 1) 24 (.int .u64 (nat_Nat_short.run a1 l0 (pre.map (·.1))).1)) ∧
      Kd.R (Kd.int .u32) 123 W w.heap.size (fun k_=>k_ = w.heap.size + 1) (.slice (some ⟨w.heap.size + 1,0,none⟩) l0.length l0.length) (nat_Nat_short.run a1 l0 (pre.map (·.1))).2) ∧ Below w.heap.size w W)
    (fun _ _ _=>False)
    (OwnFrom.and (fun s A B row hs hg hr=>⟨⟨hs.1.1.kept hg (fun e=>by have:=(hr _ e.symm).1; simp at this; omega),hs.1.2.1.kept hg (fun e=>by have:=(hr _ e.symm).1; simp at this; omega),hs.1.2.2.kept hg (fun e=>by have:=(hr _ e.symm).1; simp at this; omega)⟩,Kd.R_grown hs.2 hg (fun k hk e=>by have:=(hr _ e.symm).1; simp at this; omega)⟩) (ownFrom_below (Nat.le_refl _) (by simp; omega)))
    (fun _ _ _ _ _ hs _ _=>hs)
    ⟨⟨⟨(((b1.alloc _).alloc _).alloc _).alloc _,(b2.alloc _).alloc _,b3.alloc _⟩,Kd.R_alloc (Kd.R_alloc (Kd.R_alloc hq _) _) _⟩,hB0⟩
    (fun x => { tmps := #[Value.slice A0 l0.length c0, Value.int IntKind.u32 a1, undef,
            Value.pointer (some { block := w.heap.size, off := 0 }), Value.slice none 0 0, Value.slice none 0 0,
            Value.pointer (some { block := w.heap.size + 1 + 1, off := 0 }),
            Value.pointer (some { block := w.heap.size + 1 + 1 + 1, off := 0 }), .int .i64 ((x.1 : Nat) : Int), .int .u32 (l0[x.1]?.getD 0),
            Value.slice A0 l0.length c0, Value.int IntKind.i64 (l0.length : Int),
            Value.slice (some { block := w.heap.size + 1, off := 0 }) l0.length l0.length, Value.slice A0 l0.length c0,
            Value.func (Fn.func 114) #[] #[Value.pointer (some { block := w.heap.size + 1 + 1 + 1 + 1, off := 0 })],
            .int .i64 ((x.1 : Nat) : Int), .int .u32 (l0[x.1]?.getD 0), undef, undef, undef, undef, undef, undef, undef, undef, undef, undef, undef, undef, undef,
            undef, undef, undef, undef, undef, undef, undef, undef], defers := [] }) ?assign ?body ?done ?stop
  case cells =>
    obtain ⟨ad,e,h2,h3⟩:=hcells j hj
    exact ⟨ad, e, h2, (hB0.cell (p := ad.add j) (by have : (ad.add j).block = ad.block := by unfold Addr.add; split <;> rfl
                                                    rw [this]; exact h2)).trans h3⟩
  case assign =>
    intro l x W K hK
    obtain ⟨i,hi⟩:=x
    dsimp only [backEnc] at hK ⊢
    revert hK
    generalize l0[i]?.getD 0 = xv
    intro hK
    gi_wp2
    exact hK
  case body =>
    rintro l pre x W ⟨⟨⟨g1,g2,g3⟩,hR⟩,hB⟩ _
    have c1:=g1.cell
    have c2:=g2.cell
    have c3:=g3.cell
    have f3:=g3.frozen
    obtain ⟨i,hi⟩:=x
    dsimp only
    generalize hxv : l0[i]?.getD 0 = xv
    generalize hst : nat_Nat_short.run a1 l0 (pre.map (·.1)) = st at g3 hR c3
    obtain ⟨r,q⟩:=st
    dsimp only at g3 hR c3
    gi_wp2
    have c1':=(Boxed.other g1 (B':=w.heap.size + 1 + 1 + 1) (by omega) (.int .u64 (bits .or .u64 (IntKind.u64.wrap (r * 4294967296)) (IntKind.u64.wrap xv)))).cell
    have c2':=(Boxed.other g2 (B':=w.heap.size + 1 + 1 + 1) (by omega) (.int .u64 (bits .or .u64 (IntKind.u64.wrap (r * 4294967296)) (IntKind.u64.wrap xv)))).cell
    have c3':=(g3.set (.int .u64 (bits .or .u64 (IntKind.u64.wrap (r * 4294967296)) (IntKind.u64.wrap xv)))).cell
    have hz1 : IntKind.u64.wrap a1 = a1:=by
      simp only [IntKind.wrap,IntKind.bits,IntKind.signed]
      simp
      omega
    have hz2 : ¬ a1 = 0:=by omega
    have hz3 : (a1 == 0) = false:=beq_eq_false_iff_ne.2 hz2
    have hlen : q.length = l0.length:=by
      have:=nat_Nat_short.run_length a1 l0 (pre.map (·.1))
      rw [hst] at this
      exact this
    have hx0 : (0 : Int) ≤ (i : Int):=by omega
    have hx1 : (i : Int) < (l0.length : Int):=by omega
    have hR':=Kd.R_far hR (p:=⟨w.heap.size + 1 + 1 + 1,0,none⟩) (fun k hk=>by show k ≠ w.heap.size + 1 + 1 + 1; omega) (.int .u64 (bits .or .u64 (IntKind.u64.wrap (r * 4294967296)) (IntKind.u64.wrap xv)))
    obtain ⟨cq,fq⟩:=Kd.R_celln 0 hR' (i : Int) hx0 hx1
    simp only [Int.toNat_natCast] at cq fq
    obtain ⟨hR2,hg2⟩:=Kd.R_putg hR' (i : Int) (IntKind.u32.wrap (IntKind.u64.wrap ((bits .or .u64 (IntKind.u64.wrap (r * 4294967296)) (IntKind.u64.wrap xv)).tdiv a1)))
    simp only [Int.toNat_natCast] at hR2 hg2
    have p1:=Boxed.other g1 (B':=w.heap.size + 1 + 1 + 1) (by omega) (.int .u64 (bits .or .u64 (IntKind.u64.wrap (r * 4294967296)) (IntKind.u64.wrap xv)))
    have p2:=Boxed.other g2 (B':=w.heap.size + 1 + 1 + 1) (by omega) (.int .u64 (bits .or .u64 (IntKind.u64.wrap (r * 4294967296)) (IntKind.u64.wrap xv)))
    have p3:=Boxed.set (.int .u64 (bits .or .u64 (IntKind.u64.wrap (r * 4294967296)) (IntKind.u64.wrap xv))) g3
    have q1:=p1.kept hg2 (fun e=>absurd (Option.some.inj e) (by omega))
    have q2:=p2.kept hg2 (fun e=>absurd (Option.some.inj e) (by omega))
    have q3:=p3.kept hg2 (fun e=>absurd (Option.some.inj e) (by omega))
    refine (fun (hfin : ?G)=>?walk) ?fin
    case walk =>
      gi_region_with (fail)
      all_goals exact hfin
    case fin =>
      have kb : KeepBox w.heap.size (w.heap.size + 1 + 1 + 1 + 1) W ((W.setCell ⟨w.heap.size + 1 + 1 + 1,0,none⟩ (.int .u64 (bits .or .u64 (IntKind.u64.wrap (r * 4294967296)) (IntKind.u64.wrap xv)))).setCell ⟨w.heap.size + 1,i,none⟩ (.int .u32 (IntKind.u32.wrap (IntKind.u64.wrap ((bits .or .u64 (IntKind.u64.wrap (r * 4294967296)) (IntKind.u64.wrap xv)).tdiv a1))))) :=
        (KeepBox.set W _ _ (by show w.heap.size ≤ w.heap.size + 1 + 1 + 1; omega) (by show w.heap.size + 1 + 1 + 1 + 1 ≠ w.heap.size + 1 + 1 + 1; omega)).t (KeepBox.set _ _ _ (by show w.heap.size ≤ w.heap.size + 1; omega) (by show w.heap.size + 1 + 1 + 1 + 1 ≠ w.heap.size + 1; omega))
      have ko:=((KeepsOthers.setCell W ⟨w.heap.size + 1 + 1 + 1,0,none⟩ (.int .u64 (bits .or .u64 (IntKind.u64.wrap (r * 4294967296)) (IntKind.u64.wrap xv)))).trans (KeepsOthers.setCell _ ⟨w.heap.size + 1,i,none⟩ (.int .u32 (IntKind.u32.wrap (IntKind.u64.wrap ((bits .or .u64 (IntKind.u64.wrap (r * 4294967296)) (IntKind.u64.wrap xv)).tdiv a1))))))
      generalize ((W.setCell ⟨w.heap.size + 1 + 1 + 1,0,none⟩ (.int .u64 (bits .or .u64 (IntKind.u64.wrap (r * 4294967296)) (IntKind.u64.wrap xv)))).setCell ⟨w.heap.size + 1,i,none⟩ (.int .u32 (IntKind.u32.wrap (IntKind.u64.wrap ((bits .or .u64 (IntKind.u64.wrap (r * 4294967296)) (IntKind.u64.wrap xv)).tdiv a1))))) = W2 at q1 q2 q3 hR2 kb ko ⊢
      have d1:=q1.cell
      have d3:=q3.cell
      have e3:=q3.frozen
      clear c1 c2 c3 f3 c1' c2' c3' cq fq hg2
      gi_wp2
      have es : nat_Nat_short.run a1 l0 ((pre ++ [(⟨i,hi⟩ : Fin l0.length)]).map (fun x : Fin l0.length=>x.1)) = (Int.tmod (bits .or .u64 (IntKind.u64.wrap (r * 4294967296)) (IntKind.u64.wrap xv)) a1,q.set i (IntKind.u32.wrap (IntKind.u64.wrap (Int.tdiv (bits .or .u64 (IntKind.u64.wrap (r * 4294967296)) (IntKind.u64.wrap xv)) a1)))):=by
        rw [List.map_append,List.map_cons,List.map_nil,nat_Nat_short.run_snoc,hst]
        unfold nat_Nat_short.step
        rw [hxv]
      have kb2:=kb.t (KeepBox.set W2 ⟨w.heap.size + 1 + 1 + 1,0,none⟩ (.int .u64 ((bits .or .u64 (IntKind.u64.wrap (r * 4294967296)) (IntKind.u64.wrap xv)).tmod a1)) (by show w.heap.size ≤ w.heap.size + 1 + 1 + 1; omega) (by show w.heap.size + 1 + 1 + 1 + 1 ≠ w.heap.size + 1 + 1 + 1; omega))
      have kb3 : KeepBox w.heap.size (w.heap.size + 1 + 1 + 1 + 1) W ((W2.setCell ⟨w.heap.size + 1 + 1 + 1,0,none⟩ (.int .u64 ((bits .or .u64 (IntKind.u64.wrap (r * 4294967296)) (IntKind.u64.wrap xv)).tmod a1))).drew):=⟨kb2.1.drew,fun v hv=>kb2.2 v hv⟩
      refine ⟨((ko.trans (KeepsOthers.setCell W2 _ _)).trans (KeepsOthers.drew _)).from _,kb3,⟨⟨?_,?_,?_⟩,?_⟩,hB.trans kb3.1⟩
      · exact Boxed.other q1 (by omega) _
      · exact Boxed.other q2 (by omega) _
      · rw [es]
        exact Boxed.set _ q3
      · rw [es]
        exact Kd.R_drew (Kd.R_far hR2 (fun k hk=>by show k ≠ w.heap.size + 1 + 1 + 1; omega) _)
  case done =>
    rintro D ys W hD rfl ⟨⟨⟨g1,g2,g3⟩,hR⟩,hB⟩ hK
    simp only [nat_Nat_short.backs_map] at g3 hR
    have hlen:=nat_Nat_short.run_length a1 l0 (List.range l0.length).reverse
    generalize nat_Nat_short.run a1 l0 (List.range l0.length).reverse = st at *
    obtain ⟨r,q⟩:=st
    dsimp only at A1 A2 g3 hR hlen
    have hDl : D < W.heap.size:=(Array.getElem?_eq_some_iff.1 hK).1
    have hD2 : w.heap.size + 1 + 1 + 1 + 1 + 1 ≤ D:=by simpa using hD
    have c2:=g2.cell
    have c3:=g3.cell
    have l3:=g3.lt
    rw [← hlen] at c2 hR
    have hV:=Kd.R_V (base':=W.heap.size) hR
    have HL:=Aside0.mk hlen
    clear hlen
    gi_wp2
    refine only_normal ?_
    gi_region_with (first
      | (refine ⟨trivial,?_⟩; gi_at_call 85; refine (callsIn_wide.2 (nat_trim.calls k (fun k_=>k_ = w.heap.size + 1) (some ⟨w.heap.size + 1,0,none⟩) q.length q t1 _ ?tv A1)).mono ?_; (case tv=>exact Kd.V_drew hV); rintro e w1 ⟨v0,rfl,hv1,hb1⟩; have hc1:=(hb1.cell (p:=⟨w.heap.size + 1 + 1 + 1,0,none⟩) l3).trans c3; have hK1:=(hb1.block D hDl).trans hK; have hB1:=hB.drew.trans (hb1.mono hB.size))
      | (refine ⟨trivial,?_⟩; gi_at_call 56; refine (callsIn_wide.2 (nat_New.calls k r t2 _ A2)).mono ?_; rintro e w2 ⟨v1,rfl,hv2,hb2⟩))
    all_goals (unfold OnlyNormal; simp only [Act.put,List.getElem_toArray,List.getElem_cons_zero,List.getElem_cons_succ,List.setIfInBounds_toArray,List.set_cons_zero,List.set_cons_succ]; gi_wp2)
    all_goals
      have s1 : W.heap.size ≤ w1.heap.size:=hb1.size
      have s0 : w.heap.size ≤ W.heap.size:=hB.size
      have hK2:=(hb2.block D (Nat.lt_of_lt_of_le hDl s1)).trans hK1
      have hg:=grownBy_putObj' w2 D (.deferred none)
      refine ⟨by simp,.inl ⟨_,_,rfl,run_takeDeferred hK2,?_⟩⟩
      refine ⟨.tuple #[v0,v1],by simp [results,Try.f97,go_sem],v0,v1,rfl,?_,?_,?_⟩
      · refine Kd.V_mono (Kd.V_lower (Kd.V_grown (Kd.V_below hv1 hb2) hg (fun k hk e=>?_)) (by show w.heap.size ≤ W.heap.size; exact s0)) (fun k hk=>?_)
        · have e' : k = D:=Option.some.inj e
          have hk' : k = w.heap.size + 1 ∨ W.heap.size ≤ k:=hk
          omega
        · have hk' : k = w.heap.size + 1 ∨ W.heap.size ≤ k:=hk
          omega
      · refine Kd.V_mono (Kd.V_lower (Kd.V_grown hv2 hg (fun k hk e=>?_)) (by omega)) (fun k hk=>?_)
        · have e' : k = D:=Option.some.inj e
          have hk' : w1.heap.size ≤ k:=hk
          omega
        · have hk' : w1.heap.size ≤ k:=hk
          omega
      · exact (hB1.trans (hb2.mono (by omega))).trans (belowK_b (w:=w) (Nat.le_refl _) w2 D _ _ (by omega) hK2 rfl rfl)
  case stop =>
    rintro D c pre W _ _ h _
    exact h.elim

/-! ### nat_shifted: function 99 -/
def nat_shifted.l0 : Nat → List Int → Int → List Int → Int → Int → Option (List Int)
 | 0,_,_,_,_,_=>none
 | k + 1,x0,x1,x7,x13,x14=>if x14 < x13 then ((nat_Nat_at.f x0 x14).bind fun t254=>(if 0 ≤ x1 then (if x14 > 0 then ((nat_Nat_at.f x0 (wrap64 (x14 - 1))).bind fun t255=>(if 0 ≤ x14 then (if x14 < (x7.length : Int) then (nat_shifted.l0 k x0 x1 (x7.set (x14 : Int).toNat ((Go.bits .or .u64 (shl .u64 t254 x1) ((shl .u64 t255 x1) / 4294967296)) % 4294967296)) x13 (wrap64 (x14 + 1))) else (none)) else (none))) else (if 0 ≤ x14 then (if x14 < (x7.length : Int) then (nat_shifted.l0 k x0 x1 (x7.set (x14 : Int).toNat ((shl .u64 t254 x1) % 4294967296)) x13 (wrap64 (x14 + 1))) else (none)) else (none))) else (none))) else (some x7)
def nat_shifted.f (k : Nat) (l0 : List Int) (a1 : Int) (a2 : Int) : Option (List Int):=if 0 ≤ a2 then (if (a2 : Int).toNat ≤ 70368744177664 then ((some (List.replicate (a2 : Int).toNat 0 : List Int)).bind fun y251=>(nat_shifted.l0 k l0 a1 y251 (y251.length : Int) 0)) else (none)) else (none)
theorem nat_shifted.mono_l : ∀ k,(∀ y0 y1 y2 y3 y4,LeO (nat_shifted.l0 k y0 y1 y2 y3 y4) (nat_shifted.l0 (k + 1) y0 y1 y2 y3 y4))
 | 0=>fun _ _ _ _ _ r h=>by simp [nat_shifted.l0] at h
 | k + 1=>by
  have ih0:=nat_shifted.mono_l k
  ·
   intro y0 y1 y2 y3 y4
   unfold nat_shifted.l0
   repeat' with_reducible first | exact ih0 _ _ _ _ _ | exact LeO.refl _ | exact LeO.none _ | refine LeO.ite ?_ ?_ | refine LeO.bind ?_ (fun _=>?_)
theorem nat_shifted.mono : ∀ a0 a1 a2 k,LeO (nat_shifted.f k a0 a1 a2) (nat_shifted.f (k + 1) a0 a1 a2):=by
 intro a0 a1 a2 k
 have ih0:=nat_shifted.mono_l k
 unfold nat_shifted.f
 repeat' with_reducible first | exact ih0 _ _ _ _ _ | exact LeO.refl _ | exact LeO.none _ | refine LeO.ite ?_ ?_ | refine LeO.bind ?_ (fun _=>?_)
set_option maxHeartbeats 8000000 in
set_option maxRecDepth 100000 in
theorem nat_shifted.calls (k : Nat) (A0 : Option Addr) (c0 : Nat) (l0 : List Int) (a1 : Int) (a2 : Int) (r : List Int) (w : World) (hr0 : Kd.C (Kd.int .u32) w A0 l0.length l0) (hc0 : l0.length ≤ c0) (h : nat_shifted.f k l0 a1 a2 = some r) :
  Calls Try.prog 99 #[.slice A0 l0.length c0,.int .i64 a1,.int .i64 a2] w fun e w'=>∃ v0_ : Value,e = .returned (v0_) ∧ Kd.R (Kd.int .u32) 123 w' w.heap.size (fun _=>True) v0_ r ∧ Below w.heap.size w w':=by
 have HR0:=Aside0.mk hr0
 have HC0:=Aside0.mk hc0
 clear hr0 hc0
 have HB:=Aside0.mk (Below.refl w.heap.size w)
 have H : (if 0 ≤ a2 then (if (a2 : Int).toNat ≤ 70368744177664 then ((some (List.replicate (a2 : Int).toNat 0 : List Int)).bind fun y251=>(nat_shifted.l0 k l0 a1 y251 (y251.length : Int) 0)) else (none)) else (none)) = some r:=h
 clear h
 by_cases c4 : 0 ≤ a2
 case neg =>
  rw [if_neg c4] at H
  exact absurd H (by simp)
 rw [if_pos c4] at H
 have c4b0:=eq_true c4
 have c4b1 : decide (0 ≤ a2) = true:=decide_eq_true c4
 clear c4
 by_cases c5 : (a2 : Int).toNat ≤ 70368744177664
 case neg =>
  rw [if_neg c5] at H
  exact absurd H (by simp)
 rw [if_pos c5] at H
 have c5b0:=eq_true c5
 have c5b1 : decide ((a2 : Int).toNat ≤ 70368744177664) = true:=decide_eq_true c5
 clear c5
 obtain ⟨y251,hy251⟩ : ∃ y_ : List Int,y_ = (List.replicate (a2 : Int).toNat 0):=⟨_,rfl⟩
 replace H : (nat_shifted.l0 k l0 a1 y251 (y251.length : Int) 0) = some r:=by first | (rw [hy251]; with_reducible exact H) | (have H2_:=(Option.bind_some _ _).symm.trans H; rw [hy251]; with_reducible exact H2_) | (have H2_:=(Option.bind_some _ _).symm.trans H; with_reducible exact H2_) | with_reducible exact H | (rw [hy251]; exact H) | exact H
 have Ny251:=Aside0.mk hy251
 clear hy251
 have H':=Aside0.mk H
 clear H
 go_enter Try.func99,Try.ntmps99
 go_wp2_with (first | ((with_reducible refine gate_dst (N:=11) rfl ?_); refine Kd.R_make (Kd.int .u32) _ 123 rfl (N:=11) rfl 47 _ _ rfl a2 rfl rfl Try.underlying47 (.int .u32 0) 4 info123 rfl (by decide) (by omega) 0 (ok:=fun _=>True) (okp:=fun _=>True) rfl (fun _ hk=>hk) trivial (of_decide_eq_true (by first | (with_reducible assumption) | assumption)) (Nat.le_trans (Nat.mul_le_mul_right _ (of_decide_eq_true (by first | (with_reducible assumption) | assumption) : a2.toNat ≤ 70368744177664)) (by omega)) (Below.refl _ _) (Nat.le_refl _) ?_; intro v252 w6 ho7 hb hg_ hnew_; clear hg_ hnew_; (first | rw [← Ny251.out] at ho7 | (simp only [Int.reduceToNat] at ho7; rw [← Ny251.out] at ho7)); have HO253:=Aside0.mk (Kd.R_lower ho7 (below_size bh_)); replace HB:=bq_ hb; clear hb ho7; obtain ⟨Ao8,co8,eo8⟩:=Kd.R_slice HO253.out; subst eo8))
 (try simp only [Act.put,p1_,p2_,p3_])
 go_loopg [14] k (fun kq v14 w'=>∃ (x7_1 : List Int) (x14_1 : Int),v14 = .int .i64 x14_1 ∧ Aside0 (nat_shifted.l0 kq l0 a1 x7_1 (y251.length : Int) x14_1 = some r) ∧ Aside0 (kq ≤ k) ∧ Aside0 (Kd.R (Kd.int .u32) 123 w' w.heap.size (fun _=>True) (.slice Ao8 y251.length co8) x7_1) ∧ Aside0 (Below w.heap.size w w'))
 case atStart=>exact ⟨(y251),(0),(sh_),H',⟨Nat.le_refl _⟩,⟨by (with_reducible repeat (first | apply ra_ | apply rn_ | apply rd_)); exact HO253.out⟩,⟨bh_⟩⟩
 case round =>
  clear H'
  try clear p2
  try clear c4
  try clear c4b0
  try clear c4b1
  try clear c5
  try clear c5b0
  try clear c5b1
  obtain ⟨x7_1,x14_1,rfl,HA,HK1,HO_7,HB⟩:=hrel
  have hl7_1:=(Kd.R_reads' HO_7.out).1
  rw [hl7_1] at HO_7
  (try simp only [hl7_1])
  cases gk with
  | zero=>exact absurd HA.out (by simp [nat_shifted.l0])
  | succ k1 =>
   have H:=HA.out
   clear HA
   simp only [nat_shifted.l0] at H
   by_cases c9 : x14_1 < (y251.length : Int)
   case neg =>
    rw [if_neg c9] at H
    have c9b0 : decide (x14_1 < (y251.length : Int)) = false:=decide_eq_false c9
    (try (have c9b0x:=c9b0; rw [hl7_1] at c9b0x))
    clear c9
    obtain rfl:=Option.some.inj H
    go_wp2
    go_ret
    exact ⟨_,eh_,by (with_reducible repeat (first | apply ra_ | apply rn_ | apply rd_)); exact HO_7.out,bh_⟩
   rw [if_pos c9] at H
   have c9b0 : decide (x14_1 < (y251.length : Int)) = true:=decide_eq_true c9
   clear c9
   replace H:=Option.bind_eq_some_iff.mp H
   obtain ⟨t254,A100,H⟩:=H
   replace H : (if 0 ≤ a1 then (if x14_1 > 0 then ((nat_Nat_at.f l0 (wrap64 (x14_1 - 1))).bind fun t255=>(if 0 ≤ x14_1 then (if x14_1 < (x7_1.length : Int) then (nat_shifted.l0 k1 l0 a1 (x7_1.set (x14_1 : Int).toNat ((Go.bits .or .u64 (shl .u64 t254 a1) ((shl .u64 t255 a1) / 4294967296)) % 4294967296)) (y251.length : Int) (wrap64 (x14_1 + 1))) else (none)) else (none))) else (if 0 ≤ x14_1 then (if x14_1 < (x7_1.length : Int) then (nat_shifted.l0 k1 l0 a1 (x7_1.set (x14_1 : Int).toNat ((shl .u64 t254 a1) % 4294967296)) (y251.length : Int) (wrap64 (x14_1 + 1))) else (none)) else (none))) else (none)) = some r:=H
   have A10:=Aside0.mk A100
   clear A100
   by_cases c11 : 0 ≤ a1
   case neg =>
    rw [if_neg c11] at H
    exact absurd H (by simp)
   rw [if_pos c11] at H
   have c11b0:=eq_true c11
   have c11b1 : decide (0 ≤ a1) = true:=decide_eq_true c11
   clear c11
   obtain ⟨ji12,hji12⟩ : ∃ j_ : Int,(shl .u64 t254 a1) = j_:=⟨_,rfl⟩
   replace H : (if x14_1 > 0 then ((nat_Nat_at.f l0 (wrap64 (x14_1 - 1))).bind fun t255=>(if 0 ≤ x14_1 then (if x14_1 < (x7_1.length : Int) then (nat_shifted.l0 k1 l0 a1 (x7_1.set (x14_1 : Int).toNat ((Go.bits .or .u64 (ji12) ((shl .u64 t255 a1) / 4294967296)) % 4294967296)) (y251.length : Int) (wrap64 (x14_1 + 1))) else (none)) else (none))) else (if 0 ≤ x14_1 then (if x14_1 < (x7_1.length : Int) then (nat_shifted.l0 k1 l0 a1 (x7_1.set (x14_1 : Int).toNat ((ji12) % 4294967296)) (y251.length : Int) (wrap64 (x14_1 + 1))) else (none)) else (none))) = some r:=by first | (rw [hji12] at H; exact H) | (simp only [hji12] at H ⊢; exact H)
   (try rw [hji12] at A10)
   have hji12_ : (IntKind.u64.wrap (t254 * 2 ^ min a1.toNat 64)) = ji12:=hji12
   have hji12z : a1 ≤ 64 → (IntKind.u64.wrap (t254 * 2 ^ a1.toNat)) = ji12:=shl_small hji12
   by_cases c13 : x14_1 > 0
   case neg =>
    rw [if_neg c13] at H
    have c13b0 : decide (0 < x14_1) = false:=decide_eq_false c13
    clear c13
    by_cases c22 : 0 ≤ x14_1
    case neg =>
     rw [if_neg c22] at H
     exact absurd H (by simp)
    rw [if_pos c22] at H
    have c22b0 : decide (0 ≤ x14_1) = true:=decide_eq_true c22
    clear c22
    by_cases c23 : x14_1 < (x7_1.length : Int)
    case neg =>
     rw [if_neg c23] at H
     exact absurd H (by simp)
    rw [if_pos c23] at H
    have c23b0 : decide (x14_1 < (x7_1.length : Int)) = true:=decide_eq_true c23
    clear c23
    obtain ⟨y257,hy257⟩ : ∃ y_ : List Int,y_ = (x7_1.set (x14_1 : Int).toNat ((ji12) % 4294967296)):=⟨_,rfl⟩
    replace H : (nat_shifted.l0 k1 l0 a1 y257 (y251.length : Int) (wrap64 (x14_1 + 1))) = some r:=by first | (rw [hy257]; with_reducible exact H) | (have H2_:=(Option.bind_some _ _).symm.trans H; rw [hy257]; with_reducible exact H2_) | (have H2_:=(Option.bind_some _ _).symm.trans H; with_reducible exact H2_) | with_reducible exact H | (rw [hy257]; exact H) | exact H
    have Ny257:=Aside0.mk hy257
    clear hy257
    have H':=Aside0.mk H
    clear H
    go_wp2_with (first | ((with_reducible refine gc_ 102 rfl ?_); refine gM_ (some 19) Try.func102 [.slice A0 l0.length c0,.int .i64 x14_1] ?_; (with_reducible refine (nat_Nat_at.calls _ _ l0 x14_1 t254 _ ?side1 ?side2 A10.out).mono ?_); (case side1=>exact ch_ HR0.out); (case side2=>exact HC0.out); rintro e w' ⟨rfl,⟨nd,rfl⟩⟩; refine ⟨_,rfl,?_⟩; (try (rw [drewN_self wr]; generalize hq_ : World.drewN wr _ = wr; have n0_ : Aside0 (Kd.R (Kd.int .u32) 123 wr w.heap.size (fun _=>True) (.slice Ao8 x7_1.length co8) x7_1):=⟨by rw [← hq_]; exact (by (with_reducible repeat (first | apply ra_ | apply rn_ | apply rd_)); exact HO_7.out)⟩; have n1_ : Aside0 (Below w.heap.size w wr):=⟨by rw [← hq_]; exact bh_⟩; clear HO_7 HB hq_; have HO_7:=n0_; have HB:=n1_; clear n0_ n1_)); have p24 : 0 ≤ (x14_1 : Int):=of_decide_eq_true (by first | (with_reducible assumption) | assumption); have q24 : (x14_1 : Int) < ((x7_1.length : Int) : Int):=of_decide_eq_true (by first | (with_reducible assumption) | assumption); obtain ⟨go24,co24,eo24,gb24,gl24,cl24,HG24⟩:=Kd.R_form HO_7.out (by omega); (first | cases eo24 | (injection eo24 with ea_ en_ ec_; (first | subst ea_ | (injection ea_ with ea_; subst ea_)); subst ec_; clear en_)); have GB24:=Aside0.mk gb24; have GG24:=Aside0.mk HG24; clear gb24 gl24 HG24; obtain ⟨hx24_0,hf24_0⟩:=Kd.R_celln 0 HO_7.out (x14_1 : Int) p24 q24; replace p24:=eq_true p24; replace q24:=eq_true q24; obtain ⟨hy25_,hz25_⟩:=Kd.R_celln 0 HO_7.out (x14_1 : Int) (of_decide_eq_true (by first | (with_reducible assumption) | assumption)) (of_decide_eq_true (by first | (with_reducible assumption) | assumption)); have HP25:=Kd.R_putg HO_7.out (x14_1 : Int) ((ji12) % 4294967296)) | ((with_reducible refine gate_store (t:=123) (p:=37) rfl ?_); refine store_event (t:=123) (p:=37) (v:=?vo_w26) (w1:=(wr.setCell ⟨go24,(x14_1 : Int).toNat,none⟩ (.int .u32 ((ji12) % 4294967296)))) ?hg ?ho ?hn ?hr ?_; (case ho=>rfl); (case hg=>rfl); (case hn=>rfl); (case hr=>first | (go_simp; done) | (go_simp; rfl)); intro w26 hw; have hg : wr.grownBy w26 (some go24):=(by rw [hw]; exact HP25.2); have hp_ : Kd.R (Kd.int .u32) 123 w26 w.heap.size (fun _=>True) (.slice (some ⟨go24,0,none⟩) x7_1.length co8) y257:=(by rw [hw,Ny257.out]; exact HP25.1); clear HP25; replace HO_7:=Aside0.mk (hp_); replace HB:=Aside0.mk ((by rw [hw]; exact below_set (HB.out) GB24.out : Below w.heap.size w w26)); clear hg hw hp_))
    (try simp only [← hl7_1])
    go_roundg k1
    case measure=>have:=HK1.out; omega
    case rel=>exact ⟨(y257),(wrap64 (x14_1 + 1)),(sh_),H',⟨by have:=HK1.out; omega⟩,⟨by (try simp only [hl7_1]); (with_reducible repeat (first | apply ra_ | apply rn_ | apply rd_)); exact HO_7.out⟩,⟨bh_⟩⟩
   rw [if_pos c13] at H
   have c13b0 : decide (0 < x14_1) = true:=decide_eq_true c13
   clear c13
   replace H:=Option.bind_eq_some_iff.mp H
   obtain ⟨t255,A140,H⟩:=H
   replace H : (if 0 ≤ x14_1 then (if x14_1 < (x7_1.length : Int) then (nat_shifted.l0 k1 l0 a1 (x7_1.set (x14_1 : Int).toNat ((Go.bits .or .u64 (ji12) ((shl .u64 t255 a1) / 4294967296)) % 4294967296)) (y251.length : Int) (wrap64 (x14_1 + 1))) else (none)) else (none)) = some r:=H
   have A14:=Aside0.mk A140
   clear A140
   have c15b0:=eq_true (of_decide_eq_true (by first | (with_reducible assumption) | assumption) : 0 ≤ a1)
   obtain ⟨ji16,hji16⟩ : ∃ j_ : Int,(shl .u64 t255 a1) = j_:=⟨_,rfl⟩
   replace H : (if 0 ≤ x14_1 then (if x14_1 < (x7_1.length : Int) then (nat_shifted.l0 k1 l0 a1 (x7_1.set (x14_1 : Int).toNat ((Go.bits .or .u64 (ji12) ((ji16) / 4294967296)) % 4294967296)) (y251.length : Int) (wrap64 (x14_1 + 1))) else (none)) else (none)) = some r:=by first | (rw [hji16] at H; exact H) | (simp only [hji16] at H ⊢; exact H)
   (try rw [hji16] at A10)
   (try rw [hji16] at A14)
   have hji16_ : (IntKind.u64.wrap (t255 * 2 ^ min a1.toNat 64)) = ji16:=hji16
   have hji16z : a1 ≤ 64 → (IntKind.u64.wrap (t255 * 2 ^ a1.toNat)) = ji16:=shl_small hji16
   by_cases c17 : 0 ≤ x14_1
   case neg =>
    rw [if_neg c17] at H
    exact absurd H (by simp)
   rw [if_pos c17] at H
   have c17b0 : decide (0 ≤ x14_1) = true:=decide_eq_true c17
   clear c17
   by_cases c18 : x14_1 < (x7_1.length : Int)
   case neg =>
    rw [if_neg c18] at H
    exact absurd H (by simp)
   rw [if_pos c18] at H
   have c18b0 : decide (x14_1 < (x7_1.length : Int)) = true:=decide_eq_true c18
   clear c18
   obtain ⟨y256,hy256⟩ : ∃ y_ : List Int,y_ = (x7_1.set (x14_1 : Int).toNat ((Go.bits .or .u64 (ji12) ((ji16) / 4294967296)) % 4294967296)):=⟨_,rfl⟩
   replace H : (nat_shifted.l0 k1 l0 a1 y256 (y251.length : Int) (wrap64 (x14_1 + 1))) = some r:=by first | (rw [hy256]; with_reducible exact H) | (have H2_:=(Option.bind_some _ _).symm.trans H; rw [hy256]; with_reducible exact H2_) | (have H2_:=(Option.bind_some _ _).symm.trans H; with_reducible exact H2_) | with_reducible exact H | (rw [hy256]; exact H) | exact H
   have Ny256:=Aside0.mk hy256
   clear hy256
   have H':=Aside0.mk H
   clear H
   go_wp2_with (first | ((with_reducible refine gc_ 102 rfl ?_); refine gM_ (some 19) Try.func102 [.slice A0 l0.length c0,.int .i64 x14_1] ?_; (with_reducible refine (nat_Nat_at.calls _ _ l0 x14_1 t254 _ ?side1 ?side2 A10.out).mono ?_); (case side1=>exact ch_ HR0.out); (case side2=>exact HC0.out); rintro e w' ⟨rfl,⟨nd,rfl⟩⟩; refine ⟨_,rfl,?_⟩; (try (rw [drewN_self wr]; generalize hq_ : World.drewN wr _ = wr; have n0_ : Aside0 (Kd.R (Kd.int .u32) 123 wr w.heap.size (fun _=>True) (.slice Ao8 x7_1.length co8) x7_1):=⟨by rw [← hq_]; exact (by (with_reducible repeat (first | apply ra_ | apply rn_ | apply rd_)); exact HO_7.out)⟩; have n1_ : Aside0 (Below w.heap.size w wr):=⟨by rw [← hq_]; exact bh_⟩; clear HO_7 HB hq_; have HO_7:=n0_; have HB:=n1_; clear n0_ n1_))) | ((with_reducible refine gc_ 102 rfl ?_); refine gM_ (some 28) Try.func102 [.slice A0 l0.length c0,.int .i64 (wrap64 (x14_1 - 1))] ?_; (with_reducible refine (nat_Nat_at.calls _ _ l0 (wrap64 (x14_1 - 1)) t255 _ ?side1 ?side2 A14.out).mono ?_); (case side1=>exact ch_ HR0.out); (case side2=>exact HC0.out); rintro e w' ⟨rfl,⟨nd,rfl⟩⟩; refine ⟨_,rfl,?_⟩; (try (rw [drewN_self wr]; generalize hq_ : World.drewN wr _ = wr; have n0_ : Aside0 (Kd.R (Kd.int .u32) 123 wr w.heap.size (fun _=>True) (.slice Ao8 x7_1.length co8) x7_1):=⟨by rw [← hq_]; exact (by (with_reducible repeat (first | apply ra_ | apply rn_ | apply rd_)); exact HO_7.out)⟩; have n1_ : Aside0 (Below w.heap.size w wr):=⟨by rw [← hq_]; exact bh_⟩; clear HO_7 HB hq_; have HO_7:=n0_; have HB:=n1_; clear n0_ n1_)); have p19 : 0 ≤ (x14_1 : Int):=of_decide_eq_true (by first | (with_reducible assumption) | assumption); have q19 : (x14_1 : Int) < ((x7_1.length : Int) : Int):=of_decide_eq_true (by first | (with_reducible assumption) | assumption); obtain ⟨go19,co19,eo19,gb19,gl19,cl19,HG19⟩:=Kd.R_form HO_7.out (by omega); (first | cases eo19 | (injection eo19 with ea_ en_ ec_; (first | subst ea_ | (injection ea_ with ea_; subst ea_)); subst ec_; clear en_)); have GB19:=Aside0.mk gb19; have GG19:=Aside0.mk HG19; clear gb19 gl19 HG19; obtain ⟨hx19_0,hf19_0⟩:=Kd.R_celln 0 HO_7.out (x14_1 : Int) p19 q19; replace p19:=eq_true p19; replace q19:=eq_true q19; obtain ⟨hy20_,hz20_⟩:=Kd.R_celln 0 HO_7.out (x14_1 : Int) (of_decide_eq_true (by first | (with_reducible assumption) | assumption)) (of_decide_eq_true (by first | (with_reducible assumption) | assumption)); have HP20:=Kd.R_putg HO_7.out (x14_1 : Int) ((Go.bits .or .u64 (ji12) ((ji16) / 4294967296)) % 4294967296)) | ((with_reducible refine gate_store (t:=123) (p:=37) rfl ?_); refine store_event (t:=123) (p:=37) (v:=?vo_w21) (w1:=(wr.setCell ⟨go19,(x14_1 : Int).toNat,none⟩ (.int .u32 ((Go.bits .or .u64 (ji12) ((ji16) / 4294967296)) % 4294967296)))) ?hg ?ho ?hn ?hr ?_; (case ho=>rfl); (case hg=>rfl); (case hn=>rfl); (case hr=>first | (go_simp; done) | (go_simp; rfl)); intro w21 hw; have hg : wr.grownBy w21 (some go19):=(by rw [hw]; exact HP20.2); have hp_ : Kd.R (Kd.int .u32) 123 w21 w.heap.size (fun _=>True) (.slice (some ⟨go19,0,none⟩) x7_1.length co8) y256:=(by rw [hw,Ny256.out]; exact HP20.1); clear HP20; replace HO_7:=Aside0.mk (hp_); replace HB:=Aside0.mk ((by rw [hw]; exact below_set (HB.out) GB19.out : Below w.heap.size w w21)); clear hg hw hp_))
   (try simp only [← hl7_1])
   go_roundg k1
   case measure=>have:=HK1.out; omega
   case rel=>exact ⟨(y256),(wrap64 (x14_1 + 1)),(sh_),H',⟨by have:=HK1.out; omega⟩,⟨by (try simp only [hl7_1]); (with_reducible repeat (first | apply ra_ | apply rn_ | apply rd_)); exact HO_7.out⟩,⟨bh_⟩⟩

/-! ### nat_step: function 100 -/
mutual
def nat_step.j2 : Nat → List Int → List Int → Int → Int → Option (Int × List Int)
  | 0,_,_,_,_=>none
  | k + 1,x0,x1,x5,x8=>nat_step.l1 k x0 x1 x5 x8 0 0 (x0.length : Int) 0
def nat_step.l1 : Nat → List Int → List Int → Int → Int → Int → Int → Int → Int → Option (Int × List Int)
  | 0,_,_,_,_,_,_,_,_=>none
  | k + 1,x0,x1,x5,x8,x10,x11,x73,x74=>if x74 < x73 then (if x74 < x5 then (if 0 ≤ x74 then (if x74 < (x1.length : Int) then (if x74 < (x0.length : Int) then (nat_step.l1 k (x0.set (x74 : Int).toNat ((IntKind.u64.wrap ((IntKind.u64.wrap ((IntKind.u64.wrap (rd x0 x74)) - (Go.bits .and .u64 (IntKind.u64.wrap (x11 + (IntKind.u64.wrap (x8 * (IntKind.u64.wrap (rd x1 x74)))))) 4294967295))) - x10)) % 4294967296)) x1 x5 x8 ((IntKind.u64.wrap ((IntKind.u64.wrap ((IntKind.u64.wrap (rd x0 x74)) - (Go.bits .and .u64 (IntKind.u64.wrap (x11 + (IntKind.u64.wrap (x8 * (IntKind.u64.wrap (rd x1 x74)))))) 4294967295))) - x10)) / 9223372036854775808) ((IntKind.u64.wrap (x11 + (IntKind.u64.wrap (x8 * (IntKind.u64.wrap (rd x1 x74)))))) / 4294967296) x73 (wrap64 (x74 + 1))) else (none)) else (none)) else (none)) else (if 0 ≤ x74 then (if x74 < (x0.length : Int) then (nat_step.l1 k (x0.set (x74 : Int).toNat ((IntKind.u64.wrap ((IntKind.u64.wrap ((IntKind.u64.wrap (rd x0 x74)) - (Go.bits .and .u64 x11 4294967295))) - x10)) % 4294967296)) x1 x5 x8 ((IntKind.u64.wrap ((IntKind.u64.wrap ((IntKind.u64.wrap (rd x0 x74)) - (Go.bits .and .u64 x11 4294967295))) - x10)) / 9223372036854775808) (x11 / 4294967296) x73 (wrap64 (x74 + 1))) else (none)) else (none))) else (if x10 = 0 then (some ((x8) % 4294967296,x0)) else (nat_step.l2 k x0 x1 x5 x8 0 (x0.length : Int) 0))
def nat_step.l2 : Nat → List Int → List Int → Int → Int → Int → Int → Int → Option (Int × List Int)
  | 0,_,_,_,_,_,_,_=>none
  | k + 1,x0,x1,x5,x8,x14,x114,x115=>if x115 < x114 then (if x115 < x5 then (if 0 ≤ x115 then (if x115 < (x1.length : Int) then (if x115 < (x0.length : Int) then (nat_step.l2 k (x0.set (x115 : Int).toNat ((IntKind.u64.wrap ((IntKind.u64.wrap (x14 + (IntKind.u64.wrap (rd x1 x115)))) + (IntKind.u64.wrap (rd x0 x115)))) % 4294967296)) x1 x5 x8 ((IntKind.u64.wrap ((IntKind.u64.wrap (x14 + (IntKind.u64.wrap (rd x1 x115)))) + (IntKind.u64.wrap (rd x0 x115)))) / 4294967296) x114 (wrap64 (x115 + 1))) else (none)) else (none)) else (none)) else (if 0 ≤ x115 then (if x115 < (x0.length : Int) then (nat_step.l2 k (x0.set (x115 : Int).toNat ((IntKind.u64.wrap (x14 + (IntKind.u64.wrap (rd x0 x115)))) % 4294967296)) x1 x5 x8 ((IntKind.u64.wrap (x14 + (IntKind.u64.wrap (rd x0 x115)))) / 4294967296) x114 (wrap64 (x115 + 1))) else (none)) else (none))) else (some ((IntKind.u64.wrap (x8 - 1)) % 4294967296,x0))
def nat_step.l0 : Nat → List Int → List Int → Int → Int → Int → Int → Option (Int × List Int)
  | 0,_,_,_,_,_,_=>none
  | k + 1,x0,x1,x5,x7,x8,x9=>if x8 ≥ 4294967296 then (nat_step.j1 k x0 x1 x5 x7 x8 x9 true) else (if 0 ≤ (wrap64 (x5 - 2)) then (if (wrap64 (x5 - 2)) < (x1.length : Int) then (if (wrap64 (x5 - 2)) < (x0.length : Int) then (nat_step.j1 k x0 x1 x5 x7 x8 x9 (decide ((IntKind.u64.wrap (x8 * (IntKind.u64.wrap (rd x1 (wrap64 (x5 - 2)))))) > (Go.bits .or .u64 (IntKind.u64.wrap (x9 * 4294967296)) (IntKind.u64.wrap (rd x0 (wrap64 (x5 - 2)))))))) else (none)) else (none)) else (none))
def nat_step.j1 : Nat → List Int → List Int → Int → Int → Int → Int → Bool → Option (Int × List Int)
  | 0,_,_,_,_,_,_,_=>none
  | k + 1,x0,x1,x5,x7,x8,x9,x64=>if x64 = true then (if (IntKind.u64.wrap (x9 + x7)) ≥ 4294967296 then (nat_step.j2 k x0 x1 x5 (IntKind.u64.wrap (x8 - 1))) else (nat_step.l0 k x0 x1 x5 x7 (IntKind.u64.wrap (x8 - 1)) (IntKind.u64.wrap (x9 + x7)))) else (nat_step.j2 k x0 x1 x5 x8)
end
def nat_step.f (k : Nat) (l0 : List Int) (l1 : List Int) : Option (Int × List Int):=if 0 ≤ (l1.length : Int) then (if (l1.length : Int) < (l0.length : Int) then (if 0 ≤ (wrap64 ((l1.length : Int) - 1)) then (if (wrap64 ((l1.length : Int) - 1)) < (l0.length : Int) then (if (wrap64 ((l1.length : Int) - 1)) < (l1.length : Int) then (if (IntKind.u64.wrap (rd l1 (wrap64 ((l1.length : Int) - 1)))) = 0 then (none) else (nat_step.l0 k l0 l1 (l1.length : Int) (IntKind.u64.wrap (rd l1 (wrap64 ((l1.length : Int) - 1)))) (IntKind.u64.wrap (Int.tdiv (Go.bits .or .u64 (IntKind.u64.wrap ((IntKind.u64.wrap (rd l0 (l1.length : Int))) * 4294967296)) (IntKind.u64.wrap (rd l0 (wrap64 ((l1.length : Int) - 1))))) (IntKind.u64.wrap (rd l1 (wrap64 ((l1.length : Int) - 1)))))) (Int.tmod (Go.bits .or .u64 (IntKind.u64.wrap ((IntKind.u64.wrap (rd l0 (l1.length : Int))) * 4294967296)) (IntKind.u64.wrap (rd l0 (wrap64 ((l1.length : Int) - 1))))) (IntKind.u64.wrap (rd l1 (wrap64 ((l1.length : Int) - 1))))))) else (none)) else (none)) else (none)) else (none)) else (none)
theorem nat_step.mono_l : ∀ k,(∀ y0 y1 y2 y3,LeO (nat_step.j2 k y0 y1 y2 y3) (nat_step.j2 (k + 1) y0 y1 y2 y3)) ∧ (∀ y0 y1 y2 y3 y4 y5 y6 y7,LeO (nat_step.l1 k y0 y1 y2 y3 y4 y5 y6 y7) (nat_step.l1 (k + 1) y0 y1 y2 y3 y4 y5 y6 y7)) ∧ (∀ y0 y1 y2 y3 y4 y5 y6,LeO (nat_step.l2 k y0 y1 y2 y3 y4 y5 y6) (nat_step.l2 (k + 1) y0 y1 y2 y3 y4 y5 y6)) ∧ (∀ y0 y1 y2 y3 y4 y5,LeO (nat_step.l0 k y0 y1 y2 y3 y4 y5) (nat_step.l0 (k + 1) y0 y1 y2 y3 y4 y5)) ∧ (∀ y0 y1 y2 y3 y4 y5 y6,LeO (nat_step.j1 k y0 y1 y2 y3 y4 y5 y6) (nat_step.j1 (k + 1) y0 y1 y2 y3 y4 y5 y6))
  | 0=>⟨fun _ _ _ _ r h=>by simp [nat_step.j2] at h,fun _ _ _ _ _ _ _ _ r h=>by simp [nat_step.l1] at h,fun _ _ _ _ _ _ _ r h=>by simp [nat_step.l2] at h,fun _ _ _ _ _ _ r h=>by simp [nat_step.l0] at h,fun _ _ _ _ _ _ _ r h=>by simp [nat_step.j1] at h⟩
  | k + 1=>by
    obtain ⟨ih0,ih1,ih2,ih3,ih4⟩:=nat_step.mono_l k
    refine ⟨?_,?_,?_,?_,?_⟩
    · intro y0 y1 y2 y3
      unfold nat_step.j2
      repeat' with_reducible first | exact ih0 _ _ _ _ | exact ih1 _ _ _ _ _ _ _ _ | exact ih2 _ _ _ _ _ _ _ | exact ih3 _ _ _ _ _ _ | exact ih4 _ _ _ _ _ _ _ | exact LeO.refl _ | exact LeO.none _ | refine LeO.ite ?_ ?_ | refine LeO.bind ?_ (fun _=>?_)
    · intro y0 y1 y2 y3 y4 y5 y6 y7
      unfold nat_step.l1
      repeat' with_reducible first | exact ih0 _ _ _ _ | exact ih1 _ _ _ _ _ _ _ _ | exact ih2 _ _ _ _ _ _ _ | exact ih3 _ _ _ _ _ _ | exact ih4 _ _ _ _ _ _ _ | exact LeO.refl _ | exact LeO.none _ | refine LeO.ite ?_ ?_ | refine LeO.bind ?_ (fun _=>?_)
    · intro y0 y1 y2 y3 y4 y5 y6
      unfold nat_step.l2
      repeat' with_reducible first | exact ih0 _ _ _ _ | exact ih1 _ _ _ _ _ _ _ _ | exact ih2 _ _ _ _ _ _ _ | exact ih3 _ _ _ _ _ _ | exact ih4 _ _ _ _ _ _ _ | exact LeO.refl _ | exact LeO.none _ | refine LeO.ite ?_ ?_ | refine LeO.bind ?_ (fun _=>?_)
    · intro y0 y1 y2 y3 y4 y5
      unfold nat_step.l0
      repeat' with_reducible first | exact ih0 _ _ _ _ | exact ih1 _ _ _ _ _ _ _ _ | exact ih2 _ _ _ _ _ _ _ | exact ih3 _ _ _ _ _ _ | exact ih4 _ _ _ _ _ _ _ | exact LeO.refl _ | exact LeO.none _ | refine LeO.ite ?_ ?_ | refine LeO.bind ?_ (fun _=>?_)
    · intro y0 y1 y2 y3 y4 y5 y6
      unfold nat_step.j1
      repeat' with_reducible first | exact ih0 _ _ _ _ | exact ih1 _ _ _ _ _ _ _ _ | exact ih2 _ _ _ _ _ _ _ | exact ih3 _ _ _ _ _ _ | exact ih4 _ _ _ _ _ _ _ | exact LeO.refl _ | exact LeO.none _ | refine LeO.ite ?_ ?_ | refine LeO.bind ?_ (fun _=>?_)
theorem nat_step.mono : ∀ a0 a1 k,LeO (nat_step.f k a0 a1) (nat_step.f (k + 1) a0 a1):=by
  intro a0 a1 k
  obtain ⟨ih0,ih1,ih2,ih3,ih4⟩:=nat_step.mono_l k
  unfold nat_step.f
  repeat' with_reducible first | exact ih0 _ _ _ _ | exact ih1 _ _ _ _ _ _ _ _ | exact ih2 _ _ _ _ _ _ _ | exact ih3 _ _ _ _ _ _ | exact ih4 _ _ _ _ _ _ _ | exact LeO.refl _ | exact LeO.none _ | refine LeO.ite ?_ ?_ | refine LeO.bind ?_ (fun _=>?_)
-- GIVENTEXT
set_option maxHeartbeats 8000000 in
set_option maxRecDepth 100000 in
theorem nat_step.calls (k : Nat) (P0_ : Nat → Prop) (wv_ : Value) (pre_ post_ : List Int) (u9000_ : Value) (l0 : List Int) (A1 : Option Addr) (c1 : Nat) (l1 : List Int) (r1 : Int) (r2 : List Int) (w0 w : World) (hB : Below w0.heap.size w0 w) (ho0 : CutR wv_ pre_ post_ 123 w w0.heap.size P0_ u9000_ l0) (hr1 : ∀ W_, Kept w W_ (fun k_ => P0_ k_) → Kd.C (Kd.int .u32) W_ A1 l1.length l1) (hc1 : l1.length ≤ c1) (h : nat_step.f k l0 l1 = some (r1, r2)) :
    Calls Try.prog 100 #[u9000_, .slice A1 l1.length c1] w fun e w' => e = .returned (.int .u32 r1) ∧ CutR wv_ pre_ post_ 123 w' w0.heap.size (fun k_ => (P0_ k_ ∨ w.heap.size ≤ k_)) u9000_ r2 ∧ Below w0.heap.size w0 w' ∧ Kept w w' (fun k_ => P0_ k_) := by
 have HO0 := Aside0.mk (show CutR wv_ pre_ post_ 123 w w0.heap.size (fun k_ => (P0_ k_ ∨ w.heap.size ≤ k_)) u9000_ l0 from CutR.mono ho0 (fun k_ hk => (.inl hk)))
 have HR1 := Aside0.mk hr1
 have HC1 := Aside0.mk hc1
 clear hr1 hc1
 have HK := Aside0.mk (Kept.refl w (fun k_ => P0_ k_))
 have HW0 := Aside0.mk hB.size
 have HB := Aside0.mk hB
 clear hB
 have H : (if 0 ≤ (l1.length : Int) then (if (l1.length : Int) < (l0.length : Int) then (if 0 ≤ (wrap64 ((l1.length : Int) - 1)) then (if (wrap64 ((l1.length : Int) - 1)) < (l0.length : Int) then (if (wrap64 ((l1.length : Int) - 1)) < (l1.length : Int) then (if (IntKind.u64.wrap (rd l1 (wrap64 ((l1.length : Int) - 1)))) = 0 then (none) else (nat_step.l0 k l0 l1 (l1.length : Int) (IntKind.u64.wrap (rd l1 (wrap64 ((l1.length : Int) - 1)))) (IntKind.u64.wrap (Int.tdiv (Go.bits .or .u64 (IntKind.u64.wrap ((IntKind.u64.wrap (rd l0 (l1.length : Int))) * 4294967296)) (IntKind.u64.wrap (rd l0 (wrap64 ((l1.length : Int) - 1))))) (IntKind.u64.wrap (rd l1 (wrap64 ((l1.length : Int) - 1)))))) (Int.tmod (Go.bits .or .u64 (IntKind.u64.wrap ((IntKind.u64.wrap (rd l0 (l1.length : Int))) * 4294967296)) (IntKind.u64.wrap (rd l0 (wrap64 ((l1.length : Int) - 1))))) (IntKind.u64.wrap (rd l1 (wrap64 ((l1.length : Int) - 1))))))) else (none)) else (none)) else (none)) else (none)) else (none)) = some (r1, r2) := h
 clear h
 by_cases c3 : 0 ≤ (l1.length : Int)
 case neg =>
  rw [if_neg c3] at H
  exact absurd H (by simp)
 rw [if_pos c3] at H
 have c3b0 : decide (0 ≤ (l1.length : Int)) = true := decide_eq_true c3
 have c3b1 : decide (0 ≤ l1.length) = true := decide_eq_true (by omega)
 clear c3
 by_cases c4 : (l1.length : Int) < (l0.length : Int)
 case neg =>
  rw [if_neg c4] at H
  exact absurd H (by simp)
 rw [if_pos c4] at H
 have c4b0 : decide ((l1.length : Int) < (l0.length : Int)) = true := decide_eq_true c4
 have c4b1 : decide (l1.length < l0.length) = true := decide_eq_true (Int.ofNat_lt.mp c4)
 clear c4
 obtain ⟨ji5, hji5⟩ : ∃ j_ : Int, (wrap64 ((l1.length : Int) - 1)) = j_ := ⟨_, rfl⟩
 replace H : (if 0 ≤ (ji5) then (if (ji5) < (l0.length : Int) then (if (ji5) < (l1.length : Int) then (if (IntKind.u64.wrap (rd l1 (ji5))) = 0 then (none) else (nat_step.l0 k l0 l1 (l1.length : Int) (IntKind.u64.wrap (rd l1 (ji5))) (IntKind.u64.wrap (Int.tdiv (Go.bits .or .u64 (IntKind.u64.wrap ((IntKind.u64.wrap (rd l0 (l1.length : Int))) * 4294967296)) (IntKind.u64.wrap (rd l0 (ji5)))) (IntKind.u64.wrap (rd l1 (ji5))))) (Int.tmod (Go.bits .or .u64 (IntKind.u64.wrap ((IntKind.u64.wrap (rd l0 (l1.length : Int))) * 4294967296)) (IntKind.u64.wrap (rd l0 (ji5)))) (IntKind.u64.wrap (rd l1 (ji5)))))) else (none)) else (none)) else (none)) = some (r1, r2) := by first | (rw [hji5] at H; exact H) | (simp only [hji5] at H ⊢; exact H)
 have hji5w : (IntKind.i64.wrap ((l1.length : Int) - 1)) = ji5 := (i64_w _).trans hji5
 by_cases c6 : 0 ≤ (ji5)
 case neg =>
  rw [if_neg c6] at H
  exact absurd H (by simp)
 rw [if_pos c6] at H
 have c6b0 : decide (0 ≤ (ji5)) = true := decide_eq_true c6
 clear c6
 by_cases c7 : (ji5) < (l0.length : Int)
 case neg =>
  rw [if_neg c7] at H
  exact absurd H (by simp)
 rw [if_pos c7] at H
 have c7b0 : decide ((ji5) < (l0.length : Int)) = true := decide_eq_true c7
 clear c7
 by_cases c8 : (ji5) < (l1.length : Int)
 case neg =>
  rw [if_neg c8] at H
  exact absurd H (by simp)
 rw [if_pos c8] at H
 have c8b0 : decide ((ji5) < (l1.length : Int)) = true := decide_eq_true c8
 clear c8
 by_cases c9 : (IntKind.u64.wrap (rd l1 (ji5))) = 0
 case pos =>
  rw [if_pos c9] at H
  exact absurd H (by simp)
 rw [if_neg c9] at H
 have c9b0 : ((IntKind.u64.wrap (rd l1 (ji5))) == 0) = false := beq_eq_false_iff_ne.mpr c9
 have c9b1 : ((IntKind.u64.wrap (rd l1 (ji5))) != 0) = true := bne_iff_ne.mpr c9
 have HC10 := Aside0.mk H
 clear H
 obtain ⟨Ao11, co11, eo11⟩ := CutR.slice HO0.out
 subst eo11
 have p452 : 0 ≤ ((l1.length : Int) : Int) := of_decide_eq_true (by first | (with_reducible assumption) | assumption)
 have q452 : (l1.length : Int) < (l0.length : Int) := of_decide_eq_true (by first | (with_reducible assumption) | assumption)
 obtain ⟨ad452, e452, hx452_0⟩ := Kd.at_int (CutR.reads' HO0.out).2.2 (l1.length : Int) p452 q452
 cases e452
 (try simp only [Go.IntWalk.toNatUp] at hx452_0)
 replace p452 := eq_true p452
 replace q452 := eq_true q452
 have p453 : 0 ≤ ((ji5) : Int) := of_decide_eq_true (by first | (with_reducible assumption) | assumption)
 have q453 : (ji5) < (l0.length : Int) := of_decide_eq_true (by first | (with_reducible assumption) | assumption)
 obtain ⟨ad453, e453, hx453_0⟩ := Kd.at_int (CutR.reads' HO0.out).2.2 (ji5) p453 q453
 obtain rfl : ad452 = ad453 := (by injection e453)
 replace p453 := eq_true p453
 replace q453 := eq_true q453
 have p454 : 0 ≤ ((ji5) : Int) := of_decide_eq_true (by first | (with_reducible assumption) | assumption)
 have q454 : (ji5) < (l1.length : Int) := of_decide_eq_true (by first | (with_reducible assumption) | assumption)
 obtain ⟨ad454, e454, hx454_0⟩ := Kd.at_int (Kd.C_kept_now HR1.out HK.out) (ji5) p454 q454
 cases e454
 replace p454 := eq_true p454
 replace q454 := eq_true q454
 go_enter Try.func100, Try.ntmps100
 go_upto_block 0 with (fail)
 repeat (go_quiet (fail); go_upto_block 0 with (fail))
 go_cut [8] (fun v8 wc => ∃ (kq : Nat) (x8_9 : Int), v8 = .int .u64 x8_9 ∧ Aside0 (nat_step.j2 kq l0 l1 (l1.length : Int) x8_9 = some (r1, r2)) ∧ Aside0 (kq ≤ k) ∧ Aside0 (CutR wv_ pre_ post_ 123 wc w0.heap.size (fun k_ => (P0_ k_ ∨ w.heap.size ≤ k_)) (.slice (some ad452) l0.length co11) l0) ∧ Aside0 (Kept w wc (fun k_ => P0_ k_)) ∧ Aside0 (Below w0.heap.size w0 wc))
 case first =>
  have H := HC10.out
  clear HC10
  have H' := Aside0.mk H
  clear H
  go_wp2
  repeat (go_quiet (fail); try go_wp2)
  (try simp only [Act.put, p1_, p2_, p3_])
  go_loopg [8, 9] k (fun kq v8 v9 w' => ∃ (x8_1 : Int) (x9_1 : Int), v8 = .int .u64 x8_1 ∧ v9 = .int .u64 x9_1 ∧ Aside0 (nat_step.l0 kq l0 l1 (l1.length : Int) (IntKind.u64.wrap (rd l1 (ji5))) x8_1 x9_1 = some (r1, r2)) ∧ Aside0 (kq ≤ k) ∧ Aside0 (CutR wv_ pre_ post_ 123 w' w0.heap.size (fun k_ => (P0_ k_ ∨ w.heap.size ≤ k_)) (.slice (some ad452) l0.length co11) l0) ∧ Aside0 (Kept w w' (fun k_ => P0_ k_)) ∧ Aside0 (Below w0.heap.size w0 w'))
  case atStart => exact ⟨(IntKind.u64.wrap (Int.tdiv (Go.bits .or .u64 (IntKind.u64.wrap ((IntKind.u64.wrap (rd l0 (l1.length : Int))) * 4294967296)) (IntKind.u64.wrap (rd l0 (ji5)))) (IntKind.u64.wrap (rd l1 (ji5))))), (Int.tmod (Go.bits .or .u64 (IntKind.u64.wrap ((IntKind.u64.wrap (rd l0 (l1.length : Int))) * 4294967296)) (IntKind.u64.wrap (rd l0 (ji5)))) (IntKind.u64.wrap (rd l1 (ji5)))), (by first | rfl | (simp; done) | (simp only [← hji5] <;> (first | rfl | simp)) | (simp [*]; done)), (by first | rfl | (simp; done) | (simp only [← hji5] <;> (first | rfl | simp)) | (simp [*]; done)), H', ⟨Nat.le_refl _⟩, ⟨by (with_reducible repeat (first | apply CutR.alloc | apply CutR.drewN | apply CutR.drew)); exact HO0.out⟩, ⟨by repeat (first | (with_reducible first | exact HK.out | apply Kept.alloc | apply Kept.drewN | apply Kept.drew) | exact HK.out)⟩, ⟨bh_⟩⟩
  case round =>
   clear H'
   try clear c1
   try clear p2
   try clear c3
   try clear c3b0
   try clear c3b1
   try clear c4
   try clear c4b0
   try clear c4b1
   try clear p4
   try clear q4
   try clear hx4
   try clear c6
   try clear c6b0
   try clear p6
   try clear c7
   try clear c7b0
   try clear c8
   try clear c8b0
   try clear c9
   try clear c9b0
   try clear c9b1
   try clear c10
   try clear hx452_0
   try clear hx453_0
   try clear hx454_0
   try clear p452
   try clear p453
   try clear p454
   try clear q452
   try clear q453
   try clear q454
   obtain ⟨x8_1, x9_1, rfl, rfl, HA, HK1, HO_0, HK, HB⟩ := hrel
   cases gk with
   | zero => exact absurd HA.out (by simp [nat_step.l0])
   | succ k1 =>
    have H := HA.out
    clear HA
    simp only [nat_step.l0] at H
    have HC12 := Aside0.mk H
    clear H
    go_upto_region 5 with (fail)
    repeat (go_quiet (fail); go_upto_region 5 with (fail))
    go_cut [64] (fun v64 wc => ∃ (kq : Nat) (x64_11 : Bool), v64 = .bool x64_11 ∧ Aside0 (nat_step.j1 kq l0 l1 (l1.length : Int) (IntKind.u64.wrap (rd l1 (ji5))) x8_1 x9_1 x64_11 = some (r1, r2)) ∧ Aside0 (kq ≤ k1) ∧ Aside0 (CutR wv_ pre_ post_ 123 wc w0.heap.size (fun k_ => (P0_ k_ ∨ w.heap.size ≤ k_)) (.slice (some ad452) l0.length co11) l0) ∧ Aside0 (Kept w wc (fun k_ => P0_ k_)) ∧ Aside0 (Below w0.heap.size w0 wc))
    case first =>
     have H := HC12.out
     clear HC12
     by_cases c13 : x8_1 ≥ 4294967296
     case pos =>
      rw [if_pos c13] at H
      have c13b0 : decide (4294967296 ≤ x8_1) = true := decide_eq_true c13
      clear c13
      (first | rw [c13b0] | (simp only [i64_w, i32_w]; rw [c13b0]) | skip)
      have H' := Aside0.mk H
      clear H
      go_wp2
      repeat (go_quiet (fail); try go_wp2)
      go_meet
      case rel => exact ⟨_, (true), (sh_), H', ⟨by have := HK1.out; first | omega | exact Nat.le_refl _⟩, ⟨by (with_reducible repeat (first | apply CutR.alloc | apply CutR.drewN | apply CutR.drew)); exact HO_0.out⟩, ⟨by repeat (first | (with_reducible first | exact HK.out | apply Kept.alloc | apply Kept.drewN | apply Kept.drew) | exact HK.out)⟩, ⟨bh_⟩⟩
     rw [if_neg c13] at H
     have c13b0 : decide (4294967296 ≤ x8_1) = false := decide_eq_false c13
     clear c13
     (first | rw [c13b0] | (simp only [i64_w, i32_w]; rw [c13b0]) | skip)
     obtain ⟨ji14, hji14⟩ : ∃ j_ : Int, (wrap64 ((l1.length : Int) - 2)) = j_ := ⟨_, rfl⟩
     replace H : (if 0 ≤ (ji14) then (if (ji14) < (l1.length : Int) then (if (ji14) < (l0.length : Int) then (nat_step.j1 k1 l0 l1 (l1.length : Int) (IntKind.u64.wrap (rd l1 (ji5))) x8_1 x9_1 (decide ((IntKind.u64.wrap (x8_1 * (IntKind.u64.wrap (rd l1 (ji14))))) > (Go.bits .or .u64 (IntKind.u64.wrap (x9_1 * 4294967296)) (IntKind.u64.wrap (rd l0 (ji14))))))) else (none)) else (none)) else (none)) = some (r1, r2) := by first | (rw [hji14] at H; exact H) | (simp only [hji14] at H ⊢; exact H)
     have hji14w : (IntKind.i64.wrap ((l1.length : Int) - 2)) = ji14 := (i64_w _).trans hji14
     by_cases c15 : 0 ≤ (ji14)
     case neg =>
      rw [if_neg c15] at H
      exact absurd H (by simp)
     rw [if_pos c15] at H
     have c15b0 : decide (0 ≤ (ji14)) = true := decide_eq_true c15
     clear c15
     by_cases c16 : (ji14) < (l1.length : Int)
     case neg =>
      rw [if_neg c16] at H
      exact absurd H (by simp)
     rw [if_pos c16] at H
     have c16b0 : decide ((ji14) < (l1.length : Int)) = true := decide_eq_true c16
     clear c16
     by_cases c17 : (ji14) < (l0.length : Int)
     case neg =>
      rw [if_neg c17] at H
      exact absurd H (by simp)
     rw [if_pos c17] at H
     have c17b0 : decide ((ji14) < (l0.length : Int)) = true := decide_eq_true c17
     clear c17
     have H' := Aside0.mk H
     clear H
     have p455 : 0 ≤ ((ji14) : Int) := of_decide_eq_true (by first | (with_reducible assumption) | assumption)
     have q455 : (ji14) < (l1.length : Int) := of_decide_eq_true (by first | (with_reducible assumption) | assumption)
     obtain ⟨ad455, e455, hx455_0⟩ := Kd.at_int (Kd.C_kept_now HR1.out HK.out) (ji14) p455 q455
     obtain rfl : ad454 = ad455 := (by injection e455)
     replace p455 := eq_true p455
     replace q455 := eq_true q455
     have p456 : 0 ≤ ((ji14) : Int) := of_decide_eq_true (by first | (with_reducible assumption) | assumption)
     have q456 : (ji14) < (l0.length : Int) := of_decide_eq_true (by first | (with_reducible assumption) | assumption)
     obtain ⟨ad456, e456, hx456_0⟩ := Kd.at_int (CutR.reads' HO_0.out).2.2 (ji14) p456 q456
     obtain rfl : ad452 = ad456 := (by injection e456)
     replace p456 := eq_true p456
     replace q456 := eq_true q456
     go_wp2
     repeat (go_quiet (fail); try go_wp2)
     go_meet
     case rel => exact ⟨_, (decide ((IntKind.u64.wrap (x8_1 * (IntKind.u64.wrap (rd l1 (ji14))))) > (Go.bits .or .u64 (IntKind.u64.wrap (x9_1 * 4294967296)) (IntKind.u64.wrap (rd l0 (ji14)))))), (by first | rfl | (simp; done) | (simp only [← hji14] <;> (first | rfl | simp)) | (simp [*]; done)), H', ⟨by have := HK1.out; first | omega | exact Nat.le_refl _⟩, ⟨by (with_reducible repeat (first | apply CutR.alloc | apply CutR.drewN | apply CutR.drew)); exact HO_0.out⟩, ⟨by repeat (first | (with_reducible first | exact HK.out | apply Kept.alloc | apply Kept.drewN | apply Kept.drew) | exact HK.out)⟩, ⟨bh_⟩⟩
    case rest =>
     clear HC12
     try clear c1
     try clear p2
     try clear c3
     try clear c3b0
     try clear c3b1
     try clear c4
     try clear c4b0
     try clear c4b1
     try clear p4
     try clear q4
     try clear hx4
     try clear c6
     try clear c6b0
     try clear p6
     try clear c7
     try clear c7b0
     try clear c8
     try clear c8b0
     try clear c9
     try clear c9b0
     try clear c9b1
     try clear c10
     try clear c13
     try clear c13b0
     try clear c15
     try clear c15b0
     try clear c16
     try clear c16b0
     try clear c17
     try clear c17b0
     try clear hx452_0
     try clear hx453_0
     try clear hx454_0
     try clear hx455_0
     try clear hx456_0
     try clear p2
     try clear p4
     try clear p452
     try clear p453
     try clear p454
     try clear p455
     try clear p456
     try clear p6
     try clear q4
     try clear q452
     try clear q453
     try clear q454
     try clear q455
     try clear q456
     obtain ⟨kq, x64_11, rfl, HA, HJ11, HO_0, HK, HB⟩ := hcut
     cases kq with
     | zero => exact absurd HA.out (by simp [nat_step.j1])
     | succ kj11 =>
      have H := HA.out
      clear HA
      simp only [nat_step.j1] at H
      by_cases c18 : x64_11 = true
      case neg =>
       replace c18 := Bool.eq_false_iff.mpr c18
       subst c18
       have H1 : (nat_step.j2 kj11 l0 l1 (l1.length : Int) x8_1) = some (r1, r2) := by rw [if_neg (show ¬ (false = true) by decide)] at H; exact H
       clear H
       have H := H1
       clear H1
       have H' := Aside0.mk H
       clear H
       go_wp2
       repeat (go_quiet (fail); try go_wp2)
       go_meet
       case rel => exact ⟨_, (x8_1), (sh_), H', ⟨by have := HK1.out; have := HJ11.out; first | omega | exact Nat.le_refl _⟩, ⟨by (with_reducible repeat (first | apply CutR.alloc | apply CutR.drewN | apply CutR.drew)); exact HO_0.out⟩, ⟨by repeat (first | (with_reducible first | exact HK.out | apply Kept.alloc | apply Kept.drewN | apply Kept.drew) | exact HK.out)⟩, ⟨bh_⟩⟩
      subst c18
      have H1 : (if (IntKind.u64.wrap (x9_1 + (IntKind.u64.wrap (rd l1 (ji5))))) ≥ 4294967296 then (nat_step.j2 kj11 l0 l1 (l1.length : Int) (IntKind.u64.wrap (x8_1 - 1))) else (nat_step.l0 kj11 l0 l1 (l1.length : Int) (IntKind.u64.wrap (rd l1 (ji5))) (IntKind.u64.wrap (x8_1 - 1)) (IntKind.u64.wrap (x9_1 + (IntKind.u64.wrap (rd l1 (ji5))))))) = some (r1, r2) := by rw [if_pos rfl] at H; exact H
      clear H
      have H := H1
      clear H1
      by_cases c19 : (IntKind.u64.wrap (x9_1 + (IntKind.u64.wrap (rd l1 (ji5))))) ≥ 4294967296
      case pos =>
       rw [if_pos c19] at H
       have c19b0 : decide (4294967296 ≤ (IntKind.u64.wrap (x9_1 + (IntKind.u64.wrap (rd l1 (ji5)))))) = true := decide_eq_true c19
       clear c19
       have H' := Aside0.mk H
       clear H
       go_wp2
       repeat (go_quiet (fail); try go_wp2)
       go_meet
       case rel => exact ⟨_, (IntKind.u64.wrap (x8_1 - 1)), (sh_), H', ⟨by have := HK1.out; have := HJ11.out; first | omega | exact Nat.le_refl _⟩, ⟨by (with_reducible repeat (first | apply CutR.alloc | apply CutR.drewN | apply CutR.drew)); exact HO_0.out⟩, ⟨by repeat (first | (with_reducible first | exact HK.out | apply Kept.alloc | apply Kept.drewN | apply Kept.drew) | exact HK.out)⟩, ⟨bh_⟩⟩
      rw [if_neg c19] at H
      have c19b0 : decide (4294967296 ≤ (IntKind.u64.wrap (x9_1 + (IntKind.u64.wrap (rd l1 (ji5)))))) = false := decide_eq_false c19
      clear c19
      have H' := Aside0.mk H
      clear H
      go_wp2
      repeat (go_quiet (fail); try go_wp2)
      go_roundg kj11
      case measure => have := HK1.out; have := HJ11.out; omega
      case rel => exact ⟨(IntKind.u64.wrap (x8_1 - 1)), (IntKind.u64.wrap (x9_1 + (IntKind.u64.wrap (rd l1 (ji5))))), (sh_), (by first | rfl | (simp; done) | (simp only [← hji5] <;> (first | rfl | simp)) | (simp [*]; done)), H', ⟨by have := HK1.out; have := HJ11.out; omega⟩, ⟨by (with_reducible repeat (first | apply CutR.alloc | apply CutR.drewN | apply CutR.drew)); exact HO_0.out⟩, ⟨by repeat (first | (with_reducible first | exact HK.out | apply Kept.alloc | apply Kept.drewN | apply Kept.drew) | exact HK.out)⟩, ⟨bh_⟩⟩
 case rest =>
  clear HC10
  try clear c1
  try clear p2
  try clear c3
  try clear c3b0
  try clear c3b1
  try clear c4
  try clear c4b0
  try clear c4b1
  try clear p4
  try clear q4
  try clear hx4
  try clear c6
  try clear c6b0
  try clear p6
  try clear c7
  try clear c7b0
  try clear c8
  try clear c8b0
  try clear c9
  try clear c9b0
  try clear c9b1
  try clear c10
  try clear c13
  try clear c13b0
  try clear c15
  try clear c15b0
  try clear c16
  try clear c16b0
  try clear c17
  try clear c17b0
  try clear c18
  try clear c19
  try clear c19b0
  try clear hx452_0
  try clear hx453_0
  try clear hx454_0
  try clear hx455_0
  try clear hx456_0
  try clear p2
  try clear p4
  try clear p452
  try clear p453
  try clear p454
  try clear p455
  try clear p456
  try clear p6
  try clear q4
  try clear q452
  try clear q453
  try clear q454
  try clear q455
  try clear q456
  obtain ⟨kq, x8_9, rfl, HA, HJ9, HO_0, HK, HB⟩ := hcut
  cases kq with
  | zero => exact absurd HA.out (by simp [nat_step.j2])
  | succ kj9 =>
   have H := HA.out
   clear HA
   simp only [nat_step.j2] at H
   have H' := Aside0.mk H
   clear H
   go_wp2
   repeat (go_quiet (fail); try go_wp2)
   (try simp only [Act.put, p1_, p2_, p3_])
   generalize ad452.add l1.length = qA
   generalize ad452.add ji5.toNat = qB
   go_loopg [10, 11, 74] kj9 (fun kq v10 v11 v74 w' => ∃ (x0_2 : List Int) (x10_2 : Int) (x11_2 : Int) (x74_2 : Int), v10 = .int .u64 x10_2 ∧ v11 = .int .u64 x11_2 ∧ v74 = .int .i64 x74_2 ∧ Aside0 (nat_step.l1 kq x0_2 l1 (l1.length : Int) x8_9 x10_2 x11_2 (l0.length : Int) x74_2 = some (r1, r2)) ∧ Aside0 (kq ≤ kj9) ∧ Aside0 (CutR wv_ pre_ post_ 123 w' w0.heap.size (fun k_ => (P0_ k_ ∨ w.heap.size ≤ k_)) (.slice (some ad452) l0.length co11) x0_2) ∧ Aside0 (Kept w w' (fun k_ => P0_ k_)) ∧ Aside0 (Below w0.heap.size w0 w'))
   case atStart => exact ⟨(l0), (0), (0), (0), (sh_), (sh_), (sh_), H', ⟨Nat.le_refl _⟩, ⟨by (with_reducible repeat (first | apply CutR.alloc | apply CutR.drewN | apply CutR.drew)); exact HO_0.out⟩, ⟨by repeat (first | (with_reducible first | exact HK.out | apply Kept.alloc | apply Kept.drewN | apply Kept.drew) | exact HK.out)⟩, ⟨bh_⟩⟩
   case round =>
    clear H'
    try clear c1
    try clear p2
    try clear c3
    try clear c3b0
    try clear c3b1
    try clear c4
    try clear c4b0
    try clear c4b1
    try clear p4
    try clear q4
    try clear hx4
    try clear c6
    try clear c6b0
    try clear p6
    try clear c7
    try clear c7b0
    try clear c8
    try clear c8b0
    try clear c9
    try clear c9b0
    try clear c9b1
    try clear c10
    try clear c13
    try clear c13b0
    try clear c15
    try clear c15b0
    try clear c16
    try clear c16b0
    try clear c17
    try clear c17b0
    try clear c18
    try clear c19
    try clear c19b0
    try clear hx452_0
    try clear hx453_0
    try clear hx454_0
    try clear hx455_0
    try clear hx456_0
    try clear p2
    try clear p4
    try clear p452
    try clear p453
    try clear p454
    try clear p455
    try clear p456
    try clear p6
    try clear q4
    try clear q452
    try clear q453
    try clear q454
    try clear q455
    try clear q456
    obtain ⟨x0_2, x10_2, x11_2, x74_2, rfl, rfl, rfl, HA, HK2, HO_0, HK, HB⟩ := hrel
    have hl0_2 := (CutR.reads' HO_0.out).1
    rw [hl0_2] at HO_0
    (try simp only [hl0_2])
    cases gk with
    | zero => exact absurd HA.out (by simp [nat_step.l1])
    | succ k2 =>
     have H := HA.out
     clear HA
     simp only [nat_step.l1] at H
     by_cases c20 : x74_2 < (l0.length : Int)
     case pos =>
      rw [if_pos c20] at H
      have c20b0 : decide (x74_2 < (l0.length : Int)) = true := decide_eq_true c20
      clear c20
      by_cases c21 : x74_2 < (l1.length : Int)
      case neg =>
       rw [if_neg c21] at H
       have c21b0 : decide (x74_2 < (l1.length : Int)) = false := decide_eq_false c21
       (try (have c21b0x := c21b0; rw [hl0_2] at c21b0x))
       (try (have c21b0x := c21b0; rw [hl0_3] at c21b0x))
       clear c21
       by_cases c28 : 0 ≤ x74_2
       case neg =>
        rw [if_neg c28] at H
        exact absurd H (by simp)
       rw [if_pos c28] at H
       have c28b0 : decide (0 ≤ x74_2) = true := decide_eq_true c28
       clear c28
       by_cases c29 : x74_2 < (x0_2.length : Int)
       case neg =>
        rw [if_neg c29] at H
        exact absurd H (by simp)
       rw [if_pos c29] at H
       have c29b0 : decide (x74_2 < (x0_2.length : Int)) = true := decide_eq_true c29
       clear c29
       obtain ⟨y461, hy461⟩ : ∃ y_ : List Int, y_ = (x0_2.set (x74_2 : Int).toNat ((IntKind.u64.wrap ((IntKind.u64.wrap ((IntKind.u64.wrap (rd x0_2 x74_2)) - (Go.bits .and .u64 x11_2 4294967295))) - x10_2)) % 4294967296)) := ⟨_, rfl⟩
       replace H : (nat_step.l1 k2 y461 l1 (l1.length : Int) x8_9 ((IntKind.u64.wrap ((IntKind.u64.wrap ((IntKind.u64.wrap (rd x0_2 x74_2)) - (Go.bits .and .u64 x11_2 4294967295))) - x10_2)) / 9223372036854775808) (x11_2 / 4294967296) (l0.length : Int) (wrap64 (x74_2 + 1))) = some (r1, r2) := by first | (rw [hy461]; with_reducible exact H) | (have H2_ := (Option.bind_some _ _).symm.trans H; rw [hy461]; with_reducible exact H2_) | (have H2_ := (Option.bind_some _ _).symm.trans H; with_reducible exact H2_) | with_reducible exact H | (rw [hy461]; exact H) | exact H
       have Ny461 := Aside0.mk hy461
       clear hy461
       have H' := Aside0.mk H
       clear H
       have p460 : 0 ≤ (x74_2 : Int) := of_decide_eq_true (by first | (with_reducible assumption) | assumption)
       have q460 : x74_2 < (x0_2.length : Int) := of_decide_eq_true (by first | (with_reducible assumption) | assumption)
       obtain ⟨ad460, e460, hx460_0⟩ := Kd.at_int (CutR.reads' HO_0.out).2.2 x74_2 p460 q460
       obtain rfl : ad452 = ad460 := (by injection e460)
       replace p460 := eq_true p460
       replace q460 := eq_true q460
       have p30 : 0 ≤ (x74_2 : Int) := of_decide_eq_true (by first | (with_reducible assumption) | assumption)
       have q30 : (x74_2 : Int) < ((x0_2.length : Int) : Int) := of_decide_eq_true (by first | (with_reducible assumption) | assumption)
       obtain ⟨go30, co30, eo30, gb30, gl30, cl30, HG30⟩ := CutR.form HO_0.out (by omega)
       (first | cases eo30 | (injection eo30 with ea_ en_ ec_; (first | subst ea_ | (injection ea_ with ea_; subst ea_)); subst ec_; clear en_))
       have GB30 := Aside0.mk gb30
       have GG30 := Aside0.mk HG30
       clear gb30 gl30 HG30
       have HMgo30 := Aside0.mk (show (P0_ go30 ∨ w.heap.size ≤ go30) from (CutR.own HO_0.out _ rfl))
       (first | simp only [add_at] at hx460_0 | skip)
       obtain ⟨hx30_0, hf30_0⟩ := CutR.celln HO_0.out (x74_2 : Int) p30 q30
       replace p30 := eq_true p30
       replace q30 := eq_true q30
       have HP31 := CutR.putg HO_0.out (x74_2 : Int) (of_decide_eq_true (by first | (with_reducible assumption) | assumption)) (of_decide_eq_true (by first | (with_reducible assumption) | assumption)) ((IntKind.u64.wrap ((IntKind.u64.wrap ((IntKind.u64.wrap (rd x0_2 x74_2)) - (Go.bits .and .u64 x11_2 4294967295))) - x10_2)) % 4294967296)
       go_wp2_with (first | ((with_reducible refine gate_store (t := 123) (p := 103) rfl ?_); (try (rw [drewN_self wr]; generalize hq_ : World.drewN wr _ = wr; have n0_ := Aside0.mk (CutR.at' hq_ HO_0.out); have n1_ := Aside0.mk (kept_at hq_ HK.out); have n2_ := Aside0.mk (below_at hq_ HB.out); clear hq_ HO_0 HK HB; have HO_0 := n0_; have HK := n1_; have HB := n2_; clear n0_ n1_ n2_; (try (have HP31 := CutR.putg HO_0.out (x74_2 : Int) (of_decide_eq_true (by first | (with_reducible assumption) | assumption)) (of_decide_eq_true (by first | (with_reducible assumption) | assumption)) ((IntKind.u64.wrap ((IntKind.u64.wrap ((IntKind.u64.wrap (rd x0_2 x74_2)) - (Go.bits .and .u64 x11_2 4294967295))) - x10_2)) % 4294967296))))); refine store_event (t := 123) (p := 103) (v := ?vo_w32) (w1 := (wr.setCell ⟨go30, pre_.length + (x74_2 : Int).toNat, none⟩ (.int .u32 ((IntKind.u64.wrap ((IntKind.u64.wrap ((IntKind.u64.wrap (rd x0_2 x74_2)) - (Go.bits .and .u64 x11_2 4294967295))) - x10_2)) % 4294967296)))) ?hg ?ho ?hn ?hr ?_; (case ho => rfl); (case hg => rfl); (case hn => rfl); (case hr => first | (go_simp; done) | (go_simp; rfl)); intro w32 hw; have hg : wr.grownBy w32 (some go30) := (by rw [hw]; exact HP31.2); have hp_ : CutR wv_ pre_ post_ 123 w32 w0.heap.size (fun k_ => (P0_ k_ ∨ w.heap.size ≤ k_)) (.slice (some ⟨go30, pre_.length, none⟩) x0_2.length co11) y461 := (by rw [hw, Ny461.out]; exact HP31.1); clear HP31; have n0_ := Aside0.mk (hp_); have n1_ := Aside0.mk ((by rw [hw]; exact below_set (HB.out) GB30.out : Below w0.heap.size w0 w32)); have n2_ := Aside0.mk (Kept.of_grown (S := (fun k_ => P0_ k_)) hg (by repeat (first | (with_reducible first | exact HK.out | apply Kept.alloc | apply Kept.drewN | apply Kept.drew) | exact HK.out)) (fun k_ e_ => (CutR.own HO_0.out k_ e_))); clear HO_0 HB HK; have HO_0 := n0_; have HB := n1_; have HK := n2_; clear n0_ n1_ n2_; clear hg hw hp_))
       repeat (go_quiet (first | ((with_reducible refine gate_store (t := 123) (p := 103) rfl ?_); (try (rw [drewN_self wr]; generalize hq_ : World.drewN wr _ = wr; have n0_ := Aside0.mk (CutR.at' hq_ HO_0.out); have n1_ := Aside0.mk (kept_at hq_ HK.out); have n2_ := Aside0.mk (below_at hq_ HB.out); clear hq_ HO_0 HK HB; have HO_0 := n0_; have HK := n1_; have HB := n2_; clear n0_ n1_ n2_; (try (have HP31 := CutR.putg HO_0.out (x74_2 : Int) (of_decide_eq_true (by first | (with_reducible assumption) | assumption)) (of_decide_eq_true (by first | (with_reducible assumption) | assumption)) ((IntKind.u64.wrap ((IntKind.u64.wrap ((IntKind.u64.wrap (rd x0_2 x74_2)) - (Go.bits .and .u64 x11_2 4294967295))) - x10_2)) % 4294967296))))); refine store_event (t := 123) (p := 103) (v := ?vo_w32) (w1 := (wr.setCell ⟨go30, pre_.length + (x74_2 : Int).toNat, none⟩ (.int .u32 ((IntKind.u64.wrap ((IntKind.u64.wrap ((IntKind.u64.wrap (rd x0_2 x74_2)) - (Go.bits .and .u64 x11_2 4294967295))) - x10_2)) % 4294967296)))) ?hg ?ho ?hn ?hr ?_; (case ho => rfl); (case hg => rfl); (case hn => rfl); (case hr => first | (go_simp; done) | (go_simp; rfl)); intro w32 hw; have hg : wr.grownBy w32 (some go30) := (by rw [hw]; exact HP31.2); have hp_ : CutR wv_ pre_ post_ 123 w32 w0.heap.size (fun k_ => (P0_ k_ ∨ w.heap.size ≤ k_)) (.slice (some ⟨go30, pre_.length, none⟩) x0_2.length co11) y461 := (by rw [hw, Ny461.out]; exact HP31.1); clear HP31; have n0_ := Aside0.mk (hp_); have n1_ := Aside0.mk ((by rw [hw]; exact below_set (HB.out) GB30.out : Below w0.heap.size w0 w32)); have n2_ := Aside0.mk (Kept.of_grown (S := (fun k_ => P0_ k_)) hg (by repeat (first | (with_reducible first | exact HK.out | apply Kept.alloc | apply Kept.drewN | apply Kept.drew) | exact HK.out)) (fun k_ e_ => (CutR.own HO_0.out k_ e_))); clear HO_0; clear HB; clear HK; have HO_0 := n0_; have HB := n1_; have HK := n2_; clear n0_ n1_ n2_; clear hg hw hp_)); try go_wp2_with (first | ((with_reducible refine gate_store (t := 123) (p := 103) rfl ?_); (try (rw [drewN_self wr]; generalize hq_ : World.drewN wr _ = wr; have n0_ := Aside0.mk (CutR.at' hq_ HO_0.out); have n1_ := Aside0.mk (kept_at hq_ HK.out); have n2_ := Aside0.mk (below_at hq_ HB.out); clear hq_ HO_0 HK HB; have HO_0 := n0_; have HK := n1_; have HB := n2_; clear n0_ n1_ n2_; (try (have HP31 := CutR.putg HO_0.out (x74_2 : Int) (of_decide_eq_true (by first | (with_reducible assumption) | assumption)) (of_decide_eq_true (by first | (with_reducible assumption) | assumption)) ((IntKind.u64.wrap ((IntKind.u64.wrap ((IntKind.u64.wrap (rd x0_2 x74_2)) - (Go.bits .and .u64 x11_2 4294967295))) - x10_2)) % 4294967296))))); refine store_event (t := 123) (p := 103) (v := ?vo_w32) (w1 := (wr.setCell ⟨go30, pre_.length + (x74_2 : Int).toNat, none⟩ (.int .u32 ((IntKind.u64.wrap ((IntKind.u64.wrap ((IntKind.u64.wrap (rd x0_2 x74_2)) - (Go.bits .and .u64 x11_2 4294967295))) - x10_2)) % 4294967296)))) ?hg ?ho ?hn ?hr ?_; (case ho => rfl); (case hg => rfl); (case hn => rfl); (case hr => first | (go_simp; done) | (go_simp; rfl)); intro w32 hw; have hg : wr.grownBy w32 (some go30) := (by rw [hw]; exact HP31.2); have hp_ : CutR wv_ pre_ post_ 123 w32 w0.heap.size (fun k_ => (P0_ k_ ∨ w.heap.size ≤ k_)) (.slice (some ⟨go30, pre_.length, none⟩) x0_2.length co11) y461 := (by rw [hw, Ny461.out]; exact HP31.1); clear HP31; have n0_ := Aside0.mk (hp_); have n1_ := Aside0.mk ((by rw [hw]; exact below_set (HB.out) GB30.out : Below w0.heap.size w0 w32)); have n2_ := Aside0.mk (Kept.of_grown (S := (fun k_ => P0_ k_)) hg (by repeat (first | (with_reducible first | exact HK.out | apply Kept.alloc | apply Kept.drewN | apply Kept.drew) | exact HK.out)) (fun k_ e_ => (CutR.own HO_0.out k_ e_))); clear HO_0; clear HB; clear HK; have HO_0 := n0_; have HB := n1_; have HK := n2_; clear n0_ n1_ n2_; clear hg hw hp_)))
       (try simp only [← hl0_2])
       go_roundg k2
       case measure => have := HJ9.out; have := HK2.out; omega
       case rel => exact ⟨(y461), ((IntKind.u64.wrap ((IntKind.u64.wrap ((IntKind.u64.wrap (rd x0_2 x74_2)) - (Go.bits .and .u64 x11_2 4294967295))) - x10_2)) / 9223372036854775808), (x11_2 / 4294967296), (wrap64 (x74_2 + 1)), (sh_), (sh_), (sh_), H', ⟨by have := HJ9.out; have := HK2.out; omega⟩, ⟨by (try simp only [hl0_2]); (with_reducible repeat (first | apply CutR.alloc | apply CutR.drewN | apply CutR.drew)); exact HO_0.out⟩, ⟨by repeat (first | (with_reducible first | exact HK.out | apply Kept.alloc | apply Kept.drewN | apply Kept.drew) | exact HK.out)⟩, ⟨bh_⟩⟩
      rw [if_pos c21] at H
      have c21b0 : decide (x74_2 < (l1.length : Int)) = true := decide_eq_true c21
      clear c21
      by_cases c22 : 0 ≤ x74_2
      case neg =>
       rw [if_neg c22] at H
       exact absurd H (by simp)
      rw [if_pos c22] at H
      have c22b0 : decide (0 ≤ x74_2) = true := decide_eq_true c22
      clear c22
      by_cases c23 : x74_2 < (l1.length : Int)
      case neg =>
       rw [if_neg c23] at H
       exact absurd H (by simp)
      rw [if_pos c23] at H
      have c23b0 : decide (x74_2 < (l1.length : Int)) = true := decide_eq_true c23
      clear c23
      by_cases c24 : x74_2 < (x0_2.length : Int)
      case neg =>
       rw [if_neg c24] at H
       exact absurd H (by simp)
      rw [if_pos c24] at H
      have c24b0 : decide (x74_2 < (x0_2.length : Int)) = true := decide_eq_true c24
      clear c24
      obtain ⟨y459, hy459⟩ : ∃ y_ : List Int, y_ = (x0_2.set (x74_2 : Int).toNat ((IntKind.u64.wrap ((IntKind.u64.wrap ((IntKind.u64.wrap (rd x0_2 x74_2)) - (Go.bits .and .u64 (IntKind.u64.wrap (x11_2 + (IntKind.u64.wrap (x8_9 * (IntKind.u64.wrap (rd l1 x74_2)))))) 4294967295))) - x10_2)) % 4294967296)) := ⟨_, rfl⟩
      replace H : (nat_step.l1 k2 y459 l1 (l1.length : Int) x8_9 ((IntKind.u64.wrap ((IntKind.u64.wrap ((IntKind.u64.wrap (rd x0_2 x74_2)) - (Go.bits .and .u64 (IntKind.u64.wrap (x11_2 + (IntKind.u64.wrap (x8_9 * (IntKind.u64.wrap (rd l1 x74_2)))))) 4294967295))) - x10_2)) / 9223372036854775808) ((IntKind.u64.wrap (x11_2 + (IntKind.u64.wrap (x8_9 * (IntKind.u64.wrap (rd l1 x74_2)))))) / 4294967296) (l0.length : Int) (wrap64 (x74_2 + 1))) = some (r1, r2) := by first | (rw [hy459]; with_reducible exact H) | (have H2_ := (Option.bind_some _ _).symm.trans H; rw [hy459]; with_reducible exact H2_) | (have H2_ := (Option.bind_some _ _).symm.trans H; with_reducible exact H2_) | with_reducible exact H | (rw [hy459]; exact H) | exact H
      have Ny459 := Aside0.mk hy459
      clear hy459
      have H' := Aside0.mk H
      clear H
      have p457 : 0 ≤ (x74_2 : Int) := of_decide_eq_true (by first | (with_reducible assumption) | assumption)
      have q457 : x74_2 < (l1.length : Int) := of_decide_eq_true (by first | (with_reducible assumption) | assumption)
      obtain ⟨ad457, e457, hx457_0⟩ := Kd.at_int (Kd.C_kept_now HR1.out HK.out) x74_2 p457 q457
      obtain rfl : ad454 = ad457 := (by injection e457)
      replace p457 := eq_true p457
      replace q457 := eq_true q457
      have p458 : 0 ≤ (x74_2 : Int) := of_decide_eq_true (by first | (with_reducible assumption) | assumption)
      have q458 : x74_2 < (x0_2.length : Int) := of_decide_eq_true (by first | (with_reducible assumption) | assumption)
      obtain ⟨ad458, e458, hx458_0⟩ := Kd.at_int (CutR.reads' HO_0.out).2.2 x74_2 p458 q458
      obtain rfl : ad452 = ad458 := (by injection e458)
      replace p458 := eq_true p458
      replace q458 := eq_true q458
      have p25 : 0 ≤ (x74_2 : Int) := of_decide_eq_true (by first | (with_reducible assumption) | assumption)
      have q25 : (x74_2 : Int) < ((x0_2.length : Int) : Int) := of_decide_eq_true (by first | (with_reducible assumption) | assumption)
      obtain ⟨go25, co25, eo25, gb25, gl25, cl25, HG25⟩ := CutR.form HO_0.out (by omega)
      (first | cases eo25 | (injection eo25 with ea_ en_ ec_; (first | subst ea_ | (injection ea_ with ea_; subst ea_)); subst ec_; clear en_))
      have GB25 := Aside0.mk gb25
      have GG25 := Aside0.mk HG25
      clear gb25 gl25 HG25
      have HMgo25 := Aside0.mk (show (P0_ go25 ∨ w.heap.size ≤ go25) from (CutR.own HO_0.out _ rfl))
      (first | simp only [add_at] at hx452_0 | skip)
      (first | simp only [add_at] at hx453_0 | skip)
      (first | simp only [add_at] at hx456_0 | skip)
      (first | simp only [add_at] at hx458_0 | skip)
      obtain ⟨hx25_0, hf25_0⟩ := CutR.celln HO_0.out (x74_2 : Int) p25 q25
      replace p25 := eq_true p25
      replace q25 := eq_true q25
      have HP26 := CutR.putg HO_0.out (x74_2 : Int) (of_decide_eq_true (by first | (with_reducible assumption) | assumption)) (of_decide_eq_true (by first | (with_reducible assumption) | assumption)) ((IntKind.u64.wrap ((IntKind.u64.wrap ((IntKind.u64.wrap (rd x0_2 x74_2)) - (Go.bits .and .u64 (IntKind.u64.wrap (x11_2 + (IntKind.u64.wrap (x8_9 * (IntKind.u64.wrap (rd l1 x74_2)))))) 4294967295))) - x10_2)) % 4294967296)
      go_wp2_with (first | ((with_reducible refine gate_store (t := 123) (p := 103) rfl ?_); (try (rw [drewN_self wr]; generalize hq_ : World.drewN wr _ = wr; have n0_ := Aside0.mk (CutR.at' hq_ HO_0.out); have n1_ := Aside0.mk (kept_at hq_ HK.out); have n2_ := Aside0.mk (below_at hq_ HB.out); clear hq_ HO_0 HK HB; have HO_0 := n0_; have HK := n1_; have HB := n2_; clear n0_ n1_ n2_; (try (have HP26 := CutR.putg HO_0.out (x74_2 : Int) (of_decide_eq_true (by first | (with_reducible assumption) | assumption)) (of_decide_eq_true (by first | (with_reducible assumption) | assumption)) ((IntKind.u64.wrap ((IntKind.u64.wrap ((IntKind.u64.wrap (rd x0_2 x74_2)) - (Go.bits .and .u64 (IntKind.u64.wrap (x11_2 + (IntKind.u64.wrap (x8_9 * (IntKind.u64.wrap (rd l1 x74_2)))))) 4294967295))) - x10_2)) % 4294967296))))); refine store_event (t := 123) (p := 103) (v := ?vo_w27) (w1 := (wr.setCell ⟨go25, pre_.length + (x74_2 : Int).toNat, none⟩ (.int .u32 ((IntKind.u64.wrap ((IntKind.u64.wrap ((IntKind.u64.wrap (rd x0_2 x74_2)) - (Go.bits .and .u64 (IntKind.u64.wrap (x11_2 + (IntKind.u64.wrap (x8_9 * (IntKind.u64.wrap (rd l1 x74_2)))))) 4294967295))) - x10_2)) % 4294967296)))) ?hg ?ho ?hn ?hr ?_; (case ho => rfl); (case hg => rfl); (case hn => rfl); (case hr => first | (go_simp; done) | (go_simp; rfl)); intro w27 hw; have hg : wr.grownBy w27 (some go25) := (by rw [hw]; exact HP26.2); have hp_ : CutR wv_ pre_ post_ 123 w27 w0.heap.size (fun k_ => (P0_ k_ ∨ w.heap.size ≤ k_)) (.slice (some ⟨go25, pre_.length, none⟩) x0_2.length co11) y459 := (by rw [hw, Ny459.out]; exact HP26.1); clear HP26; have n0_ := Aside0.mk (hp_); have n1_ := Aside0.mk ((by rw [hw]; exact below_set (HB.out) GB25.out : Below w0.heap.size w0 w27)); have n2_ := Aside0.mk (Kept.of_grown (S := (fun k_ => P0_ k_)) hg (by repeat (first | (with_reducible first | exact HK.out | apply Kept.alloc | apply Kept.drewN | apply Kept.drew) | exact HK.out)) (fun k_ e_ => (CutR.own HO_0.out k_ e_))); clear HO_0 HB HK; have HO_0 := n0_; have HB := n1_; have HK := n2_; clear n0_ n1_ n2_; clear hg hw hp_))
      repeat (go_quiet (first | ((with_reducible refine gate_store (t := 123) (p := 103) rfl ?_); (try (rw [drewN_self wr]; generalize hq_ : World.drewN wr _ = wr; have n0_ := Aside0.mk (CutR.at' hq_ HO_0.out); have n1_ := Aside0.mk (kept_at hq_ HK.out); have n2_ := Aside0.mk (below_at hq_ HB.out); clear hq_ HO_0 HK HB; have HO_0 := n0_; have HK := n1_; have HB := n2_; clear n0_ n1_ n2_; (try (have HP26 := CutR.putg HO_0.out (x74_2 : Int) (of_decide_eq_true (by first | (with_reducible assumption) | assumption)) (of_decide_eq_true (by first | (with_reducible assumption) | assumption)) ((IntKind.u64.wrap ((IntKind.u64.wrap ((IntKind.u64.wrap (rd x0_2 x74_2)) - (Go.bits .and .u64 (IntKind.u64.wrap (x11_2 + (IntKind.u64.wrap (x8_9 * (IntKind.u64.wrap (rd l1 x74_2)))))) 4294967295))) - x10_2)) % 4294967296))))); refine store_event (t := 123) (p := 103) (v := ?vo_w27) (w1 := (wr.setCell ⟨go25, pre_.length + (x74_2 : Int).toNat, none⟩ (.int .u32 ((IntKind.u64.wrap ((IntKind.u64.wrap ((IntKind.u64.wrap (rd x0_2 x74_2)) - (Go.bits .and .u64 (IntKind.u64.wrap (x11_2 + (IntKind.u64.wrap (x8_9 * (IntKind.u64.wrap (rd l1 x74_2)))))) 4294967295))) - x10_2)) % 4294967296)))) ?hg ?ho ?hn ?hr ?_; (case ho => rfl); (case hg => rfl); (case hn => rfl); (case hr => first | (go_simp; done) | (go_simp; rfl)); intro w27 hw; have hg : wr.grownBy w27 (some go25) := (by rw [hw]; exact HP26.2); have hp_ : CutR wv_ pre_ post_ 123 w27 w0.heap.size (fun k_ => (P0_ k_ ∨ w.heap.size ≤ k_)) (.slice (some ⟨go25, pre_.length, none⟩) x0_2.length co11) y459 := (by rw [hw, Ny459.out]; exact HP26.1); clear HP26; have n0_ := Aside0.mk (hp_); have n1_ := Aside0.mk ((by rw [hw]; exact below_set (HB.out) GB25.out : Below w0.heap.size w0 w27)); have n2_ := Aside0.mk (Kept.of_grown (S := (fun k_ => P0_ k_)) hg (by repeat (first | (with_reducible first | exact HK.out | apply Kept.alloc | apply Kept.drewN | apply Kept.drew) | exact HK.out)) (fun k_ e_ => (CutR.own HO_0.out k_ e_))); clear HO_0; clear HB; clear HK; have HO_0 := n0_; have HB := n1_; have HK := n2_; clear n0_ n1_ n2_; clear hg hw hp_)); try go_wp2_with (first | ((with_reducible refine gate_store (t := 123) (p := 103) rfl ?_); (try (rw [drewN_self wr]; generalize hq_ : World.drewN wr _ = wr; have n0_ := Aside0.mk (CutR.at' hq_ HO_0.out); have n1_ := Aside0.mk (kept_at hq_ HK.out); have n2_ := Aside0.mk (below_at hq_ HB.out); clear hq_ HO_0 HK HB; have HO_0 := n0_; have HK := n1_; have HB := n2_; clear n0_ n1_ n2_; (try (have HP26 := CutR.putg HO_0.out (x74_2 : Int) (of_decide_eq_true (by first | (with_reducible assumption) | assumption)) (of_decide_eq_true (by first | (with_reducible assumption) | assumption)) ((IntKind.u64.wrap ((IntKind.u64.wrap ((IntKind.u64.wrap (rd x0_2 x74_2)) - (Go.bits .and .u64 (IntKind.u64.wrap (x11_2 + (IntKind.u64.wrap (x8_9 * (IntKind.u64.wrap (rd l1 x74_2)))))) 4294967295))) - x10_2)) % 4294967296))))); refine store_event (t := 123) (p := 103) (v := ?vo_w27) (w1 := (wr.setCell ⟨go25, pre_.length + (x74_2 : Int).toNat, none⟩ (.int .u32 ((IntKind.u64.wrap ((IntKind.u64.wrap ((IntKind.u64.wrap (rd x0_2 x74_2)) - (Go.bits .and .u64 (IntKind.u64.wrap (x11_2 + (IntKind.u64.wrap (x8_9 * (IntKind.u64.wrap (rd l1 x74_2)))))) 4294967295))) - x10_2)) % 4294967296)))) ?hg ?ho ?hn ?hr ?_; (case ho => rfl); (case hg => rfl); (case hn => rfl); (case hr => first | (go_simp; done) | (go_simp; rfl)); intro w27 hw; have hg : wr.grownBy w27 (some go25) := (by rw [hw]; exact HP26.2); have hp_ : CutR wv_ pre_ post_ 123 w27 w0.heap.size (fun k_ => (P0_ k_ ∨ w.heap.size ≤ k_)) (.slice (some ⟨go25, pre_.length, none⟩) x0_2.length co11) y459 := (by rw [hw, Ny459.out]; exact HP26.1); clear HP26; have n0_ := Aside0.mk (hp_); have n1_ := Aside0.mk ((by rw [hw]; exact below_set (HB.out) GB25.out : Below w0.heap.size w0 w27)); have n2_ := Aside0.mk (Kept.of_grown (S := (fun k_ => P0_ k_)) hg (by repeat (first | (with_reducible first | exact HK.out | apply Kept.alloc | apply Kept.drewN | apply Kept.drew) | exact HK.out)) (fun k_ e_ => (CutR.own HO_0.out k_ e_))); clear HO_0; clear HB; clear HK; have HO_0 := n0_; have HB := n1_; have HK := n2_; clear n0_ n1_ n2_; clear hg hw hp_)))
      (try simp only [← hl0_2])
      go_roundg k2
      case measure => have := HJ9.out; have := HK2.out; omega
      case rel => exact ⟨(y459), ((IntKind.u64.wrap ((IntKind.u64.wrap ((IntKind.u64.wrap (rd x0_2 x74_2)) - (Go.bits .and .u64 (IntKind.u64.wrap (x11_2 + (IntKind.u64.wrap (x8_9 * (IntKind.u64.wrap (rd l1 x74_2)))))) 4294967295))) - x10_2)) / 9223372036854775808), ((IntKind.u64.wrap (x11_2 + (IntKind.u64.wrap (x8_9 * (IntKind.u64.wrap (rd l1 x74_2)))))) / 4294967296), (wrap64 (x74_2 + 1)), (sh_), (sh_), (sh_), H', ⟨by have := HJ9.out; have := HK2.out; omega⟩, ⟨by (try simp only [hl0_2]); (with_reducible repeat (first | apply CutR.alloc | apply CutR.drewN | apply CutR.drew)); exact HO_0.out⟩, ⟨by repeat (first | (with_reducible first | exact HK.out | apply Kept.alloc | apply Kept.drewN | apply Kept.drew) | exact HK.out)⟩, ⟨bh_⟩⟩
     rw [if_neg c20] at H
     have c20b0 : decide (x74_2 < (l0.length : Int)) = false := decide_eq_false c20
     (try (have c20b0x := c20b0; rw [hl0_2] at c20b0x))
     (try (have c20b0x := c20b0; rw [hl0_3] at c20b0x))
     clear c20
     by_cases c33 : x10_2 = 0
     case pos =>
      rw [if_pos c33] at H
      have c33b0 : (x10_2 == 0) = true := beq_iff_eq.mpr c33
      have c33b1 : (x10_2 != 0) = false := bne_eq_false_iff_eq.mpr c33
      clear c33
      simp only [Option.some.injEq, Prod.mk.injEq] at H
      obtain ⟨rfl, rfl⟩ := H
      go_wp2
      repeat (go_quiet (fail); try go_wp2)
      go_ret
      exact ⟨by first | rfl | (simp [errW_none, errW_some] <;> rfl) | (simp only [← hji5]; first | rfl | (simp [errW_none, errW_some] <;> rfl)) | (simp [*, errW_none, errW_some] <;> rfl), (by first | exact (by (with_reducible repeat (first | apply CutR.alloc | apply CutR.drewN | apply CutR.drew)); exact HO_0.out) | (simp only [hl0_2]; exact (by (with_reducible repeat (first | apply CutR.alloc | apply CutR.drewN | apply CutR.drew)); exact HO_0.out))), bh_, by repeat (first | (with_reducible first | exact HK.out | apply Kept.alloc | apply Kept.drewN | apply Kept.drew) | exact HK.out)⟩
     rw [if_neg c33] at H
     have c33b0 : (x10_2 == 0) = false := beq_eq_false_iff_ne.mpr c33
     have c33b1 : (x10_2 != 0) = true := bne_iff_ne.mpr c33
     have H' := Aside0.mk H
     clear H
     go_wp2
     repeat (go_quiet (fail); try go_wp2)
     (try simp only [Act.put, p1_, p2_, p3_])
     go_loopg [14, 115] k2 (fun kq v14 v115 w' => ∃ (x0_3 : List Int) (x14_3 : Int) (x115_3 : Int), v14 = .int .u64 x14_3 ∧ v115 = .int .i64 x115_3 ∧ Aside0 (nat_step.l2 kq x0_3 l1 (l1.length : Int) x8_9 x14_3 (x0_2.length : Int) x115_3 = some (r1, r2)) ∧ Aside0 (kq ≤ k2) ∧ Aside0 (CutR wv_ pre_ post_ 123 w' w0.heap.size (fun k_ => (P0_ k_ ∨ w.heap.size ≤ k_)) (.slice (some ad452) x0_2.length co11) x0_3) ∧ Aside0 (Kept w w' (fun k_ => P0_ k_)) ∧ Aside0 (Below w0.heap.size w0 w'))
     case atStart => exact ⟨(x0_2), (0), (0), (sh_), (sh_), H', ⟨Nat.le_refl _⟩, ⟨by (try simp only [hl0_2]); (with_reducible repeat (first | apply CutR.alloc | apply CutR.drewN | apply CutR.drew)); exact HO_0.out⟩, ⟨by repeat (first | (with_reducible first | exact HK.out | apply Kept.alloc | apply Kept.drewN | apply Kept.drew) | exact HK.out)⟩, ⟨bh_⟩⟩
     case round =>
      clear H'
      try clear c1
      try clear c2
      try clear p2
      try clear q2
      try clear hx2
      try clear hf2
      try clear c3
      try clear c3b0
      try clear c3b1
      try clear p3
      try clear q3
      try clear hx3
      try clear hf3
      try clear c4
      try clear c4b0
      try clear c4b1
      try clear p4
      try clear q4
      try clear hx4
      try clear c6
      try clear c6b0
      try clear p6
      try clear c7
      try clear c7b0
      try clear c8
      try clear c8b0
      try clear c9
      try clear c9b0
      try clear c9b1
      try clear c10
      try clear c13
      try clear c13b0
      try clear c15
      try clear c15b0
      try clear c16
      try clear c16b0
      try clear c17
      try clear c17b0
      try clear c18
      try clear c19
      try clear c19b0
      try clear c20
      try clear c20b0
      try clear c21
      try clear c21b0
      try clear c22
      try clear c22b0
      try clear c23
      try clear c23b0
      try clear c24
      try clear c24b0
      try clear p25
      try clear q25
      try clear hx25
      try clear hf25
      try clear c28
      try clear c28b0
      try clear c29
      try clear c29b0
      try clear p30
      try clear q30
      try clear hx30
      try clear hf30
      try clear c33
      try clear c33b0
      try clear c33b1
      try clear hx25_0
      try clear hx30_0
      try clear hx452_0
      try clear hx453_0
      try clear hx454_0
      try clear hx455_0
      try clear hx456_0
      try clear hx457_0
      try clear hx458_0
      try clear hx460_0
      try clear p2
      try clear p25
      try clear p30
      try clear p4
      try clear p452
      try clear p453
      try clear p454
      try clear p455
      try clear p456
      try clear p457
      try clear p458
      try clear p460
      try clear p6
      try clear q25
      try clear q30
      try clear q4
      try clear q452
      try clear q453
      try clear q454
      try clear q455
      try clear q456
      try clear q457
      try clear q458
      try clear q460
      obtain ⟨x0_3, x14_3, x115_3, rfl, rfl, HA, HK3, HO_0, HK, HB⟩ := hrel
      have hl0_3 := (CutR.reads' HO_0.out).1
      rw [hl0_3] at HO_0
      (try simp only [hl0_3])
      cases gk with
      | zero => exact absurd HA.out (by simp [nat_step.l2])
      | succ k3 =>
       have H := HA.out
       clear HA
       simp only [nat_step.l2] at H
       by_cases c34 : x115_3 < (x0_2.length : Int)
       case neg =>
        rw [if_neg c34] at H
        have c34b0 : decide (x115_3 < (x0_2.length : Int)) = false := decide_eq_false c34
        (try (have c34b0x := c34b0; rw [hl0_2] at c34b0x))
        (try (have c34b0x := c34b0; rw [hl0_3] at c34b0x))
        clear c34
        simp only [Option.some.injEq, Prod.mk.injEq] at H
        obtain ⟨rfl, rfl⟩ := H
        go_wp2
        repeat (go_quiet (fail); try go_wp2)
        go_ret
        exact ⟨by first | rfl | (simp [errW_none, errW_some] <;> rfl) | (simp only [← hji5]; first | rfl | (simp [errW_none, errW_some] <;> rfl)) | (simp [*, errW_none, errW_some] <;> rfl), (by first | exact (by (with_reducible repeat (first | apply CutR.alloc | apply CutR.drewN | apply CutR.drew)); exact HO_0.out) | (simp only [hl0_2, hl0_3]; exact (by (with_reducible repeat (first | apply CutR.alloc | apply CutR.drewN | apply CutR.drew)); exact HO_0.out))), bh_, by repeat (first | (with_reducible first | exact HK.out | apply Kept.alloc | apply Kept.drewN | apply Kept.drew) | exact HK.out)⟩
       rw [if_pos c34] at H
       have c34b0 : decide (x115_3 < (x0_2.length : Int)) = true := decide_eq_true c34
       clear c34
       by_cases c35 : x115_3 < (l1.length : Int)
       case neg =>
        rw [if_neg c35] at H
        have c35b0 : decide (x115_3 < (l1.length : Int)) = false := decide_eq_false c35
        (try (have c35b0x := c35b0; rw [hl0_2] at c35b0x))
        (try (have c35b0x := c35b0; rw [hl0_3] at c35b0x))
        clear c35
        by_cases c42 : 0 ≤ x115_3
        case neg =>
         rw [if_neg c42] at H
         exact absurd H (by simp)
        rw [if_pos c42] at H
        have c42b0 : decide (0 ≤ x115_3) = true := decide_eq_true c42
        clear c42
        by_cases c43 : x115_3 < (x0_3.length : Int)
        case neg =>
         rw [if_neg c43] at H
         exact absurd H (by simp)
        rw [if_pos c43] at H
        have c43b0 : decide (x115_3 < (x0_3.length : Int)) = true := decide_eq_true c43
        clear c43
        obtain ⟨y466, hy466⟩ : ∃ y_ : List Int, y_ = (x0_3.set (x115_3 : Int).toNat ((IntKind.u64.wrap (x14_3 + (IntKind.u64.wrap (rd x0_3 x115_3)))) % 4294967296)) := ⟨_, rfl⟩
        replace H : (nat_step.l2 k3 y466 l1 (l1.length : Int) x8_9 ((IntKind.u64.wrap (x14_3 + (IntKind.u64.wrap (rd x0_3 x115_3)))) / 4294967296) (x0_2.length : Int) (wrap64 (x115_3 + 1))) = some (r1, r2) := by first | (rw [hy466]; with_reducible exact H) | (have H2_ := (Option.bind_some _ _).symm.trans H; rw [hy466]; with_reducible exact H2_) | (have H2_ := (Option.bind_some _ _).symm.trans H; with_reducible exact H2_) | with_reducible exact H | (rw [hy466]; exact H) | exact H
        have Ny466 := Aside0.mk hy466
        clear hy466
        have H' := Aside0.mk H
        clear H
        have p465 : 0 ≤ (x115_3 : Int) := of_decide_eq_true (by first | (with_reducible assumption) | assumption)
        have q465 : x115_3 < (x0_3.length : Int) := of_decide_eq_true (by first | (with_reducible assumption) | assumption)
        obtain ⟨ad465, e465, hx465_0⟩ := Kd.at_int (CutR.reads' HO_0.out).2.2 x115_3 p465 q465
        obtain rfl : ad452 = ad465 := (by injection e465)
        replace p465 := eq_true p465
        replace q465 := eq_true q465
        have p44 : 0 ≤ (x115_3 : Int) := of_decide_eq_true (by first | (with_reducible assumption) | assumption)
        have q44 : (x115_3 : Int) < ((x0_3.length : Int) : Int) := of_decide_eq_true (by first | (with_reducible assumption) | assumption)
        obtain ⟨go44, co44, eo44, gb44, gl44, cl44, HG44⟩ := CutR.form HO_0.out (by omega)
        (first | cases eo44 | (injection eo44 with ea_ en_ ec_; (first | subst ea_ | (injection ea_ with ea_; subst ea_)); subst ec_; clear en_))
        have GB44 := Aside0.mk gb44
        have GG44 := Aside0.mk HG44
        clear gb44 gl44 HG44
        have HMgo44 := Aside0.mk (show (P0_ go44 ∨ w.heap.size ≤ go44) from (CutR.own HO_0.out _ rfl))
        (first | simp only [add_at] at hx465_0 | skip)
        obtain ⟨hx44_0, hf44_0⟩ := CutR.celln HO_0.out (x115_3 : Int) p44 q44
        replace p44 := eq_true p44
        replace q44 := eq_true q44
        have HP45 := CutR.putg HO_0.out (x115_3 : Int) (of_decide_eq_true (by first | (with_reducible assumption) | assumption)) (of_decide_eq_true (by first | (with_reducible assumption) | assumption)) ((IntKind.u64.wrap (x14_3 + (IntKind.u64.wrap (rd x0_3 x115_3)))) % 4294967296)
        go_wp2_with (first | ((with_reducible refine gate_store (t := 123) (p := 139) rfl ?_); (try (rw [drewN_self wr]; generalize hq_ : World.drewN wr _ = wr; have n0_ := Aside0.mk (CutR.at' hq_ HO_0.out); have n1_ := Aside0.mk (kept_at hq_ HK.out); have n2_ := Aside0.mk (below_at hq_ HB.out); clear hq_ HO_0 HK HB; have HO_0 := n0_; have HK := n1_; have HB := n2_; clear n0_ n1_ n2_; (try (have HP45 := CutR.putg HO_0.out (x115_3 : Int) (of_decide_eq_true (by first | (with_reducible assumption) | assumption)) (of_decide_eq_true (by first | (with_reducible assumption) | assumption)) ((IntKind.u64.wrap (x14_3 + (IntKind.u64.wrap (rd x0_3 x115_3)))) % 4294967296))))); refine store_event (t := 123) (p := 139) (v := ?vo_w46) (w1 := (wr.setCell ⟨go44, pre_.length + (x115_3 : Int).toNat, none⟩ (.int .u32 ((IntKind.u64.wrap (x14_3 + (IntKind.u64.wrap (rd x0_3 x115_3)))) % 4294967296)))) ?hg ?ho ?hn ?hr ?_; (case ho => rfl); (case hg => rfl); (case hn => rfl); (case hr => first | (go_simp; done) | (go_simp; rfl)); intro w46 hw; have hg : wr.grownBy w46 (some go44) := (by rw [hw]; exact HP45.2); have hp_ : CutR wv_ pre_ post_ 123 w46 w0.heap.size (fun k_ => (P0_ k_ ∨ w.heap.size ≤ k_)) (.slice (some ⟨go44, pre_.length, none⟩) x0_3.length co11) y466 := (by rw [hw, Ny466.out]; exact HP45.1); clear HP45; have n0_ := Aside0.mk (hp_); have n1_ := Aside0.mk ((by rw [hw]; exact below_set (HB.out) GB44.out : Below w0.heap.size w0 w46)); have n2_ := Aside0.mk (Kept.of_grown (S := (fun k_ => P0_ k_)) hg (by repeat (first | (with_reducible first | exact HK.out | apply Kept.alloc | apply Kept.drewN | apply Kept.drew) | exact HK.out)) (fun k_ e_ => (CutR.own HO_0.out k_ e_))); clear HO_0 HB HK; have HO_0 := n0_; have HB := n1_; have HK := n2_; clear n0_ n1_ n2_; clear hg hw hp_))
        repeat (go_quiet (first | ((with_reducible refine gate_store (t := 123) (p := 139) rfl ?_); (try (rw [drewN_self wr]; generalize hq_ : World.drewN wr _ = wr; have n0_ := Aside0.mk (CutR.at' hq_ HO_0.out); have n1_ := Aside0.mk (kept_at hq_ HK.out); have n2_ := Aside0.mk (below_at hq_ HB.out); clear hq_ HO_0 HK HB; have HO_0 := n0_; have HK := n1_; have HB := n2_; clear n0_ n1_ n2_; (try (have HP45 := CutR.putg HO_0.out (x115_3 : Int) (of_decide_eq_true (by first | (with_reducible assumption) | assumption)) (of_decide_eq_true (by first | (with_reducible assumption) | assumption)) ((IntKind.u64.wrap (x14_3 + (IntKind.u64.wrap (rd x0_3 x115_3)))) % 4294967296))))); refine store_event (t := 123) (p := 139) (v := ?vo_w46) (w1 := (wr.setCell ⟨go44, pre_.length + (x115_3 : Int).toNat, none⟩ (.int .u32 ((IntKind.u64.wrap (x14_3 + (IntKind.u64.wrap (rd x0_3 x115_3)))) % 4294967296)))) ?hg ?ho ?hn ?hr ?_; (case ho => rfl); (case hg => rfl); (case hn => rfl); (case hr => first | (go_simp; done) | (go_simp; rfl)); intro w46 hw; have hg : wr.grownBy w46 (some go44) := (by rw [hw]; exact HP45.2); have hp_ : CutR wv_ pre_ post_ 123 w46 w0.heap.size (fun k_ => (P0_ k_ ∨ w.heap.size ≤ k_)) (.slice (some ⟨go44, pre_.length, none⟩) x0_3.length co11) y466 := (by rw [hw, Ny466.out]; exact HP45.1); clear HP45; have n0_ := Aside0.mk (hp_); have n1_ := Aside0.mk ((by rw [hw]; exact below_set (HB.out) GB44.out : Below w0.heap.size w0 w46)); have n2_ := Aside0.mk (Kept.of_grown (S := (fun k_ => P0_ k_)) hg (by repeat (first | (with_reducible first | exact HK.out | apply Kept.alloc | apply Kept.drewN | apply Kept.drew) | exact HK.out)) (fun k_ e_ => (CutR.own HO_0.out k_ e_))); clear HO_0; clear HB; clear HK; have HO_0 := n0_; have HB := n1_; have HK := n2_; clear n0_ n1_ n2_; clear hg hw hp_)); try go_wp2_with (first | ((with_reducible refine gate_store (t := 123) (p := 139) rfl ?_); (try (rw [drewN_self wr]; generalize hq_ : World.drewN wr _ = wr; have n0_ := Aside0.mk (CutR.at' hq_ HO_0.out); have n1_ := Aside0.mk (kept_at hq_ HK.out); have n2_ := Aside0.mk (below_at hq_ HB.out); clear hq_ HO_0 HK HB; have HO_0 := n0_; have HK := n1_; have HB := n2_; clear n0_ n1_ n2_; (try (have HP45 := CutR.putg HO_0.out (x115_3 : Int) (of_decide_eq_true (by first | (with_reducible assumption) | assumption)) (of_decide_eq_true (by first | (with_reducible assumption) | assumption)) ((IntKind.u64.wrap (x14_3 + (IntKind.u64.wrap (rd x0_3 x115_3)))) % 4294967296))))); refine store_event (t := 123) (p := 139) (v := ?vo_w46) (w1 := (wr.setCell ⟨go44, pre_.length + (x115_3 : Int).toNat, none⟩ (.int .u32 ((IntKind.u64.wrap (x14_3 + (IntKind.u64.wrap (rd x0_3 x115_3)))) % 4294967296)))) ?hg ?ho ?hn ?hr ?_; (case ho => rfl); (case hg => rfl); (case hn => rfl); (case hr => first | (go_simp; done) | (go_simp; rfl)); intro w46 hw; have hg : wr.grownBy w46 (some go44) := (by rw [hw]; exact HP45.2); have hp_ : CutR wv_ pre_ post_ 123 w46 w0.heap.size (fun k_ => (P0_ k_ ∨ w.heap.size ≤ k_)) (.slice (some ⟨go44, pre_.length, none⟩) x0_3.length co11) y466 := (by rw [hw, Ny466.out]; exact HP45.1); clear HP45; have n0_ := Aside0.mk (hp_); have n1_ := Aside0.mk ((by rw [hw]; exact below_set (HB.out) GB44.out : Below w0.heap.size w0 w46)); have n2_ := Aside0.mk (Kept.of_grown (S := (fun k_ => P0_ k_)) hg (by repeat (first | (with_reducible first | exact HK.out | apply Kept.alloc | apply Kept.drewN | apply Kept.drew) | exact HK.out)) (fun k_ e_ => (CutR.own HO_0.out k_ e_))); clear HO_0; clear HB; clear HK; have HO_0 := n0_; have HB := n1_; have HK := n2_; clear n0_ n1_ n2_; clear hg hw hp_)))
        (try simp only [← hl0_3])
        go_roundg k3
        case measure => have := HJ9.out; have := HK2.out; have := HK3.out; omega
        case rel => exact ⟨(y466), ((IntKind.u64.wrap (x14_3 + (IntKind.u64.wrap (rd x0_3 x115_3)))) / 4294967296), (wrap64 (x115_3 + 1)), (sh_), (sh_), H', ⟨by have := HJ9.out; have := HK2.out; have := HK3.out; omega⟩, ⟨by (try simp only [hl0_2]); (try simp only [hl0_3]); (with_reducible repeat (first | apply CutR.alloc | apply CutR.drewN | apply CutR.drew)); exact HO_0.out⟩, ⟨by repeat (first | (with_reducible first | exact HK.out | apply Kept.alloc | apply Kept.drewN | apply Kept.drew) | exact HK.out)⟩, ⟨bh_⟩⟩
       rw [if_pos c35] at H
       have c35b0 : decide (x115_3 < (l1.length : Int)) = true := decide_eq_true c35
       clear c35
       by_cases c36 : 0 ≤ x115_3
       case neg =>
        rw [if_neg c36] at H
        exact absurd H (by simp)
       rw [if_pos c36] at H
       have c36b0 : decide (0 ≤ x115_3) = true := decide_eq_true c36
       clear c36
       by_cases c37 : x115_3 < (l1.length : Int)
       case neg =>
        rw [if_neg c37] at H
        exact absurd H (by simp)
       rw [if_pos c37] at H
       have c37b0 : decide (x115_3 < (l1.length : Int)) = true := decide_eq_true c37
       clear c37
       by_cases c38 : x115_3 < (x0_3.length : Int)
       case neg =>
        rw [if_neg c38] at H
        exact absurd H (by simp)
       rw [if_pos c38] at H
       have c38b0 : decide (x115_3 < (x0_3.length : Int)) = true := decide_eq_true c38
       clear c38
       obtain ⟨y464, hy464⟩ : ∃ y_ : List Int, y_ = (x0_3.set (x115_3 : Int).toNat ((IntKind.u64.wrap ((IntKind.u64.wrap (x14_3 + (IntKind.u64.wrap (rd l1 x115_3)))) + (IntKind.u64.wrap (rd x0_3 x115_3)))) % 4294967296)) := ⟨_, rfl⟩
       replace H : (nat_step.l2 k3 y464 l1 (l1.length : Int) x8_9 ((IntKind.u64.wrap ((IntKind.u64.wrap (x14_3 + (IntKind.u64.wrap (rd l1 x115_3)))) + (IntKind.u64.wrap (rd x0_3 x115_3)))) / 4294967296) (x0_2.length : Int) (wrap64 (x115_3 + 1))) = some (r1, r2) := by first | (rw [hy464]; with_reducible exact H) | (have H2_ := (Option.bind_some _ _).symm.trans H; rw [hy464]; with_reducible exact H2_) | (have H2_ := (Option.bind_some _ _).symm.trans H; with_reducible exact H2_) | with_reducible exact H | (rw [hy464]; exact H) | exact H
       have Ny464 := Aside0.mk hy464
       clear hy464
       have H' := Aside0.mk H
       clear H
       have p462 : 0 ≤ (x115_3 : Int) := of_decide_eq_true (by first | (with_reducible assumption) | assumption)
       have q462 : x115_3 < (l1.length : Int) := of_decide_eq_true (by first | (with_reducible assumption) | assumption)
       obtain ⟨ad462, e462, hx462_0⟩ := Kd.at_int (Kd.C_kept_now HR1.out HK.out) x115_3 p462 q462
       obtain rfl : ad454 = ad462 := (by injection e462)
       replace p462 := eq_true p462
       replace q462 := eq_true q462
       have p463 : 0 ≤ (x115_3 : Int) := of_decide_eq_true (by first | (with_reducible assumption) | assumption)
       have q463 : x115_3 < (x0_3.length : Int) := of_decide_eq_true (by first | (with_reducible assumption) | assumption)
       obtain ⟨ad463, e463, hx463_0⟩ := Kd.at_int (CutR.reads' HO_0.out).2.2 x115_3 p463 q463
       obtain rfl : ad452 = ad463 := (by injection e463)
       replace p463 := eq_true p463
       replace q463 := eq_true q463
       have p39 : 0 ≤ (x115_3 : Int) := of_decide_eq_true (by first | (with_reducible assumption) | assumption)
       have q39 : (x115_3 : Int) < ((x0_3.length : Int) : Int) := of_decide_eq_true (by first | (with_reducible assumption) | assumption)
       obtain ⟨go39, co39, eo39, gb39, gl39, cl39, HG39⟩ := CutR.form HO_0.out (by omega)
       (first | cases eo39 | (injection eo39 with ea_ en_ ec_; (first | subst ea_ | (injection ea_ with ea_; subst ea_)); subst ec_; clear en_))
       have GB39 := Aside0.mk gb39
       have GG39 := Aside0.mk HG39
       clear gb39 gl39 HG39
       have HMgo39 := Aside0.mk (show (P0_ go39 ∨ w.heap.size ≤ go39) from (CutR.own HO_0.out _ rfl))
       (first | simp only [add_at] at hx463_0 | skip)
       obtain ⟨hx39_0, hf39_0⟩ := CutR.celln HO_0.out (x115_3 : Int) p39 q39
       replace p39 := eq_true p39
       replace q39 := eq_true q39
       have HP40 := CutR.putg HO_0.out (x115_3 : Int) (of_decide_eq_true (by first | (with_reducible assumption) | assumption)) (of_decide_eq_true (by first | (with_reducible assumption) | assumption)) ((IntKind.u64.wrap ((IntKind.u64.wrap (x14_3 + (IntKind.u64.wrap (rd l1 x115_3)))) + (IntKind.u64.wrap (rd x0_3 x115_3)))) % 4294967296)
       go_wp2_with (first | ((with_reducible refine gate_store (t := 123) (p := 139) rfl ?_); (try (rw [drewN_self wr]; generalize hq_ : World.drewN wr _ = wr; have n0_ := Aside0.mk (CutR.at' hq_ HO_0.out); have n1_ := Aside0.mk (kept_at hq_ HK.out); have n2_ := Aside0.mk (below_at hq_ HB.out); clear hq_ HO_0 HK HB; have HO_0 := n0_; have HK := n1_; have HB := n2_; clear n0_ n1_ n2_; (try (have HP40 := CutR.putg HO_0.out (x115_3 : Int) (of_decide_eq_true (by first | (with_reducible assumption) | assumption)) (of_decide_eq_true (by first | (with_reducible assumption) | assumption)) ((IntKind.u64.wrap ((IntKind.u64.wrap (x14_3 + (IntKind.u64.wrap (rd l1 x115_3)))) + (IntKind.u64.wrap (rd x0_3 x115_3)))) % 4294967296))))); refine store_event (t := 123) (p := 139) (v := ?vo_w41) (w1 := (wr.setCell ⟨go39, pre_.length + (x115_3 : Int).toNat, none⟩ (.int .u32 ((IntKind.u64.wrap ((IntKind.u64.wrap (x14_3 + (IntKind.u64.wrap (rd l1 x115_3)))) + (IntKind.u64.wrap (rd x0_3 x115_3)))) % 4294967296)))) ?hg ?ho ?hn ?hr ?_; (case ho => rfl); (case hg => rfl); (case hn => rfl); (case hr => first | (go_simp; done) | (go_simp; rfl)); intro w41 hw; have hg : wr.grownBy w41 (some go39) := (by rw [hw]; exact HP40.2); have hp_ : CutR wv_ pre_ post_ 123 w41 w0.heap.size (fun k_ => (P0_ k_ ∨ w.heap.size ≤ k_)) (.slice (some ⟨go39, pre_.length, none⟩) x0_3.length co11) y464 := (by rw [hw, Ny464.out]; exact HP40.1); clear HP40; have n0_ := Aside0.mk (hp_); have n1_ := Aside0.mk ((by rw [hw]; exact below_set (HB.out) GB39.out : Below w0.heap.size w0 w41)); have n2_ := Aside0.mk (Kept.of_grown (S := (fun k_ => P0_ k_)) hg (by repeat (first | (with_reducible first | exact HK.out | apply Kept.alloc | apply Kept.drewN | apply Kept.drew) | exact HK.out)) (fun k_ e_ => (CutR.own HO_0.out k_ e_))); clear HO_0 HB HK; have HO_0 := n0_; have HB := n1_; have HK := n2_; clear n0_ n1_ n2_; clear hg hw hp_))
       repeat (go_quiet (first | ((with_reducible refine gate_store (t := 123) (p := 139) rfl ?_); (try (rw [drewN_self wr]; generalize hq_ : World.drewN wr _ = wr; have n0_ := Aside0.mk (CutR.at' hq_ HO_0.out); have n1_ := Aside0.mk (kept_at hq_ HK.out); have n2_ := Aside0.mk (below_at hq_ HB.out); clear hq_ HO_0 HK HB; have HO_0 := n0_; have HK := n1_; have HB := n2_; clear n0_ n1_ n2_; (try (have HP40 := CutR.putg HO_0.out (x115_3 : Int) (of_decide_eq_true (by first | (with_reducible assumption) | assumption)) (of_decide_eq_true (by first | (with_reducible assumption) | assumption)) ((IntKind.u64.wrap ((IntKind.u64.wrap (x14_3 + (IntKind.u64.wrap (rd l1 x115_3)))) + (IntKind.u64.wrap (rd x0_3 x115_3)))) % 4294967296))))); refine store_event (t := 123) (p := 139) (v := ?vo_w41) (w1 := (wr.setCell ⟨go39, pre_.length + (x115_3 : Int).toNat, none⟩ (.int .u32 ((IntKind.u64.wrap ((IntKind.u64.wrap (x14_3 + (IntKind.u64.wrap (rd l1 x115_3)))) + (IntKind.u64.wrap (rd x0_3 x115_3)))) % 4294967296)))) ?hg ?ho ?hn ?hr ?_; (case ho => rfl); (case hg => rfl); (case hn => rfl); (case hr => first | (go_simp; done) | (go_simp; rfl)); intro w41 hw; have hg : wr.grownBy w41 (some go39) := (by rw [hw]; exact HP40.2); have hp_ : CutR wv_ pre_ post_ 123 w41 w0.heap.size (fun k_ => (P0_ k_ ∨ w.heap.size ≤ k_)) (.slice (some ⟨go39, pre_.length, none⟩) x0_3.length co11) y464 := (by rw [hw, Ny464.out]; exact HP40.1); clear HP40; have n0_ := Aside0.mk (hp_); have n1_ := Aside0.mk ((by rw [hw]; exact below_set (HB.out) GB39.out : Below w0.heap.size w0 w41)); have n2_ := Aside0.mk (Kept.of_grown (S := (fun k_ => P0_ k_)) hg (by repeat (first | (with_reducible first | exact HK.out | apply Kept.alloc | apply Kept.drewN | apply Kept.drew) | exact HK.out)) (fun k_ e_ => (CutR.own HO_0.out k_ e_))); clear HO_0; clear HB; clear HK; have HO_0 := n0_; have HB := n1_; have HK := n2_; clear n0_ n1_ n2_; clear hg hw hp_)); try go_wp2_with (first | ((with_reducible refine gate_store (t := 123) (p := 139) rfl ?_); (try (rw [drewN_self wr]; generalize hq_ : World.drewN wr _ = wr; have n0_ := Aside0.mk (CutR.at' hq_ HO_0.out); have n1_ := Aside0.mk (kept_at hq_ HK.out); have n2_ := Aside0.mk (below_at hq_ HB.out); clear hq_ HO_0 HK HB; have HO_0 := n0_; have HK := n1_; have HB := n2_; clear n0_ n1_ n2_; (try (have HP40 := CutR.putg HO_0.out (x115_3 : Int) (of_decide_eq_true (by first | (with_reducible assumption) | assumption)) (of_decide_eq_true (by first | (with_reducible assumption) | assumption)) ((IntKind.u64.wrap ((IntKind.u64.wrap (x14_3 + (IntKind.u64.wrap (rd l1 x115_3)))) + (IntKind.u64.wrap (rd x0_3 x115_3)))) % 4294967296))))); refine store_event (t := 123) (p := 139) (v := ?vo_w41) (w1 := (wr.setCell ⟨go39, pre_.length + (x115_3 : Int).toNat, none⟩ (.int .u32 ((IntKind.u64.wrap ((IntKind.u64.wrap (x14_3 + (IntKind.u64.wrap (rd l1 x115_3)))) + (IntKind.u64.wrap (rd x0_3 x115_3)))) % 4294967296)))) ?hg ?ho ?hn ?hr ?_; (case ho => rfl); (case hg => rfl); (case hn => rfl); (case hr => first | (go_simp; done) | (go_simp; rfl)); intro w41 hw; have hg : wr.grownBy w41 (some go39) := (by rw [hw]; exact HP40.2); have hp_ : CutR wv_ pre_ post_ 123 w41 w0.heap.size (fun k_ => (P0_ k_ ∨ w.heap.size ≤ k_)) (.slice (some ⟨go39, pre_.length, none⟩) x0_3.length co11) y464 := (by rw [hw, Ny464.out]; exact HP40.1); clear HP40; have n0_ := Aside0.mk (hp_); have n1_ := Aside0.mk ((by rw [hw]; exact below_set (HB.out) GB39.out : Below w0.heap.size w0 w41)); have n2_ := Aside0.mk (Kept.of_grown (S := (fun k_ => P0_ k_)) hg (by repeat (first | (with_reducible first | exact HK.out | apply Kept.alloc | apply Kept.drewN | apply Kept.drew) | exact HK.out)) (fun k_ e_ => (CutR.own HO_0.out k_ e_))); clear HO_0; clear HB; clear HK; have HO_0 := n0_; have HB := n1_; have HK := n2_; clear n0_ n1_ n2_; clear hg hw hp_)))
       (try simp only [← hl0_3])
       go_roundg k3
       case measure => have := HJ9.out; have := HK2.out; have := HK3.out; omega
       case rel => exact ⟨(y464), ((IntKind.u64.wrap ((IntKind.u64.wrap (x14_3 + (IntKind.u64.wrap (rd l1 x115_3)))) + (IntKind.u64.wrap (rd x0_3 x115_3)))) / 4294967296), (wrap64 (x115_3 + 1)), (sh_), (sh_), H', ⟨by have := HJ9.out; have := HK2.out; have := HK3.out; omega⟩, ⟨by (try simp only [hl0_2]); (try simp only [hl0_3]); (with_reducible repeat (first | apply CutR.alloc | apply CutR.drewN | apply CutR.drew)); exact HO_0.out⟩, ⟨by repeat (first | (with_reducible first | exact HK.out | apply Kept.alloc | apply Kept.drewN | apply Kept.drew) | exact HK.out)⟩, ⟨bh_⟩⟩

/-! ### nat_Nat_Shr: function 101 -/
def nat_Nat_Shr.l0 : Nat → Int → List Int → List Int → Int → Int → Option (List Int)
  | 0,_,_,_,_,_=>none
  | k + 1,x1,x5,x6,x20,x21=>if x21 < x20 then ((nat_Nat_at.f x5 x21).bind fun t274=>((nat_Nat_at.f x5 (wrap64 (x21 + 1))).bind fun t275=>(if 0 ≤ (Int.tmod x1 32) then (if x6.length < 35184372088832 then (nat_Nat_Shr.l0 k x1 x5 (x6 ++ [(shr .u64 (Go.bits .or .u64 t274 (IntKind.u64.wrap (t275 * 4294967296))) (Int.tmod x1 32)) % 4294967296]) x20 (wrap64 (x21 + 1))) else (none)) else (none)))) else ((nat_trim.f k x6).bind fun t279=>(some t279))
def nat_Nat_Shr.f (k : Nat) (l0 : List Int) (a1 : Int) : Option (List Int):=if (wrap64 ((mx a1 0) / 32)) ≥ (l0.length : Int) then (some ([] : List Int)) else (if 0 ≤ (wrap64 ((mx a1 0) / 32)) then (if (wrap64 ((mx a1 0) / 32)) ≤ (l0.length : Int) then (nat_Nat_Shr.l0 k (mx a1 0) (l0.drop ((wrap64 ((mx a1 0) / 32)) : Int).toNat) ([] : List Int) ((l0.drop ((wrap64 ((mx a1 0) / 32)) : Int).toNat).length : Int) 0) else (none)) else (none))
theorem nat_Nat_Shr.mono_l : ∀ k,(∀ y0 y1 y2 y3 y4,LeO (nat_Nat_Shr.l0 k y0 y1 y2 y3 y4) (nat_Nat_Shr.l0 (k + 1) y0 y1 y2 y3 y4))
  | 0=>fun _ _ _ _ _ r h=>by simp [nat_Nat_Shr.l0] at h
  | k + 1=>by
    have ih0:=nat_Nat_Shr.mono_l k
    · intro y0 y1 y2 y3 y4
      unfold nat_Nat_Shr.l0
      repeat' with_reducible first | exact ih0 _ _ _ _ _ | exact nat_trim.mono _ _ | exact LeO.refl _ | exact LeO.none _ | refine LeO.ite ?_ ?_ | refine LeO.bind ?_ (fun _=>?_)
theorem nat_Nat_Shr.mono : ∀ a0 a1 k,LeO (nat_Nat_Shr.f k a0 a1) (nat_Nat_Shr.f (k + 1) a0 a1):=by
  intro a0 a1 k
  have ih0:=nat_Nat_Shr.mono_l k
  unfold nat_Nat_Shr.f
  repeat' with_reducible first | exact ih0 _ _ _ _ _ | exact nat_trim.mono _ _ | exact LeO.refl _ | exact LeO.none _ | refine LeO.ite ?_ ?_ | refine LeO.bind ?_ (fun _=>?_)
-- GIVENTEXT
set_option maxHeartbeats 8000000 in
set_option maxRecDepth 100000 in
theorem nat_Nat_Shr.calls (k : Nat) (A0 : Option Addr) (c0 : Nat) (l0 : List Int) (a1 : Int) (r : List Int) (w : World) (hr0 : Kd.C (Kd.int .u32) w A0 l0.length l0) (hc0 : l0.length ≤ c0) (h : nat_Nat_Shr.f k l0 a1 = some r) :
    Calls Try.prog 101 #[.slice A0 l0.length c0, .int .i64 a1] w fun e w' => ∃ v0_ : Value, e = .returned (v0_) ∧ Kd.V (Kd.int .u32) 123 w' w.heap.size (fun k_ => (w.heap.size ≤ k_)) v0_ r ∧ Below w.heap.size w w' := by
 have HR0 := Aside0.mk hr0
 have HC0 := Aside0.mk hc0
 clear hr0 hc0
 have HB := Aside0.mk (Below.refl w.heap.size w)
 have H : (if (wrap64 ((mx a1 0) / 32)) ≥ (l0.length : Int) then (some ([] : List Int)) else (if 0 ≤ (wrap64 ((mx a1 0) / 32)) then (if (wrap64 ((mx a1 0) / 32)) ≤ (l0.length : Int) then (nat_Nat_Shr.l0 k (mx a1 0) (l0.drop ((wrap64 ((mx a1 0) / 32)) : Int).toNat) ([] : List Int) ((l0.drop ((wrap64 ((mx a1 0) / 32)) : Int).toNat).length : Int) 0) else (none)) else (none))) = some r := h
 clear h
 obtain ⟨ji3, hji3⟩ : ∃ j_ : Int, (mx a1 0) = j_ := ⟨_, rfl⟩
 replace H : (if (wrap64 ((ji3) / 32)) ≥ (l0.length : Int) then (some ([] : List Int)) else (if 0 ≤ (wrap64 ((ji3) / 32)) then (if (wrap64 ((ji3) / 32)) ≤ (l0.length : Int) then (nat_Nat_Shr.l0 k ji3 (l0.drop ((wrap64 ((ji3) / 32)) : Int).toNat) ([] : List Int) ((l0.drop ((wrap64 ((ji3) / 32)) : Int).toNat).length : Int) 0) else (none)) else (none))) = some r := by first | (rw [hji3] at H; exact H) | (simp only [hji3] at H ⊢; exact H)
 (try (have hji3l : 0 ≤ ji3 := by (rw [← hji3]; unfold mx; (repeat' split) <;> omega)))
 (try (have hji3m : 0 ≤ ji3 := by omega))
 have hji3_ : (if a1 < 0 then 0 else a1) = ji3 := hji3
 have ex : wrap64 (ji3.tdiv 32) = wrap64 (ji3 / 32) := by rw [Int.tdiv_eq_ediv_of_nonneg hji3l]
 by_cases c4 : (wrap64 ((ji3) / 32)) ≥ (l0.length : Int)
 case pos =>
  rw [if_pos c4] at H
  have c4b0 : decide ((l0.length : Int) ≤ (wrap64 ((ji3) / 32))) = true := decide_eq_true c4
  clear c4
  obtain rfl := Option.some.inj H
  go_enter Try.func101, Try.ntmps101
  go_wp2
  go_ret
  exact ⟨_, by first | rfl | (simp [errW_none, errW_some] <;> rfl) | (simp only [← hji3]; first | rfl | (simp [errW_none, errW_some] <;> rfl)) | (simp [*, errW_none, errW_some] <;> rfl), Kd.R_V (base := 0) (by first | exact Kd.R_nil _ _ _ _ _ | exact Kd.N_nil _ _ _ _ _ | exact Kd.V_nil _ _ _ _ _ | exact Kd.Q_nil _ _ _ _ _ | exact Kd.S_nil _ _ _ _ _), bh_⟩
 rw [if_neg c4] at H
 have c4b0 : decide ((l0.length : Int) ≤ (wrap64 ((ji3) / 32))) = false := decide_eq_false c4
 clear c4
 obtain ⟨ji5, hji5⟩ : ∃ j_ : Int, (wrap64 ((ji3) / 32)) = j_ := ⟨_, rfl⟩
 replace H : (if 0 ≤ (ji5) then (if (ji5) ≤ (l0.length : Int) then (nat_Nat_Shr.l0 k ji3 (l0.drop ((ji5) : Int).toNat) ([] : List Int) ((l0.drop ((ji5) : Int).toNat).length : Int) 0) else (none)) else (none)) = some r := by first | (rw [hji5] at H; exact H) | (simp only [hji5] at H ⊢; exact H)
 (try rw [hji5] at c4b0)
 have hji5w : (IntKind.i64.wrap ((ji3) / 32)) = ji5 := (i64_w _).trans hji5
 by_cases c6 : 0 ≤ (ji5)
 case neg =>
  rw [if_neg c6] at H
  exact absurd H (by simp)
 rw [if_pos c6] at H
 have c6b0 := eq_true c6
 have c6b1 : decide (0 ≤ (ji5)) = true := decide_eq_true c6
 clear c6
 by_cases c7 : (ji5) ≤ (l0.length : Int)
 case neg =>
  rw [if_neg c7] at H
  exact absurd H (by simp)
 rw [if_pos c7] at H
 have c7b0 := eq_true c7
 have c7b1 : decide ((ji5) ≤ (l0.length : Int)) = true := decide_eq_true c7
 clear c7
 have H' := Aside0.mk H
 clear H
 obtain ⟨i08, hi08, _, hsz8, _⟩ := info_parts info123
 obtain ⟨A8, hcut8, hA8, hC8⟩ := print_drop_of (P := Try.prog) (Value.int .u32) 0 48 123 .i64 Try.underlying48 hi08 hsz8 A0 c0 l0 (ji5) (of_decide_eq_true (by first | (with_reducible assumption) | assumption)) (of_decide_eq_true (by first | (with_reducible assumption) | assumption)) HC0.out
 have HR467 := Aside0.mk (Kd.C_of_reads (h1 := fun _ => rfl) (hA8 _ (Kd.reads_of_C HR0.out)))
 have HC467 := Aside0.mk hC8
 clear hA8 hC8 hi08 hsz8
 go_enter Try.func101, Try.ntmps101
 go_wp2
 simp only [ex, hji5]
 (try simp only [Act.put, p1_, p2_, p3_])
 go_loopg [6, 21] k (fun kq v6 v21 w' => ∃ (x6_1 : List Int) (x21_1 : Int), v21 = .int .i64 x21_1 ∧ Aside0 (nat_Nat_Shr.l0 kq ji3 (l0.drop ((ji5) : Int).toNat) x6_1 ((l0.drop ((ji5) : Int).toNat).length : Int) x21_1 = some r) ∧ Aside0 (kq ≤ k) ∧ Aside0 (Kd.R (Kd.int .u32) 123 w' w.heap.size (fun k_ => (w.heap.size ≤ k_)) v6 x6_1) ∧ Aside0 (Below w.heap.size w w'))
 case atStart => exact ⟨(([] : List Int)), (0), (sh_), H', ⟨Nat.le_refl _⟩, ⟨by first | exact Kd.R_nil _ _ _ _ _ | exact Kd.N_nil _ _ _ _ _ | exact Kd.V_nil _ _ _ _ _ | exact Kd.Q_nil _ _ _ _ _ | exact Kd.S_nil _ _ _ _ _⟩, ⟨bh_⟩⟩
 case round =>
  clear H'
  try clear c1
  try clear p2
  try clear c4
  try clear c4b0
  try clear c6
  try clear c6b0
  try clear c6b1
  try clear p6
  try clear c7
  try clear c7b0
  try clear c7b1
  obtain ⟨x6_1, x21_1, rfl, HA, HK1, HO_6, HB⟩ := hrel
  cases gk with
  | zero => exact absurd HA.out (by simp [nat_Nat_Shr.l0])
  | succ k1 =>
   have H := HA.out
   clear HA
   simp only [nat_Nat_Shr.l0] at H
   by_cases c9 : x21_1 < ((l0.drop ((ji5) : Int).toNat).length : Int)
   case neg =>
    rw [if_neg c9] at H
    have c9b0 : decide (x21_1 < ((l0.drop ((ji5) : Int).toNat).length : Int)) = false := decide_eq_false c9
    have c9b1 : decide (x21_1 < ((l0.length - ji5.toNat : Nat) : Int)) = false := by rw [← List.length_drop]; exact c9b0
    clear c9
    replace H := Option.bind_eq_some_iff.mp H
    obtain ⟨t473, A170, H⟩ := H
    replace H : (some t473) = some r := H
    have A17 := Aside0.mk A170
    clear A170
    obtain rfl := Option.some.inj H
    obtain ⟨Ao18, co18, eo18⟩ := Kd.R_slice HO_6.out
    subst eo18
    go_wp2_with (first | ((with_reducible refine gc_ 85 rfl ?_); refine gM_ (some 42) Try.func85 [.slice Ao18 x6_1.length co18] ?_; (with_reducible refine (nat_trim.calls k1 (fun k_ => some k_ = (.slice Ao18 x6_1.length co18 : Value).ownBlock) _ _ x6_1 t473 _ ?side1 A17.out).mono ?_); (case side1 => exact Kd.R_V (Kd.R_tight rfl (HO_6.out))); rintro e w19 ⟨v474, rfl, ho0, hb⟩; refine ⟨_, rfl, ?_⟩; have HO475 := Aside0.mk (Kd.V_lower (Kd.V_mono (ok' := fun k_ => (w.heap.size ≤ k_)) ho0 (fun k_ hk_ => Or.elim hk_ (fun hs_ => ((HO_6.out).1 k_ hs_.symm)) (fun hn_ => (Nat.le_trans (below_size bh_) hn_)))) (below_size bh_)); replace HB := bq_ hb))
    go_ret
    exact ⟨_, by first | rfl | (simp [errW_none, errW_some] <;> rfl) | (simp only [← hji3, ← hji5]; first | rfl | (simp [errW_none, errW_some] <;> rfl)) | (simp [*, errW_none, errW_some] <;> rfl), by (with_reducible repeat (first | apply va_ | apply vn_ | apply vd_)); exact HO475.out, bh_⟩
   rw [if_pos c9] at H
   have c9b0 : decide (x21_1 < ((l0.drop ((ji5) : Int).toNat).length : Int)) = true := decide_eq_true c9
   have c9b1 : decide (x21_1 < ((l0.length - ji5.toNat : Nat) : Int)) = true := by rw [← List.length_drop]; exact c9b0
   clear c9
   replace H := Option.bind_eq_some_iff.mp H
   obtain ⟨t468, A100, H⟩ := H
   replace H : ((nat_Nat_at.f (l0.drop ((ji5) : Int).toNat) (wrap64 (x21_1 + 1))).bind fun t469 => (if 0 ≤ (Int.tmod ji3 32) then (if x6_1.length < 35184372088832 then (nat_Nat_Shr.l0 k1 ji3 (l0.drop ((ji5) : Int).toNat) (x6_1 ++ [(shr .u64 (Go.bits .or .u64 t468 (IntKind.u64.wrap (t469 * 4294967296))) (Int.tmod ji3 32)) % 4294967296]) ((l0.drop ((ji5) : Int).toNat).length : Int) (wrap64 (x21_1 + 1))) else (none)) else (none))) = some r := H
   have A10 := Aside0.mk A100
   clear A100
   replace H := Option.bind_eq_some_iff.mp H
   obtain ⟨t469, A110, H⟩ := H
   replace H : (if 0 ≤ (Int.tmod ji3 32) then (if x6_1.length < 35184372088832 then (nat_Nat_Shr.l0 k1 ji3 (l0.drop ((ji5) : Int).toNat) (x6_1 ++ [(shr .u64 (Go.bits .or .u64 t468 (IntKind.u64.wrap (t469 * 4294967296))) (Int.tmod ji3 32)) % 4294967296]) ((l0.drop ((ji5) : Int).toNat).length : Int) (wrap64 (x21_1 + 1))) else (none)) else (none)) = some r := H
   have A11 := Aside0.mk A110
   clear A110
   obtain ⟨ji12, hji12⟩ : ∃ j_ : Int, (Int.tmod ji3 32) = j_ := ⟨_, rfl⟩
   replace H : (if 0 ≤ (ji12) then (if x6_1.length < 35184372088832 then (nat_Nat_Shr.l0 k1 ji3 (l0.drop ((ji5) : Int).toNat) (x6_1 ++ [(shr .u64 (Go.bits .or .u64 t468 (IntKind.u64.wrap (t469 * 4294967296))) (ji12)) % 4294967296]) ((l0.drop ((ji5) : Int).toNat).length : Int) (wrap64 (x21_1 + 1))) else (none)) else (none)) = some r := by first | (rw [hji12] at H; exact H) | (simp only [hji12] at H ⊢; exact H)
   (try rw [hji12] at A10)
   (try rw [hji12] at A11)
   by_cases c13 : 0 ≤ (ji12)
   case neg =>
    rw [if_neg c13] at H
    exact absurd H (by simp)
   rw [if_pos c13] at H
   have c13b0 := eq_true c13
   have c13b1 : decide (0 ≤ (ji12)) = true := decide_eq_true c13
   clear c13
   obtain ⟨ji14, hji14⟩ : ∃ j_ : Int, (shr .u64 (Go.bits .or .u64 t468 (IntKind.u64.wrap (t469 * 4294967296))) (ji12)) = j_ := ⟨_, rfl⟩
   replace H : (if x6_1.length < 35184372088832 then (nat_Nat_Shr.l0 k1 ji3 (l0.drop ((ji5) : Int).toNat) (x6_1 ++ [(ji14) % 4294967296]) ((l0.drop ((ji5) : Int).toNat).length : Int) (wrap64 (x21_1 + 1))) else (none)) = some r := by first | (rw [hji14] at H; exact H) | (simp only [hji14] at H ⊢; exact H)
   (try rw [hji14] at A10)
   (try rw [hji14] at A11)
   have hji14_ : ((Go.bits .or .u64 t468 (IntKind.u64.wrap (t469 * 4294967296))) / 2 ^ min (ji12).toNat 64) = ji14 := hji14
   have hji14z : (ji12) ≤ 64 → ((Go.bits .or .u64 t468 (IntKind.u64.wrap (t469 * 4294967296))) / 2 ^ (ji12).toNat) = ji14 := shr_small hji14
   by_cases c15 : x6_1.length < 35184372088832
   case neg =>
    rw [if_neg c15] at H
    exact absurd H (by simp)
   rw [if_pos c15] at H
   have LMc15 := Aside0.mk c15
   clear c15
   obtain ⟨y470, hy470⟩ : ∃ y_ : List Int, y_ = (x6_1 ++ [(ji14) % 4294967296]) := ⟨_, rfl⟩
   replace H : (nat_Nat_Shr.l0 k1 ji3 (l0.drop ((ji5) : Int).toNat) y470 ((l0.drop ((ji5) : Int).toNat).length : Int) (wrap64 (x21_1 + 1))) = some r := by first | (rw [hy470]; with_reducible exact H) | (have H2_ := (Option.bind_some _ _).symm.trans H; rw [hy470]; with_reducible exact H2_) | (have H2_ := (Option.bind_some _ _).symm.trans H; with_reducible exact H2_) | with_reducible exact H | (rw [hy470]; exact H) | exact H
   have Ny470 := Aside0.mk hy470
   clear hy470
   have H' := Aside0.mk H
   clear H
   go_wp2_with (first | ((with_reducible refine gc_ 102 rfl ?_); refine goesL_ (some 27) rfl rfl Try.func102 (by kernel_rfl) rfl #[.slice A8 (l0.drop ((ji5) : Int).toNat).length (c0 - (ji5).toNat), .int .i64 x21_1] rfl (by (try simp only [List.map_toArray, List.map_cons, List.map_nil]); first | done | (rw [show (l0.drop ((ji5) : Int).toNat).length = (l0.length - (ji5).toNat) from List.length_drop] <;> rfl) | (simp only [hji5]; rfl) | rfl | (simp only [List.length_drop, List.length_take]; rfl)) ?_; (with_reducible refine (nat_Nat_at.calls _ _ (l0.drop ((ji5) : Int).toNat) x21_1 t468 _ ?side1 ?side2 A10.out).mono ?_); (case side1 => exact ch_ HR467.out); (case side2 => exact HC467.out); rintro e w' ⟨rfl, ⟨nd, rfl⟩⟩; refine ⟨_, rfl, ?_⟩) | ((with_reducible refine gc_ 102 rfl ?_); refine goesL_ (some 31) rfl rfl Try.func102 (by kernel_rfl) rfl #[.slice A8 (l0.drop ((ji5) : Int).toNat).length (c0 - (ji5).toNat), .int .i64 (wrap64 (x21_1 + 1))] rfl (by (try simp only [List.map_toArray, List.map_cons, List.map_nil]); first | done | (rw [show (l0.drop ((ji5) : Int).toNat).length = (l0.length - (ji5).toNat) from List.length_drop] <;> rfl) | (simp only [hji5]; rfl) | rfl | (simp only [List.length_drop, List.length_take]; rfl)) ?_; (with_reducible refine (nat_Nat_at.calls _ _ (l0.drop ((ji5) : Int).toNat) (wrap64 (x21_1 + 1)) t469 _ ?side1 ?side2 A11.out).mono ?_); (case side1 => repeat (first | exact (Kd.C_below HR467.out bh_) | (with_reducible refine Kd.C_alloc ?_ _) | (with_reducible refine Kd.C_drewN ?_ _) | (with_reducible refine Kd.C_drew ?_))); (case side2 => exact HC467.out); rintro e w' ⟨rfl, ⟨nd, rfl⟩⟩; refine ⟨_, rfl, ?_⟩) | ((with_reducible refine gate_builtin (b := .append) (xs := #[.tmp 24, .tmp 38]) rfl ?_); at_builtin; refine Kd.R_append (Kd.int .u32) (w0 := w) w.heap.size rfl (.tmp 24) (.tmp 38) 48 123 (.int .u32 0) 4 rfl Try.underlying48 info123 rfl (by decide) (by omega) u6 x6_1 ((ji14) % 4294967296) [.int .u32 ((ji14) % 4294967296)] (fun k_ => (w.heap.size ≤ k_)) (fun _ => False) rfl rfl ?aP (fun _ hk => hk.elim) ?aF ?aO ?aB ?aS ?aL ?_; (case aP => exact rfl); (case aB => exact bh_); (case aF => exact (fun k_ hk => (Nat.le_trans (below_size bh_) hk))); (case aO => exact (by (with_reducible repeat (first | apply ra_ | apply rn_ | apply rd_)); exact HO_6.out)); (case aS => exact (below_size bh_)); (case aL => have := LMc15.out; omega); intro v471 w16 ho hb hg hat; rw [← Ny470.out] at ho; replace HB := Aside0.mk (hb); have HO472 := Aside0.mk (ho); clear ho hb hg hat))
   go_roundg k1
   case measure => have := HK1.out; omega
   case rel => exact ⟨(y470), (wrap64 (x21_1 + 1)), (sh_), H', ⟨by have := HK1.out; omega⟩, ⟨by (with_reducible repeat (first | apply ra_ | apply rn_ | apply rd_)); exact HO472.out⟩, ⟨bh_⟩⟩
-- NOT PRINTED: function 69 (nat_Nat_Div)

end Go.Proofs.Ytfglpaaeipblcaa.P
