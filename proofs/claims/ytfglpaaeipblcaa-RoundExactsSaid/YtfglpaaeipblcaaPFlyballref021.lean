/- Walks of one package: what each function returns, wherever the Lean function beside it has an answer. -/
import Derived.Test.YtfglpaaeipblcaaP0
import Derived.Test.YtfglpaaeipblcaaPFlyballref011
namespace Go.Proofs.Ytfglpaaeipblcaa.P
open Go.RowKit Go.Proofs.YtfglpaaeipblcaaW.PrintWords Go.Proofs.YtfglpaaeipblcaaW.PrintLast Go.Proofs.YtfglpaaeipblcaaW.PrintMore
attribute [local go_sem] max2_int min2_int max_two min_two max_three min_three max_four min_four   -- for this text's walks alone
set_option linter.unusedVariables false
set_option linter.unusedSimpArgs false

/-! ### flyballref02_Gcd: function 93 -/
def flyballref02_Gcd.l0 : Nat → List Bool → List Bool → Option (List Bool)
 | 0, _, _ => none
 | k + 1, x0, x1 => (flyballref01_Len.f k x1).bind fun t587 => (if t587 > 0 then ((flyballref01_Div.f k x0 x1).bind fun bt588 => (flyballref02_Gcd.l0 k x1 bt588.2)) else (some x0))
def flyballref02_Gcd.f (k : Nat) (l0 : List Bool) (l1 : List Bool) : Option (List Bool) := flyballref02_Gcd.l0 k l0 l1
theorem flyballref02_Gcd.mono_l : ∀ k, (∀ y0 y1, LeO (flyballref02_Gcd.l0 k y0 y1) (flyballref02_Gcd.l0 (k + 1) y0 y1))
 | 0 => fun _ _ r h => by simp [flyballref02_Gcd.l0] at h
 | k + 1 => by
  have ih0 := flyballref02_Gcd.mono_l k
  ·
   intro y0 y1
   unfold flyballref02_Gcd.l0
   repeat' with_reducible first | exact ih0 _ _ | exact flyballref01_Div.mono _ _ _ | exact flyballref01_Len.mono _ _ | exact LeO.refl _ | exact LeO.none _ | refine LeO.ite ?_ ?_ | refine LeO.bind ?_ (fun _ => ?_)
theorem flyballref02_Gcd.mono : ∀ a0 a1 k, LeO (flyballref02_Gcd.f k a0 a1) (flyballref02_Gcd.f (k + 1) a0 a1) := by
 intro a0 a1 k
 have ih0 := flyballref02_Gcd.mono_l k
 unfold flyballref02_Gcd.f
 repeat' with_reducible first | exact ih0 _ _ | exact flyballref01_Div.mono _ _ _ | exact flyballref01_Len.mono _ _ | exact LeO.refl _ | exact LeO.none _ | refine LeO.ite ?_ ?_ | refine LeO.bind ?_ (fun _ => ?_)
set_option maxHeartbeats 8000000 in
set_option maxRecDepth 100000 in
theorem flyballref02_Gcd.calls (k : Nat) (P0_ : Nat → Prop) (A0 : Option Addr) (c0 : Nat) (l0 : List Bool) (P1_ : Nat → Prop) (A1 : Option Addr) (c1 : Nat) (l1 : List Bool) (r : List Bool) (w : World) (hs0 : Kd.V Kd.bool 4 w w.heap.size (fun k_ => P0_ k_) (.slice A0 l0.length c0) l0) (hs1 : Kd.V Kd.bool 4 w w.heap.size (fun k_ => P1_ k_) (.slice A1 l1.length c1) l1) (h : flyballref02_Gcd.f k l0 l1 = some r) :
  Calls Try.prog 93 #[.slice A0 l0.length c0, .slice A1 l1.length c1] w fun e w' => ∃ v0_ : Value, e = .returned (v0_) ∧ Kd.V Kd.bool 4 w' w.heap.size (fun k_ => ((P0_ k_ ∨ P1_ k_) ∨ w.heap.size ≤ k_)) v0_ r ∧ Below w.heap.size w w' := by
 have HO0 := Aside0.mk (show Kd.V Kd.bool 4 w w.heap.size (fun k_ => ((P0_ k_ ∨ P1_ k_) ∨ w.heap.size ≤ k_)) (.slice A0 l0.length c0) l0 from Kd.V_mono hs0 (fun k_ hk => .inl (.inl hk)))
 have HO1 := Aside0.mk (show Kd.V Kd.bool 4 w w.heap.size (fun k_ => ((P0_ k_ ∨ P1_ k_) ∨ w.heap.size ≤ k_)) (.slice A1 l1.length c1) l1 from Kd.V_mono hs1 (fun k_ hk => .inl (.inr hk)))
 have HB := Aside0.mk (Below.refl w.heap.size w)
 have H : (flyballref02_Gcd.l0 k l0 l1) = some r := h
 clear h
 have H' := Aside0.mk H
 clear H
 go_enter Try.func93, Try.ntmps93
 go_wp2
 (try simp only [Act.put, List.setIfInBounds_toArray, List.set_cons_zero, List.set_cons_succ])
 go_loopg [0, 1] k (fun kq v0 v1 w' => ∃ (x0_1 : List Bool) (x1_1 : List Bool), Aside0 (flyballref02_Gcd.l0 kq x0_1 x1_1 = some r) ∧ Aside0 (kq ≤ k) ∧ Aside0 (Kd.V Kd.bool 4 w' w.heap.size (fun k_ => ((P0_ k_ ∨ P1_ k_) ∨ w.heap.size ≤ k_)) v0 x0_1) ∧ Aside0 (Kd.V Kd.bool 4 w' w.heap.size (fun k_ => ((P0_ k_ ∨ P1_ k_) ∨ w.heap.size ≤ k_)) v1 x1_1) ∧ Aside0 (Below w.heap.size w w'))
 case atStart => exact ⟨(l0), (l1), H', ⟨Nat.le_refl _⟩, ⟨by (with_reducible repeat (first | apply va_ | apply vn_ | apply vd_)); exact HO0.out⟩, ⟨by (with_reducible repeat (first | apply va_ | apply vn_ | apply vd_)); exact HO1.out⟩, ⟨bh_⟩⟩
 case round =>
  clear H'
  try clear c1
  try clear p2
  obtain ⟨x0_1, x1_1, HA, HK1, HO_0, HO_1, HB⟩ := hrel
  cases gk with
  | zero => exact absurd HA.out (by simp [flyballref02_Gcd.l0])
  | succ k1 =>
   have H := HA.out
   clear HA
   simp only [flyballref02_Gcd.l0] at H
   replace H := Option.bind_eq_some_iff.mp H
   obtain ⟨t587, A30, H⟩ := H
   replace H : (if t587 > 0 then ((flyballref01_Div.f k1 x0_1 x1_1).bind fun bt588 => (flyballref02_Gcd.l0 k1 x1_1 bt588.2)) else (some x0_1)) = some r := H
   have A3 := Aside0.mk A30
   clear A30
   by_cases c4 : t587 > 0
   case neg =>
    rw [if_neg c4] at H
    have c4b0 : decide (0 < t587) = false := decide_eq_false c4
    clear c4
    obtain rfl := Option.some.inj H
    obtain ⟨Ao9, co9, eo9⟩ := Kd.V_slice HO_1.out
    subst eo9
    go_wp2_with (first | ((with_reducible refine gc_ 60 rfl ?_); refine gM_ (some 8) Try.func60 [.slice Ao9 x1_1.length co9] ?_; (with_reducible refine (flyballref01_Len.calls k1 _ _ x1_1 t587 _ ?side1 ?side2 A3.out).mono ?_); (case side1 => repeat first | exact (Kd.V_reads' HO_1.out).2.2 | with_reducible first | apply ca_ | apply cn_ | apply cd_); (case side2 => exact (Kd.V_reads' HO_1.out).2.1); rintro e w' ⟨rfl, ⟨nd, rfl⟩⟩; refine ⟨_, rfl, ?_⟩))
    go_ret
    exact ⟨_, eh_, by (with_reducible repeat (first | apply va_ | apply vn_ | apply vd_)); exact HO_0.out, bh_⟩
   rw [if_pos c4] at H
   have c4b0 : decide (0 < t587) = true := decide_eq_true c4
   clear c4
   replace H := Option.bind_eq_some_iff.mp H
   obtain ⟨⟨t588, t589⟩, A50, H⟩ := H
   replace H : (flyballref02_Gcd.l0 k1 x1_1 t589) = some r := H
   have A5 := Aside0.mk A50
   clear A50
   have H' := Aside0.mk H
   clear H
   obtain ⟨Ao6, co6, eo6⟩ := Kd.V_slice HO_1.out
   subst eo6
   go_wp2_with (first | ((with_reducible refine gc_ 60 rfl ?_); refine gM_ (some 8) Try.func60 [.slice Ao6 x1_1.length co6] ?_; (with_reducible refine (flyballref01_Len.calls k1 _ _ x1_1 t587 _ ?side1 ?side2 A3.out).mono ?_); (case side1 => repeat first | exact (Kd.V_reads' HO_1.out).2.2 | with_reducible first | apply ca_ | apply cn_ | apply cd_); (case side2 => exact (Kd.V_reads' HO_1.out).2.1); rintro e w' ⟨rfl, ⟨nd, rfl⟩⟩; refine ⟨_, rfl, ?_⟩; obtain ⟨Ao7, co7, eo7⟩ := Kd.V_slice HO_0.out; subst eo7) | ((with_reducible refine gc_ 94 rfl ?_); refine gM_ (some 13) Try.func94 [.slice Ao7 x0_1.length co7, .slice Ao6 x1_1.length co6] ?_; (with_reducible refine (flyballref01_Div.calls k1 _ _ x0_1 _ _ x1_1 t588 t589 _ ?side1 ?side2 ?side3 ?side4 A5.out).mono ?_); (case side1 => repeat first | exact (Kd.V_reads' HO_0.out).2.2 | with_reducible first | apply ca_ | apply cn_ | apply cd_); (case side2 => exact (Kd.V_reads' HO_0.out).2.1); (case side3 => repeat first | exact (Kd.V_reads' HO_1.out).2.2 | with_reducible first | apply ca_ | apply cn_ | apply cd_); (case side4 => exact (Kd.V_reads' HO_1.out).2.1); rintro e w8 ⟨v590, v592, rfl, ho0, ho1, hb⟩; refine ⟨_, rfl, ?_⟩; replace HO_0 := Aside0.mk (Kd.V_mono (Kd.V_told (Kd.V_told (Kd.V_old (by (with_reducible repeat (first | apply va_ | apply vn_ | apply vd_)); exact HO_0.out) hb) (Kd.R_base ho0)) (Kd.R_base ho1)) (fun _ h_ => h_.1)); replace HO_1 := Aside0.mk (Kd.V_mono (Kd.V_told (Kd.V_told (Kd.V_old (by (with_reducible repeat (first | apply va_ | apply vn_ | apply vd_)); exact HO_1.out) hb) (Kd.R_base ho0)) (Kd.R_base ho1)) (fun _ h_ => h_.1)); have HO593 := Aside0.mk (Kd.R_lower (Kd.R_newM (M := fun k_ => (w.heap.size ≤ k_)) ho1 (below_size bh_) (fun k_ h_ => h_)) (below_size bh_)); replace HB := bq_ hb))
   go_roundg k1
   case measure => have := HK1.out; omega
   case rel => exact ⟨(x1_1), (t589), H', ⟨by have := HK1.out; omega⟩, ⟨by (with_reducible repeat (first | apply va_ | apply vn_ | apply vd_)); exact Kd.V_mono HO_1.out (fun _ hk => hk.1.1)⟩, ⟨Kd.V_mono (Kd.R_V (by (with_reducible repeat (first | apply ra_ | apply rn_ | apply rd_)); exact Kd.R_mono HO593.out (fun _ hk => hk.1))) (fun k_ hk => by first | exact ⟨(.inr (hk.1)), hk.2⟩ | exact (.inr (hk)))⟩, ⟨bh_⟩⟩

/-! ### flyballref02_Bits: function 65 -/
mutual
def flyballref02_Bits.l0 : Nat → List Int → List Bool → Int → Option (List Bool)
 | 0, _, _, _ => none
 | k + 1, x0, x3, x4 => if x4 < (x0.length : Int) then (flyballref02_Bits.l1 k x0 x3 x4 0) else ((flyballref01_Len.f k x3).bind fun t625 => (if 0 ≤ t625 then (if t625 ≤ (x3.length : Int) then (some (x3.take (t625 : Int).toNat)) else (none)) else (none)))
def flyballref02_Bits.l1 : Nat → List Int → List Bool → Int → Int → Option (List Bool)
 | 0, _, _, _, _ => none
 | k + 1, x0, x3, x4, x5 => if x5 < 32 then (if 0 ≤ x4 then (if x4 < (x0.length : Int) then (if 0 ≤ (IntKind.u64.wrap (x5)) then (if x3.length < 140737488355328 then (flyballref02_Bits.l1 k x0 (x3 ++ [((Go.bits .and .u32 (shr .u32 (rd x0 x4) (IntKind.u64.wrap (x5))) 1) == 1)]) x4 (wrap64 (x5 + 1))) else (none)) else (none)) else (none)) else (none)) else (flyballref02_Bits.l0 k x0 x3 (wrap64 (x4 + 1)))
end
def flyballref02_Bits.f (k : Nat) (l0 : List Int) : Option (List Bool) := flyballref02_Bits.l0 k l0 ([] : List Bool) 0
theorem flyballref02_Bits.mono_l : ∀ k, (∀ y0 y1 y2, LeO (flyballref02_Bits.l0 k y0 y1 y2) (flyballref02_Bits.l0 (k + 1) y0 y1 y2)) ∧ (∀ y0 y1 y2 y3, LeO (flyballref02_Bits.l1 k y0 y1 y2 y3) (flyballref02_Bits.l1 (k + 1) y0 y1 y2 y3))
 | 0 => ⟨fun _ _ _ r h => by simp [flyballref02_Bits.l0] at h, fun _ _ _ _ r h => by simp [flyballref02_Bits.l1] at h⟩
 | k + 1 => by
  obtain ⟨ih0, ih1⟩ := flyballref02_Bits.mono_l k
  refine ⟨?_, ?_⟩
  ·
   intro y0 y1 y2
   unfold flyballref02_Bits.l0
   repeat' with_reducible first | exact ih0 _ _ _ | exact ih1 _ _ _ _ | exact flyballref01_Len.mono _ _ | exact LeO.refl _ | exact LeO.none _ | refine LeO.ite ?_ ?_ | refine LeO.bind ?_ (fun _ => ?_)
  ·
   intro y0 y1 y2 y3
   unfold flyballref02_Bits.l1
   repeat' with_reducible first | exact ih0 _ _ _ | exact ih1 _ _ _ _ | exact flyballref01_Len.mono _ _ | exact LeO.refl _ | exact LeO.none _ | refine LeO.ite ?_ ?_ | refine LeO.bind ?_ (fun _ => ?_)
theorem flyballref02_Bits.mono : ∀ a0 k, LeO (flyballref02_Bits.f k a0) (flyballref02_Bits.f (k + 1) a0) := by
 intro a0 k
 obtain ⟨ih0, ih1⟩ := flyballref02_Bits.mono_l k
 unfold flyballref02_Bits.f
 repeat' with_reducible first | exact ih0 _ _ _ | exact ih1 _ _ _ _ | exact flyballref01_Len.mono _ _ | exact LeO.refl _ | exact LeO.none _ | refine LeO.ite ?_ ?_ | refine LeO.bind ?_ (fun _ => ?_)
set_option maxHeartbeats 8000000 in
set_option maxRecDepth 100000 in
theorem flyballref02_Bits.calls (k : Nat) (A0 : Option Addr) (c0 : Nat) (l0 : List Int) (r : List Bool) (w : World) (hr0 : Kd.C (Kd.int .u32) w A0 l0.length l0) (hc0 : l0.length ≤ c0) (h : flyballref02_Bits.f k l0 = some r) :
  Calls Try.prog 65 #[.slice A0 l0.length c0] w fun e w' => ∃ v0_ : Value, e = .returned (v0_) ∧ Kd.R Kd.bool 4 w' w.heap.size (fun _ => True) v0_ r ∧ Below w.heap.size w w' := by
 have HR0 := Aside0.mk hr0
 have HC0 := Aside0.mk hc0
 clear hr0 hc0
 have HB := Aside0.mk (Below.refl w.heap.size w)
 have H : (flyballref02_Bits.l0 k l0 ([] : List Bool) 0) = some r := h
 clear h
 have H' := Aside0.mk H
 clear H
 go_enter Try.func65, Try.ntmps65
 go_wp2
 (try simp only [Act.put, List.setIfInBounds_toArray, List.set_cons_zero, List.set_cons_succ])
 go_loopg [3, 4] k (fun kq v3 v4 w' => ∃ (x3_1 : List Bool) (x4_1 : Int), v4 = .int .i64 x4_1 ∧ Aside0 (flyballref02_Bits.l0 kq l0 x3_1 x4_1 = some r) ∧ Aside0 (kq ≤ k) ∧ Aside0 (Kd.R Kd.bool 4 w' w.heap.size (fun _ => True) v3 x3_1) ∧ Aside0 (Below w.heap.size w w'))
 case atStart => exact ⟨(([] : List Bool)), (0), (sh_), H', ⟨Nat.le_refl _⟩, ⟨by first | exact Kd.R_nil _ _ _ _ _ | exact Kd.N_nil _ _ _ _ _ | exact Kd.V_nil _ _ _ _ _ | exact Kd.Q_nil _ _ _ _ _ | exact Kd.S_nil _ _ _ _ _⟩, ⟨bh_⟩⟩
 case round =>
  clear H'
  obtain ⟨x3_1, x4_1, rfl, HA, HK1, HO_3, HB⟩ := hrel
  cases gk with
  | zero => exact absurd HA.out (by simp [flyballref02_Bits.l0])
  | succ k1 =>
   have H := HA.out
   clear HA
   simp only [flyballref02_Bits.l0] at H
   by_cases c2 : x4_1 < (l0.length : Int)
   case neg =>
    rw [if_neg c2] at H
    have c2b0 : decide (x4_1 < (l0.length : Int)) = false := decide_eq_false c2
    clear c2
    replace H := Option.bind_eq_some_iff.mp H
    obtain ⟨t625, A110, H⟩ := H
    replace H : (if 0 ≤ t625 then (if t625 ≤ (x3_1.length : Int) then (some (x3_1.take (t625 : Int).toNat)) else (none)) else (none)) = some r := H
    have A11 := Aside0.mk A110
    clear A110
    by_cases c12 : 0 ≤ t625
    case neg =>
     rw [if_neg c12] at H
     exact absurd H (by simp)
    rw [if_pos c12] at H
    have c12b0 := eq_true c12
    have c12b1 : decide (0 ≤ t625) = true := decide_eq_true c12
    clear c12
    by_cases c13 : t625 ≤ (x3_1.length : Int)
    case neg =>
     rw [if_neg c13] at H
     exact absurd H (by simp)
    rw [if_pos c13] at H
    have c13b0 := eq_true c13
    have c13b1 : decide (t625 ≤ (x3_1.length : Int)) = true := decide_eq_true c13
    clear c13
    obtain ⟨y626, hy626⟩ : ∃ y_ : List Bool, y_ = (x3_1.take (t625 : Int).toNat) := ⟨_, rfl⟩
    replace H : (some y626) = some r := by first | (rw [hy626]; with_reducible exact H) | (have H2_ := (Option.bind_some _ _).symm.trans H; rw [hy626]; with_reducible exact H2_) | (have H2_ := (Option.bind_some _ _).symm.trans H; with_reducible exact H2_) | with_reducible exact H | (rw [hy626]; exact H) | exact H
    have Ny626 := Aside0.mk hy626
    clear hy626
    obtain rfl := Option.some.inj H
    obtain ⟨Ao14, co14, eo14⟩ := Kd.R_slice HO_3.out
    subst eo14
    go_wp2_with (first | ((with_reducible refine gc_ 60 rfl ?_); refine gM_ (some 30) Try.func60 [.slice Ao14 x3_1.length co14] ?_; (with_reducible refine (flyballref01_Len.calls k1 _ _ x3_1 t625 _ ?side1 ?side2 A11.out).mono ?_); (case side1 => repeat first | exact (Kd.R_reads' HO_3.out).2.2 | with_reducible first | apply ca_ | apply cn_ | apply cd_); (case side2 => exact (Kd.R_reads' HO_3.out).2.1); rintro e w' ⟨rfl, ⟨nd, rfl⟩⟩; refine ⟨_, rfl, ?_⟩; have q15 : (t625 : Int) ≤ ((x3_1.length : Int) : Int) := of_decide_eq_true (by first | (with_reducible assumption) | assumption); obtain ⟨i015, hi015, _, hsz15, _⟩ := info_parts info4; have hcut15 := cut_to (P := Try.prog) 43 4 .i64 Try.underlying43 hi015 Ao14 x3_1.length co14 t625 (of_decide_eq_true (by first | (with_reducible assumption) | assumption)) q15 (Kd.R_reads' HO_3.out).2.1; have hr15 := Kd.R_take (m := (t625 : Int).toNat) HO_3.out (by omega); have hy15 : y626.length = (t625 : Int).toNat := (by rw [Ny626.out, List.length_take]; omega); rw [← Ny626.out] at hr15; rw [← hy15] at hr15 hcut15; clear hy15 hi015 hsz15 HO_3; have HO628 := Aside0.mk hr15; clear hr15; replace q15 := eq_true q15))
    go_ret
    exact ⟨_, eh_, by (with_reducible repeat (first | apply ra_ | apply rn_ | apply rd_)); exact HO628.out, bh_⟩
   rw [if_pos c2] at H
   have c2b0 : decide (x4_1 < (l0.length : Int)) = true := decide_eq_true c2
   clear c2
   have H' := Aside0.mk H
   clear H
   go_wp2
   (try simp only [Act.put, List.setIfInBounds_toArray, List.set_cons_zero, List.set_cons_succ])
   go_loopg [3, 5] k1 (fun kq v3 v5 w' => ∃ (x3_2 : List Bool) (x5_2 : Int), v5 = .int .i64 x5_2 ∧ Aside0 (flyballref02_Bits.l1 kq l0 x3_2 x4_1 x5_2 = some r) ∧ Aside0 (kq ≤ k1) ∧ Aside0 (Kd.R Kd.bool 4 w' w.heap.size (fun _ => True) v3 x3_2) ∧ Aside0 (Below w.heap.size w w'))
   case atStart => exact ⟨(x3_1), (0), (sh_), H', ⟨Nat.le_refl _⟩, ⟨by (with_reducible repeat (first | apply ra_ | apply rn_ | apply rd_)); exact HO_3.out⟩, ⟨bh_⟩⟩
   case round =>
    clear H'
    try clear c2
    try clear c2b0
    try clear p2
    obtain ⟨x3_2, x5_2, rfl, HA, HK2, HO_3, HB⟩ := hrel
    cases gk with
    | zero => exact absurd HA.out (by simp [flyballref02_Bits.l1])
    | succ k2 =>
     have H := HA.out
     clear HA
     simp only [flyballref02_Bits.l1] at H
     by_cases c3 : x5_2 < 32
     case neg =>
      rw [if_neg c3] at H
      have c3b0 : decide (x5_2 < 32) = false := decide_eq_false c3
      clear c3
      have H' := Aside0.mk H
      clear H
      go_wp2
      go_roundg k2
      case measure => have := HK1.out; have := HK2.out; omega
      case rel => exact ⟨(x3_2), (wrap64 (x4_1 + 1)), (sh_), H', ⟨by have := HK1.out; have := HK2.out; omega⟩, ⟨by (with_reducible repeat (first | apply ra_ | apply rn_ | apply rd_)); exact HO_3.out⟩, ⟨bh_⟩⟩
     rw [if_pos c3] at H
     have c3b0 : decide (x5_2 < 32) = true := decide_eq_true c3
     clear c3
     by_cases c4 : 0 ≤ x4_1
     case neg =>
      rw [if_neg c4] at H
      exact absurd H (by simp)
     rw [if_pos c4] at H
     have c4b0 : decide (0 ≤ x4_1) = true := decide_eq_true c4
     clear c4
     by_cases c5 : x4_1 < (l0.length : Int)
     case neg =>
      rw [if_neg c5] at H
      exact absurd H (by simp)
     rw [if_pos c5] at H
     have c5b0 : decide (x4_1 < (l0.length : Int)) = true := decide_eq_true c5
     clear c5
     obtain ⟨ji6, hji6⟩ : ∃ j_ : Int, (IntKind.u64.wrap (x5_2)) = j_ := ⟨_, rfl⟩
     replace H : (if 0 ≤ (ji6) then (if x3_2.length < 140737488355328 then (flyballref02_Bits.l1 k2 l0 (x3_2 ++ [((Go.bits .and .u32 (shr .u32 (rd l0 x4_1) (ji6)) 1) == 1)]) x4_1 (wrap64 (x5_2 + 1))) else (none)) else (none)) = some r := by first | (rw [hji6] at H; exact H) | (simp only [hji6] at H ⊢; exact H)
     by_cases c7 : 0 ≤ (ji6)
     case neg =>
      rw [if_neg c7] at H
      exact absurd H (by simp)
     rw [if_pos c7] at H
     have c7b0 := eq_true c7
     have c7b1 : decide (0 ≤ (ji6)) = true := decide_eq_true c7
     clear c7
     obtain ⟨ji8, hji8⟩ : ∃ j_ : Int, (shr .u32 (rd l0 x4_1) (ji6)) = j_ := ⟨_, rfl⟩
     replace H : (if x3_2.length < 140737488355328 then (flyballref02_Bits.l1 k2 l0 (x3_2 ++ [((Go.bits .and .u32 (ji8) 1) == 1)]) x4_1 (wrap64 (x5_2 + 1))) else (none)) = some r := by first | (rw [hji8] at H; exact H) | (simp only [hji8] at H ⊢; exact H)
     have hji8_ : ((rd l0 x4_1) / 2 ^ min (ji6).toNat 32) = ji8 := hji8
     have hji8z : (ji6) ≤ 32 → ((rd l0 x4_1) / 2 ^ (ji6).toNat) = ji8 := shr_small hji8
     by_cases c9 : x3_2.length < 140737488355328
     case neg =>
      rw [if_neg c9] at H
      exact absurd H (by simp)
     rw [if_pos c9] at H
     have LMc9 := Aside0.mk c9
     clear c9
     obtain ⟨y630, hy630⟩ : ∃ y_ : List Bool, y_ = (x3_2 ++ [((Go.bits .and .u32 (ji8) 1) == 1)]) := ⟨_, rfl⟩
     replace H : (flyballref02_Bits.l1 k2 l0 y630 x4_1 (wrap64 (x5_2 + 1))) = some r := by first | (rw [hy630]; with_reducible exact H) | (have H2_ := (Option.bind_some _ _).symm.trans H; rw [hy630]; with_reducible exact H2_) | (have H2_ := (Option.bind_some _ _).symm.trans H; with_reducible exact H2_) | with_reducible exact H | (rw [hy630]; exact H) | exact H
     have Ny630 := Aside0.mk hy630
     clear hy630
     have H' := Aside0.mk H
     clear H
     have p629 : 0 ≤ (x4_1 : Int) := of_decide_eq_true (by first | (with_reducible assumption) | assumption)
     have q629 : x4_1 < (l0.length : Int) := of_decide_eq_true (by first | (with_reducible assumption) | assumption)
     obtain ⟨ad629, e629, hx629_0⟩ := Kd.at_int HR0.out x4_1 p629 q629
     cases e629
     replace hx629_0 := (HB.out.cell (World.block_lt_of_cell? w _ hx629_0)).trans hx629_0
     replace p629 := eq_true p629
     replace q629 := eq_true q629
     go_wp2_with (first | ((with_reducible refine gate_builtin (b := .append) (xs := #[.tmp 16, .tmp 26]) rfl ?_); at_builtin; refine Kd.R_append Kd.bool (w0 := w) w.heap.size rfl (.tmp 16) (.tmp 26) 43 4 (.bool false) 1 rfl Try.underlying43 info4 rfl (by decide) (by omega) u3 x3_2 ((Go.bits .and .u32 (ji8) 1) == 1) [.bool ((Go.bits .and .u32 (ji8) 1) == 1)] (fun _ => True) (fun _ => False) rfl rfl ?aP (fun _ hk => hk.elim) ?aF ?aO ?aB ?aS ?aL ?_; (case aP => exact rfl); (case aB => exact bh_); (case aF => exact (fun _ _ => trivial)); (case aO => exact (by (with_reducible repeat (first | apply ra_ | apply rn_ | apply rd_)); exact HO_3.out)); (case aS => exact (below_size bh_)); (case aL => have := LMc9.out; omega); intro v631 w10 ho hb hg hat; rw [← Ny630.out] at ho; replace HB := Aside0.mk (hb); have HO632 := Aside0.mk (ho); clear ho hb hg hat))
     go_roundg k2
     case measure => have := HK1.out; have := HK2.out; omega
     case rel => exact ⟨(y630), (wrap64 (x5_2 + 1)), (sh_), H', ⟨by have := HK1.out; have := HK2.out; omega⟩, ⟨by (with_reducible repeat (first | apply ra_ | apply rn_ | apply rd_)); exact HO632.out⟩, ⟨bh_⟩⟩

end Go.Proofs.Ytfglpaaeipblcaa.P
