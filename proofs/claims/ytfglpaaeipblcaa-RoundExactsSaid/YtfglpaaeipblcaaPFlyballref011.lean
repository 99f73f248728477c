/- Walks of one package: what each function returns, wherever the Lean function beside it has an answer. -/
import Derived.Test.YtfglpaaeipblcaaP0
namespace Go.Proofs.Ytfglpaaeipblcaa.P
open Go.RowKit Go.Proofs.YtfglpaaeipblcaaW.PrintWords Go.Proofs.YtfglpaaeipblcaaW.PrintLast Go.Proofs.YtfglpaaeipblcaaW.PrintMore
attribute [local go_sem] max2_int min2_int max_two min_two max_three min_three max_four min_four   -- for this text's walks alone
set_option linter.unusedVariables false
set_option linter.unusedSimpArgs false

/-! ### flyballref01_Of: function 25 -/
mutual
def flyballref01_Of.l0 : Nat → List Int → List Bool → Int → Option (List Bool)
 | 0, _, _, _ => none
 | k + 1, x0, x3, x4 => if x4 < (x0.length : Int) then (flyballref01_Of.l1 k x0 x3 x4 0) else (some x3)
def flyballref01_Of.l1 : Nat → List Int → List Bool → Int → Int → Option (List Bool)
 | 0, _, _, _, _ => none
 | k + 1, x0, x3, x4, x5 => if x5 < 64 then (if 0 ≤ x4 then (if x4 < (x0.length : Int) then (if 0 ≤ (IntKind.u64.wrap (x5)) then (if x3.length < 140737488355328 then (flyballref01_Of.l1 k x0 (x3 ++ [((Go.bits .and .u64 (shr .u64 (rd x0 x4) (IntKind.u64.wrap (x5))) 1) == 1)]) x4 (wrap64 (x5 + 1))) else (none)) else (none)) else (none)) else (none)) else (flyballref01_Of.l0 k x0 x3 (wrap64 (x4 + 1)))
end
def flyballref01_Of.f (k : Nat) (l0 : List Int) : Option (List Bool) := flyballref01_Of.l0 k l0 ([] : List Bool) 0
theorem flyballref01_Of.mono_l : ∀ k, (∀ y0 y1 y2, LeO (flyballref01_Of.l0 k y0 y1 y2) (flyballref01_Of.l0 (k + 1) y0 y1 y2)) ∧ (∀ y0 y1 y2 y3, LeO (flyballref01_Of.l1 k y0 y1 y2 y3) (flyballref01_Of.l1 (k + 1) y0 y1 y2 y3))
 | 0 => ⟨fun _ _ _ r h => by simp [flyballref01_Of.l0] at h, fun _ _ _ _ r h => by simp [flyballref01_Of.l1] at h⟩
 | k + 1 => by
  obtain ⟨ih0, ih1⟩ := flyballref01_Of.mono_l k
  refine ⟨?_, ?_⟩
  ·
   intro y0 y1 y2
   unfold flyballref01_Of.l0
   repeat' with_reducible first | exact ih0 _ _ _ | exact ih1 _ _ _ _ | exact LeO.refl _ | exact LeO.none _ | refine LeO.ite ?_ ?_ | refine LeO.bind ?_ (fun _ => ?_)
  ·
   intro y0 y1 y2 y3
   unfold flyballref01_Of.l1
   repeat' with_reducible first | exact ih0 _ _ _ | exact ih1 _ _ _ _ | exact LeO.refl _ | exact LeO.none _ | refine LeO.ite ?_ ?_ | refine LeO.bind ?_ (fun _ => ?_)
theorem flyballref01_Of.mono : ∀ a0 k, LeO (flyballref01_Of.f k a0) (flyballref01_Of.f (k + 1) a0) := by
 intro a0 k
 obtain ⟨ih0, ih1⟩ := flyballref01_Of.mono_l k
 unfold flyballref01_Of.f
 repeat' with_reducible first | exact ih0 _ _ _ | exact ih1 _ _ _ _ | exact LeO.refl _ | exact LeO.none _ | refine LeO.ite ?_ ?_ | refine LeO.bind ?_ (fun _ => ?_)
set_option maxHeartbeats 8000000 in
set_option maxRecDepth 100000 in
theorem flyballref01_Of.calls (k : Nat) (A0 : Option Addr) (c0 : Nat) (l0 : List Int) (r : List Bool) (w : World) (hr0 : Kd.C (Kd.int .u64) w A0 l0.length l0) (hc0 : l0.length ≤ c0) (h : flyballref01_Of.f k l0 = some r) :
  Calls Try.prog 25 #[.slice A0 l0.length c0] w fun e w' => ∃ v0_ : Value, e = .returned (v0_) ∧ Kd.R Kd.bool 4 w' w.heap.size (fun _ => True) v0_ r ∧ Below w.heap.size w w' := by
 have HR0 := Aside0.mk hr0
 have HC0 := Aside0.mk hc0
 clear hr0 hc0
 have HB := Aside0.mk (Below.refl w.heap.size w)
 have H : (flyballref01_Of.l0 k l0 ([] : List Bool) 0) = some r := h
 clear h
 have H' := Aside0.mk H
 clear H
 go_enter Try.func25, Try.ntmps25
 go_wp2
 (try simp only [Act.put, List.setIfInBounds_toArray, List.set_cons_zero, List.set_cons_succ])
 go_loopg [3, 4] k (fun kq v3 v4 w' => ∃ (x3_1 : List Bool) (x4_1 : Int), v4 = .int .i64 x4_1 ∧ Aside0 (flyballref01_Of.l0 kq l0 x3_1 x4_1 = some r) ∧ Aside0 (kq ≤ k) ∧ Aside0 (Kd.R Kd.bool 4 w' w.heap.size (fun _ => True) v3 x3_1) ∧ Aside0 (Below w.heap.size w w'))
 case atStart => exact ⟨(([] : List Bool)), (0), (sh_), H', ⟨Nat.le_refl _⟩, ⟨by first | exact Kd.R_nil _ _ _ _ _ | exact Kd.N_nil _ _ _ _ _ | exact Kd.V_nil _ _ _ _ _ | exact Kd.Q_nil _ _ _ _ _ | exact Kd.S_nil _ _ _ _ _⟩, ⟨bh_⟩⟩
 case round =>
  clear H'
  obtain ⟨x3_1, x4_1, rfl, HA, HK1, HO_3, HB⟩ := hrel
  cases gk with
  | zero => exact absurd HA.out (by simp [flyballref01_Of.l0])
  | succ k1 =>
   have H := HA.out
   clear HA
   simp only [flyballref01_Of.l0] at H
   by_cases c2 : x4_1 < (l0.length : Int)
   case neg =>
    rw [if_neg c2] at H
    have c2b0 : decide (x4_1 < (l0.length : Int)) = false := decide_eq_false c2
    clear c2
    obtain rfl := Option.some.inj H
    go_wp2
    go_ret
    exact ⟨_, eh_, by (with_reducible repeat (first | apply ra_ | apply rn_ | apply rd_)); exact HO_3.out, bh_⟩
   rw [if_pos c2] at H
   have c2b0 : decide (x4_1 < (l0.length : Int)) = true := decide_eq_true c2
   clear c2
   have H' := Aside0.mk H
   clear H
   go_wp2
   (try simp only [Act.put, List.setIfInBounds_toArray, List.set_cons_zero, List.set_cons_succ])
   go_loopg [3, 5] k1 (fun kq v3 v5 w' => ∃ (x3_2 : List Bool) (x5_2 : Int), v5 = .int .i64 x5_2 ∧ Aside0 (flyballref01_Of.l1 kq l0 x3_2 x4_1 x5_2 = some r) ∧ Aside0 (kq ≤ k1) ∧ Aside0 (Kd.R Kd.bool 4 w' w.heap.size (fun _ => True) v3 x3_2) ∧ Aside0 (Below w.heap.size w w'))
   case atStart => exact ⟨(x3_1), (0), (sh_), H', ⟨Nat.le_refl _⟩, ⟨by (with_reducible repeat (first | apply ra_ | apply rn_ | apply rd_)); exact HO_3.out⟩, ⟨bh_⟩⟩
   case round =>
    clear H'
    try clear c2
    try clear c2b0
    try clear p2
    obtain ⟨x3_2, x5_2, rfl, HA, HK2, HO_3, HB⟩ := hrel
    cases gk with
    | zero => exact absurd HA.out (by simp [flyballref01_Of.l1])
    | succ k2 =>
     have H := HA.out
     clear HA
     simp only [flyballref01_Of.l1] at H
     by_cases c3 : x5_2 < 64
     case neg =>
      rw [if_neg c3] at H
      have c3b0 : decide (x5_2 < 64) = false := decide_eq_false c3
      clear c3
      have H' := Aside0.mk H
      clear H
      go_wp2
      go_roundg k2
      case measure => have := HK1.out; have := HK2.out; omega
      case rel => exact ⟨(x3_2), (wrap64 (x4_1 + 1)), (sh_), H', ⟨by have := HK1.out; have := HK2.out; omega⟩, ⟨by (with_reducible repeat (first | apply ra_ | apply rn_ | apply rd_)); exact HO_3.out⟩, ⟨bh_⟩⟩
     rw [if_pos c3] at H
     have c3b0 : decide (x5_2 < 64) = true := decide_eq_true c3
     clear c3
     by_cases c4 : 0 ≤ x4_1
     case neg =>
      rw [if_neg c4] at H
      exact absurd H (by simp)
     rw [if_pos c4] at H
     have c4b0 : decide (0 ≤ x4_1) = true := decide_eq_true c4
     clear c4
     by_cases c5 : x4_1 < (l0.length : Int)
     case neg =>
      rw [if_neg c5] at H
      exact absurd H (by simp)
     rw [if_pos c5] at H
     have c5b0 : decide (x4_1 < (l0.length : Int)) = true := decide_eq_true c5
     clear c5
     obtain ⟨ji6, hji6⟩ : ∃ j_ : Int, (IntKind.u64.wrap (x5_2)) = j_ := ⟨_, rfl⟩
     replace H : (if 0 ≤ (ji6) then (if x3_2.length < 140737488355328 then (flyballref01_Of.l1 k2 l0 (x3_2 ++ [((Go.bits .and .u64 (shr .u64 (rd l0 x4_1) (ji6)) 1) == 1)]) x4_1 (wrap64 (x5_2 + 1))) else (none)) else (none)) = some r := by first | (rw [hji6] at H; exact H) | (simp only [hji6] at H ⊢; exact H)
     by_cases c7 : 0 ≤ (ji6)
     case neg =>
      rw [if_neg c7] at H
      exact absurd H (by simp)
     rw [if_pos c7] at H
     have c7b0 := eq_true c7
     have c7b1 : decide (0 ≤ (ji6)) = true := decide_eq_true c7
     clear c7
     obtain ⟨ji8, hji8⟩ : ∃ j_ : Int, (shr .u64 (rd l0 x4_1) (ji6)) = j_ := ⟨_, rfl⟩
     replace H : (if x3_2.length < 140737488355328 then (flyballref01_Of.l1 k2 l0 (x3_2 ++ [((Go.bits .and .u64 (ji8) 1) == 1)]) x4_1 (wrap64 (x5_2 + 1))) else (none)) = some r := by first | (rw [hji8] at H; exact H) | (simp only [hji8] at H ⊢; exact H)
     have hji8_ : ((rd l0 x4_1) / 2 ^ min (ji6).toNat 64) = ji8 := hji8
     have hji8z : (ji6) ≤ 64 → ((rd l0 x4_1) / 2 ^ (ji6).toNat) = ji8 := shr_small hji8
     by_cases c9 : x3_2.length < 140737488355328
     case neg =>
      rw [if_neg c9] at H
      exact absurd H (by simp)
     rw [if_pos c9] at H
     have LMc9 := Aside0.mk c9
     clear c9
     obtain ⟨y447, hy447⟩ : ∃ y_ : List Bool, y_ = (x3_2 ++ [((Go.bits .and .u64 (ji8) 1) == 1)]) := ⟨_, rfl⟩
     replace H : (flyballref01_Of.l1 k2 l0 y447 x4_1 (wrap64 (x5_2 + 1))) = some r := by first | (rw [hy447]; with_reducible exact H) | (have H2_ := (Option.bind_some _ _).symm.trans H; rw [hy447]; with_reducible exact H2_) | (have H2_ := (Option.bind_some _ _).symm.trans H; with_reducible exact H2_) | with_reducible exact H | (rw [hy447]; exact H) | exact H
     have Ny447 := Aside0.mk hy447
     clear hy447
     have H' := Aside0.mk H
     clear H
     have p446 : 0 ≤ (x4_1 : Int) := of_decide_eq_true (by first | (with_reducible assumption) | assumption)
     have q446 : x4_1 < (l0.length : Int) := of_decide_eq_true (by first | (with_reducible assumption) | assumption)
     obtain ⟨ad446, e446, hx446_0⟩ := Kd.at_int HR0.out x4_1 p446 q446
     cases e446
     replace hx446_0 := (HB.out.cell (World.block_lt_of_cell? w _ hx446_0)).trans hx446_0
     replace p446 := eq_true p446
     replace q446 := eq_true q446
     go_wp2_with (first | ((with_reducible refine gate_builtin (b := .append) (xs := #[.tmp 16, .tmp 26]) rfl ?_); at_builtin; refine Kd.R_append Kd.bool (w0 := w) w.heap.size rfl (.tmp 16) (.tmp 26) 43 4 (.bool false) 1 rfl Try.underlying43 info4 rfl (by decide) (by omega) u3 x3_2 ((Go.bits .and .u64 (ji8) 1) == 1) [.bool ((Go.bits .and .u64 (ji8) 1) == 1)] (fun _ => True) (fun _ => False) rfl rfl ?aP (fun _ hk => hk.elim) ?aF ?aO ?aB ?aS ?aL ?_; (case aP => exact rfl); (case aB => exact bh_); (case aF => exact (fun _ _ => trivial)); (case aO => exact (by (with_reducible repeat (first | apply ra_ | apply rn_ | apply rd_)); exact HO_3.out)); (case aS => exact (below_size bh_)); (case aL => have := LMc9.out; omega); intro v448 w10 ho hb hg hat; rw [← Ny447.out] at ho; replace HB := Aside0.mk (hb); have HO449 := Aside0.mk (ho); clear ho hb hg hat))
     go_roundg k2
     case measure => have := HK1.out; have := HK2.out; omega
     case rel => exact ⟨(y447), (wrap64 (x5_2 + 1)), (sh_), H', ⟨by have := HK1.out; have := HK2.out; omega⟩, ⟨by (with_reducible repeat (first | apply ra_ | apply rn_ | apply rd_)); exact HO449.out⟩, ⟨bh_⟩⟩

/-! ### flyballref01_Shl: function 47 -/
def flyballref01_Shl.l0 : Nat → List Bool → Int → List Bool → Int → Option (List Bool)
 | 0, _, _, _, _ => none
 | k + 1, x0, x1, x5, x6 => if x6 < x1 then (if x5.length < 140737488355328 then (flyballref01_Shl.l0 k x0 x1 (x5 ++ [false]) (wrap64 (x6 + 1))) else (none)) else (if x5.length + x0.length < 140737488355328 then (some (x5 ++ x0)) else (none))
def flyballref01_Shl.f (k : Nat) (l0 : List Bool) (a1 : Int) : Option (List Bool) := flyballref01_Shl.l0 k l0 a1 ([] : List Bool) 0
theorem flyballref01_Shl.mono_l : ∀ k, (∀ y0 y1 y2 y3, LeO (flyballref01_Shl.l0 k y0 y1 y2 y3) (flyballref01_Shl.l0 (k + 1) y0 y1 y2 y3))
 | 0 => fun _ _ _ _ r h => by simp [flyballref01_Shl.l0] at h
 | k + 1 => by
  have ih0 := flyballref01_Shl.mono_l k
  ·
   intro y0 y1 y2 y3
   unfold flyballref01_Shl.l0
   repeat' with_reducible first | exact ih0 _ _ _ _ | exact LeO.refl _ | exact LeO.none _ | refine LeO.ite ?_ ?_ | refine LeO.bind ?_ (fun _ => ?_)
theorem flyballref01_Shl.mono : ∀ a0 a1 k, LeO (flyballref01_Shl.f k a0 a1) (flyballref01_Shl.f (k + 1) a0 a1) := by
 intro a0 a1 k
 have ih0 := flyballref01_Shl.mono_l k
 unfold flyballref01_Shl.f
 repeat' with_reducible first | exact ih0 _ _ _ _ | exact LeO.refl _ | exact LeO.none _ | refine LeO.ite ?_ ?_ | refine LeO.bind ?_ (fun _ => ?_)
set_option maxHeartbeats 8000000 in
set_option maxRecDepth 100000 in
theorem flyballref01_Shl.calls (k : Nat) (A0 : Option Addr) (c0 : Nat) (l0 : List Bool) (a1 : Int) (r : List Bool) (w : World) (hr0 : Kd.C Kd.bool w A0 l0.length l0) (hc0 : l0.length ≤ c0) (h : flyballref01_Shl.f k l0 a1 = some r) :
  Calls Try.prog 47 #[.slice A0 l0.length c0, .int .i64 a1] w fun e w' => ∃ v0_ : Value, e = .returned (v0_) ∧ Kd.R Kd.bool 4 w' w.heap.size (fun _ => True) v0_ r ∧ Below w.heap.size w w' := by
 have HR0 := Aside0.mk hr0
 have HC0 := Aside0.mk hc0
 clear hr0 hc0
 have HB := Aside0.mk (Below.refl w.heap.size w)
 have H : (flyballref01_Shl.l0 k l0 a1 ([] : List Bool) 0) = some r := h
 clear h
 have H' := Aside0.mk H
 clear H
 go_enter Try.func47, Try.ntmps47
 go_wp2
 (try simp only [Act.put, List.setIfInBounds_toArray, List.set_cons_zero, List.set_cons_succ])
 go_loopg [5, 6] k (fun kq v5 v6 w' => ∃ (x5_1 : List Bool) (x6_1 : Int), v6 = .int .i64 x6_1 ∧ Aside0 (flyballref01_Shl.l0 kq l0 a1 x5_1 x6_1 = some r) ∧ Aside0 (kq ≤ k) ∧ Aside0 (Kd.R Kd.bool 4 w' w.heap.size (fun _ => True) v5 x5_1) ∧ Aside0 (Below w.heap.size w w'))
 case atStart => exact ⟨(([] : List Bool)), (0), (sh_), H', ⟨Nat.le_refl _⟩, ⟨by first | exact Kd.R_nil _ _ _ _ _ | exact Kd.N_nil _ _ _ _ _ | exact Kd.V_nil _ _ _ _ _ | exact Kd.Q_nil _ _ _ _ _ | exact Kd.S_nil _ _ _ _ _⟩, ⟨bh_⟩⟩
 case round =>
  clear H'
  try clear p2
  obtain ⟨x5_1, x6_1, rfl, HA, HK1, HO_5, HB⟩ := hrel
  cases gk with
  | zero => exact absurd HA.out (by simp [flyballref01_Shl.l0])
  | succ k1 =>
   have H := HA.out
   clear HA
   simp only [flyballref01_Shl.l0] at H
   by_cases c3 : x6_1 < a1
   case pos =>
    rw [if_pos c3] at H
    have c3b0 : decide (x6_1 < a1) = true := decide_eq_true c3
    clear c3
    by_cases c4 : x5_1.length < 140737488355328
    case neg =>
     rw [if_neg c4] at H
     exact absurd H (by simp)
    rw [if_pos c4] at H
    have LMc4 := Aside0.mk c4
    clear c4
    obtain ⟨y450, hy450⟩ : ∃ y_ : List Bool, y_ = (x5_1 ++ [false]) := ⟨_, rfl⟩
    replace H : (flyballref01_Shl.l0 k1 l0 a1 y450 (wrap64 (x6_1 + 1))) = some r := by first | (rw [hy450]; with_reducible exact H) | (have H2_ := (Option.bind_some _ _).symm.trans H; rw [hy450]; with_reducible exact H2_) | (have H2_ := (Option.bind_some _ _).symm.trans H; with_reducible exact H2_) | with_reducible exact H | (rw [hy450]; exact H) | exact H
    have Ny450 := Aside0.mk hy450
    clear hy450
    have H' := Aside0.mk H
    clear H
    go_wp2_with (first | ((with_reducible refine gate_builtin (b := .append) (xs := #[.tmp 12, .tmp 13]) rfl ?_); at_builtin; refine Kd.R_append Kd.bool (w0 := w) w.heap.size rfl (.tmp 12) (.tmp 13) 43 4 (.bool false) 1 rfl Try.underlying43 info4 rfl (by decide) (by omega) u5 x5_1 false [.bool false] (fun _ => True) (fun _ => False) rfl rfl ?aP (fun _ hk => hk.elim) ?aF ?aO ?aB ?aS ?aL ?_; (case aP => exact rfl); (case aB => exact bh_); (case aF => exact (fun _ _ => trivial)); (case aO => exact (by (with_reducible repeat (first | apply ra_ | apply rn_ | apply rd_)); exact HO_5.out)); (case aS => exact (below_size bh_)); (case aL => have := LMc4.out; omega); intro v451 w5 ho hb hg hat; rw [← Ny450.out] at ho; replace HB := Aside0.mk (hb); have HO452 := Aside0.mk (ho); clear ho hb hg hat))
    go_roundg k1
    case measure => have := HK1.out; omega
    case rel => exact ⟨(y450), (wrap64 (x6_1 + 1)), (sh_), H', ⟨by have := HK1.out; omega⟩, ⟨by (with_reducible repeat (first | apply ra_ | apply rn_ | apply rd_)); exact HO452.out⟩, ⟨bh_⟩⟩
   rw [if_neg c3] at H
   have c3b0 : decide (x6_1 < a1) = false := decide_eq_false c3
   clear c3
   by_cases c6 : x5_1.length + l0.length < 140737488355328
   case neg =>
    rw [if_neg c6] at H
    exact absurd H (by simp)
   rw [if_pos c6] at H
   have LMc6 := Aside0.mk c6
   clear c6
   obtain ⟨y453, hy453⟩ : ∃ y_ : List Bool, y_ = (x5_1 ++ l0) := ⟨_, rfl⟩
   replace H : (some y453) = some r := by first | (rw [hy453]; with_reducible exact H) | (have H2_ := (Option.bind_some _ _).symm.trans H; rw [hy453]; with_reducible exact H2_) | (have H2_ := (Option.bind_some _ _).symm.trans H; with_reducible exact H2_) | with_reducible exact H | (rw [hy453]; exact H) | exact H
   have Ny453 := Aside0.mk hy453
   clear hy453
   obtain rfl := Option.some.inj H
   go_wp2_with (first | ((with_reducible refine gate_builtin (b := .append) (xs := #[.tmp 15, .tmp 16]) rfl ?_); at_builtin; refine Kd.R_append_rows Kd.bool (w0 := w) w.heap.size rfl (.tmp 15) (.tmp 16) 43 4 (.bool false) 1 rfl Try.underlying43 info4 rfl (by decide) (by omega) u5 x5_1 l0 _ _ _ (fun _ => True) (fun _ => False) rfl rfl ?aO ?aR (fun _ _ h => h) (fun _ h => h.elim) ?aF ?aB ?aS ?aL ?_; (case aR => exact ch_ HR0.out); (case aB => exact bh_); (case aF => exact (fun _ _ => trivial)); (case aO => exact (by (with_reducible repeat (first | apply ra_ | apply rn_ | apply rd_)); exact HO_5.out)); (case aS => exact (below_size bh_)); (case aL => have := LMc6.out; omega); intro v454 w7 ho hb hg hat; rw [← Ny453.out] at ho; replace HB := Aside0.mk (hb); have HO455 := Aside0.mk (ho); clear ho hb hg hat))
   go_ret
   exact ⟨_, eh_, by (with_reducible repeat (first | apply ra_ | apply rn_ | apply rd_)); exact HO455.out, bh_⟩

/-! ### flyballref01_bit: function 81 -/
def flyballref01_bit.f (l0 : List Bool) (a1 : Int) : Option (Bool) := if a1 ≥ 0 then (if a1 < (l0.length : Int) then (if 0 ≤ a1 then (some (rdOf false l0 a1)) else (none)) else (some false)) else (some false)
set_option maxHeartbeats 8000000 in
set_option maxRecDepth 100000 in
theorem flyballref01_bit.calls (A0 : Option Addr) (c0 : Nat) (l0 : List Bool) (a1 : Int) (r : Bool) (w : World) (hr0 : Kd.C Kd.bool w A0 l0.length l0) (hc0 : l0.length ≤ c0) (h : flyballref01_bit.f l0 a1 = some r) :
  Calls Try.prog 81 #[.slice A0 l0.length c0, .int .i64 a1] w fun e w' => e = .returned (.bool r) ∧ Drawn0 w w' := by
 have HR0 := Aside0.mk hr0
 have HC0 := Aside0.mk hc0
 clear hr0 hc0
 have H : (if a1 ≥ 0 then (if a1 < (l0.length : Int) then (if 0 ≤ a1 then (some (rdOf false l0 a1)) else (none)) else (some false)) else (some false)) = some r := h
 clear h
 by_cases c3 : a1 ≥ 0
 case neg =>
  rw [if_neg c3] at H
  have c3b0 : decide (0 ≤ a1) = false := decide_eq_false c3
  clear c3
  obtain rfl := Option.some.inj H
  go_enter Try.func81, Try.ntmps81
  go_wp2
  go_ret
  exact ⟨sh_, dh_⟩
 rw [if_pos c3] at H
 have c3b0 : decide (0 ≤ a1) = true := decide_eq_true c3
 clear c3
 by_cases c4 : a1 < (l0.length : Int)
 case neg =>
  rw [if_neg c4] at H
  have c4b0 : decide (a1 < (l0.length : Int)) = false := decide_eq_false c4
  clear c4
  obtain rfl := Option.some.inj H
  go_enter Try.func81, Try.ntmps81
  go_wp2
  go_ret
  exact ⟨sh_, dh_⟩
 rw [if_pos c4] at H
 have c4b0 : decide (a1 < (l0.length : Int)) = true := decide_eq_true c4
 clear c4
 by_cases c5 : 0 ≤ a1
 case neg =>
  rw [if_neg c5] at H
  exact absurd H (by simp)
 rw [if_pos c5] at H
 have c5b0 : decide (0 ≤ a1) = true := decide_eq_true c5
 clear c5
 obtain rfl := Option.some.inj H
 have p456 : 0 ≤ (a1 : Int) := of_decide_eq_true (by first | (with_reducible assumption) | assumption)
 have q456 : a1 < (l0.length : Int) := of_decide_eq_true (by first | (with_reducible assumption) | assumption)
 obtain ⟨ad456, e456, hx456_0⟩ := Kd.at_bool HR0.out a1 p456 q456
 cases e456
 replace p456 := eq_true p456
 replace q456 := eq_true q456
 go_enter Try.func81, Try.ntmps81
 go_wp2
 go_ret
 exact ⟨sh_, dh_⟩

/-! ### flyballref01_Add: function 54 -/
mutual
def flyballref01_Add.l0 : Nat → List Bool → List Bool → List Bool → Bool → Int → Option (List Bool)
  | 0, _, _, _, _, _ => none
  | k + 1, x0, x1, x5, x6, x7 => if x7 < (x0.length : Int) then (flyballref01_Add.j1 k x0 x1 x5 x6 x7 true) else (if x7 < (x1.length : Int) then (flyballref01_Add.j1 k x0 x1 x5 x6 x7 true) else (flyballref01_Add.j1 k x0 x1 x5 x6 x7 x6))
def flyballref01_Add.j1 : Nat → List Bool → List Bool → List Bool → Bool → Int → Bool → Option (List Bool)
  | 0, _, _, _, _, _, _ => none
  | k + 1, x0, x1, x5, x6, x7, x22 => if x22 = true then ((flyballref01_bit.f x0 x7).bind fun t457 => ((flyballref01_bit.f x1 x7).bind fun t458 => (if x5.length < 140737488355328 then ((some (x5 ++ [((t457 != t458) != x6)] : List Bool)).bind fun y459 => (if t457 = true then (if t458 = true then (flyballref01_Add.l0 k x0 x1 y459 true (wrap64 (x7 + 1))) else (if x6 = true then (flyballref01_Add.l0 k x0 x1 y459 true (wrap64 (x7 + 1))) else (flyballref01_Add.l0 k x0 x1 y459 false (wrap64 (x7 + 1))))) else (if t458 = true then (flyballref01_Add.l0 k x0 x1 y459 x6 (wrap64 (x7 + 1))) else (flyballref01_Add.l0 k x0 x1 y459 false (wrap64 (x7 + 1)))))) else (none)))) else (some x5)
end
def flyballref01_Add.f (k : Nat) (l0 : List Bool) (l1 : List Bool) : Option (List Bool) := flyballref01_Add.l0 k l0 l1 ([] : List Bool) false 0
theorem flyballref01_Add.mono_l : ∀ k, (∀ y0 y1 y2 y3 y4, LeO (flyballref01_Add.l0 k y0 y1 y2 y3 y4) (flyballref01_Add.l0 (k + 1) y0 y1 y2 y3 y4)) ∧ (∀ y0 y1 y2 y3 y4 y5, LeO (flyballref01_Add.j1 k y0 y1 y2 y3 y4 y5) (flyballref01_Add.j1 (k + 1) y0 y1 y2 y3 y4 y5))
  | 0 => ⟨fun _ _ _ _ _ r h => by simp [flyballref01_Add.l0] at h, fun _ _ _ _ _ _ r h => by simp [flyballref01_Add.j1] at h⟩
  | k + 1 => by
    obtain ⟨ih0, ih1⟩ := flyballref01_Add.mono_l k
    refine ⟨?_, ?_⟩
    · intro y0 y1 y2 y3 y4
      unfold flyballref01_Add.l0
      repeat' with_reducible first | exact ih0 _ _ _ _ _ | exact ih1 _ _ _ _ _ _ | exact LeO.refl _ | exact LeO.none _ | refine LeO.ite ?_ ?_ | refine LeO.bind ?_ (fun _ => ?_)
    · intro y0 y1 y2 y3 y4 y5
      unfold flyballref01_Add.j1
      repeat' with_reducible first | exact ih0 _ _ _ _ _ | exact ih1 _ _ _ _ _ _ | exact LeO.refl _ | exact LeO.none _ | refine LeO.ite ?_ ?_ | refine LeO.bind ?_ (fun _ => ?_)
theorem flyballref01_Add.mono : ∀ a0 a1 k, LeO (flyballref01_Add.f k a0 a1) (flyballref01_Add.f (k + 1) a0 a1) := by
  intro a0 a1 k
  obtain ⟨ih0, ih1⟩ := flyballref01_Add.mono_l k
  unfold flyballref01_Add.f
  repeat' with_reducible first | exact ih0 _ _ _ _ _ | exact ih1 _ _ _ _ _ _ | exact LeO.refl _ | exact LeO.none _ | refine LeO.ite ?_ ?_ | refine LeO.bind ?_ (fun _ => ?_)
-- GIVENTEXT
set_option maxHeartbeats 8000000 in
set_option maxRecDepth 100000 in
theorem flyballref01_Add.calls (k : Nat) (A0 : Option Addr) (c0 : Nat) (l0 : List Bool) (A1 : Option Addr) (c1 : Nat) (l1 : List Bool) (r : List Bool) (w : World) (hr0 : Kd.C Kd.bool w A0 l0.length l0) (hc0 : l0.length ≤ c0) (hr1 : Kd.C Kd.bool w A1 l1.length l1) (hc1 : l1.length ≤ c1) (h : flyballref01_Add.f k l0 l1 = some r) :
    Calls Try.prog 54 #[.slice A0 l0.length c0, .slice A1 l1.length c1] w fun e w' => ∃ v0_ : Value, e = .returned (v0_) ∧ Kd.R Kd.bool 4 w' w.heap.size (fun _ => True) v0_ r ∧ Below w.heap.size w w' := by
 have HR0 := Aside0.mk hr0
 have HC0 := Aside0.mk hc0
 clear hr0 hc0
 have HR1 := Aside0.mk hr1
 have HC1 := Aside0.mk hc1
 clear hr1 hc1
 have HB := Aside0.mk (Below.refl w.heap.size w)
 have H : (flyballref01_Add.l0 k l0 l1 ([] : List Bool) false 0) = some r := h
 clear h
 have H' := Aside0.mk H
 clear H
 go_enter Try.func54, Try.ntmps54
 go_wp2
 (try simp only [Act.put, List.setIfInBounds_toArray, List.set_cons_zero, List.set_cons_succ])
 go_loopg [5, 6, 7] k (fun kq v5 v6 v7 w' => ∃ (x5_1 : List Bool) (x6_1 : Bool) (x7_1 : Int), v6 = .bool x6_1 ∧ v7 = .int .i64 x7_1 ∧ Aside0 (flyballref01_Add.l0 kq l0 l1 x5_1 x6_1 x7_1 = some r) ∧ Aside0 (kq ≤ k) ∧ Aside0 (Kd.R Kd.bool 4 w' w.heap.size (fun _ => True) v5 x5_1) ∧ Aside0 (Below w.heap.size w w'))
 case atStart => exact ⟨(([] : List Bool)), (false), (0), (sh_), (sh_), H', ⟨Nat.le_refl _⟩, ⟨by first | exact Kd.R_nil _ _ _ _ _ | exact Kd.N_nil _ _ _ _ _ | exact Kd.V_nil _ _ _ _ _ | exact Kd.Q_nil _ _ _ _ _ | exact Kd.S_nil _ _ _ _ _⟩, ⟨bh_⟩⟩
 case round =>
  clear H'
  try clear c1
  try clear p2
  obtain ⟨x5_1, x6_1, x7_1, rfl, rfl, HA, HK1, HO_5, HB⟩ := hrel
  cases gk with
  | zero => exact absurd HA.out (by simp [flyballref01_Add.l0])
  | succ k1 =>
   have H := HA.out
   clear HA
   simp only [flyballref01_Add.l0] at H
   have HC3 := Aside0.mk H
   clear H
   go_upto_region 4 with (fail)
   go_cut [22] (fun v22 wc => ∃ (kq : Nat) (x22_2 : Bool), v22 = .bool x22_2 ∧ Aside0 (flyballref01_Add.j1 kq l0 l1 x5_1 x6_1 x7_1 x22_2 = some r) ∧ Aside0 (kq ≤ k1) ∧ Aside0 (Kd.R Kd.bool 4 wc w.heap.size (fun _ => True) u5 x5_1) ∧ Aside0 (Below w.heap.size w wc))
   case first =>
    have H := HC3.out
    clear HC3
    by_cases c4 : x7_1 < (l0.length : Int)
    case pos =>
     rw [if_pos c4] at H
     have c4b0 : decide (x7_1 < (l0.length : Int)) = true := decide_eq_true c4
     clear c4
     (first | rw [c4b0] | (simp only [i64_w, i32_w]; rw [c4b0]) | skip)
     have H' := Aside0.mk H
     clear H
     go_wp2
     go_meet
     case rel => exact ⟨_, (true), (sh_), H', ⟨by have := HK1.out; first | omega | exact Nat.le_refl _⟩, ⟨by (with_reducible repeat (first | apply ra_ | apply rn_ | apply rd_)); exact HO_5.out⟩, ⟨bh_⟩⟩
    rw [if_neg c4] at H
    have c4b0 : decide (x7_1 < (l0.length : Int)) = false := decide_eq_false c4
    clear c4
    (first | rw [c4b0] | (simp only [i64_w, i32_w]; rw [c4b0]) | skip)
    by_cases c5 : x7_1 < (l1.length : Int)
    case pos =>
     rw [if_pos c5] at H
     have c5b0 : decide (x7_1 < (l1.length : Int)) = true := decide_eq_true c5
     clear c5
     have H' := Aside0.mk H
     clear H
     go_wp2
     go_meet
     case rel => exact ⟨_, (true), (sh_), H', ⟨by have := HK1.out; first | omega | exact Nat.le_refl _⟩, ⟨by (with_reducible repeat (first | apply ra_ | apply rn_ | apply rd_)); exact HO_5.out⟩, ⟨bh_⟩⟩
    rw [if_neg c5] at H
    have c5b0 : decide (x7_1 < (l1.length : Int)) = false := decide_eq_false c5
    clear c5
    have H' := Aside0.mk H
    clear H
    go_wp2
    go_meet
    case rel => exact ⟨_, (x6_1), (sh_), H', ⟨by have := HK1.out; first | omega | exact Nat.le_refl _⟩, ⟨by (with_reducible repeat (first | apply ra_ | apply rn_ | apply rd_)); exact HO_5.out⟩, ⟨bh_⟩⟩
   case rest =>
    clear HC3
    try clear c1
    try clear p2
    try clear c4
    try clear c4b0
    try clear c5
    try clear c5b0
    try clear p2
    obtain ⟨kq, x22_2, rfl, HA, HJ2, HO_5, HB⟩ := hcut
    cases kq with
    | zero => exact absurd HA.out (by simp [flyballref01_Add.j1])
    | succ kj2 =>
     have H := HA.out
     clear HA
     simp only [flyballref01_Add.j1] at H
     by_cases c6 : x22_2 = true
     case neg =>
      replace c6 := Bool.eq_false_iff.mpr c6
      subst c6
      have H1 : (some x5_1) = some r := by rw [if_neg (show ¬ (false = true) by decide)] at H; exact H
      clear H
      have H := H1
      clear H1
      obtain rfl := Option.some.inj H
      go_wp2
      go_ret
      exact ⟨_, eh_, by (with_reducible repeat (first | apply ra_ | apply rn_ | apply rd_)); exact HO_5.out, bh_⟩
     subst c6
     have H1 : ((flyballref01_bit.f l0 x7_1).bind fun t230 => ((flyballref01_bit.f l1 x7_1).bind fun t231 => (if x5_1.length < 140737488355328 then ((some (x5_1 ++ [((t230 != t231) != x6_1)] : List Bool)).bind fun y232 => (if t230 = true then (if t231 = true then (flyballref01_Add.l0 kj2 l0 l1 y232 true (wrap64 (x7_1 + 1))) else (if x6_1 = true then (flyballref01_Add.l0 kj2 l0 l1 y232 true (wrap64 (x7_1 + 1))) else (flyballref01_Add.l0 kj2 l0 l1 y232 false (wrap64 (x7_1 + 1))))) else (if t231 = true then (flyballref01_Add.l0 kj2 l0 l1 y232 x6_1 (wrap64 (x7_1 + 1))) else (flyballref01_Add.l0 kj2 l0 l1 y232 false (wrap64 (x7_1 + 1)))))) else (none)))) = some r := by rw [if_pos rfl] at H; exact H
     clear H
     have H := H1
     clear H1
     replace H := Option.bind_eq_some_iff.mp H
     obtain ⟨t230, A70, H⟩ := H
     replace H : ((flyballref01_bit.f l1 x7_1).bind fun t231 => (if x5_1.length < 140737488355328 then ((some (x5_1 ++ [((t230 != t231) != x6_1)] : List Bool)).bind fun y232 => (if t230 = true then (if t231 = true then (flyballref01_Add.l0 kj2 l0 l1 y232 true (wrap64 (x7_1 + 1))) else (if x6_1 = true then (flyballref01_Add.l0 kj2 l0 l1 y232 true (wrap64 (x7_1 + 1))) else (flyballref01_Add.l0 kj2 l0 l1 y232 false (wrap64 (x7_1 + 1))))) else (if t231 = true then (flyballref01_Add.l0 kj2 l0 l1 y232 x6_1 (wrap64 (x7_1 + 1))) else (flyballref01_Add.l0 kj2 l0 l1 y232 false (wrap64 (x7_1 + 1)))))) else (none))) = some r := H
     have A7 := Aside0.mk A70
     clear A70
     replace H := Option.bind_eq_some_iff.mp H
     obtain ⟨t231, A80, H⟩ := H
     replace H : (if x5_1.length < 140737488355328 then ((some (x5_1 ++ [((t230 != t231) != x6_1)] : List Bool)).bind fun y232 => (if t230 = true then (if t231 = true then (flyballref01_Add.l0 kj2 l0 l1 y232 true (wrap64 (x7_1 + 1))) else (if x6_1 = true then (flyballref01_Add.l0 kj2 l0 l1 y232 true (wrap64 (x7_1 + 1))) else (flyballref01_Add.l0 kj2 l0 l1 y232 false (wrap64 (x7_1 + 1))))) else (if t231 = true then (flyballref01_Add.l0 kj2 l0 l1 y232 x6_1 (wrap64 (x7_1 + 1))) else (flyballref01_Add.l0 kj2 l0 l1 y232 false (wrap64 (x7_1 + 1)))))) else (none)) = some r := H
     have A8 := Aside0.mk A80
     clear A80
     by_cases c9 : x5_1.length < 140737488355328
     case neg =>
      rw [if_neg c9] at H
      exact absurd H (by simp)
     rw [if_pos c9] at H
     have LMc9 := Aside0.mk c9
     clear c9
     obtain ⟨y232, hy232⟩ : ∃ y_ : List Bool, y_ = (x5_1 ++ [((t230 != t231) != x6_1)]) := ⟨_, rfl⟩
     replace H : (if t230 = true then (if t231 = true then (flyballref01_Add.l0 kj2 l0 l1 y232 true (wrap64 (x7_1 + 1))) else (if x6_1 = true then (flyballref01_Add.l0 kj2 l0 l1 y232 true (wrap64 (x7_1 + 1))) else (flyballref01_Add.l0 kj2 l0 l1 y232 false (wrap64 (x7_1 + 1))))) else (if t231 = true then (flyballref01_Add.l0 kj2 l0 l1 y232 x6_1 (wrap64 (x7_1 + 1))) else (flyballref01_Add.l0 kj2 l0 l1 y232 false (wrap64 (x7_1 + 1))))) = some r := by first | (rw [hy232]; with_reducible exact H) | (have H2_ := (Option.bind_some _ _).symm.trans H; rw [hy232]; with_reducible exact H2_) | (have H2_ := (Option.bind_some _ _).symm.trans H; with_reducible exact H2_) | with_reducible exact H | (rw [hy232]; exact H) | exact H
     have Ny232 := Aside0.mk hy232
     clear hy232
     have Ny0 : y232 = x5_1 ++ [(!((!(t230 == t231)) == x6_1))] := Ny232.out
     clear Ny232
     have Ny232 := Aside0.mk Ny0
     clear Ny0
     have H' := Aside0.mk H
     clear H
     go_wp2_with (first | ((with_reducible refine gc_ 81 rfl ?_); refine gM_ (some 27) Try.func81 [.slice A0 l0.length c0, .int .i64 x7_1] ?_; (with_reducible refine (flyballref01_bit.calls _ _ l0 x7_1 t230 _ ?side1 ?side2 A7.out).mono ?_); (case side1 => exact ch_ HR0.out); (case side2 => exact HC0.out); rintro e w' ⟨rfl, ⟨nd, rfl⟩⟩; refine ⟨_, rfl, ?_⟩) | ((with_reducible refine gc_ 81 rfl ?_); refine gM_ (some 30) Try.func81 [.slice A1 l1.length c1, .int .i64 x7_1] ?_; (with_reducible refine (flyballref01_bit.calls _ _ l1 x7_1 t231 _ ?side1 ?side2 A8.out).mono ?_); (case side1 => repeat (first | exact (Kd.C_below HR1.out bh_) | (with_reducible refine Kd.C_alloc ?_ _) | (with_reducible refine Kd.C_drewN ?_ _) | (with_reducible refine Kd.C_drew ?_))); (case side2 => exact HC1.out); rintro e w' ⟨rfl, ⟨nd, rfl⟩⟩; refine ⟨_, rfl, ?_⟩) | ((with_reducible refine gate_builtin (b := .append) (xs := #[.tmp 31, .tmp 37]) rfl ?_); (try (refine gate_guard (by rfl) ?_; dsimp only)); at_builtin; refine Kd.R_append Kd.bool (w0 := w) w.heap.size rfl (.tmp 31) (.tmp 37) 43 4 (.bool false) 1 rfl Try.underlying43 info4 rfl (by decide) (by omega) u5 x5_1 (!((!(t230 == t231)) == x6_1)) [.bool (!((!(t230 == t231)) == x6_1))] (fun _ => True) (fun _ => False) rfl rfl ?aP (fun _ hk => hk.elim) ?aF ?aO ?aB ?aS ?aL ?_; (case aP => exact rfl); (case aB => exact bh_); (case aF => exact (fun _ _ => trivial)); (case aO => exact (by (with_reducible repeat (first | apply ra_ | apply rn_ | apply rd_)); exact HO_5.out)); (case aS => exact (below_size bh_)); (case aL => have := LMc9.out; omega); intro v233 w12 ho hb hg hat; rw [← Ny232.out] at ho; replace HB := Aside0.mk (hb); have HO234 := Aside0.mk (ho); clear ho hb hg hat))
     all_goals
      have H := H'.out
      repeat' split at H
      all_goals first
       | contradiction
       | (go_roundg kj2
          case measure => have := HK1.out; have := HJ2.out; omega
          case rel => exact ⟨y232, _, (wrap64 (x7_1 + 1)), (by rfl), (by rfl), ⟨H⟩, ⟨by have := HK1.out; have := HJ2.out; omega⟩, ⟨by (with_reducible repeat (first | apply ra_ | apply rn_ | apply rd_)); exact HO234.out⟩, ⟨bh_⟩⟩)

/-! ### flyballref01_Cmp: function 48 -/
def flyballref01_Cmp.l0 : Nat → List Bool → List Bool → Int → Option (Int)
 | 0, _, _, _ => none
 | k + 1, x0, x1, x5 => if x5 ≥ 0 then ((flyballref01_bit.f x0 x5).bind fun t474 => ((flyballref01_bit.f x1 x5).bind fun t475 => (if (t474 != t475) = true then (if t474 = true then (some 1) else (some (-1))) else (flyballref01_Cmp.l0 k x0 x1 (wrap64 (x5 - 1)))))) else (some 0)
def flyballref01_Cmp.f (k : Nat) (l0 : List Bool) (l1 : List Bool) : Option (Int) := flyballref01_Cmp.l0 k l0 l1 (wrap64 ((mx (l0.length : Int) (l1.length : Int)) - 1))
theorem flyballref01_Cmp.mono_l : ∀ k, (∀ y0 y1 y2, LeO (flyballref01_Cmp.l0 k y0 y1 y2) (flyballref01_Cmp.l0 (k + 1) y0 y1 y2))
 | 0 => fun _ _ _ r h => by simp [flyballref01_Cmp.l0] at h
 | k + 1 => by
  have ih0 := flyballref01_Cmp.mono_l k
  ·
   intro y0 y1 y2
   unfold flyballref01_Cmp.l0
   repeat' with_reducible first | exact ih0 _ _ _ | exact LeO.refl _ | exact LeO.none _ | refine LeO.ite ?_ ?_ | refine LeO.bind ?_ (fun _ => ?_)
theorem flyballref01_Cmp.mono : ∀ a0 a1 k, LeO (flyballref01_Cmp.f k a0 a1) (flyballref01_Cmp.f (k + 1) a0 a1) := by
 intro a0 a1 k
 have ih0 := flyballref01_Cmp.mono_l k
 unfold flyballref01_Cmp.f
 repeat' with_reducible first | exact ih0 _ _ _ | exact LeO.refl _ | exact LeO.none _ | refine LeO.ite ?_ ?_ | refine LeO.bind ?_ (fun _ => ?_)
set_option maxHeartbeats 8000000 in
set_option maxRecDepth 100000 in
theorem flyballref01_Cmp.calls (k : Nat) (A0 : Option Addr) (c0 : Nat) (l0 : List Bool) (A1 : Option Addr) (c1 : Nat) (l1 : List Bool) (r : Int) (w : World) (hr0 : Kd.C Kd.bool w A0 l0.length l0) (hc0 : l0.length ≤ c0) (hr1 : Kd.C Kd.bool w A1 l1.length l1) (hc1 : l1.length ≤ c1) (h : flyballref01_Cmp.f k l0 l1 = some r) :
  Calls Try.prog 48 #[.slice A0 l0.length c0, .slice A1 l1.length c1] w fun e w' => e = .returned (.int .i64 r) ∧ Drawn0 w w' := by
 have HR0 := Aside0.mk hr0
 have HC0 := Aside0.mk hc0
 clear hr0 hc0
 have HR1 := Aside0.mk hr1
 have HC1 := Aside0.mk hc1
 clear hr1 hc1
 have H : (flyballref01_Cmp.l0 k l0 l1 (wrap64 ((mx (l0.length : Int) (l1.length : Int)) - 1))) = some r := h
 clear h
 obtain ⟨ji3, hji3⟩ : ∃ j_ : Int, (mx (l0.length : Int) (l1.length : Int)) = j_ := ⟨_, rfl⟩
 replace H : (flyballref01_Cmp.l0 k l0 l1 (wrap64 ((ji3) - 1))) = some r := by first | (rw [hji3] at H; exact H) | (simp only [hji3] at H ⊢; exact H)
 (try (have hji3l : 0 ≤ ji3 := by (rw [← hji3]; unfold mx; (repeat' split) <;> omega)))
 (try (have hji3m : 0 ≤ ji3 := by omega))
 have hji3_ : (if (l0.length : Int) < (l1.length : Int) then (l1.length : Int) else (l0.length : Int)) = ji3 := hji3
 have hji3n_ : (if l0.length < l1.length then (l1.length : Int) else (l0.length : Int)) = ji3 := by rw [← hji3_]; simp only [Int.ofNat_lt]
 have H' := Aside0.mk H
 clear H
 go_enter Try.func48, Try.ntmps48
 go_wp2
 (try simp only [Act.put, List.setIfInBounds_toArray, List.set_cons_zero, List.set_cons_succ])
 go_loopg [5] k (fun kq v5 w' => ∃ (x5_1 : Int), v5 = .int .i64 x5_1 ∧ Aside0 (flyballref01_Cmp.l0 kq l0 l1 x5_1 = some r) ∧ Aside0 (kq ≤ k) ∧ Drawn0 w w')
 case atStart => exact ⟨(wrap64 ((ji3) - 1)), (by first | rfl | (simp; done) | (simp only [← hji3] <;> (first | rfl | simp)) | (simp [*]; done)), H', ⟨Nat.le_refl _⟩, dh_⟩
 case round =>
  clear H'
  try clear c1
  try clear p2
  obtain ⟨x5_1, rfl, HA, HK1, ⟨m1, rfl⟩⟩ := hrel
  cases gk with
  | zero => exact absurd HA.out (by simp [flyballref01_Cmp.l0])
  | succ k1 =>
   have H := HA.out
   clear HA
   simp only [flyballref01_Cmp.l0] at H
   by_cases c4 : x5_1 ≥ 0
   case neg =>
    rw [if_neg c4] at H
    have c4b0 : decide (0 ≤ x5_1) = false := decide_eq_false c4
    clear c4
    obtain rfl := Option.some.inj H
    go_wp2
    go_ret
    exact ⟨by first | rfl | (simp; done) | (simp only [← hji3] <;> (first | rfl | simp)) | (simp [*]; done), dh_⟩
   rw [if_pos c4] at H
   have c4b0 : decide (0 ≤ x5_1) = true := decide_eq_true c4
   clear c4
   replace H := Option.bind_eq_some_iff.mp H
   obtain ⟨t474, A50, H⟩ := H
   replace H : ((flyballref01_bit.f l1 x5_1).bind fun t475 => (if (t474 != t475) = true then (if t474 = true then (some 1) else (some (-1))) else (flyballref01_Cmp.l0 k1 l0 l1 (wrap64 (x5_1 - 1))))) = some r := H
   have A5 := Aside0.mk A50
   clear A50
   replace H := Option.bind_eq_some_iff.mp H
   obtain ⟨t475, A60, H⟩ := H
   replace H : (if (t474 != t475) = true then (if t474 = true then (some 1) else (some (-1))) else (flyballref01_Cmp.l0 k1 l0 l1 (wrap64 (x5_1 - 1)))) = some r := H
   have A6 := Aside0.mk A60
   clear A60
   by_cases c7 : (t474 != t475) = true
   case neg =>
    rw [if_neg c7] at H
    have c7b0 : (t474 != t475) = false := by simpa using c7
    (try (have c7b1 : decide (t474 = t475) = true := by simpa using c7))
    (try (have c7b2 : (t474 == t475) = true := by simpa using c7))
    clear c7
    have H' := Aside0.mk H
    clear H
    go_wp2_with (first | ((with_reducible refine gc_ 81 rfl ?_); refine gM_ (some 20) Try.func81 [.slice A0 l0.length c0, .int .i64 x5_1] ?_; (with_reducible refine (flyballref01_bit.calls _ _ l0 x5_1 t474 _ ?side1 ?side2 A5.out).mono ?_); (case side1 => repeat first | exact HR0.out | with_reducible first | apply ca_ | apply cn_ | apply cd_); (case side2 => exact HC0.out); rintro e w' ⟨rfl, ⟨nd, rfl⟩⟩; refine ⟨_, rfl, ?_⟩) | ((with_reducible refine gc_ 81 rfl ?_); refine gM_ (some 23) Try.func81 [.slice A1 l1.length c1, .int .i64 x5_1] ?_; (with_reducible refine (flyballref01_bit.calls _ _ l1 x5_1 t475 _ ?side1 ?side2 A6.out).mono ?_); (case side1 => repeat first | exact HR1.out | with_reducible first | apply ca_ | apply cn_ | apply cd_); (case side2 => exact HC1.out); rintro e w' ⟨rfl, ⟨nd, rfl⟩⟩; refine ⟨_, rfl, ?_⟩))
    go_roundg k1
    case measure => have := HK1.out; omega
    case rel => exact ⟨(wrap64 (x5_1 - 1)), (sh_), H', ⟨by have := HK1.out; omega⟩, dh_⟩
   rw [if_pos c7] at H
   have c7b0 : (t474 != t475) = true := c7
   (try (have c7b1 : decide (t474 = t475) = false := by simpa using c7))
   (try (have c7b2 : (t474 == t475) = false := by simpa using c7))
   (try (have c7b3 : ¬ (t474 = t475) := by simpa using c7))
   clear c7
   by_cases c8 : t474 = true
   case pos =>
    subst c8
    have H1 : (some 1) = some r := by rw [if_pos rfl] at H; exact H
    clear H
    have H := H1
    clear H1
    obtain rfl := Option.some.inj H
    go_wp2_with (first | ((with_reducible refine gc_ 81 rfl ?_); refine gM_ (some 20) Try.func81 [.slice A0 l0.length c0, .int .i64 x5_1] ?_; (with_reducible refine (flyballref01_bit.calls _ _ l0 x5_1 true _ ?side1 ?side2 A5.out).mono ?_); (case side1 => repeat first | exact HR0.out | with_reducible first | apply ca_ | apply cn_ | apply cd_); (case side2 => exact HC0.out); rintro e w' ⟨rfl, ⟨nd, rfl⟩⟩; refine ⟨_, rfl, ?_⟩) | ((with_reducible refine gc_ 81 rfl ?_); refine gM_ (some 23) Try.func81 [.slice A1 l1.length c1, .int .i64 x5_1] ?_; (with_reducible refine (flyballref01_bit.calls _ _ l1 x5_1 t475 _ ?side1 ?side2 A6.out).mono ?_); (case side1 => repeat first | exact HR1.out | with_reducible first | apply ca_ | apply cn_ | apply cd_); (case side2 => exact HC1.out); rintro e w' ⟨rfl, ⟨nd, rfl⟩⟩; refine ⟨_, rfl, ?_⟩))
    go_ret
    exact ⟨by first | rfl | (simp; done) | (simp only [← hji3] <;> (first | rfl | simp)) | (simp [*]; done), dh_⟩
   replace c8 := Bool.eq_false_iff.mpr c8
   subst c8
   have H1 : (some (-1)) = some r := by rw [if_neg (show ¬ (false = true) by decide)] at H; exact H
   clear H
   have H := H1
   clear H1
   obtain rfl := Option.some.inj H
   go_wp2_with (first | ((with_reducible refine gc_ 81 rfl ?_); refine gM_ (some 20) Try.func81 [.slice A0 l0.length c0, .int .i64 x5_1] ?_; (with_reducible refine (flyballref01_bit.calls _ _ l0 x5_1 false _ ?side1 ?side2 A5.out).mono ?_); (case side1 => repeat first | exact HR0.out | with_reducible first | apply ca_ | apply cn_ | apply cd_); (case side2 => exact HC0.out); rintro e w' ⟨rfl, ⟨nd, rfl⟩⟩; refine ⟨_, rfl, ?_⟩) | ((with_reducible refine gc_ 81 rfl ?_); refine gM_ (some 23) Try.func81 [.slice A1 l1.length c1, .int .i64 x5_1] ?_; (with_reducible refine (flyballref01_bit.calls _ _ l1 x5_1 t475 _ ?side1 ?side2 A6.out).mono ?_); (case side1 => repeat first | exact HR1.out | with_reducible first | apply ca_ | apply cn_ | apply cd_); (case side2 => exact HC1.out); rintro e w' ⟨rfl, ⟨nd, rfl⟩⟩; refine ⟨_, rfl, ?_⟩))
   go_ret
   exact ⟨by first | rfl | (simp; done) | (simp only [← hji3] <;> (first | rfl | simp)) | (simp [*]; done), dh_⟩

/-! ### flyballref01_Mul: function 113 -/
def flyballref01_Mul.l0 : Nat → List Bool → List Bool → List Bool → Int → Option (List Bool)
 | 0, _, _, _, _ => none
 | k + 1, x0, x1, x5, x6 => if x6 < (x1.length : Int) then (if 0 ≤ x6 then (if rdOf false x1 x6 = true then ((flyballref01_Shl.f k x0 x6).bind fun t477 => ((flyballref01_Add.f k x5 t477).bind fun t480 => (flyballref01_Mul.l0 k x0 x1 t480 (wrap64 (x6 + 1))))) else (flyballref01_Mul.l0 k x0 x1 x5 (wrap64 (x6 + 1)))) else (none)) else (some x5)
def flyballref01_Mul.f (k : Nat) (l0 : List Bool) (l1 : List Bool) : Option (List Bool) := flyballref01_Mul.l0 k l0 l1 ([] : List Bool) 0
theorem flyballref01_Mul.mono_l : ∀ k, (∀ y0 y1 y2 y3, LeO (flyballref01_Mul.l0 k y0 y1 y2 y3) (flyballref01_Mul.l0 (k + 1) y0 y1 y2 y3))
 | 0 => fun _ _ _ _ r h => by simp [flyballref01_Mul.l0] at h
 | k + 1 => by
  have ih0 := flyballref01_Mul.mono_l k
  ·
   intro y0 y1 y2 y3
   unfold flyballref01_Mul.l0
   repeat' with_reducible first | exact ih0 _ _ _ _ | exact flyballref01_Add.mono _ _ _ | exact flyballref01_Shl.mono _ _ _ | exact LeO.refl _ | exact LeO.none _ | refine LeO.ite ?_ ?_ | refine LeO.bind ?_ (fun _ => ?_)
theorem flyballref01_Mul.mono : ∀ a0 a1 k, LeO (flyballref01_Mul.f k a0 a1) (flyballref01_Mul.f (k + 1) a0 a1) := by
 intro a0 a1 k
 have ih0 := flyballref01_Mul.mono_l k
 unfold flyballref01_Mul.f
 repeat' with_reducible first | exact ih0 _ _ _ _ | exact flyballref01_Add.mono _ _ _ | exact flyballref01_Shl.mono _ _ _ | exact LeO.refl _ | exact LeO.none _ | refine LeO.ite ?_ ?_ | refine LeO.bind ?_ (fun _ => ?_)
set_option maxHeartbeats 8000000 in
set_option maxRecDepth 100000 in
theorem flyballref01_Mul.calls (k : Nat) (A0 : Option Addr) (c0 : Nat) (l0 : List Bool) (A1 : Option Addr) (c1 : Nat) (l1 : List Bool) (r : List Bool) (w : World) (hr0 : Kd.C Kd.bool w A0 l0.length l0) (hc0 : l0.length ≤ c0) (hr1 : Kd.C Kd.bool w A1 l1.length l1) (hc1 : l1.length ≤ c1) (h : flyballref01_Mul.f k l0 l1 = some r) :
  Calls Try.prog 113 #[.slice A0 l0.length c0, .slice A1 l1.length c1] w fun e w' => ∃ v0_ : Value, e = .returned (v0_) ∧ Kd.R Kd.bool 4 w' w.heap.size (fun _ => True) v0_ r ∧ Below w.heap.size w w' := by
 have HR0 := Aside0.mk hr0
 have HC0 := Aside0.mk hc0
 clear hr0 hc0
 have HR1 := Aside0.mk hr1
 have HC1 := Aside0.mk hc1
 clear hr1 hc1
 have HB := Aside0.mk (Below.refl w.heap.size w)
 have H : (flyballref01_Mul.l0 k l0 l1 ([] : List Bool) 0) = some r := h
 clear h
 have H' := Aside0.mk H
 clear H
 go_enter Try.func113, Try.ntmps113
 go_wp2
 (try simp only [Act.put, List.setIfInBounds_toArray, List.set_cons_zero, List.set_cons_succ])
 go_loopg [5, 6] k (fun kq v5 v6 w' => ∃ (x5_1 : List Bool) (x6_1 : Int), v6 = .int .i64 x6_1 ∧ Aside0 (flyballref01_Mul.l0 kq l0 l1 x5_1 x6_1 = some r) ∧ Aside0 (kq ≤ k) ∧ Aside0 (Kd.R Kd.bool 4 w' w.heap.size (fun _ => True) v5 x5_1) ∧ Aside0 (Below w.heap.size w w'))
 case atStart => exact ⟨(([] : List Bool)), (0), (sh_), H', ⟨Nat.le_refl _⟩, ⟨by first | exact Kd.R_nil _ _ _ _ _ | exact Kd.N_nil _ _ _ _ _ | exact Kd.V_nil _ _ _ _ _ | exact Kd.Q_nil _ _ _ _ _ | exact Kd.S_nil _ _ _ _ _⟩, ⟨bh_⟩⟩
 case round =>
  clear H'
  try clear c1
  try clear p2
  obtain ⟨x5_1, x6_1, rfl, HA, HK1, HO_5, HB⟩ := hrel
  cases gk with
  | zero => exact absurd HA.out (by simp [flyballref01_Mul.l0])
  | succ k1 =>
   have H := HA.out
   clear HA
   simp only [flyballref01_Mul.l0] at H
   by_cases c3 : x6_1 < (l1.length : Int)
   case neg =>
    rw [if_neg c3] at H
    have c3b0 : decide (x6_1 < (l1.length : Int)) = false := decide_eq_false c3
    clear c3
    obtain rfl := Option.some.inj H
    go_wp2
    go_ret
    exact ⟨_, eh_, by (with_reducible repeat (first | apply ra_ | apply rn_ | apply rd_)); exact HO_5.out, bh_⟩
   rw [if_pos c3] at H
   have c3b0 : decide (x6_1 < (l1.length : Int)) = true := decide_eq_true c3
   clear c3
   by_cases c4 : 0 ≤ x6_1
   case neg =>
    rw [if_neg c4] at H
    exact absurd H (by simp)
   rw [if_pos c4] at H
   have c4b0 : decide (0 ≤ x6_1) = true := decide_eq_true c4
   clear c4
   obtain ⟨bq5, hbq5⟩ : ∃ b_ : Bool, b_ = (rdOf false l1 x6_1) := ⟨_, rfl⟩
   replace H : (if bq5 = true then ((flyballref01_Shl.f k1 l0 x6_1).bind fun t477 => ((flyballref01_Add.f k1 x5_1 t477).bind fun t480 => (flyballref01_Mul.l0 k1 l0 l1 t480 (wrap64 (x6_1 + 1))))) else (flyballref01_Mul.l0 k1 l0 l1 x5_1 (wrap64 (x6_1 + 1)))) = some r := by rw [← hbq5] at H; exact H
   have Nbq5 := Aside0.mk hbq5
   clear hbq5
   by_cases c6 : bq5 = true
   case neg =>
    replace c6 := Bool.eq_false_iff.mpr c6
    subst c6
    have H1 : (flyballref01_Mul.l0 k1 l0 l1 x5_1 (wrap64 (x6_1 + 1))) = some r := by rw [if_neg (show ¬ (false = true) by decide)] at H; exact H
    clear H
    have H := H1
    clear H1
    have H' := Aside0.mk H
    clear H
    have p476 : 0 ≤ (x6_1 : Int) := of_decide_eq_true (by first | (with_reducible assumption) | assumption)
    have q476 : x6_1 < (l1.length : Int) := of_decide_eq_true (by first | (with_reducible assumption) | assumption)
    obtain ⟨ad476, e476, hx476_0⟩ := Kd.at_bool HR1.out x6_1 p476 q476
    (try rw [← Nbq5.out] at hx476_0)
    cases e476
    replace hx476_0 := (HB.out.cell (World.block_lt_of_cell? w _ hx476_0)).trans hx476_0
    replace p476 := eq_true p476
    replace q476 := eq_true q476
    go_wp2
    go_roundg k1
    case measure => have := HK1.out; omega
    case rel => exact ⟨(x5_1), (wrap64 (x6_1 + 1)), (sh_), H', ⟨by have := HK1.out; omega⟩, ⟨by (with_reducible repeat (first | apply ra_ | apply rn_ | apply rd_)); exact HO_5.out⟩, ⟨bh_⟩⟩
   subst c6
   have H1 : ((flyballref01_Shl.f k1 l0 x6_1).bind fun t477 => ((flyballref01_Add.f k1 x5_1 t477).bind fun t480 => (flyballref01_Mul.l0 k1 l0 l1 t480 (wrap64 (x6_1 + 1))))) = some r := by rw [if_pos rfl] at H; exact H
   clear H
   have H := H1
   clear H1
   replace H := Option.bind_eq_some_iff.mp H
   obtain ⟨t477, A70, H⟩ := H
   replace H : ((flyballref01_Add.f k1 x5_1 t477).bind fun t480 => (flyballref01_Mul.l0 k1 l0 l1 t480 (wrap64 (x6_1 + 1)))) = some r := H
   have A7 := Aside0.mk A70
   clear A70
   replace H := Option.bind_eq_some_iff.mp H
   obtain ⟨t480, A80, H⟩ := H
   replace H : (flyballref01_Mul.l0 k1 l0 l1 t480 (wrap64 (x6_1 + 1))) = some r := H
   have A8 := Aside0.mk A80
   clear A80
   have H' := Aside0.mk H
   clear H
   have p476 : 0 ≤ (x6_1 : Int) := of_decide_eq_true (by first | (with_reducible assumption) | assumption)
   have q476 : x6_1 < (l1.length : Int) := of_decide_eq_true (by first | (with_reducible assumption) | assumption)
   obtain ⟨ad476, e476, hx476_0⟩ := Kd.at_bool HR1.out x6_1 p476 q476
   (try rw [← Nbq5.out] at hx476_0)
   cases e476
   replace hx476_0 := (HB.out.cell (World.block_lt_of_cell? w _ hx476_0)).trans hx476_0
   replace p476 := eq_true p476
   replace q476 := eq_true q476
   go_wp2_with (first | ((with_reducible refine gc_ 47 rfl ?_); refine gM_ (some 20) Try.func47 [.slice A0 l0.length c0, .int .i64 x6_1] ?_; (with_reducible refine (flyballref01_Shl.calls k1 _ _ l0 x6_1 t477 _ ?side1 ?side2 A7.out).mono ?_); (case side1 => exact ch_ HR0.out); (case side2 => exact HC0.out); rintro e w9 ⟨v478, rfl, ho0, hb⟩; refine ⟨_, rfl, ?_⟩; have n0_ := Aside0.mk (Kd.R_elder' (by (with_reducible repeat (first | apply ra_ | apply rn_ | apply rd_)); exact HO_5.out) (Kd.R_base ho0) hb); have n1_ := Aside0.mk (Kd.R_lower (Kd.R_new' ho0 (Kd.R_lt (by (with_reducible repeat (first | apply ra_ | apply rn_ | apply rd_)); exact HO_5.out))) (below_size bh_)); have n2_ := bq_ hb; clear HO_5 HB; have HO_5 := n0_; have HO479 := n1_; have HB := n2_; clear n0_ n1_ n2_; skip; obtain ⟨Ao10, co10, eo10⟩ := Kd.R_slice HO_5.out; subst eo10; obtain ⟨Ao11, co11, eo11⟩ := Kd.R_slice HO479.out; subst eo11) | ((with_reducible refine gc_ 54 rfl ?_); refine gM_ (some 21) Try.func54 [.slice Ao10 x5_1.length co10, .slice Ao11 t477.length co11] ?_; (with_reducible refine (flyballref01_Add.calls k1 _ _ x5_1 _ _ t477 t480 _ ?side1 ?side2 ?side3 ?side4 A8.out).mono ?_); (case side1 => repeat first | exact (Kd.R_reads' HO_5.out).2.2 | with_reducible first | apply ca_ | apply cn_ | apply cd_); (case side2 => exact (Kd.R_reads' HO_5.out).2.1); (case side3 => repeat first | exact (Kd.R_reads' HO479.out).2.2 | with_reducible first | apply ca_ | apply cn_ | apply cd_); (case side4 => exact (Kd.R_reads' HO479.out).2.1); rintro e w12 ⟨v481, rfl, ho0, hb⟩; refine ⟨_, rfl, ?_⟩; have n0_ := Aside0.mk (Kd.R_elder' (by (with_reducible repeat (first | apply ra_ | apply rn_ | apply rd_)); exact HO_5.out) (Kd.R_base ho0) hb); have n2_ := Aside0.mk (Kd.R_lower (Kd.R_new' (Kd.R_new' ho0 (Kd.R_lt (by (with_reducible repeat (first | apply ra_ | apply rn_ | apply rd_)); exact HO_5.out))) (Kd.R_lt (by (with_reducible repeat (first | apply ra_ | apply rn_ | apply rd_)); exact HO479.out))) (below_size bh_)); have n3_ := bq_ hb; clear HO_5 HB; have HO_5 := n0_; have HO482 := n2_; have HB := n3_; clear n0_ n2_ n3_))
   go_roundg k1
   case measure => have := HK1.out; omega
   case rel => exact ⟨(t480), (wrap64 (x6_1 + 1)), (sh_), H', ⟨by have := HK1.out; omega⟩, ⟨by (with_reducible repeat (first | apply ra_ | apply rn_ | apply rd_)); exact Kd.R_mono HO482.out (fun _ hk => trivial)⟩, ⟨bh_⟩⟩

/-! ### flyballref01_Len: function 60 -/
def flyballref01_Len.l0 : Nat → List Bool → Int → Option (Int)
 | 0, _, _ => none
 | k + 1, x0, x3 => if x3 > 0 then (if 0 ≤ (wrap64 (x3 - 1)) then (if (wrap64 (x3 - 1)) < (x0.length : Int) then (if (rdOf false x0 (wrap64 (x3 - 1)) = true) then (some x3) else (flyballref01_Len.l0 k x0 (wrap64 (x3 - 1)))) else (none)) else (none)) else (some x3)
def flyballref01_Len.f (k : Nat) (l0 : List Bool) : Option (Int) := flyballref01_Len.l0 k l0 (l0.length : Int)
theorem flyballref01_Len.mono_l : ∀ k, (∀ y0 y1, LeO (flyballref01_Len.l0 k y0 y1) (flyballref01_Len.l0 (k + 1) y0 y1))
 | 0 => fun _ _ r h => by simp [flyballref01_Len.l0] at h
 | k + 1 => by
  have ih0 := flyballref01_Len.mono_l k
  ·
   intro y0 y1
   unfold flyballref01_Len.l0
   repeat' with_reducible first | exact ih0 _ _ | exact LeO.refl _ | exact LeO.none _ | refine LeO.ite ?_ ?_ | refine LeO.bind ?_ (fun _ => ?_)
theorem flyballref01_Len.mono : ∀ a0 k, LeO (flyballref01_Len.f k a0) (flyballref01_Len.f (k + 1) a0) := by
 intro a0 k
 have ih0 := flyballref01_Len.mono_l k
 unfold flyballref01_Len.f
 repeat' with_reducible first | exact ih0 _ _ | exact LeO.refl _ | exact LeO.none _ | refine LeO.ite ?_ ?_ | refine LeO.bind ?_ (fun _ => ?_)
set_option maxHeartbeats 8000000 in
set_option maxRecDepth 100000 in
theorem flyballref01_Len.calls (k : Nat) (A0 : Option Addr) (c0 : Nat) (l0 : List Bool) (r : Int) (w : World) (hr0 : Kd.C Kd.bool w A0 l0.length l0) (hc0 : l0.length ≤ c0) (h : flyballref01_Len.f k l0 = some r) :
  Calls Try.prog 60 #[.slice A0 l0.length c0] w fun e w' => e = .returned (.int .i64 r) ∧ Drawn0 w w' := by
 have HR0 := Aside0.mk hr0
 have HC0 := Aside0.mk hc0
 clear hr0 hc0
 have H : (flyballref01_Len.l0 k l0 (l0.length : Int)) = some r := h
 clear h
 have H' := Aside0.mk H
 clear H
 go_enter Try.func60, Try.ntmps60
 go_wp2
 (try simp only [Act.put, List.setIfInBounds_toArray, List.set_cons_zero, List.set_cons_succ])
 go_loopg [3] k (fun kq v3 w' => ∃ (x3_1 : Int), v3 = .int .i64 x3_1 ∧ Aside0 (flyballref01_Len.l0 kq l0 x3_1 = some r) ∧ Aside0 (kq ≤ k) ∧ Drawn0 w w')
 case atStart => exact ⟨((l0.length : Int)), (sh_), H', ⟨Nat.le_refl _⟩, dh_⟩
 case round =>
  clear H'
  obtain ⟨x3_1, rfl, HA, HK1, ⟨m1, rfl⟩⟩ := hrel
  cases gk with
  | zero => exact absurd HA.out (by simp [flyballref01_Len.l0])
  | succ k1 =>
   have H := HA.out
   clear HA
   simp only [flyballref01_Len.l0] at H
   by_cases c2 : x3_1 > 0
   case neg =>
    rw [if_neg c2] at H
    have c2b0 : decide (0 < x3_1) = false := decide_eq_false c2
    clear c2
    obtain rfl := Option.some.inj H
    go_wp2
    go_ret
    exact ⟨sh_, dh_⟩
   rw [if_pos c2] at H
   have c2b0 : decide (0 < x3_1) = true := decide_eq_true c2
   clear c2
   obtain ⟨ji3, hji3⟩ : ∃ j_ : Int, (wrap64 (x3_1 - 1)) = j_ := ⟨_, rfl⟩
   replace H : (if 0 ≤ (ji3) then (if (ji3) < (l0.length : Int) then (if (rdOf false l0 (ji3) = true) then (some x3_1) else (flyballref01_Len.l0 k1 l0 ji3)) else (none)) else (none)) = some r := by first | (rw [hji3] at H; exact H) | (simp only [hji3] at H ⊢; exact H)
   have hji3w : (IntKind.i64.wrap (x3_1 - 1)) = ji3 := (i64_w _).trans hji3
   by_cases c4 : 0 ≤ (ji3)
   case neg =>
    rw [if_neg c4] at H
    exact absurd H (by simp)
   rw [if_pos c4] at H
   have c4b0 : decide (0 ≤ (ji3)) = true := decide_eq_true c4
   clear c4
   by_cases c5 : (ji3) < (l0.length : Int)
   case neg =>
    rw [if_neg c5] at H
    exact absurd H (by simp)
   rw [if_pos c5] at H
   have c5b0 : decide ((ji3) < (l0.length : Int)) = true := decide_eq_true c5
   clear c5
   obtain ⟨bq6, hbq6⟩ : ∃ b_ : Bool, b_ = (rdOf false l0 (ji3)) := ⟨_, rfl⟩
   replace H : (if (bq6 = true) then (some x3_1) else (flyballref01_Len.l0 k1 l0 ji3)) = some r := by rw [← hbq6] at H; exact H
   have Nbq6 := Aside0.mk hbq6
   clear hbq6
   by_cases c7 : (bq6 = true)
   case pos =>
    subst c7
    have H1 : (some x3_1) = some r := by rw [if_pos rfl] at H; exact H
    clear H
    have H := H1
    clear H1
    obtain rfl := Option.some.inj H
    have p544 : 0 ≤ ((ji3) : Int) := of_decide_eq_true (by first | (with_reducible assumption) | assumption)
    have q544 : (ji3) < (l0.length : Int) := of_decide_eq_true (by first | (with_reducible assumption) | assumption)
    obtain ⟨ad544, e544, hx544_0⟩ := Kd.at_bool HR0.out (ji3) p544 q544
    (try rw [← Nbq6.out] at hx544_0)
    cases e544
    replace p544 := eq_true p544
    replace q544 := eq_true q544
    go_wp2
    go_ret
    exact ⟨by first | rfl | (simp; done) | (simp only [← hji3] <;> (first | rfl | simp)) | (simp [*]; done), dh_⟩
   replace c7 := Bool.eq_false_iff.mpr c7
   subst c7
   have H1 : (flyballref01_Len.l0 k1 l0 ji3) = some r := by rw [if_neg (show ¬ (false = true) by decide)] at H; exact H
   clear H
   have H := H1
   clear H1
   have H' := Aside0.mk H
   clear H
   have p544 : 0 ≤ ((ji3) : Int) := of_decide_eq_true (by first | (with_reducible assumption) | assumption)
   have q544 : (ji3) < (l0.length : Int) := of_decide_eq_true (by first | (with_reducible assumption) | assumption)
   obtain ⟨ad544, e544, hx544_0⟩ := Kd.at_bool HR0.out (ji3) p544 q544
   (try rw [← Nbq6.out] at hx544_0)
   cases e544
   replace p544 := eq_true p544
   replace q544 := eq_true q544
   go_wp2
   go_roundg k1
   case measure => have := HK1.out; omega
   case rel => exact ⟨(ji3), (by first | rfl | (simp; done) | (simp only [← hji3] <;> (first | rfl | simp)) | (simp [*]; done)), H', ⟨by have := HK1.out; omega⟩, dh_⟩

/-! ### flyballref01_Sub: function 111 -/
def flyballref01_Sub.l0 : Nat → List Bool → List Bool → Int → List Bool → Bool → Int → Option (List Bool × Bool)
  | 0, _, _, _, _, _, _ => none
  | k + 1, x0, x1, x2, x8, x9, x10 => if x10 < x2 then ((flyballref01_bit.f x0 x10).bind fun t558 => ((flyballref01_bit.f x1 x10).bind fun t559 => (if x8.length < 140737488355328 then ((some (x8 ++ [((t558 != t559) != x9)] : List Bool)).bind fun y560 => (if t558 = true then (if t559 = true then (flyballref01_Sub.l0 k x0 x1 x2 y560 x9 (wrap64 (x10 + 1))) else (flyballref01_Sub.l0 k x0 x1 x2 y560 false (wrap64 (x10 + 1)))) else (if t559 = true then (flyballref01_Sub.l0 k x0 x1 x2 y560 true (wrap64 (x10 + 1))) else (if x9 = true then (flyballref01_Sub.l0 k x0 x1 x2 y560 true (wrap64 (x10 + 1))) else (flyballref01_Sub.l0 k x0 x1 x2 y560 false (wrap64 (x10 + 1))))))) else (none)))) else (some (x8, x9))
def flyballref01_Sub.f (k : Nat) (l0 : List Bool) (l1 : List Bool) (a2 : Int) : Option (List Bool × Bool) := flyballref01_Sub.l0 k l0 l1 a2 ([] : List Bool) false 0
theorem flyballref01_Sub.mono_l : ∀ k, (∀ y0 y1 y2 y3 y4 y5, LeO (flyballref01_Sub.l0 k y0 y1 y2 y3 y4 y5) (flyballref01_Sub.l0 (k + 1) y0 y1 y2 y3 y4 y5))
  | 0 => fun _ _ _ _ _ _ r h => by simp [flyballref01_Sub.l0] at h
  | k + 1 => by
    have ih0 := flyballref01_Sub.mono_l k
    · intro y0 y1 y2 y3 y4 y5
      unfold flyballref01_Sub.l0
      repeat' with_reducible first | exact ih0 _ _ _ _ _ _ | exact LeO.refl _ | exact LeO.none _ | refine LeO.ite ?_ ?_ | refine LeO.bind ?_ (fun _ => ?_)
theorem flyballref01_Sub.mono : ∀ a0 a1 a2 k, LeO (flyballref01_Sub.f k a0 a1 a2) (flyballref01_Sub.f (k + 1) a0 a1 a2) := by
  intro a0 a1 a2 k
  have ih0 := flyballref01_Sub.mono_l k
  unfold flyballref01_Sub.f
  repeat' with_reducible first | exact ih0 _ _ _ _ _ _ | exact LeO.refl _ | exact LeO.none _ | refine LeO.ite ?_ ?_ | refine LeO.bind ?_ (fun _ => ?_)
-- GIVENTEXT
set_option maxHeartbeats 8000000 in
set_option maxRecDepth 100000 in
theorem flyballref01_Sub.calls (k : Nat) (A0 : Option Addr) (c0 : Nat) (l0 : List Bool) (A1 : Option Addr) (c1 : Nat) (l1 : List Bool) (a2 : Int) (r1 : List Bool) (r2 : Bool) (w : World) (hr0 : Kd.C Kd.bool w A0 l0.length l0) (hc0 : l0.length ≤ c0) (hr1 : Kd.C Kd.bool w A1 l1.length l1) (hc1 : l1.length ≤ c1) (h : flyballref01_Sub.f k l0 l1 a2 = some (r1, r2)) :
    Calls Try.prog 111 #[.slice A0 l0.length c0, .slice A1 l1.length c1, .int .i64 a2] w fun e w' => ∃ v0_ : Value, e = .returned (.tuple #[v0_, .bool r2]) ∧ Kd.R Kd.bool 4 w' w.heap.size (fun _ => True) v0_ r1 ∧ Below w.heap.size w w' := by
 have HR0 := Aside0.mk hr0
 have HC0 := Aside0.mk hc0
 clear hr0 hc0
 have HR1 := Aside0.mk hr1
 have HC1 := Aside0.mk hc1
 clear hr1 hc1
 have HB := Aside0.mk (Below.refl w.heap.size w)
 have H : (flyballref01_Sub.l0 k l0 l1 a2 ([] : List Bool) false 0) = some (r1, r2) := h
 clear h
 have H' := Aside0.mk H
 clear H
 go_enter Try.func111, Try.ntmps111
 go_wp2
 (try simp only [Act.put, List.setIfInBounds_toArray, List.set_cons_zero, List.set_cons_succ])
 go_loopg [8, 9, 10] k (fun kq v8 v9 v10 w' => ∃ (x8_1 : List Bool) (x9_1 : Bool) (x10_1 : Int), v9 = .bool x9_1 ∧ v10 = .int .i64 x10_1 ∧ Aside0 (flyballref01_Sub.l0 kq l0 l1 a2 x8_1 x9_1 x10_1 = some (r1, r2)) ∧ Aside0 (kq ≤ k) ∧ Aside0 (Kd.R Kd.bool 4 w' w.heap.size (fun _ => True) v8 x8_1) ∧ Aside0 (Below w.heap.size w w'))
 case atStart => exact ⟨(([] : List Bool)), (false), (0), (sh_), (sh_), H', ⟨Nat.le_refl _⟩, ⟨by first | exact Kd.R_nil _ _ _ _ _ | exact Kd.N_nil _ _ _ _ _ | exact Kd.V_nil _ _ _ _ _ | exact Kd.Q_nil _ _ _ _ _ | exact Kd.S_nil _ _ _ _ _⟩, ⟨bh_⟩⟩
 case round =>
  clear H'
  try clear c1
  try clear p2
  obtain ⟨x8_1, x9_1, x10_1, rfl, rfl, HA, HK1, HO_8, HB⟩ := hrel
  cases gk with
  | zero => exact absurd HA.out (by simp [flyballref01_Sub.l0])
  | succ k1 =>
   have H := HA.out
   clear HA
   simp only [flyballref01_Sub.l0] at H
   by_cases c4 : x10_1 < a2
   case neg =>
    rw [if_neg c4] at H
    have c4b0 : decide (x10_1 < a2) = false := decide_eq_false c4
    clear c4
    simp only [Option.some.injEq, Prod.mk.injEq] at H
    obtain ⟨rfl, rfl⟩ := H
    go_wp2
    go_ret2
    exact ⟨_, eh_, by (with_reducible repeat (first | apply ra_ | apply rn_ | apply rd_)); exact HO_8.out, bh_⟩
   rw [if_pos c4] at H
   have c4b0 : decide (x10_1 < a2) = true := decide_eq_true c4
   clear c4
   replace H := Option.bind_eq_some_iff.mp H
   obtain ⟨t542, A50, H⟩ := H
   replace H : ((flyballref01_bit.f l1 x10_1).bind fun t543 => (if x8_1.length < 140737488355328 then ((some (x8_1 ++ [((t542 != t543) != x9_1)] : List Bool)).bind fun y544 => (if t542 = true then (if t543 = true then (flyballref01_Sub.l0 k1 l0 l1 a2 y544 x9_1 (wrap64 (x10_1 + 1))) else (flyballref01_Sub.l0 k1 l0 l1 a2 y544 false (wrap64 (x10_1 + 1)))) else (if t543 = true then (flyballref01_Sub.l0 k1 l0 l1 a2 y544 true (wrap64 (x10_1 + 1))) else (if x9_1 = true then (flyballref01_Sub.l0 k1 l0 l1 a2 y544 true (wrap64 (x10_1 + 1))) else (flyballref01_Sub.l0 k1 l0 l1 a2 y544 false (wrap64 (x10_1 + 1))))))) else (none))) = some (r1, r2) := H
   have A5 := Aside0.mk A50
   clear A50
   replace H := Option.bind_eq_some_iff.mp H
   obtain ⟨t543, A60, H⟩ := H
   replace H : (if x8_1.length < 140737488355328 then ((some (x8_1 ++ [((t542 != t543) != x9_1)] : List Bool)).bind fun y544 => (if t542 = true then (if t543 = true then (flyballref01_Sub.l0 k1 l0 l1 a2 y544 x9_1 (wrap64 (x10_1 + 1))) else (flyballref01_Sub.l0 k1 l0 l1 a2 y544 false (wrap64 (x10_1 + 1)))) else (if t543 = true then (flyballref01_Sub.l0 k1 l0 l1 a2 y544 true (wrap64 (x10_1 + 1))) else (if x9_1 = true then (flyballref01_Sub.l0 k1 l0 l1 a2 y544 true (wrap64 (x10_1 + 1))) else (flyballref01_Sub.l0 k1 l0 l1 a2 y544 false (wrap64 (x10_1 + 1))))))) else (none)) = some (r1, r2) := H
   have A6 := Aside0.mk A60
   clear A60
   by_cases c7 : x8_1.length < 140737488355328
   case neg =>
    rw [if_neg c7] at H
    exact absurd H (by simp)
   rw [if_pos c7] at H
   have LMc7 := Aside0.mk c7
   clear c7
   obtain ⟨y544, hy544⟩ : ∃ y_ : List Bool, y_ = (x8_1 ++ [((t542 != t543) != x9_1)]) := ⟨_, rfl⟩
   replace H : (if t542 = true then (if t543 = true then (flyballref01_Sub.l0 k1 l0 l1 a2 y544 x9_1 (wrap64 (x10_1 + 1))) else (flyballref01_Sub.l0 k1 l0 l1 a2 y544 false (wrap64 (x10_1 + 1)))) else (if t543 = true then (flyballref01_Sub.l0 k1 l0 l1 a2 y544 true (wrap64 (x10_1 + 1))) else (if x9_1 = true then (flyballref01_Sub.l0 k1 l0 l1 a2 y544 true (wrap64 (x10_1 + 1))) else (flyballref01_Sub.l0 k1 l0 l1 a2 y544 false (wrap64 (x10_1 + 1)))))) = some (r1, r2) := by first | (rw [hy544]; with_reducible exact H) | (have H2_ := (Option.bind_some _ _).symm.trans H; rw [hy544]; with_reducible exact H2_) | (have H2_ := (Option.bind_some _ _).symm.trans H; with_reducible exact H2_) | with_reducible exact H | (rw [hy544]; exact H) | exact H
   have Ny544 := Aside0.mk hy544
   clear hy544
   have Ny0 : y544 = x8_1 ++ [(!((!(t542 == t543)) == x9_1))] := Ny544.out
   clear Ny544
   have Ny544 := Aside0.mk Ny0
   clear Ny0
   have H' := Aside0.mk H
   clear H
   go_wp2_with (first | ((with_reducible refine gc_ 81 rfl ?_); refine gM_ (some 20) Try.func81 [.slice A0 l0.length c0, .int .i64 x10_1] ?_; (with_reducible refine (flyballref01_bit.calls _ _ l0 x10_1 t542 _ ?side1 ?side2 A5.out).mono ?_); (case side1 => exact ch_ HR0.out); (case side2 => exact HC0.out); rintro e w' ⟨rfl, ⟨nd, rfl⟩⟩; refine ⟨_, rfl, ?_⟩) | ((with_reducible refine gc_ 81 rfl ?_); refine gM_ (some 23) Try.func81 [.slice A1 l1.length c1, .int .i64 x10_1] ?_; (with_reducible refine (flyballref01_bit.calls _ _ l1 x10_1 t543 _ ?side1 ?side2 A6.out).mono ?_); (case side1 => repeat (first | exact (Kd.C_below HR1.out bh_) | (with_reducible refine Kd.C_alloc ?_ _) | (with_reducible refine Kd.C_drewN ?_ _) | (with_reducible refine Kd.C_drew ?_))); (case side2 => exact HC1.out); rintro e w' ⟨rfl, ⟨nd, rfl⟩⟩; refine ⟨_, rfl, ?_⟩) | ((with_reducible refine gate_builtin (b := .append) (xs := #[.tmp 24, .tmp 30]) rfl ?_); at_builtin; refine Kd.R_append Kd.bool (w0 := w) w.heap.size rfl (.tmp 24) (.tmp 30) 43 4 (.bool false) 1 rfl Try.underlying43 info4 rfl (by decide) (by omega) u8 x8_1 (!((!(t542 == t543)) == x9_1)) [.bool (!((!(t542 == t543)) == x9_1))] (fun _ => True) (fun _ => False) rfl rfl ?aP (fun _ hk => hk.elim) ?aF ?aO ?aB ?aS ?aL ?_; (case aP => exact rfl); (case aB => exact bh_); (case aF => exact (fun _ _ => trivial)); (case aO => exact (by (with_reducible repeat (first | apply ra_ | apply rn_ | apply rd_)); exact HO_8.out)); (case aS => exact (below_size bh_)); (case aL => have := LMc7.out; omega); intro v545 w10 ho hb hg hat; rw [← Ny544.out] at ho; replace HB := Aside0.mk (hb); have HO546 := Aside0.mk (ho); clear ho hb hg hat))
   all_goals
    have H := H'.out
    repeat' split at H
    all_goals first
     | contradiction
     | (go_roundg k1
        case measure => have := HK1.out; omega
        case rel => exact ⟨y544, _, (wrap64 (x10_1 + 1)), (by rfl), (by rfl), ⟨H⟩, ⟨by have := HK1.out; omega⟩, ⟨by (with_reducible repeat (first | apply ra_ | apply rn_ | apply rd_)); exact HO546.out⟩, ⟨bh_⟩⟩)

/-! ### flyballref01_Div: function 94 -/
def flyballref01_Div.l0 : Nat → List Bool → List Bool → List Bool → List Bool → Int → Option (List Bool × List Bool)
  | 0, _, _, _, _, _ => none
  | k + 1, x0, x1, x6, x7, x8 => if x8 ≥ 0 then (if 0 ≤ x8 then (if x8 < (x0.length : Int) then ((some (([rdOf false x0 x8] : List Bool) : List Bool)).bind fun y567 => (if y567.length + x7.length < 140737488355328 then ((some (y567 ++ x7 : List Bool)).bind fun y570 => ((flyballref01_Cmp.f k y570 x1).bind fun t573 => (if t573 ≥ 0 then ((flyballref01_Sub.f k y570 x1 (y570.length : Int)).bind fun bt574 => (if x8 < (x6.length : Int) then ((flyballref01_Len.f k bt574.1).bind fun t579 => (if 0 ≤ t579 then (if t579 ≤ (bt574.1.length : Int) then (flyballref01_Div.l0 k x0 x1 (x6.set (x8 : Int).toNat true) (bt574.1.take (t579 : Int).toNat) (wrap64 (x8 - 1))) else (none)) else (none))) else (none))) else ((flyballref01_Len.f k y570).bind fun t583 => (if 0 ≤ t583 then (if t583 ≤ (y570.length : Int) then (flyballref01_Div.l0 k x0 x1 x6 (y570.take (t583 : Int).toNat) (wrap64 (x8 - 1))) else (none)) else (none)))))) else (none))) else (none)) else (none)) else (some (x6, x7))
def flyballref01_Div.f (k : Nat) (l0 : List Bool) (l1 : List Bool) : Option (List Bool × List Bool) := if 0 ≤ (l0.length : Int) then (if ((l0.length : Int) : Int).toNat ≤ 281474976710656 then (flyballref01_Div.l0 k l0 l1 (List.replicate ((l0.length : Int) : Int).toNat false) ([] : List Bool) (wrap64 ((l0.length : Int) - 1))) else (none)) else (none)
theorem flyballref01_Div.mono_l : ∀ k, (∀ y0 y1 y2 y3 y4, LeO (flyballref01_Div.l0 k y0 y1 y2 y3 y4) (flyballref01_Div.l0 (k + 1) y0 y1 y2 y3 y4))
  | 0 => fun _ _ _ _ _ r h => by simp [flyballref01_Div.l0] at h
  | k + 1 => by
    have ih0 := flyballref01_Div.mono_l k
    · intro y0 y1 y2 y3 y4
      unfold flyballref01_Div.l0
      repeat' with_reducible first | exact ih0 _ _ _ _ _ | exact flyballref01_Cmp.mono _ _ _ | exact flyballref01_Len.mono _ _ | exact flyballref01_Sub.mono _ _ _ _ | exact LeO.refl _ | exact LeO.none _ | refine LeO.ite ?_ ?_ | refine LeO.bind ?_ (fun _ => ?_)
theorem flyballref01_Div.mono : ∀ a0 a1 k, LeO (flyballref01_Div.f k a0 a1) (flyballref01_Div.f (k + 1) a0 a1) := by
  intro a0 a1 k
  have ih0 := flyballref01_Div.mono_l k
  unfold flyballref01_Div.f
  repeat' with_reducible first | exact ih0 _ _ _ _ _ | exact flyballref01_Cmp.mono _ _ _ | exact flyballref01_Len.mono _ _ | exact flyballref01_Sub.mono _ _ _ _ | exact LeO.refl _ | exact LeO.none _ | refine LeO.ite ?_ ?_ | refine LeO.bind ?_ (fun _ => ?_)
-- GIVENTEXT
theorem own_ne {A : Option Addr} {n c m d k : Nat} (h : some k ≠ (Value.slice A n c).ownBlock) : some k ≠ (Value.slice A m d).ownBlock := by cases A <;> exact h
theorem flyballref01_Div.cmp_calls (k : Nat) (A0 : Option Addr) (c0 : Nat) (l0 : List Bool) (A1 : Option Addr) (c1 : Nat) (l1 : List Bool) (r : Int) (w : World) (hr0 : Kd.C Kd.bool w A0 l0.length l0) (hc0 : l0.length ≤ c0) (hr1 : Kd.C Kd.bool w A1 l1.length l1) (hc1 : l1.length ≤ c1) (h : flyballref01_Cmp.f k l0 l1 = some r) :
  Calls Try.prog 48 #[.slice A0 l0.length c0, .slice A1 l1.length c1] w fun e w' => e = .returned (.int .i64 r) ∧ Below w.heap.size w w' :=
 (flyballref01_Cmp.calls k A0 c0 l0 A1 c1 l1 r w hr0 hc0 hr1 hc1 h).mono fun _ _ h_ => ⟨h_.1, h_.2.below⟩
set_option maxHeartbeats 8000000 in
set_option maxRecDepth 100000 in
theorem flyballref01_Div.calls (k : Nat) (A0 : Option Addr) (c0 : Nat) (l0 : List Bool) (A1 : Option Addr) (c1 : Nat) (l1 : List Bool) (r1 : List Bool) (r2 : List Bool) (w : World) (hr0 : Kd.C Kd.bool w A0 l0.length l0) (hc0 : l0.length ≤ c0) (hr1 : Kd.C Kd.bool w A1 l1.length l1) (hc1 : l1.length ≤ c1) (h : flyballref01_Div.f k l0 l1 = some (r1, r2)) :
    Calls Try.prog 94 #[.slice A0 l0.length c0, .slice A1 l1.length c1] w fun e w' => ∃ v0_ v1_ : Value, e = .returned (.tuple #[v0_, v1_]) ∧ Kd.R Kd.bool 4 w' w.heap.size (fun k_ => some k_ ≠ (v1_ : Value).ownBlock) v0_ r1 ∧ Kd.R Kd.bool 4 w' w.heap.size (fun k_ => some k_ ≠ (v0_ : Value).ownBlock) v1_ r2 ∧ Below w.heap.size w w' := by
 have HR0 := Aside0.mk hr0
 have HC0 := Aside0.mk hc0
 clear hr0 hc0
 have HR1 := Aside0.mk hr1
 have HC1 := Aside0.mk hc1
 clear hr1 hc1
 have HB := Aside0.mk (Below.refl w.heap.size w)
 have H : (if 0 ≤ (l0.length : Int) then (if ((l0.length : Int) : Int).toNat ≤ 281474976710656 then (flyballref01_Div.l0 k l0 l1 (List.replicate ((l0.length : Int) : Int).toNat false) ([] : List Bool) (wrap64 ((l0.length : Int) - 1))) else (none)) else (none)) = some (r1, r2) := h
 clear h
 by_cases c3 : 0 ≤ (l0.length : Int)
 case neg =>
  rw [if_neg c3] at H
  exact absurd H (by simp)
 rw [if_pos c3] at H
 have c3b0 := eq_true c3
 have c3b1 : decide (0 ≤ (l0.length : Int)) = true := decide_eq_true c3
 clear c3
 by_cases c4 : ((l0.length : Int) : Int).toNat ≤ 281474976710656
 case neg =>
  rw [if_neg c4] at H
  exact absurd H (by simp)
 rw [if_pos c4] at H
 have c4b0 := eq_true c4
 have c4b1 : decide (((l0.length : Int) : Int).toNat ≤ 281474976710656) = true := decide_eq_true c4
 clear c4
 obtain ⟨y547, hy547⟩ : ∃ y_ : List Bool, y_ = (List.replicate ((l0.length : Int) : Int).toNat false) := ⟨_, rfl⟩
 replace H : (flyballref01_Div.l0 k l0 l1 y547 ([] : List Bool) (wrap64 ((l0.length : Int) - 1))) = some (r1, r2) := by first | (rw [hy547]; with_reducible exact H) | (have H2_ := (Option.bind_some _ _).symm.trans H; rw [hy547]; with_reducible exact H2_) | (have H2_ := (Option.bind_some _ _).symm.trans H; with_reducible exact H2_) | with_reducible exact H | (rw [hy547]; exact H) | exact H
 have Ny547 := Aside0.mk hy547
 clear hy547
 have H' := Aside0.mk H
 clear H
 go_enter Try.func94, Try.ntmps94
 go_wp2_with (first | ((with_reducible refine gate_dst (N := 12) rfl ?_); refine Kd.R_make Kd.bool _ 4 rfl (N := 12) rfl 43 _ _ rfl (l0.length : Int) rfl rfl Try.underlying43 (.bool false) 1 info4 rfl (by decide) (by omega) false (ok := fun _ => True) (okp := fun _ => True) rfl (fun _ hk => hk) trivial (of_decide_eq_true (by first | (with_reducible assumption) | assumption)) (Nat.le_trans (Nat.mul_le_mul_right _ (of_decide_eq_true (by first | (with_reducible assumption) | assumption) : (l0.length : Int).toNat ≤ 281474976710656)) (by omega)) (Below.refl _ _) (Nat.le_refl _) ?_; intro v548 w5 ho6 hb hg_ hnew_; clear hg_ hnew_; (first | rw [← Ny547.out] at ho6 | (simp only [Int.reduceToNat] at ho6; rw [← Ny547.out] at ho6)); have HO549 := Aside0.mk (Kd.R_lower ho6 (below_size bh_)); replace HB := bq_ hb; clear hb ho6))
 (try simp only [Act.put, List.setIfInBounds_toArray, List.set_cons_zero, List.set_cons_succ])
 go_loopg [7, 8] k (fun kq v7 v8 w' => ∃ (x6_1 : List Bool) (x7_1 : List Bool) (x8_1 : Int), v8 = .int .i64 x8_1 ∧ Aside0 (flyballref01_Div.l0 kq l0 l1 x6_1 x7_1 x8_1 = some (r1, r2)) ∧ Aside0 (kq ≤ k) ∧ Aside0 (Kd.R Kd.bool 4 w' w.heap.size (fun k_ => some k_ ≠ (v7 : Value).ownBlock) v548 x6_1) ∧ Aside0 (Kd.R Kd.bool 4 w' w.heap.size (fun k_ => some k_ ≠ (v548 : Value).ownBlock) v7 x7_1) ∧ Aside0 (Below w.heap.size w w'))
 case atStart => exact ⟨(y547), (([] : List Bool)), (wrap64 ((l0.length : Int) - 1)), (sh_), H', ⟨Nat.le_refl _⟩, ⟨by (with_reducible repeat (first | apply ra_ | apply rn_ | apply rd_)); exact Kd.R_mono HO549.out (fun _ hk => (by simp [Value.ownBlock]))⟩, ⟨by first | exact Kd.R_nil _ _ _ _ _ | exact Kd.N_nil _ _ _ _ _ | exact Kd.V_nil _ _ _ _ _ | exact Kd.Q_nil _ _ _ _ _ | exact Kd.S_nil _ _ _ _ _⟩, ⟨bh_⟩⟩
 case round =>
  clear H'
  try clear c1
  try clear p2
  try clear c3
  try clear c3b0
  try clear c3b1
  try clear c4
  try clear c4b0
  try clear c4b1
  try clear p6
  obtain ⟨x6_1, x7_1, x8_1, rfl, HA, HK1, HO_6, HO_7, HB⟩ := hrel
  cases gk with
  | zero => exact absurd HA.out (by simp [flyballref01_Div.l0])
  | succ k1 =>
   have H := HA.out
   clear HA
   simp only [flyballref01_Div.l0] at H
   by_cases c7 : x8_1 ≥ 0
   case neg =>
    rw [if_neg c7] at H
    have c7b0 : decide (0 ≤ x8_1) = false := decide_eq_false c7
    clear c7
    simp only [Option.some.injEq, Prod.mk.injEq] at H
    obtain ⟨rfl, rfl⟩ := H
    go_wp2
    go_ret2
    exact ⟨_, _, eh_, by (with_reducible repeat (first | apply ra_ | apply rn_ | apply rd_)); exact HO_6.out, by (with_reducible repeat (first | apply ra_ | apply rn_ | apply rd_)); exact HO_7.out, bh_⟩
   rw [if_pos c7] at H
   have c7b0 : decide (0 ≤ x8_1) = true := decide_eq_true c7
   clear c7
   by_cases c8 : 0 ≤ x8_1
   case neg =>
    rw [if_neg c8] at H
    exact absurd H (by simp)
   rw [if_pos c8] at H
   have c8b0 : decide (0 ≤ x8_1) = true := decide_eq_true c8
   clear c8
   by_cases c9 : x8_1 < (l0.length : Int)
   case neg =>
    rw [if_neg c9] at H
    exact absurd H (by simp)
   rw [if_pos c9] at H
   have c9b0 : decide (x8_1 < (l0.length : Int)) = true := decide_eq_true c9
   clear c9
   obtain ⟨y551, hy551⟩ : ∃ y_ : List Bool, y_ = (([rdOf false l0 x8_1] : List Bool)) := ⟨_, rfl⟩
   replace H : (if y551.length + x7_1.length < 140737488355328 then ((some (y551 ++ x7_1 : List Bool)).bind fun y554 => ((flyballref01_Cmp.f k1 y554 l1).bind fun t557 => (if t557 ≥ 0 then ((flyballref01_Sub.f k1 y554 l1 (y554.length : Int)).bind fun bt558 => (if x8_1 < (x6_1.length : Int) then ((flyballref01_Len.f k1 bt558.1).bind fun t563 => (if 0 ≤ t563 then (if t563 ≤ (bt558.1.length : Int) then (flyballref01_Div.l0 k1 l0 l1 (x6_1.set (x8_1 : Int).toNat true) (bt558.1.take (t563 : Int).toNat) (wrap64 (x8_1 - 1))) else (none)) else (none))) else (none))) else ((flyballref01_Len.f k1 y554).bind fun t567 => (if 0 ≤ t567 then (if t567 ≤ (y554.length : Int) then (flyballref01_Div.l0 k1 l0 l1 x6_1 (y554.take (t567 : Int).toNat) (wrap64 (x8_1 - 1))) else (none)) else (none)))))) else (none)) = some (r1, r2) := by first | (rw [hy551]; with_reducible exact H) | (have H2_ := (Option.bind_some _ _).symm.trans H; rw [hy551]; with_reducible exact H2_) | (have H2_ := (Option.bind_some _ _).symm.trans H; with_reducible exact H2_) | with_reducible exact H | (rw [hy551]; exact H) | exact H
   have Ny551 := Aside0.mk hy551
   clear hy551
   by_cases c10 : y551.length + x7_1.length < 140737488355328
   case neg =>
    rw [if_neg c10] at H
    exact absurd H (by simp)
   rw [if_pos c10] at H
   have LMc10 := Aside0.mk c10
   clear c10
   obtain ⟨y554, hy554⟩ : ∃ y_ : List Bool, y_ = (y551 ++ x7_1) := ⟨_, rfl⟩
   replace H : ((flyballref01_Cmp.f k1 y554 l1).bind fun t557 => (if t557 ≥ 0 then ((flyballref01_Sub.f k1 y554 l1 (y554.length : Int)).bind fun bt558 => (if x8_1 < (x6_1.length : Int) then ((flyballref01_Len.f k1 bt558.1).bind fun t563 => (if 0 ≤ t563 then (if t563 ≤ (bt558.1.length : Int) then (flyballref01_Div.l0 k1 l0 l1 (x6_1.set (x8_1 : Int).toNat true) (bt558.1.take (t563 : Int).toNat) (wrap64 (x8_1 - 1))) else (none)) else (none))) else (none))) else ((flyballref01_Len.f k1 y554).bind fun t567 => (if 0 ≤ t567 then (if t567 ≤ (y554.length : Int) then (flyballref01_Div.l0 k1 l0 l1 x6_1 (y554.take (t567 : Int).toNat) (wrap64 (x8_1 - 1))) else (none)) else (none))))) = some (r1, r2) := by first | (rw [hy554]; with_reducible exact H) | (have H2_ := (Option.bind_some _ _).symm.trans H; rw [hy554]; with_reducible exact H2_) | (have H2_ := (Option.bind_some _ _).symm.trans H; with_reducible exact H2_) | with_reducible exact H | (rw [hy554]; exact H) | exact H
   have Ny554 := Aside0.mk hy554
   clear hy554
   replace H := Option.bind_eq_some_iff.mp H
   obtain ⟨t557, A110, H⟩ := H
   replace H : (if t557 ≥ 0 then ((flyballref01_Sub.f k1 y554 l1 (y554.length : Int)).bind fun bt558 => (if x8_1 < (x6_1.length : Int) then ((flyballref01_Len.f k1 bt558.1).bind fun t563 => (if 0 ≤ t563 then (if t563 ≤ (bt558.1.length : Int) then (flyballref01_Div.l0 k1 l0 l1 (x6_1.set (x8_1 : Int).toNat true) (bt558.1.take (t563 : Int).toNat) (wrap64 (x8_1 - 1))) else (none)) else (none))) else (none))) else ((flyballref01_Len.f k1 y554).bind fun t567 => (if 0 ≤ t567 then (if t567 ≤ (y554.length : Int) then (flyballref01_Div.l0 k1 l0 l1 x6_1 (y554.take (t567 : Int).toNat) (wrap64 (x8_1 - 1))) else (none)) else (none)))) = some (r1, r2) := H
   have A11 := Aside0.mk A110
   clear A110
   by_cases c12 : t557 ≥ 0
   case neg =>
    rw [if_neg c12] at H
    have c12b0 : decide (0 ≤ t557) = false := decide_eq_false c12
    clear c12
    replace H := Option.bind_eq_some_iff.mp H
    obtain ⟨t567, A300, H⟩ := H
    replace H : (if 0 ≤ t567 then (if t567 ≤ (y554.length : Int) then (flyballref01_Div.l0 k1 l0 l1 x6_1 (y554.take (t567 : Int).toNat) (wrap64 (x8_1 - 1))) else (none)) else (none)) = some (r1, r2) := H
    have A30 := Aside0.mk A300
    clear A300
    by_cases c31 : 0 ≤ t567
    case neg =>
     rw [if_neg c31] at H
     exact absurd H (by simp)
    rw [if_pos c31] at H
    have c31b0 := eq_true c31
    have c31b1 : decide (0 ≤ t567) = true := decide_eq_true c31
    clear c31
    by_cases c32 : t567 ≤ (y554.length : Int)
    case neg =>
     rw [if_neg c32] at H
     exact absurd H (by simp)
    rw [if_pos c32] at H
    have c32b0 := eq_true c32
    have c32b1 : decide (t567 ≤ (y554.length : Int)) = true := decide_eq_true c32
    clear c32
    obtain ⟨y568, hy568⟩ : ∃ y_ : List Bool, y_ = (y554.take (t567 : Int).toNat) := ⟨_, rfl⟩
    replace H : (flyballref01_Div.l0 k1 l0 l1 x6_1 y568 (wrap64 (x8_1 - 1))) = some (r1, r2) := by first | (rw [hy568]; with_reducible exact H) | (have H2_ := (Option.bind_some _ _).symm.trans H; rw [hy568]; with_reducible exact H2_) | (have H2_ := (Option.bind_some _ _).symm.trans H; with_reducible exact H2_) | with_reducible exact H | (rw [hy568]; exact H) | exact H
    have Ny568 := Aside0.mk hy568
    clear hy568
    have H' := Aside0.mk H
    clear H
    have p550 : 0 ≤ (x8_1 : Int) := of_decide_eq_true (by first | (with_reducible assumption) | assumption)
    have q550 : x8_1 < (l0.length : Int) := of_decide_eq_true (by first | (with_reducible assumption) | assumption)
    obtain ⟨ad550, e550, hx550_0⟩ := Kd.at_bool HR0.out x8_1 p550 q550
    cases e550
    replace hx550_0 := (HB.out.cell (World.block_lt_of_cell? w _ hx550_0)).trans hx550_0
    replace p550 := eq_true p550
    replace q550 := eq_true q550
    go_wp2_with (first | ((with_reducible refine gate_dst (N := 24) rfl ?_); refine Kd.R_lit Kd.bool _ 4 ?hg (N := 24) ?hd (xs := ([rdOf false l0 x8_1] : List Bool)) (inner := [.bool (rdOf false l0 x8_1)]) (ok := fun _ => True) (okp := fun _ => True) ?hr ?hp (fun _ hk => hk) trivial (Below.refl _ _) (Nat.le_refl _) (by simp) ?_; (case hd => rfl); (case hg => rfl); (case hr => first | (go_simp; done) | (go_simp; rfl)); (case hp => exact (Reps.one (show Kd.M Kd.bool _ _ _ (rdOf false l0 x8_1) [.bool (rdOf false l0 x8_1)] from rfl) (Reps.none _ _))); intro v552 w33 ho34 hb hg_ hnew_; clear hg_ hnew_; (first | rw [← Ny551.out] at ho34 | (simp only [Int.reduceToNat] at ho34; rw [← Ny551.out] at ho34)); have n0_ := Aside0.mk (Kd.R_elder' (by (with_reducible repeat (first | apply ra_ | apply rn_ | apply rd_)); exact HO_6.out) (Kd.R_base ho34) hb); have n1_ := Aside0.mk (Kd.R_elder' (by (with_reducible repeat (first | apply ra_ | apply rn_ | apply rd_)); exact HO_7.out) (Kd.R_base ho34) hb); have n2_ := Aside0.mk (Kd.R_lower (Kd.R_new' (Kd.R_new' ho34 (Kd.R_lt (by (with_reducible repeat (first | apply ra_ | apply rn_ | apply rd_)); exact HO_6.out))) (Kd.R_lt (by (with_reducible repeat (first | apply ra_ | apply rn_ | apply rd_)); exact HO_7.out))) (below_size bh_)); have n3_ := bq_ hb; clear HO_6 HO_7 HB; have HO_6 := n0_; have HO_7 := n1_; have HO553 := n2_; have HB := n3_; clear n0_ n1_ n2_ n3_; clear hb ho34; obtain ⟨Ao36, co36, eo36⟩ := Kd.R_slice HO_7.out; subst eo36) | ((with_reducible refine gate_builtin (b := .append) (xs := #[.tmp 25, .tmp 26]) rfl ?_); at_builtin; refine Kd.R_append_rows Kd.bool (w0 := w) w.heap.size rfl (.tmp 25) (.tmp 26) 43 4 (.bool false) 1 rfl Try.underlying43 info4 rfl (by decide) (by omega) v552 y551 x7_1 _ _ _ (fun k_ => some k_ ≠ (v548 : Value).ownBlock ∧ some k_ ≠ (.slice Ao36 x7_1.length co36 : Value).ownBlock) (fun _ => False) rfl rfl ?aO ?aR (fun _ _ h => h) (fun _ h => h.elim) ?aF ?aB ?aS ?aL ?_; (case aR => repeat first | exact (Kd.R_reads' HO_7.out).2.2 | with_reducible first | apply ca_ | apply cn_ | apply cd_); (case aB => exact bh_); (case aF => exact (fun k_ hk => ⟨Kd.fresh' (Kd.R_lt (by (with_reducible repeat (first | apply ra_ | apply rn_ | apply rd_)); exact HO_6.out)) k_ hk, Kd.fresh' (Kd.R_lt (by (with_reducible repeat (first | apply ra_ | apply rn_ | apply rd_)); exact HO_7.out)) k_ hk⟩)); (case aO => exact (by (with_reducible repeat (first | apply ra_ | apply rn_ | apply rd_)); exact Kd.R_mono HO553.out (fun _ hk => ⟨hk.1.2, hk.2⟩))); (case aS => exact (below_size bh_)); (case aL => have := LMc10.out; omega); intro v555 w35 ho hb hg hat; rw [← Ny554.out] at ho; replace HO_6 := Aside0.mk (Kd.R_after (ok := (fun k_ => some k_ ≠ (.slice Ao36 x7_1.length co36 : Value).ownBlock)) (by (with_reducible repeat (first | apply ra_ | apply rn_ | apply rd_)); exact HO_6.out) hg hat); replace HO_7 := Aside0.mk (Kd.R_after (ok := (fun k_ => some k_ ≠ (v548 : Value).ownBlock)) (by (with_reducible repeat (first | apply ra_ | apply rn_ | apply rd_)); exact HO_7.out) hg hat); replace HB := Aside0.mk (hb); have HO556 := Aside0.mk (ho); clear ho hb hg hat; obtain ⟨Ao37, co37, eo37⟩ := Kd.R_slice HO556.out; subst eo37) | ((with_reducible refine gc_ 48 rfl ?_); refine gM_ (some 31) Try.func48 [.slice Ao37 y554.length co37, .slice A1 l1.length c1] ?_; (with_reducible refine (flyballref01_Div.cmp_calls k1 _ _ y554 _ _ l1 t557 _ ?side1 ?side2 ?side3 ?side4 A11.out).mono ?_); (case side1 => repeat first | exact (Kd.R_reads' HO556.out).2.2 | with_reducible first | apply ca_ | apply cn_ | apply cd_); (case side2 => exact (Kd.R_reads' HO556.out).2.1); (case side3 => exact ch_ HR1.out); (case side4 => exact HC1.out); rintro e w38 ⟨rfl, hb⟩; refine ⟨_, rfl, ?_⟩; replace HO_6 := Aside0.mk (Kd.R_below (by (with_reducible repeat (first | apply ra_ | apply rn_ | apply rd_)); exact HO_6.out) hb); replace HO_7 := Aside0.mk (Kd.R_below (by (with_reducible repeat (first | apply ra_ | apply rn_ | apply rd_)); exact HO_7.out) hb); replace HO556 := Aside0.mk (Kd.R_below (by (with_reducible repeat (first | apply ra_ | apply rn_ | apply rd_)); exact HO556.out) hb); replace HB := bq_ hb) | ((with_reducible refine gc_ 60 rfl ?_); refine gM_ (some 46) Try.func60 [.slice Ao37 y554.length co37] ?_; (with_reducible refine (flyballref01_Len.calls k1 _ _ y554 t567 _ ?side1 ?side2 A30.out).mono ?_); (case side1 => repeat first | exact (Kd.R_reads' HO556.out).2.2 | with_reducible first | apply ca_ | apply cn_ | apply cd_); (case side2 => exact (Kd.R_reads' HO556.out).2.1); rintro e w' ⟨rfl, ⟨nd, rfl⟩⟩; refine ⟨_, rfl, ?_⟩; have q39 : (t567 : Int) ≤ ((y554.length : Int) : Int) := of_decide_eq_true (by first | (with_reducible assumption) | assumption); obtain ⟨i039, hi039, _, hsz39, _⟩ := info_parts info4; have hcut39 := cut_to (P := Try.prog) 43 4 .i64 Try.underlying43 hi039 Ao37 y554.length co37 t567 (of_decide_eq_true (by first | (with_reducible assumption) | assumption)) q39 (Kd.R_reads' HO556.out).2.1; have hr39 := Kd.R_take (m := (t567 : Int).toNat) HO556.out (by omega); have hy39 : y568.length = (t567 : Int).toNat := (by rw [Ny568.out, List.length_take]; omega); rw [← Ny568.out] at hr39; rw [← hy39] at hr39 hcut39; clear hy39 hi039 hsz39 HO556; have HO570 := Aside0.mk hr39; clear hr39; replace q39 := eq_true q39))
    go_roundg k1
    case measure => have := HK1.out; omega
    case rel => exact ⟨(x6_1), (y568), (wrap64 (x8_1 - 1)), (sh_), H', ⟨by have := HK1.out; omega⟩, ⟨by (with_reducible repeat (first | apply ra_ | apply rn_ | apply rd_)); exact Kd.R_mono HO_6.out (fun _ hk => own_ne hk.2)⟩, ⟨by (with_reducible repeat (first | apply ra_ | apply rn_ | apply rd_)); exact Kd.R_mono HO570.out (fun _ hk => hk.1)⟩, ⟨bh_⟩⟩
   rw [if_pos c12] at H
   have c12b0 : decide (0 ≤ t557) = true := decide_eq_true c12
   clear c12
   replace H := Option.bind_eq_some_iff.mp H
   obtain ⟨⟨t558, t559⟩, A130, H⟩ := H
   replace H : (if x8_1 < (x6_1.length : Int) then ((flyballref01_Len.f k1 t558).bind fun t563 => (if 0 ≤ t563 then (if t563 ≤ (t558.length : Int) then (flyballref01_Div.l0 k1 l0 l1 (x6_1.set (x8_1 : Int).toNat true) (t558.take (t563 : Int).toNat) (wrap64 (x8_1 - 1))) else (none)) else (none))) else (none)) = some (r1, r2) := H
   have A13 := Aside0.mk A130
   clear A130
   by_cases c14 : x8_1 < (x6_1.length : Int)
   case neg =>
    rw [if_neg c14] at H
    exact absurd H (by simp)
   rw [if_pos c14] at H
   have c14b0 : decide (x8_1 < (x6_1.length : Int)) = true := decide_eq_true c14
   clear c14
   obtain ⟨y562, hy562⟩ : ∃ y_ : List Bool, y_ = (x6_1.set (x8_1 : Int).toNat true) := ⟨_, rfl⟩
   replace H : ((flyballref01_Len.f k1 t558).bind fun t563 => (if 0 ≤ t563 then (if t563 ≤ (t558.length : Int) then (flyballref01_Div.l0 k1 l0 l1 y562 (t558.take (t563 : Int).toNat) (wrap64 (x8_1 - 1))) else (none)) else (none))) = some (r1, r2) := by first | (rw [hy562]; with_reducible exact H) | (have H2_ := (Option.bind_some _ _).symm.trans H; rw [hy562]; with_reducible exact H2_) | (have H2_ := (Option.bind_some _ _).symm.trans H; with_reducible exact H2_) | with_reducible exact H | (rw [hy562]; exact H) | exact H
   have Ny562 := Aside0.mk hy562
   clear hy562
   replace H := Option.bind_eq_some_iff.mp H
   obtain ⟨t563, A160, H⟩ := H
   replace H : (if 0 ≤ t563 then (if t563 ≤ (t558.length : Int) then (flyballref01_Div.l0 k1 l0 l1 y562 (t558.take (t563 : Int).toNat) (wrap64 (x8_1 - 1))) else (none)) else (none)) = some (r1, r2) := H
   have A16 := Aside0.mk A160
   clear A160
   by_cases c17 : 0 ≤ t563
   case neg =>
    rw [if_neg c17] at H
    exact absurd H (by simp)
   rw [if_pos c17] at H
   have c17b0 := eq_true c17
   have c17b1 : decide (0 ≤ t563) = true := decide_eq_true c17
   clear c17
   by_cases c18 : t563 ≤ (t558.length : Int)
   case neg =>
    rw [if_neg c18] at H
    exact absurd H (by simp)
   rw [if_pos c18] at H
   have c18b0 := eq_true c18
   have c18b1 : decide (t563 ≤ (t558.length : Int)) = true := decide_eq_true c18
   clear c18
   obtain ⟨y564, hy564⟩ : ∃ y_ : List Bool, y_ = (t558.take (t563 : Int).toNat) := ⟨_, rfl⟩
   replace H : (flyballref01_Div.l0 k1 l0 l1 y562 y564 (wrap64 (x8_1 - 1))) = some (r1, r2) := by first | (rw [hy564]; with_reducible exact H) | (have H2_ := (Option.bind_some _ _).symm.trans H; rw [hy564]; with_reducible exact H2_) | (have H2_ := (Option.bind_some _ _).symm.trans H; with_reducible exact H2_) | with_reducible exact H | (rw [hy564]; exact H) | exact H
   have Ny564 := Aside0.mk hy564
   clear hy564
   have H' := Aside0.mk H
   clear H
   have p550 : 0 ≤ (x8_1 : Int) := of_decide_eq_true (by first | (with_reducible assumption) | assumption)
   have q550 : x8_1 < (l0.length : Int) := of_decide_eq_true (by first | (with_reducible assumption) | assumption)
   obtain ⟨ad550, e550, hx550_0⟩ := Kd.at_bool HR0.out x8_1 p550 q550
   cases e550
   replace hx550_0 := (HB.out.cell (World.block_lt_of_cell? w _ hx550_0)).trans hx550_0
   replace p550 := eq_true p550
   replace q550 := eq_true q550
   go_wp2_with (first | ((with_reducible refine gate_dst (N := 24) rfl ?_); refine Kd.R_lit Kd.bool _ 4 ?hg (N := 24) ?hd (xs := ([rdOf false l0 x8_1] : List Bool)) (inner := [.bool (rdOf false l0 x8_1)]) (ok := fun _ => True) (okp := fun _ => True) ?hr ?hp (fun _ hk => hk) trivial (Below.refl _ _) (Nat.le_refl _) (by simp) ?_; (case hd => rfl); (case hg => rfl); (case hr => first | (go_simp; done) | (go_simp; rfl)); (case hp => exact (Reps.one (show Kd.M Kd.bool _ _ _ (rdOf false l0 x8_1) [.bool (rdOf false l0 x8_1)] from rfl) (Reps.none _ _))); intro v552 w19 ho20 hb hg_ hnew_; clear hg_ hnew_; (first | rw [← Ny551.out] at ho20 | (simp only [Int.reduceToNat] at ho20; rw [← Ny551.out] at ho20)); have n0_ := Aside0.mk (Kd.R_elder' (by (with_reducible repeat (first | apply ra_ | apply rn_ | apply rd_)); exact HO_6.out) (Kd.R_base ho20) hb); have n1_ := Aside0.mk (Kd.R_elder' (by (with_reducible repeat (first | apply ra_ | apply rn_ | apply rd_)); exact HO_7.out) (Kd.R_base ho20) hb); have n2_ := Aside0.mk (Kd.R_lower (Kd.R_new' (Kd.R_new' ho20 (Kd.R_lt (by (with_reducible repeat (first | apply ra_ | apply rn_ | apply rd_)); exact HO_6.out))) (Kd.R_lt (by (with_reducible repeat (first | apply ra_ | apply rn_ | apply rd_)); exact HO_7.out))) (below_size bh_)); have n3_ := bq_ hb; clear HO_6 HO_7 HB; have HO_6 := n0_; have HO_7 := n1_; have HO553 := n2_; have HB := n3_; clear n0_ n1_ n2_ n3_; clear hb ho20; obtain ⟨Ao22, co22, eo22⟩ := Kd.R_slice HO_7.out; subst eo22) | ((with_reducible refine gate_builtin (b := .append) (xs := #[.tmp 25, .tmp 26]) rfl ?_); at_builtin; refine Kd.R_append_rows Kd.bool (w0 := w) w.heap.size rfl (.tmp 25) (.tmp 26) 43 4 (.bool false) 1 rfl Try.underlying43 info4 rfl (by decide) (by omega) v552 y551 x7_1 _ _ _ (fun k_ => some k_ ≠ (v548 : Value).ownBlock ∧ some k_ ≠ (.slice Ao22 x7_1.length co22 : Value).ownBlock) (fun _ => False) rfl rfl ?aO ?aR (fun _ _ h => h) (fun _ h => h.elim) ?aF ?aB ?aS ?aL ?_; (case aR => repeat first | exact (Kd.R_reads' HO_7.out).2.2 | with_reducible first | apply ca_ | apply cn_ | apply cd_); (case aB => exact bh_); (case aF => exact (fun k_ hk => ⟨Kd.fresh' (Kd.R_lt (by (with_reducible repeat (first | apply ra_ | apply rn_ | apply rd_)); exact HO_6.out)) k_ hk, Kd.fresh' (Kd.R_lt (by (with_reducible repeat (first | apply ra_ | apply rn_ | apply rd_)); exact HO_7.out)) k_ hk⟩)); (case aO => exact (by (with_reducible repeat (first | apply ra_ | apply rn_ | apply rd_)); exact Kd.R_mono HO553.out (fun _ hk => ⟨hk.1.2, hk.2⟩))); (case aS => exact (below_size bh_)); (case aL => have := LMc10.out; omega); intro v555 w21 ho hb hg hat; rw [← Ny554.out] at ho; replace HO_6 := Aside0.mk (Kd.R_after (ok := (fun k_ => some k_ ≠ (.slice Ao22 x7_1.length co22 : Value).ownBlock)) (by (with_reducible repeat (first | apply ra_ | apply rn_ | apply rd_)); exact HO_6.out) hg hat); replace HO_7 := Aside0.mk (Kd.R_after (ok := (fun k_ => some k_ ≠ (v548 : Value).ownBlock)) (by (with_reducible repeat (first | apply ra_ | apply rn_ | apply rd_)); exact HO_7.out) hg hat); replace HB := Aside0.mk (hb); have HO556 := Aside0.mk (ho); clear ho hb hg hat; obtain ⟨Ao23, co23, eo23⟩ := Kd.R_slice HO556.out; subst eo23) | ((with_reducible refine gc_ 48 rfl ?_); refine gM_ (some 31) Try.func48 [.slice Ao23 y554.length co23, .slice A1 l1.length c1] ?_; (with_reducible refine (flyballref01_Div.cmp_calls k1 _ _ y554 _ _ l1 t557 _ ?side1 ?side2 ?side3 ?side4 A11.out).mono ?_); (case side1 => repeat first | exact (Kd.R_reads' HO556.out).2.2 | with_reducible first | apply ca_ | apply cn_ | apply cd_); (case side2 => exact (Kd.R_reads' HO556.out).2.1); (case side3 => exact ch_ HR1.out); (case side4 => exact HC1.out); rintro e w24 ⟨rfl, hb⟩; refine ⟨_, rfl, ?_⟩; replace HO_6 := Aside0.mk (Kd.R_below (by (with_reducible repeat (first | apply ra_ | apply rn_ | apply rd_)); exact HO_6.out) hb); replace HO_7 := Aside0.mk (Kd.R_below (by (with_reducible repeat (first | apply ra_ | apply rn_ | apply rd_)); exact HO_7.out) hb); replace HO556 := Aside0.mk (Kd.R_below (by (with_reducible repeat (first | apply ra_ | apply rn_ | apply rd_)); exact HO556.out) hb); replace HB := bq_ hb) | ((with_reducible refine gc_ 111 rfl ?_); refine gM_ (some 38) Try.func111 [.slice Ao23 y554.length co23, .slice A1 l1.length c1, .int .i64 (y554.length : Int)] ?_; (with_reducible refine (flyballref01_Sub.calls k1 _ _ y554 _ _ l1 (y554.length : Int) t558 t559 _ ?side1 ?side2 ?side3 ?side4 A13.out).mono ?_); (case side1 => repeat first | exact (Kd.R_reads' HO556.out).2.2 | with_reducible first | apply ca_ | apply cn_ | apply cd_); (case side2 => exact (Kd.R_reads' HO556.out).2.1); (case side3 => exact ch_ HR1.out); (case side4 => exact HC1.out); rintro e w25 ⟨v560, rfl, ho0, hb⟩; refine ⟨_, rfl, ?_⟩; have n0_ := Aside0.mk (Kd.R_elder' (by (with_reducible repeat (first | apply ra_ | apply rn_ | apply rd_)); exact HO_6.out) (Kd.R_base ho0) hb); have n1_ := Aside0.mk (Kd.R_elder' (by (with_reducible repeat (first | apply ra_ | apply rn_ | apply rd_)); exact HO_7.out) (Kd.R_base ho0) hb); have n2_ := Aside0.mk (Kd.R_elder' (by (with_reducible repeat (first | apply ra_ | apply rn_ | apply rd_)); exact HO556.out) (Kd.R_base ho0) hb); have n3_ := Aside0.mk (Kd.R_lower (Kd.R_new' (Kd.R_new' (Kd.R_new' ho0 (Kd.R_lt (by (with_reducible repeat (first | apply ra_ | apply rn_ | apply rd_)); exact HO_6.out))) (Kd.R_lt (by (with_reducible repeat (first | apply ra_ | apply rn_ | apply rd_)); exact HO_7.out))) (Kd.R_lt (by (with_reducible repeat (first | apply ra_ | apply rn_ | apply rd_)); exact HO556.out))) (below_size bh_)); have n4_ := bq_ hb; clear HO_6 HO_7 HO556 HB; have HO_6 := n0_; have HO_7 := n1_; have HO556 := n2_; have HO561 := n3_; have HB := n4_; clear n0_ n1_ n2_ n3_ n4_; skip; have p15 : 0 ≤ (x8_1 : Int) := of_decide_eq_true (by first | (with_reducible assumption) | assumption); have q15 : (x8_1 : Int) < ((x6_1.length : Int) : Int) := of_decide_eq_true (by first | (with_reducible assumption) | assumption); obtain ⟨go15, co15, eo15, gb15, gl15, cl15, HG15⟩ := Kd.R_form HO_6.out (by omega); (first | cases eo15 | (injection eo15 with ea_ en_ ec_; (first | subst ea_ | (injection ea_ with ea_; subst ea_)); subst ec_; clear en_)); have GB15 := Aside0.mk gb15; have GG15 := Aside0.mk HG15; clear gb15 gl15 HG15; obtain ⟨hx15_0, hf15_0⟩ := Kd.R_celln false HO_6.out (x8_1 : Int) p15 q15; replace p15 := eq_true p15; replace q15 := eq_true q15; have n_ := Aside0.mk (Kd.R_mono (ok' := (fun k_ => some k_ ≠ (.slice Ao22 x7_1.length co22 : Value).ownBlock ∧ some k_ ≠ (.slice Ao23 y554.length co23 : Value).ownBlock ∧ some k_ ≠ (v560 : Value).ownBlock)) HO_6.out (fun k_ hk => ⟨hk.1.1, ⟨hk.1.2, hk.2⟩⟩)); clear HO_6; have HO_6 := n_; clear n_; obtain ⟨hy26_, hz26_⟩ := Kd.R_celln false HO_6.out (x8_1 : Int) (of_decide_eq_true (by first | (with_reducible assumption) | assumption)) (of_decide_eq_true (by first | (with_reducible assumption) | assumption)); have HP26 := Kd.R_putg HO_6.out (x8_1 : Int) true) | ((with_reducible refine gate_store (t := 4) (p := 43) rfl ?_); refine store_event (t := 4) (p := 43) (v := ?vo_w27) (w1 := (w25.setCell ⟨go15, (x8_1 : Int).toNat, none⟩ (.bool true))) ?hg ?ho ?hn ?hr ?_; (case ho => rfl); (case hg => rfl); (case hn => rfl); (case hr => first | (go_simp; done) | (go_simp; rfl)); intro w27 hw; have hg : w25.grownBy w27 (some go15) := (by rw [hw]; exact HP26.2); have hp_ : Kd.R Kd.bool 4 w27 w.heap.size (fun k_ => some k_ ≠ (.slice Ao22 x7_1.length co22 : Value).ownBlock ∧ some k_ ≠ (.slice Ao23 y554.length co23 : Value).ownBlock ∧ some k_ ≠ (v560 : Value).ownBlock) (.slice (some ⟨go15, 0, none⟩) x6_1.length co15) y562 := (by rw [hw, Ny562.out]; exact HP26.1); clear HP26; replace HO_6 := Aside0.mk (hp_); replace HO_7 := Aside0.mk (Kd.R_after (v := (.slice (some ⟨go15, 0, none⟩) x6_1.length co15)) (v1 := (.slice (some ⟨go15, 0, none⟩) x6_1.length co15)) (ok := (fun k_ => some k_ ≠ (.slice Ao23 y554.length co23 : Value).ownBlock ∧ some k_ ≠ (v560 : Value).ownBlock)) (by (with_reducible repeat (first | apply ra_ | apply rn_ | apply rd_)); exact Kd.R_mono HO_7.out (fun _ hk => ⟨⟨hk.1.2, hk.2⟩, hk.1.1⟩)) hg (.inl rfl)); replace HO556 := Aside0.mk (Kd.R_after (v := (.slice (some ⟨go15, 0, none⟩) x6_1.length co15)) (v1 := (.slice (some ⟨go15, 0, none⟩) x6_1.length co15)) (ok := (fun k_ => some k_ ≠ (.slice Ao22 x7_1.length co22 : Value).ownBlock ∧ some k_ ≠ (v560 : Value).ownBlock)) (by (with_reducible repeat (first | apply ra_ | apply rn_ | apply rd_)); exact Kd.R_mono HO556.out (fun _ hk => ⟨⟨hk.1.2, hk.2⟩, hk.1.1⟩)) hg (.inl rfl)); replace HO561 := Aside0.mk (Kd.R_after (v := (.slice (some ⟨go15, 0, none⟩) x6_1.length co15)) (v1 := (.slice (some ⟨go15, 0, none⟩) x6_1.length co15)) (ok := (fun k_ => some k_ ≠ (.slice Ao22 x7_1.length co22 : Value).ownBlock ∧ some k_ ≠ (.slice Ao23 y554.length co23 : Value).ownBlock)) (by (with_reducible repeat (first | apply ra_ | apply rn_ | apply rd_)); exact Kd.R_mono HO561.out (fun _ hk => ⟨⟨hk.1.2, hk.2⟩, hk.1.1.2⟩)) hg (.inl rfl)); replace HB := Aside0.mk ((by rw [hw]; exact below_set (HB.out) GB15.out : Below w.heap.size w w27)); clear hg hw hp_; obtain ⟨Ao28, co28, eo28⟩ := Kd.R_slice HO561.out; subst eo28) | ((with_reducible refine gc_ 60 rfl ?_); refine gM_ (some 46) Try.func60 [.slice Ao28 t558.length co28] ?_; (with_reducible refine (flyballref01_Len.calls k1 _ _ t558 t563 _ ?side1 ?side2 A16.out).mono ?_); (case side1 => repeat first | exact (Kd.R_reads' HO561.out).2.2 | with_reducible first | apply ca_ | apply cn_ | apply cd_); (case side2 => exact (Kd.R_reads' HO561.out).2.1); rintro e w' ⟨rfl, ⟨nd, rfl⟩⟩; refine ⟨_, rfl, ?_⟩; have q29 : (t563 : Int) ≤ ((t558.length : Int) : Int) := of_decide_eq_true (by first | (with_reducible assumption) | assumption); obtain ⟨i029, hi029, _, hsz29, _⟩ := info_parts info4; have hcut29 := cut_to (P := Try.prog) 43 4 .i64 Try.underlying43 hi029 Ao28 t558.length co28 t563 (of_decide_eq_true (by first | (with_reducible assumption) | assumption)) q29 (Kd.R_reads' HO561.out).2.1; have hr29 := Kd.R_take (m := (t563 : Int).toNat) HO561.out (by omega); have hy29 : y564.length = (t563 : Int).toNat := (by rw [Ny564.out, List.length_take]; omega); rw [← Ny564.out] at hr29; rw [← hy29] at hr29 hcut29; clear hy29 hi029 hsz29 HO561; have HO566 := Aside0.mk hr29; clear hr29; replace q29 := eq_true q29))
   go_roundg k1
   case measure => have := HK1.out; omega
   case rel => exact ⟨(y562), (y564), (wrap64 (x8_1 - 1)), (sh_), H', ⟨by have := HK1.out; omega⟩, ⟨by (with_reducible repeat (first | apply ra_ | apply rn_ | apply rd_)); exact Kd.R_mono HO_6.out (fun _ hk => own_ne hk.2.2)⟩, ⟨by (with_reducible repeat (first | apply ra_ | apply rn_ | apply rd_)); exact Kd.R_mono HO566.out (fun _ hk => hk.2)⟩, ⟨bh_⟩⟩

end Go.Proofs.Ytfglpaaeipblcaa.P
