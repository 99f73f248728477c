/- Walks of one package: what each function returns, wherever the Lean function beside it has an answer. -/
import Derived.Test.YtfglpaaeipblcaaP0
import Derived.Test.YtfglpaaeipblcaaPBits1
import Derived.Test.YtfglpaaeipblcaaPNat1
import Derived.Test.YtfglpaaeipblcaaPSlices1
namespace Go.Proofs.Ytfglpaaeipblcaa.P
open Go.RowKit Go.Proofs.YtfglpaaeipblcaaW.PrintWords Go.Proofs.YtfglpaaeipblcaaW.PrintLast Go.Proofs.YtfglpaaeipblcaaW.PrintMore
attribute [local go_sem] max2_int min2_int max_two min_two max_three min_three max_four min_four   -- for this text's walks alone
set_option linter.unusedVariables false
set_option linter.unusedSimpArgs false

-- GIVENTEXT
/-! ### nat_Nat_Div: function 69 -/
def nat_Nat_Div.l0 : Nat → Int → List Int → List Int → List Int → Int → Option (List Int × List Int × Int)
 | 0, _, _, _, _, _ => none
 | k + 1, x9, x10, x11, x12, x13 => if x13 ≥ 0 then (if x13.toNat + (x11.length + 1) ≤ x10.length then ((nat_step.f k ((x10.drop x13.toNat).take (x11.length + 1)) x11).bind fun bt267 => (if 0 ≤ x13 then (if x13 < (x12.length : Int) then (nat_Nat_Div.l0 k x9 (x10.take x13.toNat ++ bt267.2 ++ x10.drop (x13.toNat + (x11.length + 1))) x11 (x12.set (x13 : Int).toNat bt267.1) (wrap64 (x13 - 1))) else (none)) else (none))) else (none)) else ((nat_trim.f k x12).bind fun t270 => ((nat_Nat_Shr.f k x10 x9).bind fun t273 => (some (t270, t273, 0))))
def nat_Nat_Div.f (k : Nat) (l0 : List Int) (l1 : List Int) : Option (List Int × List Int × Int) := (nat_trim.f k l0).bind fun t239 => ((nat_trim.f k l1).bind fun t242 => (if (t242.length : Int) = 0 then (some (([] : List Int), ([] : List Int), 21)) else ((nat_Nat_Cmp.f k t239 t242).bind fun t245 => (if t245 < 0 then ((nat_Nat_uint32_96.f t239).bind fun t246 => (some (([] : List Int), t246, 0))) else (if (t242.length : Int) = 1 then (if 0 < (t242.length : Int) then ((nat_Nat_short.f k t239 (rd t242 0)).bind fun bt250 => (some (bt250.1, bt250.2, 0))) else (none)) else (if 0 ≤ (wrap64 ((t242.length : Int) - 1)) then (if (wrap64 ((t242.length : Int) - 1)) < (t242.length : Int) then ((bits_LeadingZeros32.f (rd t242 (wrap64 ((t242.length : Int) - 1)))).bind fun t257 => ((nat_shifted.f k t239 t257 (wrap64 ((t239.length : Int) + 1))).bind fun t258 => ((nat_shifted.f k t242 t257 (t242.length : Int)).bind fun t261 => (if 0 ≤ (wrap64 ((wrap64 ((t239.length : Int) - (t242.length : Int))) + 1)) then (if (wrap64 ((wrap64 ((t239.length : Int) - (t242.length : Int))) + 1) : Int).toNat ≤ 70368744177664 then ((some (List.replicate (wrap64 ((wrap64 ((t239.length : Int) - (t242.length : Int))) + 1) : Int).toNat 0 : List Int)).bind fun y264 => (nat_Nat_Div.l0 k t257 t258 t261 y264 (wrap64 ((y264.length : Int) - 1)))) else (none)) else (none))))) else (none)) else (none)))))))
theorem nat_Nat_Div.mono_l : ∀ k, (∀ y0 y1 y2 y3 y4, LeO (nat_Nat_Div.l0 k y0 y1 y2 y3 y4) (nat_Nat_Div.l0 (k + 1) y0 y1 y2 y3 y4))
 | 0 => fun _ _ _ _ _ r h => by simp [nat_Nat_Div.l0] at h
 | k + 1 => by
  have ih0 := nat_Nat_Div.mono_l k
  ·
   intro y0 y1 y2 y3 y4
   unfold nat_Nat_Div.l0
   repeat' with_reducible first | exact ih0 _ _ _ _ _ | exact nat_Nat_Cmp.mono _ _ _ | exact nat_Nat_Shr.mono _ _ _ | exact nat_Nat_short.mono _ _ _ | exact nat_shifted.mono _ _ _ _ | exact nat_step.mono _ _ _ | exact nat_trim.mono _ _ | exact LeO.refl _ | exact LeO.none _ | refine LeO.ite ?_ ?_ | refine LeO.bind ?_ (fun _ => ?_)
theorem nat_Nat_Div.mono : ∀ a0 a1 k, LeO (nat_Nat_Div.f k a0 a1) (nat_Nat_Div.f (k + 1) a0 a1) := by
 intro a0 a1 k
 have ih0 := nat_Nat_Div.mono_l k
 unfold nat_Nat_Div.f
 repeat' with_reducible first | exact ih0 _ _ _ _ _ | exact nat_Nat_Cmp.mono _ _ _ | exact nat_Nat_Shr.mono _ _ _ | exact nat_Nat_short.mono _ _ _ | exact nat_shifted.mono _ _ _ _ | exact nat_step.mono _ _ _ | exact nat_trim.mono _ _ | exact LeO.refl _ | exact LeO.none _ | refine LeO.ite ?_ ?_ | refine LeO.bind ?_ (fun _ => ?_)
set_option maxHeartbeats 8000000 in
set_option maxRecDepth 100000 in
theorem nat_Nat_Div.calls (k : Nat) (P0_ : Nat → Prop) (A0 : Option Addr) (c0 : Nat) (l0 : List Int) (P1_ : Nat → Prop) (A1 : Option Addr) (c1 : Nat) (l1 : List Int) (r1 : List Int) (r2 : List Int) (r3 : Int) (w : World) (hs0 : Kd.V (Kd.int .u32) 123 w w.heap.size (fun k_ => P0_ k_) (.slice A0 l0.length c0) l0) (hs1 : Kd.V (Kd.int .u32) 123 w w.heap.size (fun k_ => P1_ k_) (.slice A1 l1.length c1) l1) (h : nat_Nat_Div.f k l0 l1 = some (r1, r2, r3)) :
  Calls Try.prog 69 #[.slice A0 l0.length c0, .slice A1 l1.length c1] w fun e w' => ∃ v0_ v1_ : Value, e = .returned (.tuple #[v0_, v1_, .int .i64 r3]) ∧ Kd.V (Kd.int .u32) 123 w' w.heap.size (fun k_ => ((P0_ k_ ∨ P1_ k_) ∨ w.heap.size ≤ k_)) v0_ r1 ∧ Kd.V (Kd.int .u32) 123 w' w.heap.size (fun k_ => ((P0_ k_ ∨ P1_ k_) ∨ w.heap.size ≤ k_)) v1_ r2 ∧ Below w.heap.size w w' := by
 have HO0 := Aside0.mk (show Kd.V (Kd.int .u32) 123 w w.heap.size (fun k_ => ((P0_ k_ ∨ P1_ k_) ∨ w.heap.size ≤ k_)) (.slice A0 l0.length c0) l0 from Kd.V_mono hs0 (fun k_ hk => .inl (.inl hk)))
 have HO1 := Aside0.mk (show Kd.V (Kd.int .u32) 123 w w.heap.size (fun k_ => ((P0_ k_ ∨ P1_ k_) ∨ w.heap.size ≤ k_)) (.slice A1 l1.length c1) l1 from Kd.V_mono hs1 (fun k_ hk => .inl (.inr hk)))
 have HB := Aside0.mk (Below.refl w.heap.size w)
 have H : ((nat_trim.f k l0).bind fun t239 => ((nat_trim.f k l1).bind fun t242 => (if (t242.length : Int) = 0 then (some (([] : List Int), ([] : List Int), 21)) else ((nat_Nat_Cmp.f k t239 t242).bind fun t245 => (if t245 < 0 then ((nat_Nat_uint32_96.f t239).bind fun t246 => (some (([] : List Int), t246, 0))) else (if (t242.length : Int) = 1 then (if 0 < (t242.length : Int) then ((nat_Nat_short.f k t239 (rd t242 0)).bind fun bt250 => (some (bt250.1, bt250.2, 0))) else (none)) else (if 0 ≤ (wrap64 ((t242.length : Int) - 1)) then (if (wrap64 ((t242.length : Int) - 1)) < (t242.length : Int) then ((bits_LeadingZeros32.f (rd t242 (wrap64 ((t242.length : Int) - 1)))).bind fun t257 => ((nat_shifted.f k t239 t257 (wrap64 ((t239.length : Int) + 1))).bind fun t258 => ((nat_shifted.f k t242 t257 (t242.length : Int)).bind fun t261 => (if 0 ≤ (wrap64 ((wrap64 ((t239.length : Int) - (t242.length : Int))) + 1)) then (if (wrap64 ((wrap64 ((t239.length : Int) - (t242.length : Int))) + 1) : Int).toNat ≤ 70368744177664 then ((some (List.replicate (wrap64 ((wrap64 ((t239.length : Int) - (t242.length : Int))) + 1) : Int).toNat 0 : List Int)).bind fun y264 => (nat_Nat_Div.l0 k t257 t258 t261 y264 (wrap64 ((y264.length : Int) - 1)))) else (none)) else (none))))) else (none)) else (none)))))))) = some (r1, r2, r3) := h
 clear h
 replace H := Option.bind_eq_some_iff.mp H
 obtain ⟨t239, A30, H⟩ := H
 replace H : ((nat_trim.f k l1).bind fun t242 => (if (t242.length : Int) = 0 then (some (([] : List Int), ([] : List Int), 21)) else ((nat_Nat_Cmp.f k t239 t242).bind fun t245 => (if t245 < 0 then ((nat_Nat_uint32_96.f t239).bind fun t246 => (some (([] : List Int), t246, 0))) else (if (t242.length : Int) = 1 then (if 0 < (t242.length : Int) then ((nat_Nat_short.f k t239 (rd t242 0)).bind fun bt250 => (some (bt250.1, bt250.2, 0))) else (none)) else (if 0 ≤ (wrap64 ((t242.length : Int) - 1)) then (if (wrap64 ((t242.length : Int) - 1)) < (t242.length : Int) then ((bits_LeadingZeros32.f (rd t242 (wrap64 ((t242.length : Int) - 1)))).bind fun t257 => ((nat_shifted.f k t239 t257 (wrap64 ((t239.length : Int) + 1))).bind fun t258 => ((nat_shifted.f k t242 t257 (t242.length : Int)).bind fun t261 => (if 0 ≤ (wrap64 ((wrap64 ((t239.length : Int) - (t242.length : Int))) + 1)) then (if (wrap64 ((wrap64 ((t239.length : Int) - (t242.length : Int))) + 1) : Int).toNat ≤ 70368744177664 then ((some (List.replicate (wrap64 ((wrap64 ((t239.length : Int) - (t242.length : Int))) + 1) : Int).toNat 0 : List Int)).bind fun y264 => (nat_Nat_Div.l0 k t257 t258 t261 y264 (wrap64 ((y264.length : Int) - 1)))) else (none)) else (none))))) else (none)) else (none))))))) = some (r1, r2, r3) := H
 have A3 := Aside0.mk A30
 clear A30
 replace H := Option.bind_eq_some_iff.mp H
 obtain ⟨t242, A40, H⟩ := H
 replace H : (if (t242.length : Int) = 0 then (some (([] : List Int), ([] : List Int), 21)) else ((nat_Nat_Cmp.f k t239 t242).bind fun t245 => (if t245 < 0 then ((nat_Nat_uint32_96.f t239).bind fun t246 => (some (([] : List Int), t246, 0))) else (if (t242.length : Int) = 1 then (if 0 < (t242.length : Int) then ((nat_Nat_short.f k t239 (rd t242 0)).bind fun bt250 => (some (bt250.1, bt250.2, 0))) else (none)) else (if 0 ≤ (wrap64 ((t242.length : Int) - 1)) then (if (wrap64 ((t242.length : Int) - 1)) < (t242.length : Int) then ((bits_LeadingZeros32.f (rd t242 (wrap64 ((t242.length : Int) - 1)))).bind fun t257 => ((nat_shifted.f k t239 t257 (wrap64 ((t239.length : Int) + 1))).bind fun t258 => ((nat_shifted.f k t242 t257 (t242.length : Int)).bind fun t261 => (if 0 ≤ (wrap64 ((wrap64 ((t239.length : Int) - (t242.length : Int))) + 1)) then (if (wrap64 ((wrap64 ((t239.length : Int) - (t242.length : Int))) + 1) : Int).toNat ≤ 70368744177664 then ((some (List.replicate (wrap64 ((wrap64 ((t239.length : Int) - (t242.length : Int))) + 1) : Int).toNat 0 : List Int)).bind fun y264 => (nat_Nat_Div.l0 k t257 t258 t261 y264 (wrap64 ((y264.length : Int) - 1)))) else (none)) else (none))))) else (none)) else (none)))))) = some (r1, r2, r3) := H
 have A4 := Aside0.mk A40
 clear A40
 by_cases c5 : (t242.length : Int) = 0
 case pos =>
  rw [if_pos c5] at H
  have c5b0 : ((t242.length : Int) == 0) = true := beq_iff_eq.mpr c5
  have c5b1 : ((t242.length : Int) != 0) = false := bne_eq_false_iff_eq.mpr c5
  clear c5
  simp only [Option.some.injEq, Prod.mk.injEq] at H
  obtain ⟨rfl, rfl, rfl⟩ := H
  go_enter Try.func69, Try.ntmps69
  go_wp2_with (first | ((with_reducible refine gc_ 85 rfl ?_); refine gM_ (some 15) Try.func85 [.slice A0 l0.length c0] ?_; (with_reducible refine (nat_trim.calls k (fun k_ => ((P0_ k_ ∨ P1_ k_) ∨ w.heap.size ≤ k_)) _ _ l0 t239 _ ?side1 A3.out).mono ?_); (case side1 => exact HO0.out); rintro e w6 ⟨v240, rfl, ho0, hb⟩; refine ⟨_, rfl, ?_⟩; replace HO1 := Aside0.mk (Kd.V_below (by (with_reducible repeat (first | apply va_ | apply vn_ | apply vd_)); exact HO1.out) hb); replace HB := bq_ hb) | ((with_reducible refine gc_ 85 rfl ?_); refine gM_ (some 17) Try.func85 [.slice A1 l1.length c1] ?_; (with_reducible refine (nat_trim.calls k (fun k_ => ((P0_ k_ ∨ P1_ k_) ∨ w.heap.size ≤ k_)) _ _ l1 t242 _ ?side1 A4.out).mono ?_); (case side1 => exact HO1.out); rintro e w7 ⟨v243, rfl, ho0, hb⟩; refine ⟨_, rfl, ?_⟩; have HO244 := Aside0.mk (Kd.V_lower (Kd.V_mono (ok' := fun k_ => ((P0_ k_ ∨ P1_ k_) ∨ w.heap.size ≤ k_)) ho0 (fun k_ hk_ => Or.elim hk_ (fun hs_ => hs_) (fun hn_ => (.inr (Nat.le_trans (below_size bh_) hn_))))) (below_size bh_)); replace HB := bq_ hb; skip; obtain ⟨Ao8, co8, eo8⟩ := Kd.V_slice HO244.out; subst eo8))
  go_ret3
  exact ⟨.slice none 0 0, .slice none 0 0, eh_, Kd.R_V (base := 0) (Kd.R_nil _ _ _ _ _), Kd.R_V (base := 0) (Kd.R_nil _ _ _ _ _), bh_⟩
 rw [if_neg c5] at H
 have c5b0 : ((t242.length : Int) == 0) = false := beq_eq_false_iff_ne.mpr c5
 have c5b1 : ((t242.length : Int) != 0) = true := bne_iff_ne.mpr c5
 have c5b2 : ¬ (t242 = []) := fun h_ => c5 (by rw [h_]; rfl)
 replace H := Option.bind_eq_some_iff.mp H
 obtain ⟨t245, A90, H⟩ := H
 replace H : (if t245 < 0 then ((nat_Nat_uint32_96.f t239).bind fun t246 => (some (([] : List Int), t246, 0))) else (if (t242.length : Int) = 1 then (if 0 < (t242.length : Int) then ((nat_Nat_short.f k t239 (rd t242 0)).bind fun bt250 => (some (bt250.1, bt250.2, 0))) else (none)) else (if 0 ≤ (wrap64 ((t242.length : Int) - 1)) then (if (wrap64 ((t242.length : Int) - 1)) < (t242.length : Int) then ((bits_LeadingZeros32.f (rd t242 (wrap64 ((t242.length : Int) - 1)))).bind fun t257 => ((nat_shifted.f k t239 t257 (wrap64 ((t239.length : Int) + 1))).bind fun t258 => ((nat_shifted.f k t242 t257 (t242.length : Int)).bind fun t261 => (if 0 ≤ (wrap64 ((wrap64 ((t239.length : Int) - (t242.length : Int))) + 1)) then (if (wrap64 ((wrap64 ((t239.length : Int) - (t242.length : Int))) + 1) : Int).toNat ≤ 70368744177664 then ((some (List.replicate (wrap64 ((wrap64 ((t239.length : Int) - (t242.length : Int))) + 1) : Int).toNat 0 : List Int)).bind fun y264 => (nat_Nat_Div.l0 k t257 t258 t261 y264 (wrap64 ((y264.length : Int) - 1)))) else (none)) else (none))))) else (none)) else (none)))) = some (r1, r2, r3) := H
 have A9 := Aside0.mk A90
 clear A90
 by_cases c10 : t245 < 0
 case pos =>
  rw [if_pos c10] at H
  have c10b0 : decide (t245 < 0) = true := decide_eq_true c10
  clear c10
  replace H := Option.bind_eq_some_iff.mp H
  obtain ⟨t246, A110, H⟩ := H
  replace H : (some (([] : List Int), t246, 0)) = some (r1, r2, r3) := H
  have A11 := Aside0.mk A110
  clear A110
  simp only [Option.some.injEq, Prod.mk.injEq] at H
  obtain ⟨rfl, rfl, rfl⟩ := H
  go_enter Try.func69, Try.ntmps69
  go_wp2_with (first | ((with_reducible refine gc_ 85 rfl ?_); refine gM_ (some 15) Try.func85 [.slice A0 l0.length c0] ?_; (with_reducible refine (nat_trim.calls k (fun k_ => ((P0_ k_ ∨ P1_ k_) ∨ w.heap.size ≤ k_)) _ _ l0 t239 _ ?side1 A3.out).mono ?_); (case side1 => exact HO0.out); rintro e w12 ⟨v240, rfl, ho0, hb⟩; refine ⟨_, rfl, ?_⟩; replace HO1 := Aside0.mk (Kd.V_below (by (with_reducible repeat (first | apply va_ | apply vn_ | apply vd_)); exact HO1.out) hb); have HO241 := Aside0.mk (Kd.V_lower (Kd.V_mono (ok' := fun k_ => ((P0_ k_ ∨ P1_ k_) ∨ w.heap.size ≤ k_)) ho0 (fun k_ hk_ => Or.elim hk_ (fun hs_ => hs_) (fun hn_ => (.inr (Nat.le_trans (below_size bh_) hn_))))) (below_size bh_)); replace HB := bq_ hb) | ((with_reducible refine gc_ 85 rfl ?_); refine gM_ (some 17) Try.func85 [.slice A1 l1.length c1] ?_; (with_reducible refine (nat_trim.calls k (fun k_ => ((P0_ k_ ∨ P1_ k_) ∨ w.heap.size ≤ k_)) _ _ l1 t242 _ ?side1 A4.out).mono ?_); (case side1 => exact HO1.out); rintro e w13 ⟨v243, rfl, ho0, hb⟩; refine ⟨_, rfl, ?_⟩; replace HO241 := Aside0.mk (Kd.V_below (by (with_reducible repeat (first | apply va_ | apply vn_ | apply vd_)); exact HO241.out) hb); have HO244 := Aside0.mk (Kd.V_lower (Kd.V_mono (ok' := fun k_ => ((P0_ k_ ∨ P1_ k_) ∨ w.heap.size ≤ k_)) ho0 (fun k_ hk_ => Or.elim hk_ (fun hs_ => hs_) (fun hn_ => (.inr (Nat.le_trans (below_size bh_) hn_))))) (below_size bh_)); replace HB := bq_ hb; skip; obtain ⟨Ao14, co14, eo14⟩ := Kd.V_slice HO244.out; subst eo14; obtain ⟨Ao15, co15, eo15⟩ := Kd.V_slice HO241.out; subst eo15) | ((with_reducible refine gc_ 75 rfl ?_); refine gM_ (some 25) Try.func75 [.slice Ao15 t239.length co15, .slice Ao14 t242.length co14] ?_; (with_reducible refine (nat_Nat_Cmp.calls k _ _ t239 _ _ t242 t245 _ ?side1 ?side2 ?side3 ?side4 A9.out).mono ?_); (case side1 => repeat first | exact (Kd.V_reads' HO241.out).2.2 | with_reducible first | apply ca_ | apply cn_ | apply cd_); (case side2 => exact (Kd.V_reads' HO241.out).2.1); (case side3 => repeat first | exact (Kd.V_reads' HO244.out).2.2 | with_reducible first | apply ca_ | apply cn_ | apply cd_); (case side4 => exact (Kd.V_reads' HO244.out).2.1); rintro e w' ⟨rfl, ⟨nd, rfl⟩⟩; refine ⟨_, rfl, ?_⟩) | ((with_reducible refine gc_ 96 rfl ?_); refine gM_ (some 28) Try.func96 [.slice Ao15 t239.length co15] ?_; (with_reducible refine (nat_Nat_uint32_96.calls _ _ t239 t246 _ ?side1 ?side2 A11.out).mono ?_); (case side1 => repeat first | exact (Kd.V_reads' HO241.out).2.2 | with_reducible first | apply ca_ | apply cn_ | apply cd_); (case side2 => exact (Kd.V_reads' HO241.out).2.1); rintro e w16 ⟨v247, rfl, ho0, hb⟩; refine ⟨_, rfl, ?_⟩; have HO248 := Aside0.mk (Kd.V_lower (Kd.V_mono (ok' := fun k_ => ((P0_ k_ ∨ P1_ k_) ∨ w.heap.size ≤ k_)) ho0 (fun k_ hk_ => (.inr (Nat.le_trans (below_size bh_) hk_)))) (below_size bh_)); replace HB := bq_ hb))
  go_ret3
  exact ⟨.slice none 0 0, _, eh_, Kd.R_V (base := 0) (Kd.R_nil _ _ _ _ _), by (with_reducible repeat (first | apply va_ | apply vn_ | apply vd_)); exact HO248.out, bh_⟩
 rw [if_neg c10] at H
 have c10b0 : decide (t245 < 0) = false := decide_eq_false c10
 clear c10
 by_cases c17 : (t242.length : Int) = 1
 case pos =>
  rw [if_pos c17] at H
  have c17b0 : ((t242.length : Int) == 1) = true := beq_iff_eq.mpr c17
  have c17b1 : ((t242.length : Int) != 1) = false := bne_eq_false_iff_eq.mpr c17
  clear c17
  by_cases c18 : 0 < (t242.length : Int)
  case neg =>
   rw [if_neg c18] at H
   exact absurd H (by simp)
  rw [if_pos c18] at H
  have c18b0 : decide (0 < (t242.length : Int)) = true := decide_eq_true c18
  have c18b1 : decide (0 < t242.length) = true := decide_eq_true (by omega)
  clear c18
  replace H := Option.bind_eq_some_iff.mp H
  obtain ⟨⟨t250, t253⟩, A190, H⟩ := H
  replace H : (some (t250, t253, 0)) = some (r1, r2, r3) := H
  have A19 := Aside0.mk A190
  clear A190
  simp only [Option.some.injEq, Prod.mk.injEq] at H
  obtain ⟨rfl, rfl, rfl⟩ := H
  go_enter Try.func69, Try.ntmps69
  go_wp2_with (first | ((with_reducible refine gc_ 85 rfl ?_); refine gM_ (some 15) Try.func85 [.slice A0 l0.length c0] ?_; (with_reducible refine (nat_trim.calls k (fun k_ => ((P0_ k_ ∨ P1_ k_) ∨ w.heap.size ≤ k_)) _ _ l0 t239 _ ?side1 A3.out).mono ?_); (case side1 => exact HO0.out); rintro e w20 ⟨v240, rfl, ho0, hb⟩; refine ⟨_, rfl, ?_⟩; replace HO1 := Aside0.mk (Kd.V_below (by (with_reducible repeat (first | apply va_ | apply vn_ | apply vd_)); exact HO1.out) hb); have HO241 := Aside0.mk (Kd.V_lower (Kd.V_mono (ok' := fun k_ => ((P0_ k_ ∨ P1_ k_) ∨ w.heap.size ≤ k_)) ho0 (fun k_ hk_ => Or.elim hk_ (fun hs_ => hs_) (fun hn_ => (.inr (Nat.le_trans (below_size bh_) hn_))))) (below_size bh_)); replace HB := bq_ hb) | ((with_reducible refine gc_ 85 rfl ?_); refine gM_ (some 17) Try.func85 [.slice A1 l1.length c1] ?_; (with_reducible refine (nat_trim.calls k (fun k_ => ((P0_ k_ ∨ P1_ k_) ∨ w.heap.size ≤ k_)) _ _ l1 t242 _ ?side1 A4.out).mono ?_); (case side1 => exact HO1.out); rintro e w21 ⟨v243, rfl, ho0, hb⟩; refine ⟨_, rfl, ?_⟩; replace HO241 := Aside0.mk (Kd.V_below (by (with_reducible repeat (first | apply va_ | apply vn_ | apply vd_)); exact HO241.out) hb); have HO244 := Aside0.mk (Kd.V_lower (Kd.V_mono (ok' := fun k_ => ((P0_ k_ ∨ P1_ k_) ∨ w.heap.size ≤ k_)) ho0 (fun k_ hk_ => Or.elim hk_ (fun hs_ => hs_) (fun hn_ => (.inr (Nat.le_trans (below_size bh_) hn_))))) (below_size bh_)); replace HB := bq_ hb; skip; obtain ⟨Ao22, co22, eo22⟩ := Kd.V_slice HO244.out; subst eo22; obtain ⟨Ao23, co23, eo23⟩ := Kd.V_slice HO241.out; subst eo23) | ((with_reducible refine gc_ 75 rfl ?_); refine gM_ (some 25) Try.func75 [.slice Ao23 t239.length co23, .slice Ao22 t242.length co22] ?_; (with_reducible refine (nat_Nat_Cmp.calls k _ _ t239 _ _ t242 t245 _ ?side1 ?side2 ?side3 ?side4 A9.out).mono ?_); (case side1 => repeat first | exact (Kd.V_reads' HO241.out).2.2 | with_reducible first | apply ca_ | apply cn_ | apply cd_); (case side2 => exact (Kd.V_reads' HO241.out).2.1); (case side3 => repeat first | exact (Kd.V_reads' HO244.out).2.2 | with_reducible first | apply ca_ | apply cn_ | apply cd_); (case side4 => exact (Kd.V_reads' HO244.out).2.1); rintro e w' ⟨rfl, ⟨nd, rfl⟩⟩; refine ⟨_, rfl, ?_⟩; have p249 : 0 ≤ (0 : Int) := (by omega); have q249 : 0 < (t242.length : Int) := of_decide_eq_true (by first | (with_reducible assumption) | assumption); obtain ⟨ad249, e249, hx249_0⟩ := Kd.at_int (Kd.V_reads' HO244.out).2.2 0 p249 q249; cases e249; have qi249 : (0 < t242.length) = True := eq_true (by omega); (try rw [show ((0 : Int)).toNat = 0 from rfl] at hx249_0); (try rw [Addr.add_zero'] at hx249_0); replace p249 := eq_true p249; replace q249 := eq_true q249) | ((with_reducible refine gc_ 97 rfl ?_); refine gM_ (some 38) Try.func97 [.slice Ao23 t239.length co23, .int .u32 (rd t242 0)] ?_; (with_reducible refine (nat_Nat_short.calls k _ _ t239 (rd t242 0) t250 t253 _ ?side1 ?side2 A19.out).mono ?_); (case side1 => repeat first | exact (Kd.V_reads' HO241.out).2.2 | with_reducible first | apply ca_ | apply cn_ | apply cd_); (case side2 => exact (Kd.V_reads' HO241.out).2.1); rintro e w24 ⟨v251, v254, rfl, ho0, ho1, hb⟩; refine ⟨_, rfl, ?_⟩; have HO252 := Aside0.mk (Kd.V_lower (Kd.V_mono (ok' := fun k_ => ((P0_ k_ ∨ P1_ k_) ∨ w.heap.size ≤ k_)) ho0 (fun k_ hk_ => (.inr (Nat.le_trans (below_size bh_) hk_)))) (below_size bh_)); have HO255 := Aside0.mk (Kd.V_lower (Kd.V_mono (ok' := fun k_ => ((P0_ k_ ∨ P1_ k_) ∨ w.heap.size ≤ k_)) ho1 (fun k_ hk_ => (.inr (Nat.le_trans (below_size bh_) hk_)))) (below_size bh_)); replace HB := bq_ hb))
  go_ret3
  exact ⟨_, _, eh_, by (with_reducible repeat (first | apply va_ | apply vn_ | apply vd_)); exact HO252.out, by (with_reducible repeat (first | apply va_ | apply vn_ | apply vd_)); exact HO255.out, bh_⟩
 rw [if_neg c17] at H
 have c17b0 : ((t242.length : Int) == 1) = false := beq_eq_false_iff_ne.mpr c17
 have c17b1 : ((t242.length : Int) != 1) = true := bne_iff_ne.mpr c17
 obtain ⟨ji25, hji25⟩ : ∃ j_ : Int, (wrap64 ((t242.length : Int) - 1)) = j_ := ⟨_, rfl⟩
 replace H : (if 0 ≤ (ji25) then (if (ji25) < (t242.length : Int) then ((bits_LeadingZeros32.f (rd t242 (ji25))).bind fun t257 => ((nat_shifted.f k t239 t257 (wrap64 ((t239.length : Int) + 1))).bind fun t258 => ((nat_shifted.f k t242 t257 (t242.length : Int)).bind fun t261 => (if 0 ≤ (wrap64 ((wrap64 ((t239.length : Int) - (t242.length : Int))) + 1)) then (if (wrap64 ((wrap64 ((t239.length : Int) - (t242.length : Int))) + 1) : Int).toNat ≤ 70368744177664 then ((some (List.replicate (wrap64 ((wrap64 ((t239.length : Int) - (t242.length : Int))) + 1) : Int).toNat 0 : List Int)).bind fun y264 => (nat_Nat_Div.l0 k t257 t258 t261 y264 (wrap64 ((y264.length : Int) - 1)))) else (none)) else (none))))) else (none)) else (none)) = some (r1, r2, r3) := by first | (rw [hji25] at H; exact H) | (simp only [hji25] at H ⊢; exact H)
 (try rw [hji25] at A3)
 (try rw [hji25] at A4)
 (try rw [hji25] at A9)
 have hji25w : (IntKind.i64.wrap ((t242.length : Int) - 1)) = ji25 := (i64_w _).trans hji25
 by_cases c26 : 0 ≤ (ji25)
 case neg =>
  rw [if_neg c26] at H
  exact absurd H (by simp)
 rw [if_pos c26] at H
 have c26b0 : decide (0 ≤ (ji25)) = true := decide_eq_true c26
 clear c26
 by_cases c27 : (ji25) < (t242.length : Int)
 case neg =>
  rw [if_neg c27] at H
  exact absurd H (by simp)
 rw [if_pos c27] at H
 have c27b0 : decide ((ji25) < (t242.length : Int)) = true := decide_eq_true c27
 clear c27
 replace H := Option.bind_eq_some_iff.mp H
 obtain ⟨t257, A280, H⟩ := H
 replace H : ((nat_shifted.f k t239 t257 (wrap64 ((t239.length : Int) + 1))).bind fun t258 => ((nat_shifted.f k t242 t257 (t242.length : Int)).bind fun t261 => (if 0 ≤ (wrap64 ((wrap64 ((t239.length : Int) - (t242.length : Int))) + 1)) then (if (wrap64 ((wrap64 ((t239.length : Int) - (t242.length : Int))) + 1) : Int).toNat ≤ 70368744177664 then ((some (List.replicate (wrap64 ((wrap64 ((t239.length : Int) - (t242.length : Int))) + 1) : Int).toNat 0 : List Int)).bind fun y264 => (nat_Nat_Div.l0 k t257 t258 t261 y264 (wrap64 ((y264.length : Int) - 1)))) else (none)) else (none)))) = some (r1, r2, r3) := H
 have A28 := Aside0.mk A280
 clear A280
 replace H := Option.bind_eq_some_iff.mp H
 obtain ⟨t258, A290, H⟩ := H
 replace H : ((nat_shifted.f k t242 t257 (t242.length : Int)).bind fun t261 => (if 0 ≤ (wrap64 ((wrap64 ((t239.length : Int) - (t242.length : Int))) + 1)) then (if (wrap64 ((wrap64 ((t239.length : Int) - (t242.length : Int))) + 1) : Int).toNat ≤ 70368744177664 then ((some (List.replicate (wrap64 ((wrap64 ((t239.length : Int) - (t242.length : Int))) + 1) : Int).toNat 0 : List Int)).bind fun y264 => (nat_Nat_Div.l0 k t257 t258 t261 y264 (wrap64 ((y264.length : Int) - 1)))) else (none)) else (none))) = some (r1, r2, r3) := H
 have A29 := Aside0.mk A290
 clear A290
 replace H := Option.bind_eq_some_iff.mp H
 obtain ⟨t261, A300, H⟩ := H
 replace H : (if 0 ≤ (wrap64 ((wrap64 ((t239.length : Int) - (t242.length : Int))) + 1)) then (if (wrap64 ((wrap64 ((t239.length : Int) - (t242.length : Int))) + 1) : Int).toNat ≤ 70368744177664 then ((some (List.replicate (wrap64 ((wrap64 ((t239.length : Int) - (t242.length : Int))) + 1) : Int).toNat 0 : List Int)).bind fun y264 => (nat_Nat_Div.l0 k t257 t258 t261 y264 (wrap64 ((y264.length : Int) - 1)))) else (none)) else (none)) = some (r1, r2, r3) := H
 have A30 := Aside0.mk A300
 clear A300
 obtain ⟨ji31, hji31⟩ : ∃ j_ : Int, (wrap64 ((wrap64 ((t239.length : Int) - (t242.length : Int))) + 1)) = j_ := ⟨_, rfl⟩
 replace H : (if 0 ≤ (ji31) then (if (ji31 : Int).toNat ≤ 70368744177664 then ((some (List.replicate (ji31 : Int).toNat 0 : List Int)).bind fun y264 => (nat_Nat_Div.l0 k t257 t258 t261 y264 (wrap64 ((y264.length : Int) - 1)))) else (none)) else (none)) = some (r1, r2, r3) := by first | (rw [hji31] at H; exact H) | (simp only [hji31] at H ⊢; exact H)
 (try rw [hji31] at A3)
 (try rw [hji31] at A4)
 (try rw [hji31] at A9)
 (try rw [hji31] at A28)
 (try rw [hji31] at A29)
 (try rw [hji31] at A30)
 have hji31w : (IntKind.i64.wrap ((wrap64 ((t239.length : Int) - (t242.length : Int))) + 1)) = ji31 := (i64_w _).trans hji31
 by_cases c32 : 0 ≤ (ji31)
 case neg =>
  rw [if_neg c32] at H
  exact absurd H (by simp)
 rw [if_pos c32] at H
 have c32b0 := eq_true c32
 have c32b1 : decide (0 ≤ (ji31)) = true := decide_eq_true c32
 clear c32
 by_cases c33 : (ji31 : Int).toNat ≤ 70368744177664
 case neg =>
  rw [if_neg c33] at H
  exact absurd H (by simp)
 rw [if_pos c33] at H
 have c33b0 := eq_true c33
 have c33b1 : decide ((ji31 : Int).toNat ≤ 70368744177664) = true := decide_eq_true c33
 clear c33
 obtain ⟨y264, hy264⟩ : ∃ y_ : List Int, y_ = (List.replicate (ji31 : Int).toNat 0) := ⟨_, rfl⟩
 replace H : (nat_Nat_Div.l0 k t257 t258 t261 y264 (wrap64 ((y264.length : Int) - 1))) = some (r1, r2, r3) := by first | (rw [hy264]; with_reducible exact H) | (have H2_ := (Option.bind_some _ _).symm.trans H; rw [hy264]; with_reducible exact H2_) | (have H2_ := (Option.bind_some _ _).symm.trans H; with_reducible exact H2_) | with_reducible exact H | (rw [hy264]; exact H) | exact H
 have Ny264 := Aside0.mk hy264
 clear hy264
 have H' := Aside0.mk H
 clear H
 go_enter Try.func69, Try.ntmps69
 go_wp2_with (first | ((with_reducible refine gc_ 85 rfl ?_); refine gM_ (some 15) Try.func85 [.slice A0 l0.length c0] ?_; (with_reducible refine (nat_trim.calls k (fun k_ => ((P0_ k_ ∨ P1_ k_) ∨ w.heap.size ≤ k_)) _ _ l0 t239 _ ?side1 A3.out).mono ?_); (case side1 => exact HO0.out); rintro e w34 ⟨v240, rfl, ho0, hb⟩; refine ⟨_, rfl, ?_⟩; replace HO1 := Aside0.mk (Kd.V_below (by (with_reducible repeat (first | apply va_ | apply vn_ | apply vd_)); exact HO1.out) hb); have HO241 := Aside0.mk (Kd.V_lower (Kd.V_mono (ok' := fun k_ => ((P0_ k_ ∨ P1_ k_) ∨ w.heap.size ≤ k_)) ho0 (fun k_ hk_ => Or.elim hk_ (fun hs_ => hs_) (fun hn_ => (.inr (Nat.le_trans (below_size bh_) hn_))))) (below_size bh_)); replace HB := bq_ hb) | ((with_reducible refine gc_ 85 rfl ?_); refine gM_ (some 17) Try.func85 [.slice A1 l1.length c1] ?_; (with_reducible refine (nat_trim.calls k (fun k_ => ((P0_ k_ ∨ P1_ k_) ∨ w.heap.size ≤ k_)) _ _ l1 t242 _ ?side1 A4.out).mono ?_); (case side1 => exact HO1.out); rintro e w35 ⟨v243, rfl, ho0, hb⟩; refine ⟨_, rfl, ?_⟩; replace HO241 := Aside0.mk (Kd.V_below (by (with_reducible repeat (first | apply va_ | apply vn_ | apply vd_)); exact HO241.out) hb); have HO244 := Aside0.mk (Kd.V_lower (Kd.V_mono (ok' := fun k_ => ((P0_ k_ ∨ P1_ k_) ∨ w.heap.size ≤ k_)) ho0 (fun k_ hk_ => Or.elim hk_ (fun hs_ => hs_) (fun hn_ => (.inr (Nat.le_trans (below_size bh_) hn_))))) (below_size bh_)); replace HB := bq_ hb; skip; obtain ⟨Ao36, co36, eo36⟩ := Kd.V_slice HO244.out; subst eo36; obtain ⟨Ao37, co37, eo37⟩ := Kd.V_slice HO241.out; subst eo37) | ((with_reducible refine gc_ 75 rfl ?_); refine gM_ (some 25) Try.func75 [.slice Ao37 t239.length co37, .slice Ao36 t242.length co36] ?_; (with_reducible refine (nat_Nat_Cmp.calls k _ _ t239 _ _ t242 t245 _ ?side1 ?side2 ?side3 ?side4 A9.out).mono ?_); (case side1 => repeat first | exact (Kd.V_reads' HO241.out).2.2 | with_reducible first | apply ca_ | apply cn_ | apply cd_); (case side2 => exact (Kd.V_reads' HO241.out).2.1); (case side3 => repeat first | exact (Kd.V_reads' HO244.out).2.2 | with_reducible first | apply ca_ | apply cn_ | apply cd_); (case side4 => exact (Kd.V_reads' HO244.out).2.1); rintro e w' ⟨rfl, ⟨nd, rfl⟩⟩; refine ⟨_, rfl, ?_⟩; have p256 : 0 ≤ ((ji25) : Int) := of_decide_eq_true (by first | (with_reducible assumption) | assumption); have q256 : (ji25) < (t242.length : Int) := of_decide_eq_true (by first | (with_reducible assumption) | assumption); obtain ⟨ad256, e256, hx256_0⟩ := Kd.at_int (Kd.V_reads' HO244.out).2.2 (ji25) p256 q256; cases e256; replace p256 := eq_true p256; replace q256 := eq_true q256) | ((with_reducible refine gc_ 98 rfl ?_); refine goesL_ (some 49) rfl rfl Try.func98 (by kernel_rfl) rfl #[.int .u32 (rd t242 (ji25))] rfl (by (try simp only [List.map_toArray, List.map_cons, List.map_nil]); first | done | (simp only [hji25]; rfl) | rfl | (simp only [List.length_drop, List.length_take]; rfl)) ?_; (with_reducible refine (bits_LeadingZeros32.calls (rd t242 (ji25)) t257 _ A28.out).mono ?_); rintro e w' ⟨rfl, ⟨nd, rfl⟩⟩; refine ⟨_, rfl, ?_⟩) | ((with_reducible refine gc_ 99 rfl ?_); refine gM_ (some 55) Try.func99 [.slice Ao37 t239.length co37, .int .i64 t257, .int .i64 (wrap64 ((t239.length : Int) + 1))] ?_; (with_reducible refine (nat_shifted.calls k _ _ t239 t257 (wrap64 ((t239.length : Int) + 1)) t258 _ ?side1 ?side2 A29.out).mono ?_); (case side1 => repeat first | exact (Kd.V_reads' HO241.out).2.2 | with_reducible first | apply ca_ | apply cn_ | apply cd_); (case side2 => exact (Kd.V_reads' HO241.out).2.1); rintro e w38 ⟨v259, rfl, ho0, hb⟩; refine ⟨_, rfl, ?_⟩; replace HO244 := Aside0.mk (Kd.V_elder' (by (with_reducible repeat (first | apply va_ | apply vn_ | apply vd_)); exact HO244.out) (Kd.R_base ho0) hb); have HO260 := Aside0.mk (Kd.R_lower (Kd.R_newM (M := fun k_ => (w.heap.size ≤ k_)) ho0 (below_size bh_) (fun k_ h_ => h_)) (below_size bh_)); replace HB := bq_ hb) | ((with_reducible refine gc_ 99 rfl ?_); refine gM_ (some 60) Try.func99 [.slice (some ad256) t242.length co36, .int .i64 t257, .int .i64 (t242.length : Int)] ?_; (with_reducible refine (nat_shifted.calls k _ _ t242 t257 (t242.length : Int) t261 _ ?side1 ?side2 A30.out).mono ?_); (case side1 => repeat first | exact (Kd.V_reads' HO244.out).2.2 | with_reducible first | apply ca_ | apply cn_ | apply cd_); (case side2 => exact (Kd.V_reads' HO244.out).2.1); rintro e w39 ⟨v262, rfl, ho0, hb⟩; refine ⟨_, rfl, ?_⟩; have n4_ := Aside0.mk (Kd.R_elder' (by (with_reducible repeat (first | apply ra_ | apply rn_ | apply rd_)); exact HO260.out) (Kd.R_base ho0) hb); have n5_ := Aside0.mk (Kd.R_lower (Kd.R_new' (Kd.R_newM (M := fun k_ => (w.heap.size ≤ k_)) ho0 (below_size bh_) (fun k_ h_ => h_)) (Kd.R_lt (by (with_reducible repeat (first | apply ra_ | apply rn_ | apply rd_)); exact HO260.out))) (below_size bh_)); have n6_ := bq_ hb; clear HO260 HB; have HO260 := n4_; have HO263 := n5_; have HB := n6_; clear n4_ n5_ n6_) | ((with_reducible refine gate_dst (N := 67) rfl ?_); refine Kd.R_make (Kd.int .u32) _ 123 rfl (N := 67) rfl 47 _ _ rfl ji31 rfl rfl Try.underlying47 (.int .u32 0) 4 info123 rfl (by decide) (by omega) 0 (ok := fun _ => True) (okp := fun _ => True) rfl (fun _ hk => hk) trivial (of_decide_eq_true (by first | (with_reducible assumption) | assumption)) (Nat.le_trans (Nat.mul_le_mul_right _ (of_decide_eq_true (by first | (with_reducible assumption) | assumption) : ji31.toNat ≤ 70368744177664)) (by omega)) (Below.refl _ _) (Nat.le_refl _) ?_; intro v265 w40 ho41 hb hg_ hnew_; clear hg_ hnew_; (first | rw [← Ny264.out] at ho41 | (simp only [Int.reduceToNat] at ho41; rw [← Ny264.out] at ho41)); have n4_ := Aside0.mk (Kd.R_elder' (by (with_reducible repeat (first | apply ra_ | apply rn_ | apply rd_)); exact HO260.out) (Kd.R_base ho41) hb); have n5_ := Aside0.mk (Kd.R_elder' (by (with_reducible repeat (first | apply ra_ | apply rn_ | apply rd_)); exact HO263.out) (Kd.R_base ho41) hb); have n6_ := Aside0.mk (Kd.R_lower (Kd.R_new' (Kd.R_new' (Kd.R_newM (M := fun k_ => (w.heap.size ≤ k_)) ho41 (below_size bh_) (fun k_ h_ => h_)) (Kd.R_lt (by (with_reducible repeat (first | apply ra_ | apply rn_ | apply rd_)); exact HO260.out))) (Kd.R_lt (by (with_reducible repeat (first | apply ra_ | apply rn_ | apply rd_)); exact HO263.out))) (below_size bh_)); have n7_ := bq_ hb; clear HO260 HO263 HB; have HO260 := n4_; have HO263 := n5_; have HO266 := n6_; have HB := n7_; clear n4_ n5_ n6_ n7_; clear hb ho41; obtain ⟨Ao42, co42, eo42⟩ := Kd.R_slice HO266.out; subst eo42))
 (try simp only [Act.put, List.setIfInBounds_toArray, List.set_cons_zero, List.set_cons_succ])
 go_loopg [13] k (fun kq v13 w' => ∃ (x10_1 : List Int) (x12_1 : List Int) (x13_1 : Int), v13 = .int .i64 x13_1 ∧ Aside0 (nat_Nat_Div.l0 kq t257 x10_1 t261 x12_1 x13_1 = some (r1, r2, r3)) ∧ Aside0 (kq ≤ k) ∧ Aside0 (Kd.R (Kd.int .u32) 123 w' w.heap.size (fun k_ => (w.heap.size ≤ k_) ∧ some k_ ≠ (v262 : Value).ownBlock ∧ some k_ ≠ ((.slice Ao42 y264.length co42) : Value).ownBlock) v259 x10_1) ∧ Aside0 (Kd.R (Kd.int .u32) 123 w' w.heap.size (fun k_ => (w.heap.size ≤ k_) ∧ some k_ ≠ (v259 : Value).ownBlock ∧ some k_ ≠ ((.slice Ao42 y264.length co42) : Value).ownBlock) v262 t261) ∧ Aside0 (Kd.R (Kd.int .u32) 123 w' w.heap.size (fun k_ => (w.heap.size ≤ k_) ∧ some k_ ≠ (v259 : Value).ownBlock ∧ some k_ ≠ (v262 : Value).ownBlock) (.slice Ao42 y264.length co42) x12_1) ∧ Aside0 (Below w.heap.size w w'))
 case atStart => exact ⟨(t258), (y264), (wrap64 ((y264.length : Int) - 1)), (sh_), H', ⟨Nat.le_refl _⟩, ⟨by (with_reducible repeat (first | apply ra_ | apply rn_ | apply rd_)); exact Kd.R_mono HO260.out (fun _ hk => ⟨hk.1.1.1, ⟨hk.1.2, hk.2⟩⟩)⟩, ⟨by (with_reducible repeat (first | apply ra_ | apply rn_ | apply rd_)); exact Kd.R_mono HO263.out (fun _ hk => ⟨hk.1.1.1, ⟨hk.1.2, hk.2⟩⟩)⟩, ⟨by (with_reducible repeat (first | apply ra_ | apply rn_ | apply rd_)); exact Kd.R_mono HO266.out (fun _ hk => ⟨hk.1.1.1, ⟨hk.1.2, hk.2⟩⟩)⟩, ⟨bh_⟩⟩
 case round =>
  clear H'
  try clear c1
  try clear c2
  try clear p2
  try clear q2
  try clear hx2
  try clear qi2
  try clear c3
  try clear c5
  try clear c5b0
  try clear c5b1
  try clear c5b2
  try clear c6
  try clear p6
  try clear c7
  try clear c8
  try clear c9
  try clear c10
  try clear c10b0
  try clear c17
  try clear c17b0
  try clear c17b1
  try clear c18
  try clear c18b0
  try clear c18b1
  try clear p24
  try clear q24
  try clear hx24
  try clear qi24
  try clear p25
  try clear q25
  try clear hx25
  try clear c26
  try clear c26b0
  try clear c27
  try clear c27b0
  try clear c32
  try clear c32b0
  try clear c32b1
  try clear c33
  try clear c33b0
  try clear c33b1
  try clear hx249_0
  try clear hx256_0
  try clear p249
  try clear p256
  try clear q249
  try clear q256
  obtain ⟨x10_1, x12_1, x13_1, rfl, HA, HK1, HO_10, HO_11, HO_12, HB⟩ := hrel
  have hl12_1 := (Kd.R_reads' HO_12.out).1
  rw [hl12_1] at HO_12
  (try simp only [hl12_1])
  (try simp only [hl12_1] at HO_10)
  (try simp only [hl12_1] at HO_11)
  cases gk with
  | zero => exact absurd HA.out (by simp [nat_Nat_Div.l0])
  | succ k1 =>
   have H := HA.out
   clear HA
   simp only [nat_Nat_Div.l0] at H
   by_cases c43 : x13_1 ≥ 0
   case neg =>
    rw [if_neg c43] at H
    have c43b0 : decide (0 ≤ x13_1) = false := decide_eq_false c43
    clear c43
    replace H := Option.bind_eq_some_iff.mp H
    obtain ⟨t270, A530, H⟩ := H
    replace H : ((nat_Nat_Shr.f k1 x10_1 t257).bind fun t273 => (some (t270, t273, 0))) = some (r1, r2, r3) := H
    have A53 := Aside0.mk A530
    clear A530
    replace H := Option.bind_eq_some_iff.mp H
    obtain ⟨t273, A540, H⟩ := H
    replace H : (some (t270, t273, 0)) = some (r1, r2, r3) := H
    have A54 := Aside0.mk A540
    clear A540
    simp only [Option.some.injEq, Prod.mk.injEq] at H
    obtain ⟨rfl, rfl, rfl⟩ := H
    go_wp2_with (first | ((with_reducible refine gc_ 85 rfl ?_); refine gM_ (some 89) Try.func85 [.slice Ao42 x12_1.length co42] ?_; (with_reducible refine (nat_trim.calls k1 (fun k_ => some k_ = (.slice Ao42 x12_1.length co42 : Value).ownBlock) _ _ x12_1 t270 _ ?side1 A53.out).mono ?_); (case side1 => exact Kd.R_V (Kd.R_tight rfl (HO_12.out))); rintro e w55 ⟨v271, rfl, ho0, hb⟩; refine ⟨_, rfl, ?_⟩; have n0_ := Aside0.mk (Kd.R_below (by (with_reducible repeat (first | apply ra_ | apply rn_ | apply rd_)); exact HO_10.out) hb); have n1_ := Aside0.mk (Kd.R_below (by (with_reducible repeat (first | apply ra_ | apply rn_ | apply rd_)); exact HO_11.out) hb); have n2_ := Aside0.mk (Kd.R_below (by (with_reducible repeat (first | apply ra_ | apply rn_ | apply rd_)); exact HO_12.out) hb); have n3_ := Aside0.mk (Kd.V_lower (Kd.V_mono (ok' := fun k_ => ((P0_ k_ ∨ P1_ k_) ∨ w.heap.size ≤ k_) ∧ some k_ ≠ (v259 : Value).ownBlock ∧ some k_ ≠ (v262 : Value).ownBlock) ho0 (fun k_ hk_ => ⟨Or.elim hk_ (fun hs_ => (.inr (((HO_12.out).1 k_ hs_.symm).1))) (fun hn_ => (.inr (Nat.le_trans (below_size bh_) hn_))), Or.elim hk_ (fun hs_ => ((HO_12.out).1 k_ hs_.symm).2.1) (fun hn_ => (Kd.fresh' (Kd.R_lt (by (with_reducible repeat (first | apply ra_ | apply rn_ | apply rd_)); exact HO_10.out)) k_ hn_)), Or.elim hk_ (fun hs_ => ((HO_12.out).1 k_ hs_.symm).2.2) (fun hn_ => (Kd.fresh' (Kd.R_lt (by (with_reducible repeat (first | apply ra_ | apply rn_ | apply rd_)); exact HO_11.out)) k_ hn_))⟩)) (below_size bh_)); have n4_ := bq_ hb; clear HO_10 HO_11 HO_12 HB; have HO_10 := n0_; have HO_11 := n1_; have HO_12 := n2_; have HO272 := n3_; have HB := n4_; clear n0_ n1_ n2_ n3_ n4_; skip; obtain ⟨Ao56, co56, eo56⟩ := Kd.R_slice HO_10.out; subst eo56) | ((with_reducible refine gc_ 101 rfl ?_); refine gM_ (some 92) Try.func101 [.slice Ao56 x10_1.length co56, .int .i64 t257] ?_; (with_reducible refine (nat_Nat_Shr.calls k1 _ _ x10_1 t257 t273 _ ?side1 ?side2 A54.out).mono ?_); (case side1 => repeat first | exact (Kd.R_reads' HO_10.out).2.2 | with_reducible first | apply ca_ | apply cn_ | apply cd_); (case side2 => exact (Kd.R_reads' HO_10.out).2.1); rintro e w57 ⟨v274, rfl, ho0, hb⟩; refine ⟨_, rfl, ?_⟩; replace HO272 := Aside0.mk (Kd.V_below (by (with_reducible repeat (first | apply va_ | apply vn_ | apply vd_)); exact HO272.out) hb); have HO275 := Aside0.mk (Kd.V_lower (Kd.V_mono (ok' := fun k_ => ((P0_ k_ ∨ P1_ k_) ∨ w.heap.size ≤ k_) ∧ some k_ ≠ (.slice Ao56 x10_1.length co56 : Value).ownBlock ∧ some k_ ≠ (v262 : Value).ownBlock ∧ some k_ ≠ (.slice Ao42 x12_1.length co42 : Value).ownBlock) ho0 (fun k_ hk_ => ⟨(.inr (Nat.le_trans (below_size bh_) hk_)), (Kd.fresh' (Kd.R_lt (by (with_reducible repeat (first | apply ra_ | apply rn_ | apply rd_)); exact HO_10.out)) k_ hk_), (Kd.fresh' (Kd.R_lt (by (with_reducible repeat (first | apply ra_ | apply rn_ | apply rd_)); exact HO_11.out)) k_ hk_), (Kd.fresh' (Kd.R_lt (by (with_reducible repeat (first | apply ra_ | apply rn_ | apply rd_)); exact HO_12.out)) k_ hk_)⟩)) (below_size bh_)); replace HB := bq_ hb))
    go_ret3
    exact ⟨_, _, by first | rfl | (simp [errW_none, errW_some] <;> rfl) | (simp only [← hji25, ← hji31]; first | rfl | (simp [errW_none, errW_some] <;> rfl)) | (simp [*, errW_none, errW_some] <;> rfl), by (with_reducible repeat (first | apply va_ | apply vn_ | apply vd_)); exact Kd.V_mono HO272.out (fun _ hk => hk.1), by (with_reducible repeat (first | apply va_ | apply vn_ | apply vd_)); exact Kd.V_mono HO275.out (fun _ hk => hk.1), bh_⟩
   rw [if_pos c43] at H
   have c43b0 : decide (0 ≤ x13_1) = true := decide_eq_true c43
   clear c43
   by_cases ccut : x13_1.toNat + (t261.length + 1) ≤ x10_1.length
   case neg => rw [if_neg ccut] at H; exact absurd H (by simp)
   rw [if_pos ccut] at H
   replace H := Option.bind_eq_some_iff.mp H
   obtain ⟨⟨t267, t268⟩, A440, H⟩ := H
   replace H : (if 0 ≤ x13_1 then (if x13_1 < (x12_1.length : Int) then (nat_Nat_Div.l0 k1 t257 (x10_1.take x13_1.toNat ++ t268 ++ x10_1.drop (x13_1.toNat + (t261.length + 1))) t261 (x12_1.set (x13_1 : Int).toNat t267) (wrap64 (x13_1 - 1))) else (none)) else (none)) = some (r1, r2, r3) := H
   have A44 := Aside0.mk A440
   clear A440
   by_cases c45 : 0 ≤ x13_1
   case neg =>
    rw [if_neg c45] at H
    exact absurd H (by simp)
   rw [if_pos c45] at H
   have c45b0 : decide (0 ≤ x13_1) = true := decide_eq_true c45
   clear c45
   by_cases c46 : x13_1 < (x12_1.length : Int)
   case neg =>
    rw [if_neg c46] at H
    exact absurd H (by simp)
   rw [if_pos c46] at H
   have c46b0 : decide (x13_1 < (x12_1.length : Int)) = true := decide_eq_true c46
   clear c46
   obtain ⟨y269, hy269⟩ : ∃ y_ : List Int, y_ = (x12_1.set (x13_1 : Int).toNat t267) := ⟨_, rfl⟩
   replace H : (nat_Nat_Div.l0 k1 t257 (x10_1.take x13_1.toNat ++ t268 ++ x10_1.drop (x13_1.toNat + (t261.length + 1))) t261 y269 (wrap64 (x13_1 - 1))) = some (r1, r2, r3) := by first | (rw [hy269]; with_reducible exact H) | (have H2_ := (Option.bind_some _ _).symm.trans H; rw [hy269]; with_reducible exact H2_) | (have H2_ := (Option.bind_some _ _).symm.trans H; with_reducible exact H2_) | with_reducible exact H | (rw [hy269]; exact H) | exact H
   have Ny269 := Aside0.mk hy269
   clear hy269
   have H' := Aside0.mk H
   clear H
   obtain ⟨Ao48, co48, eo48⟩ := Kd.R_slice HO_11.out
   subst eo48
   obtain ⟨Ao49, co49, eo49⟩ := Kd.R_slice HO_10.out
   subst eo49
   obtain ⟨g10_, c10_, e10_, _, _, _, _⟩ := Kd.R_form HO_10.out (by omega)
   (first | cases e10_ | (injection e10_ with ea_ en_ ec_; (first | subst ea_ | (injection ea_ with ea_; subst ea_)); subst ec_; clear en_))
   have hC10_ := (Kd.R_reads' HO_10.out).2.1
   have hm10_ := (Kd.R_reads' HO_10.out).2.2.2.1
   have h013_ : 0 ≤ x13_1 := of_decide_eq_true (by first | (with_reducible assumption) | assumption)
   obtain ⟨jb_, hjb_⟩ : ∃ j_ : Int, (IntKind.i64.wrap (x13_1 + (t261.length : Int))) = j_ := ⟨_, rfl⟩
   have hjbe_ : jb_ = x13_1 + (t261.length : Int) := by rw [← hjb_, IntKind.wrap_i64]; omega
   obtain ⟨jc_, hjc_⟩ : ∃ j_ : Int, (IntKind.i64.wrap (jb_ + 1)) = j_ := ⟨_, rfl⟩
   have hjce_ : jc_ = x13_1 + (t261.length : Int) + 1 := by rw [← hjc_, hjbe_, IntKind.wrap_i64]; omega
   have hcut_ : ∀ W : World, (Instr.slice 47 (.slice (some ⟨g10_, 0, none⟩) x10_1.length co49) (some (.int .i64 x13_1)) (some (.int .i64 jc_)) none).run Try.prog W = .ok (.slice (some ⟨g10_, x13_1.toNat, none⟩) (t261.length + 1) (co49 - x13_1.toNat)) W := fun W => cut_run W Try.underlying47 info123 g10_ x10_1.length co49 x13_1 jc_ t261.length h013_ hjce_ ccut hC10_
   have hccut_ := Aside0.mk ccut
   clear hjbe_ hjce_ ccut h013_
   have ccut := hccut_.out
   clear hm10_
   go_wp2_with (first | ((with_reducible refine gc_ 100 rfl ?_); refine gM_ (some 86) Try.func100 [.slice (some ⟨g10_, x13_1.toNat, none⟩) (t261.length + 1) (co49 - x13_1.toNat), .slice Ao48 t261.length co48] ?_; (with_reducible refine (nat_step.calls k1 (fun k_ => some k_ = (.slice (some ⟨g10_, 0, none⟩) x10_1.length co49 : Value).ownBlock) (.slice (some ⟨g10_, 0, none⟩) x10_1.length co49) (x10_1.take x13_1.toNat) (x10_1.drop (x13_1.toNat + (t261.length + 1))) (.slice (some ⟨g10_, x13_1.toNat, none⟩) (t261.length + 1) (co49 - x13_1.toNat)) ((x10_1.drop x13_1.toNat).take (t261.length + 1)) _ _ t261 t267 t268 w _ ?side1 ?side2 ?side3 ?side4 A44.out).mono ?_); (case side1 => repeat (first | (with_reducible first | exact HB.out | apply below_alloc | apply pw_below_drewN | apply below_drew1) | exact HB.out)); (case side2 => exact CutR.of_R (Kd.R_tight rfl HO_10.out) _ _ ccut hC10_); (case side3 => exact Kd.C_kept_own (HO_11.out) (fun k_ hk_ hs_ => (hk_.2.1) hs_)); (case side4 => exact (Kd.R_reads' HO_11.out).2.1); rintro e w50 ⟨rfl, hy0, hb, hkp⟩; refine ⟨_, rfl, ?_⟩; replace HO_10 := Aside0.mk (Kd.R_reok rfl (CutR.whole hy0) (fun k_ e_ => HO_10.out.1 k_ e_)); replace HO_11 := Aside0.mk (Kd.R_mono (ok' := fun k_ => (w.heap.size ≤ k_) ∧ some k_ ≠ (.slice (some ⟨g10_, 0, none⟩) x10_1.length co49 : Value).ownBlock ∧ some k_ ≠ (.slice Ao42 x12_1.length co42 : Value).ownBlock) (Kd.R_keptB (HO_11.out) hkp (fun k_ hk_ hs_ => (hk_.2.1) hs_)) (fun k_ hk_ => ⟨hk_.1.1, hk_.1.2.1, hk_.1.2.2⟩)); replace HO_12 := Aside0.mk (Kd.R_mono (ok' := fun k_ => (w.heap.size ≤ k_) ∧ some k_ ≠ (.slice (some ⟨g10_, 0, none⟩) x10_1.length co49 : Value).ownBlock ∧ some k_ ≠ (.slice Ao48 t261.length co48 : Value).ownBlock) (Kd.R_keptB (HO_12.out) hkp (fun k_ hk_ hs_ => (hk_.2.1) hs_)) (fun k_ hk_ => ⟨hk_.1.1, hk_.1.2.1, hk_.1.2.2⟩)); replace HB := Aside0.mk (hb); (try clear hb); (try clear hkp); (try clear hy0); have p47 : 0 ≤ (x13_1 : Int) := of_decide_eq_true (by first | (with_reducible assumption) | assumption); have q47 : (x13_1 : Int) < ((x12_1.length : Int) : Int) := of_decide_eq_true (by first | (with_reducible assumption) | assumption); obtain ⟨go47, co47, eo47, gb47, gl47, cl47, HG47⟩ := Kd.R_form HO_12.out (by omega); (first | cases eo47 | (injection eo47 with ea_ en_ ec_; (first | subst ea_ | (injection ea_ with ea_; subst ea_)); subst ec_; clear en_)); have GB47 := Aside0.mk gb47; have GG47 := Aside0.mk HG47; clear gb47 gl47 HG47; obtain ⟨hx47_0, hf47_0⟩ := Kd.R_celln 0 HO_12.out (x13_1 : Int) p47 q47; replace p47 := eq_true p47; replace q47 := eq_true q47; obtain ⟨hy51_, hz51_⟩ := Kd.R_celln 0 HO_12.out (x13_1 : Int) (of_decide_eq_true (by first | (with_reducible assumption) | assumption)) (of_decide_eq_true (by first | (with_reducible assumption) | assumption)); have HP51 := Kd.R_putg HO_12.out (x13_1 : Int) t267) | ((with_reducible refine gate_store (t := 123) (p := 87) rfl ?_); refine store_event (t := 123) (p := 87) (v := ?vo_w52) (w1 := (w50.setCell ⟨go47, (x13_1 : Int).toNat, none⟩ (.int .u32 t267))) ?hg ?ho ?hn ?hr ?_; (case ho => rfl); (case hg => rfl); (case hn => rfl); (case hr => first | (go_simp; done) | (go_simp; rfl)); intro w52 hw; have hg : w50.grownBy w52 (some go47) := (by rw [hw]; exact HP51.2); have hp_ : Kd.R (Kd.int .u32) 123 w52 w.heap.size (fun k_ => (w.heap.size ≤ k_) ∧ some k_ ≠ (.slice (some ⟨g10_, 0, none⟩) x10_1.length co49 : Value).ownBlock ∧ some k_ ≠ (.slice Ao48 t261.length co48 : Value).ownBlock) (.slice (some ⟨go47, 0, none⟩) x12_1.length co42) y269 := (by rw [hw, Ny269.out]; exact HP51.1); clear HP51; replace HO_10 := Aside0.mk (Kd.R_after (v := (.slice (some ⟨go47, 0, none⟩) x12_1.length co42)) (v1 := (.slice (some ⟨go47, 0, none⟩) x12_1.length co42)) (ok := (fun k_ => (w.heap.size ≤ k_) ∧ some k_ ≠ (.slice Ao48 t261.length co48 : Value).ownBlock)) (by (with_reducible repeat (first | apply ra_ | apply rn_ | apply rd_)); exact Kd.R_mono HO_10.out (fun _ hk => ⟨⟨hk.1, hk.2.1⟩, hk.2.2⟩)) hg (.inl rfl)); replace HO_11 := Aside0.mk (Kd.R_after (v := (.slice (some ⟨go47, 0, none⟩) x12_1.length co42)) (v1 := (.slice (some ⟨go47, 0, none⟩) x12_1.length co42)) (ok := (fun k_ => (w.heap.size ≤ k_) ∧ some k_ ≠ (.slice (some ⟨g10_, 0, none⟩) x10_1.length co49 : Value).ownBlock)) (by (with_reducible repeat (first | apply ra_ | apply rn_ | apply rd_)); exact Kd.R_mono HO_11.out (fun _ hk => ⟨⟨hk.1, hk.2.1⟩, hk.2.2⟩)) hg (.inl rfl)); replace HO_12 := Aside0.mk (hp_); replace HB := Aside0.mk ((by rw [hw]; exact below_set (HB.out) GB47.out : Below w.heap.size w w52)); clear hg hw hp_))
   (try simp only [← hl12_1])
   go_roundg k1
   case measure => have := HK1.out; omega
   case rel => exact ⟨(x10_1.take x13_1.toNat ++ t268 ++ x10_1.drop (x13_1.toNat + (t261.length + 1))), (y269), (wrap64 (x13_1 - 1)), (sh_), H', ⟨by have := HK1.out; omega⟩, ⟨by (try simp only [hl12_1]); (with_reducible repeat (first | apply ra_ | apply rn_ | apply rd_)); exact Kd.R_mono HO_10.out (fun _ hk => ⟨hk.1.1, ⟨hk.1.2, hk.2⟩⟩)⟩, ⟨by (try simp only [hl12_1]); (with_reducible repeat (first | apply ra_ | apply rn_ | apply rd_)); exact Kd.R_mono HO_11.out (fun _ hk => ⟨hk.1.1, ⟨hk.1.2, hk.2⟩⟩)⟩, ⟨by (try simp only [hl12_1]); (with_reducible repeat (first | apply ra_ | apply rn_ | apply rd_)); exact HO_12.out⟩, ⟨bh_⟩⟩

/-! ### nat_Nat_Uint: function 70 -/
def nat_Nat_Uint.f (k : Nat) (l0 : List Int) : Option (Int × Bool) := (nat_Nat_Len.f k l0).bind fun t276 => (if t276 > 64 then (some (0, false)) else ((nat_Nat_at.f l0 0).bind fun t277 => ((nat_Nat_at.f l0 1).bind fun t278 => (some (Go.bits .or .u64 t277 (IntKind.u64.wrap (t278 * 4294967296)), true)))))
theorem nat_Nat_Uint.mono : ∀ a0 k, LeO (nat_Nat_Uint.f k a0) (nat_Nat_Uint.f (k + 1) a0) := by
 intro a0 k
 unfold nat_Nat_Uint.f
 repeat' with_reducible first | exact nat_Nat_Len.mono _ _ | exact LeO.refl _ | exact LeO.none _ | refine LeO.ite ?_ ?_ | refine LeO.bind ?_ (fun _ => ?_)
set_option maxHeartbeats 8000000 in
set_option maxRecDepth 100000 in
theorem nat_Nat_Uint.calls (k : Nat) (A0 : Option Addr) (c0 : Nat) (l0 : List Int) (r1 : Int) (r2 : Bool) (w : World) (hr0 : Kd.C (Kd.int .u32) w A0 l0.length l0) (hc0 : l0.length ≤ c0) (h : nat_Nat_Uint.f k l0 = some (r1, r2)) :
  Calls Try.prog 70 #[.slice A0 l0.length c0] w fun e w' => e = .returned (.tuple #[.int .u64 r1, .bool r2]) ∧ Below w.heap.size w w' := by
 have HR0 := Aside0.mk hr0
 have HC0 := Aside0.mk hc0
 clear hr0 hc0
 have HB := Aside0.mk (Below.refl w.heap.size w)
 have H : ((nat_Nat_Len.f k l0).bind fun t276 => (if t276 > 64 then (some (0, false)) else ((nat_Nat_at.f l0 0).bind fun t277 => ((nat_Nat_at.f l0 1).bind fun t278 => (some (Go.bits .or .u64 t277 (IntKind.u64.wrap (t278 * 4294967296)), true)))))) = some (r1, r2) := h
 clear h
 replace H := Option.bind_eq_some_iff.mp H
 obtain ⟨t276, A20, H⟩ := H
 replace H : (if t276 > 64 then (some (0, false)) else ((nat_Nat_at.f l0 0).bind fun t277 => ((nat_Nat_at.f l0 1).bind fun t278 => (some (Go.bits .or .u64 t277 (IntKind.u64.wrap (t278 * 4294967296)), true))))) = some (r1, r2) := H
 have A2 := Aside0.mk A20
 clear A20
 by_cases c3 : t276 > 64
 case pos =>
  rw [if_pos c3] at H
  have c3b0 : decide (64 < t276) = true := decide_eq_true c3
  clear c3
  simp only [Option.some.injEq, Prod.mk.injEq] at H
  obtain ⟨rfl, rfl⟩ := H
  go_enter Try.func70, Try.ntmps70
  go_wp2_with (first | ((with_reducible refine gc_ 66 rfl ?_); refine gM_ (some 5) Try.func66 [.slice A0 l0.length c0] ?_; (with_reducible refine (nat_Nat_Len.calls k _ _ l0 t276 _ ?side1 ?side2 A2.out).mono ?_); (case side1 => repeat first | exact HR0.out | with_reducible first | apply ca_ | apply cn_ | apply cd_); (case side2 => exact HC0.out); rintro e w4 ⟨rfl, hb⟩; refine ⟨_, rfl, ?_⟩; replace HB := bq_ hb))
  go_ret2
  exact ⟨eh_, bh_⟩
 rw [if_neg c3] at H
 have c3b0 : decide (64 < t276) = false := decide_eq_false c3
 clear c3
 replace H := Option.bind_eq_some_iff.mp H
 obtain ⟨t277, A50, H⟩ := H
 replace H : ((nat_Nat_at.f l0 1).bind fun t278 => (some (Go.bits .or .u64 t277 (IntKind.u64.wrap (t278 * 4294967296)), true))) = some (r1, r2) := H
 have A5 := Aside0.mk A50
 clear A50
 replace H := Option.bind_eq_some_iff.mp H
 obtain ⟨t278, A60, H⟩ := H
 replace H : (some (Go.bits .or .u64 t277 (IntKind.u64.wrap (t278 * 4294967296)), true)) = some (r1, r2) := H
 have A6 := Aside0.mk A60
 clear A60
 simp only [Option.some.injEq, Prod.mk.injEq] at H
 obtain ⟨rfl, rfl⟩ := H
 go_enter Try.func70, Try.ntmps70
 go_wp2_with (first | ((with_reducible refine gc_ 66 rfl ?_); refine gM_ (some 5) Try.func66 [.slice A0 l0.length c0] ?_; (with_reducible refine (nat_Nat_Len.calls k _ _ l0 t276 _ ?side1 ?side2 A2.out).mono ?_); (case side1 => repeat first | exact HR0.out | with_reducible first | apply ca_ | apply cn_ | apply cd_); (case side2 => exact HC0.out); rintro e w7 ⟨rfl, hb⟩; refine ⟨_, rfl, ?_⟩; replace HB := bq_ hb) | ((with_reducible refine gc_ 102 rfl ?_); refine gM_ (some 8) Try.func102 [.slice A0 l0.length c0, .int .i64 0] ?_; (with_reducible refine (nat_Nat_at.calls _ _ l0 0 t277 _ ?side1 ?side2 A5.out).mono ?_); (case side1 => exact ch_ HR0.out); (case side2 => exact HC0.out); rintro e w' ⟨rfl, ⟨nd, rfl⟩⟩; refine ⟨_, rfl, ?_⟩) | ((with_reducible refine gc_ 102 rfl ?_); refine gM_ (some 10) Try.func102 [.slice A0 l0.length c0, .int .i64 1] ?_; (with_reducible refine (nat_Nat_at.calls _ _ l0 1 t278 _ ?side1 ?side2 A6.out).mono ?_); (case side1 => repeat (first | exact (Kd.C_below HR0.out bh_) | (with_reducible refine Kd.C_alloc ?_ _) | (with_reducible refine Kd.C_drewN ?_ _) | (with_reducible refine Kd.C_drew ?_))); (case side2 => exact HC0.out); rintro e w' ⟨rfl, ⟨nd, rfl⟩⟩; refine ⟨_, rfl, ?_⟩))
 go_ret2
 exact ⟨eh_, bh_⟩

/-! ### nat_Nat_Gcd: function 103 -/
def nat_Nat_Gcd.l0 : Nat → List Int → List Int → Option (List Int)
 | 0, _, _ => none
 | k + 1, x0, x1 => if (x1.length : Int) > 0 then ((nat_Nat_Div.f k x0 x1).bind fun bt343 => (nat_Nat_Gcd.l0 k x1 bt343.2.1)) else (some x0)
def nat_Nat_Gcd.f (k : Nat) (l0 : List Int) (l1 : List Int) : Option (List Int) := (nat_trim.f k l0).bind fun t331 => ((nat_Nat_uint32_96.f t331).bind fun t334 => ((nat_trim.f k l1).bind fun t337 => ((nat_Nat_uint32_96.f t337).bind fun t340 => (nat_Nat_Gcd.l0 k t334 t340))))
theorem nat_Nat_Gcd.mono_l : ∀ k, (∀ y0 y1, LeO (nat_Nat_Gcd.l0 k y0 y1) (nat_Nat_Gcd.l0 (k + 1) y0 y1))
 | 0 => fun _ _ r h => by simp [nat_Nat_Gcd.l0] at h
 | k + 1 => by
  have ih0 := nat_Nat_Gcd.mono_l k
  ·
   intro y0 y1
   unfold nat_Nat_Gcd.l0
   repeat' with_reducible first | exact ih0 _ _ | exact nat_Nat_Div.mono _ _ _ | exact nat_trim.mono _ _ | exact LeO.refl _ | exact LeO.none _ | refine LeO.ite ?_ ?_ | refine LeO.bind ?_ (fun _ => ?_)
theorem nat_Nat_Gcd.mono : ∀ a0 a1 k, LeO (nat_Nat_Gcd.f k a0 a1) (nat_Nat_Gcd.f (k + 1) a0 a1) := by
 intro a0 a1 k
 have ih0 := nat_Nat_Gcd.mono_l k
 unfold nat_Nat_Gcd.f
 repeat' with_reducible first | exact ih0 _ _ | exact nat_Nat_Div.mono _ _ _ | exact nat_trim.mono _ _ | exact LeO.refl _ | exact LeO.none _ | refine LeO.ite ?_ ?_ | refine LeO.bind ?_ (fun _ => ?_)
set_option maxHeartbeats 8000000 in
set_option maxRecDepth 100000 in
theorem nat_Nat_Gcd.calls (k : Nat) (P0_ : Nat → Prop) (A0 : Option Addr) (c0 : Nat) (l0 : List Int) (P1_ : Nat → Prop) (A1 : Option Addr) (c1 : Nat) (l1 : List Int) (r : List Int) (w : World) (hs0 : Kd.V (Kd.int .u32) 123 w w.heap.size (fun k_ => P0_ k_) (.slice A0 l0.length c0) l0) (hs1 : Kd.V (Kd.int .u32) 123 w w.heap.size (fun k_ => P1_ k_) (.slice A1 l1.length c1) l1) (h : nat_Nat_Gcd.f k l0 l1 = some r) :
  Calls Try.prog 103 #[.slice A0 l0.length c0, .slice A1 l1.length c1] w fun e w' => ∃ v0_ : Value, e = .returned (v0_) ∧ Kd.V (Kd.int .u32) 123 w' w.heap.size (fun k_ => ((P0_ k_ ∨ P1_ k_) ∨ w.heap.size ≤ k_)) v0_ r ∧ Below w.heap.size w w' := by
 have HO0 := Aside0.mk (show Kd.V (Kd.int .u32) 123 w w.heap.size (fun k_ => ((P0_ k_ ∨ P1_ k_) ∨ w.heap.size ≤ k_)) (.slice A0 l0.length c0) l0 from Kd.V_mono hs0 (fun k_ hk => .inl (.inl hk)))
 have HO1 := Aside0.mk (show Kd.V (Kd.int .u32) 123 w w.heap.size (fun k_ => ((P0_ k_ ∨ P1_ k_) ∨ w.heap.size ≤ k_)) (.slice A1 l1.length c1) l1 from Kd.V_mono hs1 (fun k_ hk => .inl (.inr hk)))
 have HB := Aside0.mk (Below.refl w.heap.size w)
 have H : ((nat_trim.f k l0).bind fun t331 => ((nat_Nat_uint32_96.f t331).bind fun t334 => ((nat_trim.f k l1).bind fun t337 => ((nat_Nat_uint32_96.f t337).bind fun t340 => (nat_Nat_Gcd.l0 k t334 t340))))) = some r := h
 clear h
 replace H := Option.bind_eq_some_iff.mp H
 obtain ⟨t331, A30, H⟩ := H
 replace H : ((nat_Nat_uint32_96.f t331).bind fun t334 => ((nat_trim.f k l1).bind fun t337 => ((nat_Nat_uint32_96.f t337).bind fun t340 => (nat_Nat_Gcd.l0 k t334 t340)))) = some r := H
 have A3 := Aside0.mk A30
 clear A30
 replace H := Option.bind_eq_some_iff.mp H
 obtain ⟨t334, A40, H⟩ := H
 replace H : ((nat_trim.f k l1).bind fun t337 => ((nat_Nat_uint32_96.f t337).bind fun t340 => (nat_Nat_Gcd.l0 k t334 t340))) = some r := H
 have A4 := Aside0.mk A40
 clear A40
 replace H := Option.bind_eq_some_iff.mp H
 obtain ⟨t337, A50, H⟩ := H
 replace H : ((nat_Nat_uint32_96.f t337).bind fun t340 => (nat_Nat_Gcd.l0 k t334 t340)) = some r := H
 have A5 := Aside0.mk A50
 clear A50
 replace H := Option.bind_eq_some_iff.mp H
 obtain ⟨t340, A60, H⟩ := H
 replace H : (nat_Nat_Gcd.l0 k t334 t340) = some r := H
 have A6 := Aside0.mk A60
 clear A60
 have H' := Aside0.mk H
 clear H
 go_enter Try.func103, Try.ntmps103
 go_wp2_with (first | ((with_reducible refine gc_ 85 rfl ?_); refine gM_ (some 9) Try.func85 [.slice A0 l0.length c0] ?_; (with_reducible refine (nat_trim.calls k (fun k_ => ((P0_ k_ ∨ P1_ k_) ∨ w.heap.size ≤ k_)) _ _ l0 t331 _ ?side1 A3.out).mono ?_); (case side1 => exact HO0.out); rintro e w7 ⟨v332, rfl, ho0, hb⟩; refine ⟨_, rfl, ?_⟩; replace HO1 := Aside0.mk (Kd.V_below (by (with_reducible repeat (first | apply va_ | apply vn_ | apply vd_)); exact HO1.out) hb); have HO333 := Aside0.mk (Kd.V_lower (Kd.V_mono (ok' := fun k_ => ((P0_ k_ ∨ P1_ k_) ∨ w.heap.size ≤ k_)) ho0 (fun k_ hk_ => Or.elim hk_ (fun hs_ => hs_) (fun hn_ => (.inr (Nat.le_trans (below_size bh_) hn_))))) (below_size bh_)); replace HB := bq_ hb; skip; obtain ⟨Ao8, co8, eo8⟩ := Kd.V_slice HO333.out; subst eo8) | ((with_reducible refine gc_ 96 rfl ?_); refine gM_ (some 10) Try.func96 [.slice Ao8 t331.length co8] ?_; (with_reducible refine (nat_Nat_uint32_96.calls _ _ t331 t334 _ ?side1 ?side2 A4.out).mono ?_); (case side1 => repeat first | exact (Kd.V_reads' HO333.out).2.2 | with_reducible first | apply ca_ | apply cn_ | apply cd_); (case side2 => exact (Kd.V_reads' HO333.out).2.1); rintro e w9 ⟨v335, rfl, ho0, hb⟩; refine ⟨_, rfl, ?_⟩; replace HO1 := Aside0.mk (Kd.V_below (by (with_reducible repeat (first | apply va_ | apply vn_ | apply vd_)); exact HO1.out) hb); have HO336 := Aside0.mk (Kd.V_lower (Kd.V_mono (ok' := fun k_ => ((P0_ k_ ∨ P1_ k_) ∨ w.heap.size ≤ k_)) ho0 (fun k_ hk_ => (.inr (Nat.le_trans (below_size bh_) hk_)))) (below_size bh_)); replace HB := bq_ hb) | ((with_reducible refine gc_ 85 rfl ?_); refine gM_ (some 12) Try.func85 [.slice A1 l1.length c1] ?_; (with_reducible refine (nat_trim.calls k (fun k_ => ((P0_ k_ ∨ P1_ k_) ∨ w.heap.size ≤ k_)) _ _ l1 t337 _ ?side1 A5.out).mono ?_); (case side1 => exact HO1.out); rintro e w10 ⟨v338, rfl, ho0, hb⟩; refine ⟨_, rfl, ?_⟩; replace HO336 := Aside0.mk (Kd.V_below (by (with_reducible repeat (first | apply va_ | apply vn_ | apply vd_)); exact HO336.out) hb); have HO339 := Aside0.mk (Kd.V_lower (Kd.V_mono (ok' := fun k_ => ((P0_ k_ ∨ P1_ k_) ∨ w.heap.size ≤ k_)) ho0 (fun k_ hk_ => Or.elim hk_ (fun hs_ => hs_) (fun hn_ => (.inr (Nat.le_trans (below_size bh_) hn_))))) (below_size bh_)); replace HB := bq_ hb; skip; obtain ⟨Ao11, co11, eo11⟩ := Kd.V_slice HO339.out; subst eo11) | ((with_reducible refine gc_ 96 rfl ?_); refine gM_ (some 13) Try.func96 [.slice Ao11 t337.length co11] ?_; (with_reducible refine (nat_Nat_uint32_96.calls _ _ t337 t340 _ ?side1 ?side2 A6.out).mono ?_); (case side1 => repeat first | exact (Kd.V_reads' HO339.out).2.2 | with_reducible first | apply ca_ | apply cn_ | apply cd_); (case side2 => exact (Kd.V_reads' HO339.out).2.1); rintro e w12 ⟨v341, rfl, ho0, hb⟩; refine ⟨_, rfl, ?_⟩; replace HO336 := Aside0.mk (Kd.V_below (by (with_reducible repeat (first | apply va_ | apply vn_ | apply vd_)); exact HO336.out) hb); have HO342 := Aside0.mk (Kd.V_lower (Kd.V_mono (ok' := fun k_ => ((P0_ k_ ∨ P1_ k_) ∨ w.heap.size ≤ k_)) ho0 (fun k_ hk_ => (.inr (Nat.le_trans (below_size bh_) hk_)))) (below_size bh_)); replace HB := bq_ hb))
 (try simp only [Act.put, List.setIfInBounds_toArray, List.set_cons_zero, List.set_cons_succ])
 go_loopg [0, 1] k (fun kq v0 v1 w' => ∃ (x0_1 : List Int) (x1_1 : List Int), Aside0 (nat_Nat_Gcd.l0 kq x0_1 x1_1 = some r) ∧ Aside0 (kq ≤ k) ∧ Aside0 (Kd.V (Kd.int .u32) 123 w' w.heap.size (fun k_ => ((P0_ k_ ∨ P1_ k_) ∨ w.heap.size ≤ k_)) v0 x0_1) ∧ Aside0 (Kd.V (Kd.int .u32) 123 w' w.heap.size (fun k_ => ((P0_ k_ ∨ P1_ k_) ∨ w.heap.size ≤ k_)) v1 x1_1) ∧ Aside0 (Below w.heap.size w w'))
 case atStart => exact ⟨(t334), (t340), H', ⟨Nat.le_refl _⟩, ⟨by (with_reducible repeat (first | apply va_ | apply vn_ | apply vd_)); exact HO336.out⟩, ⟨by (with_reducible repeat (first | apply va_ | apply vn_ | apply vd_)); exact HO342.out⟩, ⟨bh_⟩⟩
 case round =>
  clear H'
  try clear c1
  try clear p2
  try clear c8
  try clear c9
  try clear c10
  obtain ⟨x0_1, x1_1, HA, HK1, HO_0, HO_1, HB⟩ := hrel
  cases gk with
  | zero => exact absurd HA.out (by simp [nat_Nat_Gcd.l0])
  | succ k1 =>
   have H := HA.out
   clear HA
   simp only [nat_Nat_Gcd.l0] at H
   by_cases c13 : (x1_1.length : Int) > 0
   case neg =>
    rw [if_neg c13] at H
    have c13b0 : decide (0 < (x1_1.length : Int)) = false := decide_eq_false c13
    have c13b1 : decide (0 < x1_1.length) = false := decide_eq_false (by omega)
    clear c13
    obtain rfl := Option.some.inj H
    obtain ⟨Ao18, co18, eo18⟩ := Kd.V_slice HO_1.out
    subst eo18
    go_wp2
    go_ret
    exact ⟨_, eh_, by (with_reducible repeat (first | apply va_ | apply vn_ | apply vd_)); exact HO_0.out, bh_⟩
   rw [if_pos c13] at H
   have c13b0 : decide (0 < (x1_1.length : Int)) = true := decide_eq_true c13
   have c13b1 : decide (0 < x1_1.length) = true := decide_eq_true (by omega)
   clear c13
   replace H := Option.bind_eq_some_iff.mp H
   obtain ⟨⟨t343, t346, t349⟩, A140, H⟩ := H
   replace H : (nat_Nat_Gcd.l0 k1 x1_1 t346) = some r := H
   have A14 := Aside0.mk A140
   clear A140
   have H' := Aside0.mk H
   clear H
   obtain ⟨Ao15, co15, eo15⟩ := Kd.V_slice HO_1.out
   subst eo15
   obtain ⟨Ao16, co16, eo16⟩ := Kd.V_slice HO_0.out
   subst eo16
   go_wp2_with (first | ((with_reducible refine gc_ 69 rfl ?_); refine gM_ (some 20) Try.func69 [.slice Ao16 x0_1.length co16, .slice Ao15 x1_1.length co15] ?_; (with_reducible refine (nat_Nat_Div.calls k1 (fun k_ => ((P0_ k_ ∨ P1_ k_) ∨ w.heap.size ≤ k_)) _ _ x0_1 (fun k_ => ((P0_ k_ ∨ P1_ k_) ∨ w.heap.size ≤ k_)) _ _ x1_1 t343 t346 t349 _ ?side1 ?side2 A14.out).mono ?_); (case side1 => exact HO_0.out); (case side2 => exact HO_1.out); rintro e w17 ⟨v344, v347, rfl, ho0, ho1, hb⟩; refine ⟨_, rfl, ?_⟩; replace HO_0 := Aside0.mk (Kd.V_below (by (with_reducible repeat (first | apply va_ | apply vn_ | apply vd_)); exact HO_0.out) hb); replace HO_1 := Aside0.mk (Kd.V_below (by (with_reducible repeat (first | apply va_ | apply vn_ | apply vd_)); exact HO_1.out) hb); have HO348 := Aside0.mk (Kd.V_lower (Kd.V_mono (ok' := fun k_ => ((P0_ k_ ∨ P1_ k_) ∨ w.heap.size ≤ k_)) ho1 (fun k_ hk_ => Or.elim hk_ (fun hs_ => Or.elim hs_ (fun hs_ => hs_) (fun hs_ => hs_)) (fun hn_ => (.inr (Nat.le_trans (below_size bh_) hn_))))) (below_size bh_)); replace HB := bq_ hb))
   go_roundg k1
   case measure => have := HK1.out; omega
   case rel => exact ⟨(x1_1), (t346), H', ⟨by have := HK1.out; omega⟩, ⟨by (with_reducible repeat (first | apply va_ | apply vn_ | apply vd_)); exact HO_1.out⟩, ⟨by (with_reducible repeat (first | apply va_ | apply vn_ | apply vd_)); exact HO348.out⟩, ⟨bh_⟩⟩

end Go.Proofs.Ytfglpaaeipblcaa.P
