/- Walks of one package: what each function returns, wherever the Lean function beside it has an answer. -/
import Derived.Test.YtfglpaaeipblcaaP0
namespace Go.Proofs.Ytfglpaaeipblcaa.P
open Go.RowKit Go.Proofs.YtfglpaaeipblcaaW.PrintWords Go.Proofs.YtfglpaaeipblcaaW.PrintLast Go.Proofs.YtfglpaaeipblcaaW.PrintMore
attribute [local go_sem] max2_int min2_int max_two min_two max_three min_three max_four min_four   -- for this text's walks alone
set_option linter.unusedVariables false
set_option linter.unusedSimpArgs false

/-! ### flyballref04_Make: function 89 -/
def flyballref04_Make.f (a0 : Bool) (a1 : Int) (a2 : Int) : Option (Int) := if a0 = true then (some (IntKind.u64.wrap ((IntKind.u64.wrap ((IntKind.u64.wrap ((IntKind.u64.wrap (a1)) * 4503599627370496)) + a2)) + 9223372036854775808))) else (some (IntKind.u64.wrap ((IntKind.u64.wrap ((IntKind.u64.wrap (a1)) * 4503599627370496)) + a2)))
set_option maxHeartbeats 8000000 in
set_option maxRecDepth 100000 in
theorem flyballref04_Make.calls (a0 : Bool) (a1 : Int) (a2 : Int) (r : Int) (w : World) (h : flyballref04_Make.f a0 a1 a2 = some r) :
  Calls Try.prog 89 #[.bool a0, .int .i64 a1, .int .u64 a2] w fun e w' => e = .returned (.int .u64 r) ∧ Drawn0 w w' := by
 have H : (if a0 = true then (some (IntKind.u64.wrap ((IntKind.u64.wrap ((IntKind.u64.wrap ((IntKind.u64.wrap (a1)) * 4503599627370496)) + a2)) + 9223372036854775808))) else (some (IntKind.u64.wrap ((IntKind.u64.wrap ((IntKind.u64.wrap (a1)) * 4503599627370496)) + a2)))) = some r := h
 clear h
 by_cases c4 : a0 = true
 case pos =>
  subst c4
  have H1 : (some (IntKind.u64.wrap ((IntKind.u64.wrap ((IntKind.u64.wrap ((IntKind.u64.wrap (a1)) * 4503599627370496)) + a2)) + 9223372036854775808))) = some r := by rw [if_pos rfl] at H; exact H
  clear H
  have H := H1
  clear H1
  obtain rfl := Option.some.inj H
  go_enter Try.func89, Try.ntmps89
  go_wp2
  go_ret
  exact ⟨sh_, dh_⟩
 replace c4 := Bool.eq_false_iff.mpr c4
 subst c4
 have H1 : (some (IntKind.u64.wrap ((IntKind.u64.wrap ((IntKind.u64.wrap (a1)) * 4503599627370496)) + a2))) = some r := by rw [if_neg (show ¬ (false = true) by decide)] at H; exact H
 clear H
 have H := H1
 clear H1
 obtain rfl := Option.some.inj H
 go_enter Try.func89, Try.ntmps89
 go_wp2
 go_ret
 exact ⟨sh_, dh_⟩

/-! ### flyballref04_Of: function 61 -/
def flyballref04_Of.j0 : Nat → Int → Bool → Option (Int)
 | 0, _, _ => none
 | k + 1, x0, x13 => if x13 = true then ((flyballref04_Make.f true (wrap64 (Int.tdiv (wrap64 (-x0)) 4503599627370496)) (IntKind.u64.wrap (Int.tmod (wrap64 (-x0)) 4503599627370496))).bind fun t444 => (some t444)) else ((flyballref04_Make.f false (wrap64 (Int.tdiv x0 4503599627370496)) (IntKind.u64.wrap (Int.tmod x0 4503599627370496))).bind fun t445 => (some t445))
def flyballref04_Of.f (k : Nat) (a0 : Int) (a1 : Bool) : Option (Int) := if a0 < 0 then (flyballref04_Of.j0 k a0 true) else (if a0 = 0 then (flyballref04_Of.j0 k a0 a1) else (flyballref04_Of.j0 k a0 false))
theorem flyballref04_Of.mono_l : ∀ k, (∀ y0 y1, LeO (flyballref04_Of.j0 k y0 y1) (flyballref04_Of.j0 (k + 1) y0 y1))
 | 0 => fun _ _ r h => by simp [flyballref04_Of.j0] at h
 | k + 1 => by
  have ih0 := flyballref04_Of.mono_l k
  ·
   intro y0 y1
   unfold flyballref04_Of.j0
   repeat' with_reducible first | exact ih0 _ _ | exact LeO.refl _ | exact LeO.none _ | refine LeO.ite ?_ ?_ | refine LeO.bind ?_ (fun _ => ?_)
theorem flyballref04_Of.mono : ∀ a0 a1 k, LeO (flyballref04_Of.f k a0 a1) (flyballref04_Of.f (k + 1) a0 a1) := by
 intro a0 a1 k
 have ih0 := flyballref04_Of.mono_l k
 unfold flyballref04_Of.f
 repeat' with_reducible first | exact ih0 _ _ | exact LeO.refl _ | exact LeO.none _ | refine LeO.ite ?_ ?_ | refine LeO.bind ?_ (fun _ => ?_)
set_option maxHeartbeats 8000000 in
set_option maxRecDepth 100000 in
theorem flyballref04_Of.calls (k : Nat) (a0 : Int) (a1 : Bool) (r : Int) (w : World) (h : flyballref04_Of.f k a0 a1 = some r) :
  Calls Try.prog 61 #[.int .i64 a0, .bool a1] w fun e w' => e = .returned (.int .u64 r) ∧ Drawn0 w w' := by
 have H : (if a0 < 0 then (flyballref04_Of.j0 k a0 true) else (if a0 = 0 then (flyballref04_Of.j0 k a0 a1) else (flyballref04_Of.j0 k a0 false))) = some r := h
 clear h
 have HC3 := Aside0.mk H
 clear H
 go_enter Try.func61, Try.ntmps61
 go_upto_region 1 with (fail)
 go_cut [13] (fun v13 wc => ∃ (kq : Nat) (x13_2 : Bool), v13 = .bool x13_2 ∧ Aside0 (flyballref04_Of.j0 kq a0 x13_2 = some r) ∧ Aside0 (kq ≤ k) ∧ Drawn0 w wc)
 case first =>
  have H := HC3.out
  clear HC3
  by_cases c4 : a0 < 0
  case pos =>
   rw [if_pos c4] at H
   have c4b0 : decide (a0 < 0) = true := decide_eq_true c4
   clear c4
   (first | rw [c4b0] | (simp only [i64_w, i32_w]; rw [c4b0]) | skip)
   have H' := Aside0.mk H
   clear H
   go_wp2
   go_meet
   case rel => exact ⟨_, (true), (sh_), H', ⟨by first | omega | exact Nat.le_refl _⟩, dh_⟩
  rw [if_neg c4] at H
  have c4b0 : decide (a0 < 0) = false := decide_eq_false c4
  clear c4
  (first | rw [c4b0] | (simp only [i64_w, i32_w]; rw [c4b0]) | skip)
  by_cases c5 : a0 = 0
  case neg =>
   rw [if_neg c5] at H
   have c5b0 : (a0 == 0) = false := beq_eq_false_iff_ne.mpr c5
   have c5b1 : (a0 != 0) = true := bne_iff_ne.mpr c5
   have H' := Aside0.mk H
   clear H
   go_wp2
   go_meet
   case rel => exact ⟨_, (false), (sh_), H', ⟨by first | omega | exact Nat.le_refl _⟩, dh_⟩
  rw [if_pos c5] at H
  have c5b0 : (a0 == 0) = true := beq_iff_eq.mpr c5
  have c5b1 : (a0 != 0) = false := bne_eq_false_iff_eq.mpr c5
  clear c5
  have H' := Aside0.mk H
  clear H
  go_wp2
  go_meet
  case rel => exact ⟨_, (a1), (sh_), H', ⟨by first | omega | exact Nat.le_refl _⟩, dh_⟩
 case rest =>
  clear HC3
  try clear p2
  try clear c4
  try clear c4b0
  try clear c5
  try clear c5b0
  try clear c5b1
  obtain ⟨kq, x13_2, rfl, HA, HJ2, ⟨mc2, rfl⟩⟩ := hcut
  cases kq with
  | zero => exact absurd HA.out (by simp [flyballref04_Of.j0])
  | succ kj2 =>
   have H := HA.out
   clear HA
   simp only [flyballref04_Of.j0] at H
   by_cases c6 : x13_2 = true
   case pos =>
    subst c6
    have H1 : ((flyballref04_Make.f true (wrap64 (Int.tdiv (wrap64 (-a0)) 4503599627370496)) (IntKind.u64.wrap (Int.tmod (wrap64 (-a0)) 4503599627370496))).bind fun t444 => (some t444)) = some r := by rw [if_pos rfl] at H; exact H
    clear H
    have H := H1
    clear H1
    replace H := Option.bind_eq_some_iff.mp H
    obtain ⟨t444, A70, H⟩ := H
    replace H : (some t444) = some r := H
    have A7 := Aside0.mk A70
    clear A70
    obtain rfl := Option.some.inj H
    go_wp2_with (first | ((with_reducible refine gc_ 89 rfl ?_); refine gM_ (some 21) Try.func89 [.bool true, .int .i64 (wrap64 (Int.tdiv (wrap64 (-a0)) 4503599627370496)), .int .u64 (IntKind.u64.wrap (Int.tmod (wrap64 (-a0)) 4503599627370496))] ?_; (with_reducible refine (flyballref04_Make.calls true (wrap64 (Int.tdiv (wrap64 (-a0)) 4503599627370496)) (IntKind.u64.wrap (Int.tmod (wrap64 (-a0)) 4503599627370496)) t444 _ A7.out).mono ?_); rintro e w' ⟨rfl, ⟨nd, rfl⟩⟩; refine ⟨_, rfl, ?_⟩))
    go_ret
    exact ⟨sh_, dh_⟩
   replace c6 := Bool.eq_false_iff.mpr c6
   subst c6
   have H1 : ((flyballref04_Make.f false (wrap64 (Int.tdiv a0 4503599627370496)) (IntKind.u64.wrap (Int.tmod a0 4503599627370496))).bind fun t445 => (some t445)) = some r := by rw [if_neg (show ¬ (false = true) by decide)] at H; exact H
   clear H
   have H := H1
   clear H1
   replace H := Option.bind_eq_some_iff.mp H
   obtain ⟨t445, A80, H⟩ := H
   replace H : (some t445) = some r := H
   have A8 := Aside0.mk A80
   clear A80
   obtain rfl := Option.some.inj H
   go_wp2_with (first | ((with_reducible refine gc_ 89 rfl ?_); refine gM_ (some 27) Try.func89 [.bool false, .int .i64 (wrap64 (Int.tdiv a0 4503599627370496)), .int .u64 (IntKind.u64.wrap (Int.tmod a0 4503599627370496))] ?_; (with_reducible refine (flyballref04_Make.calls false (wrap64 (Int.tdiv a0 4503599627370496)) (IntKind.u64.wrap (Int.tmod a0 4503599627370496)) t445 _ A8.out).mono ?_); rintro e w' ⟨rfl, ⟨nd, rfl⟩⟩; refine ⟨_, rfl, ?_⟩))
   go_ret
   exact ⟨sh_, dh_⟩

end Go.Proofs.Ytfglpaaeipblcaa.P
