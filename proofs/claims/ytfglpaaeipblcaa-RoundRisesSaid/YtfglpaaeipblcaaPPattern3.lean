/- Walks of one package: what each function returns, wherever the Lean function beside it has an answer. -/
import Derived.Test.YtfglpaaeipblcaaP0
import Derived.Test.YtfglpaaeipblcaaPPattern1
namespace Go.Proofs.Ytfglpaaeipblcaa.P
open Go.RowKit Go.Proofs.YtfglpaaeipblcaaW.PrintWords Go.Proofs.YtfglpaaeipblcaaW.PrintLast Go.Proofs.YtfglpaaeipblcaaW.PrintMore
attribute [local go_sem] max2_int min2_int max_two min_two max_three min_three max_four min_four   -- for this text's walks alone
set_option linter.unusedVariables false
set_option linter.unusedSimpArgs false

/-! ### pattern_nan: function 76 -/
def pattern_nan.f (k : Nat) (a0 : Int) : Option (Bool) := (pattern_Class.f k a0).bind fun t645 => (some (t645 == 4))
theorem pattern_nan.mono : ∀ a0 k, LeO (pattern_nan.f k a0) (pattern_nan.f (k + 1) a0) := by
 intro a0 k
 unfold pattern_nan.f
 repeat' first
   | (with_reducible exact pattern_Class.mono _ _)
   | (with_reducible exact LeO.refl _)
   | (with_reducible exact LeO.none _)
   | (with_reducible refine LeO.ite ?_ ?_)
   | (with_reducible refine LeO.bind ?_ (fun _ => ?_))
   | exact pattern_Class.mono _ _
   | exact LeO.none _
   | refine LeO.ite ?_ ?_
   | refine LeO.bind ?_ (fun _ => ?_)
set_option maxHeartbeats 8000000 in
set_option maxRecDepth 100000 in
theorem pattern_nan.calls (k : Nat) (a0 : Int) (r : Bool) (w : World) (h : pattern_nan.f k a0 = some r) :
  Calls Try.prog 76 #[.int .u64 a0] w fun e w' => e = .returned (.bool r) ∧ Drawn0 w w' := by
 have H : ((pattern_Class.f k a0).bind fun t645 => (some (t645 == 4))) = some r := h
 clear h
 replace H := Option.bind_eq_some_iff.mp H
 obtain ⟨t645, A20, H⟩ := H
 replace H : (some (t645 == 4)) = some r := H
 have A2 := Aside0.mk A20
 clear A20
 obtain rfl := Option.some.inj H
 go_enter Try.func76, Try.ntmps76
 go_wp2_with (first | ((with_reducible refine gate_callee (f := 50) rfl ?_); refine goesM_ (some 4) rfl rfl Try.func50 (by kernel_rfl) rfl [.int .u64 a0] rfl (by rfl) ?_; (with_reducible refine (pattern_Class.calls k a0 t645 _ A2.out).mono ?_); rintro e w' ⟨rfl, ⟨nd, rfl⟩⟩; refine ⟨_, rfl, ?_⟩))
 go_ret
 exact ⟨by first | rfl | (simp; done) | (simp [*]; done), by repeat (first | exact Drawn0.refl _ | apply Drawn0.step)⟩

/-! ### pattern_key: function 77 -/
def pattern_key.f (a0 : Int) : Option (Int) := if (a0 / 9223372036854775808) = 1 then (some (wrap64 (-(wrap64 (Go.bits .andNot .u64 a0 9223372036854775808))))) else (some (wrap64 (Go.bits .andNot .u64 a0 9223372036854775808)))
set_option maxHeartbeats 8000000 in
set_option maxRecDepth 100000 in
theorem pattern_key.calls (a0 : Int) (r : Int) (w : World) (h : pattern_key.f a0 = some r) :
  Calls Try.prog 77 #[.int .u64 a0] w fun e w' => e = .returned (.int .i64 r) ∧ Drawn0 w w' := by
 have H : (if (a0 / 9223372036854775808) = 1 then (some (wrap64 (-(wrap64 (Go.bits .andNot .u64 a0 9223372036854775808))))) else (some (wrap64 (Go.bits .andNot .u64 a0 9223372036854775808)))) = some r := h
 clear h
 by_cases c2 : (a0 / 9223372036854775808) = 1
 case neg =>
  rw [if_neg c2] at H
  have c2b0 : ((a0 / 9223372036854775808) == 1) = false := beq_eq_false_iff_ne.mpr c2
  have c2b1 : ((a0 / 9223372036854775808) != 1) = true := bne_iff_ne.mpr c2
  obtain rfl := Option.some.inj H
  go_enter Try.func77, Try.ntmps77
  go_wp2
  go_ret
  exact ⟨by first | rfl | (simp; done) | (simp [*]; done), by repeat (first | exact Drawn0.refl _ | apply Drawn0.step)⟩
 rw [if_pos c2] at H
 have c2b0 : ((a0 / 9223372036854775808) == 1) = true := beq_iff_eq.mpr c2
 have c2b1 : ((a0 / 9223372036854775808) != 1) = false := bne_eq_false_iff_eq.mpr c2
 clear c2
 obtain rfl := Option.some.inj H
 go_enter Try.func77, Try.ntmps77
 go_wp2
 go_ret
 exact ⟨by first | rfl | (simp; done) | (simp [*]; done), by repeat (first | exact Drawn0.refl _ | apply Drawn0.step)⟩

/-! ### pattern_Cmp: function 37 -/
def pattern_Cmp.j0 : Nat → Int → Int → Bool → Option (Int × Bool)
 | 0, _, _, _ => none
 | k + 1, x0, x1, x13 => if x13 = true then (some (0, false)) else ((pattern_key.f x0).bind fun t648 => ((pattern_key.f x1).bind fun t649 => (if t648 < t649 then (some ((-1), true)) else (if t648 > t649 then (some (1, true)) else (some (0, true))))))
def pattern_Cmp.f (k : Nat) (a0 : Int) (a1 : Int) : Option (Int × Bool) := (pattern_nan.f k a0).bind fun t646 => (if t646 = true then (pattern_Cmp.j0 k a0 a1 true) else ((pattern_nan.f k a1).bind fun t647 => (pattern_Cmp.j0 k a0 a1 t647)))
theorem pattern_Cmp.mono_l : ∀ k, (∀ y0 y1 y2, LeO (pattern_Cmp.j0 k y0 y1 y2) (pattern_Cmp.j0 (k + 1) y0 y1 y2))
 | 0 => fun _ _ _ r h => by simp [pattern_Cmp.j0] at h
 | k + 1 => by
  have ih0 := pattern_Cmp.mono_l k
  ·
   intro y0 y1 y2
   unfold pattern_Cmp.j0
   repeat' first
   | (with_reducible exact ih0 _ _ _)
   | (with_reducible exact pattern_nan.mono _ _)
   | (with_reducible exact LeO.refl _)
   | (with_reducible exact LeO.none _)
   | (with_reducible refine LeO.ite ?_ ?_)
   | (with_reducible refine LeO.bind ?_ (fun _ => ?_))
   | exact ih0 _ _ _
   | exact pattern_nan.mono _ _
   | exact LeO.none _
   | refine LeO.ite ?_ ?_
   | refine LeO.bind ?_ (fun _ => ?_)
theorem pattern_Cmp.mono : ∀ a0 a1 k, LeO (pattern_Cmp.f k a0 a1) (pattern_Cmp.f (k + 1) a0 a1) := by
 intro a0 a1 k
 have ih0 := pattern_Cmp.mono_l k
 unfold pattern_Cmp.f
 repeat' first
   | (with_reducible exact ih0 _ _ _)
   | (with_reducible exact pattern_nan.mono _ _)
   | (with_reducible exact LeO.refl _)
   | (with_reducible exact LeO.none _)
   | (with_reducible refine LeO.ite ?_ ?_)
   | (with_reducible refine LeO.bind ?_ (fun _ => ?_))
   | exact ih0 _ _ _
   | exact pattern_nan.mono _ _
   | exact LeO.none _
   | refine LeO.ite ?_ ?_
   | refine LeO.bind ?_ (fun _ => ?_)
set_option maxHeartbeats 8000000 in
set_option maxRecDepth 100000 in
theorem pattern_Cmp.calls (k : Nat) (a0 : Int) (a1 : Int) (r1 : Int) (r2 : Bool) (w : World) (h : pattern_Cmp.f k a0 a1 = some (r1, r2)) :
  Calls Try.prog 37 #[.int .u64 a0, .int .u64 a1] w fun e w' => e = .returned (.tuple #[.int .i64 r1, .bool r2]) ∧ Drawn0 w w' := by
 have H : ((pattern_nan.f k a0).bind fun t646 => (if t646 = true then (pattern_Cmp.j0 k a0 a1 true) else ((pattern_nan.f k a1).bind fun t647 => (pattern_Cmp.j0 k a0 a1 t647)))) = some (r1, r2) := h
 clear h
 have HC3 := Aside0.mk H
 clear H
 go_enter Try.func37, Try.ntmps37
 go_upto_region 1 with (fail)
 go_cut [13] (fun v13 wc => ∃ (kq : Nat) (x13_2 : Bool), v13 = .bool x13_2 ∧ Aside0 (pattern_Cmp.j0 kq a0 a1 x13_2 = some (r1, r2)) ∧ Aside0 (kq ≤ k) ∧ Drawn0 w wc)
 case first =>
  have H := HC3.out
  clear HC3
  replace H := Option.bind_eq_some_iff.mp H
  obtain ⟨t646, A40, H⟩ := H
  replace H : (if t646 = true then (pattern_Cmp.j0 k a0 a1 true) else ((pattern_nan.f k a1).bind fun t647 => (pattern_Cmp.j0 k a0 a1 t647))) = some (r1, r2) := H
  have A4 := Aside0.mk A40
  clear A40
  by_cases c5 : t646 = true
  case pos =>
   subst c5
   have H1 : (pattern_Cmp.j0 k a0 a1 true) = some (r1, r2) := by rw [if_pos rfl] at H; exact H
   clear H
   have H := H1
   clear H1
   have H' := Aside0.mk H
   clear H
   go_wp2_with (first | ((with_reducible refine gate_callee (f := 76) rfl ?_); refine goesM_ (some 9) rfl rfl Try.func76 (by kernel_rfl) rfl [.int .u64 a0] rfl (by rfl) ?_; (with_reducible refine (pattern_nan.calls k a0 true _ A4.out).mono ?_); rintro e w' ⟨rfl, ⟨nd, rfl⟩⟩; refine ⟨_, rfl, ?_⟩))
   go_meet
   case rel => exact ⟨_, (true), (by first | rfl | (simp; done) | (simp [*]; done)), H', ⟨by first | omega | exact Nat.le_refl _⟩, by repeat (first | exact Drawn0.refl _ | apply Drawn0.step)⟩
  replace c5 := Bool.eq_false_iff.mpr c5
  subst c5
  have H1 : ((pattern_nan.f k a1).bind fun t647 => (pattern_Cmp.j0 k a0 a1 t647)) = some (r1, r2) := by rw [if_neg (show ¬ (false = true) by decide)] at H; exact H
  clear H
  have H := H1
  clear H1
  replace H := Option.bind_eq_some_iff.mp H
  obtain ⟨t647, A60, H⟩ := H
  replace H : (pattern_Cmp.j0 k a0 a1 t647) = some (r1, r2) := H
  have A6 := Aside0.mk A60
  clear A60
  have H' := Aside0.mk H
  clear H
  go_wp2_with (first | ((with_reducible refine gate_callee (f := 76) rfl ?_); refine goesM_ (some 9) rfl rfl Try.func76 (by kernel_rfl) rfl [.int .u64 a0] rfl (by rfl) ?_; (with_reducible refine (pattern_nan.calls k a0 false _ A4.out).mono ?_); rintro e w' ⟨rfl, ⟨nd, rfl⟩⟩; refine ⟨_, rfl, ?_⟩) | (go_at_call 76; (with_reducible refine (pattern_nan.calls k a1 t647 _ A6.out).mono ?_); rintro e w' ⟨rfl, ⟨nd, rfl⟩⟩))
  go_meet
  case rel => exact ⟨_, (t647), (by first | rfl | (simp; done) | (simp [*]; done)), H', ⟨by first | omega | exact Nat.le_refl _⟩, by repeat (first | exact Drawn0.refl _ | apply Drawn0.step)⟩
 case rest =>
  clear HC3
  try clear p2
  try clear c3
  try clear c5
  obtain ⟨kq, x13_2, rfl, HA, HJ2, ⟨mc2, rfl⟩⟩ := hcut
  cases kq with
  | zero => exact absurd HA.out (by simp [pattern_Cmp.j0])
  | succ kj2 =>
   have H := HA.out
   clear HA
   simp only [pattern_Cmp.j0] at H
   by_cases c7 : x13_2 = true
   case pos =>
    subst c7
    have H1 : (some (0, false)) = some (r1, r2) := by rw [if_pos rfl] at H; exact H
    clear H
    have H := H1
    clear H1
    simp only [Option.some.injEq, Prod.mk.injEq] at H
    obtain ⟨rfl, rfl⟩ := H
    go_wp2
    go_ret2
    exact ⟨by first | rfl | (simp; done) | (simp [*]; done), by repeat (first | exact Drawn0.refl _ | apply Drawn0.step)⟩
   replace c7 := Bool.eq_false_iff.mpr c7
   subst c7
   have H1 : ((pattern_key.f a0).bind fun t648 => ((pattern_key.f a1).bind fun t649 => (if t648 < t649 then (some ((-1), true)) else (if t648 > t649 then (some (1, true)) else (some (0, true)))))) = some (r1, r2) := by rw [if_neg (show ¬ (false = true) by decide)] at H; exact H
   clear H
   have H := H1
   clear H1
   replace H := Option.bind_eq_some_iff.mp H
   obtain ⟨t648, A80, H⟩ := H
   replace H : ((pattern_key.f a1).bind fun t649 => (if t648 < t649 then (some ((-1), true)) else (if t648 > t649 then (some (1, true)) else (some (0, true))))) = some (r1, r2) := H
   have A8 := Aside0.mk A80
   clear A80
   replace H := Option.bind_eq_some_iff.mp H
   obtain ⟨t649, A90, H⟩ := H
   replace H : (if t648 < t649 then (some ((-1), true)) else (if t648 > t649 then (some (1, true)) else (some (0, true)))) = some (r1, r2) := H
   have A9 := Aside0.mk A90
   clear A90
   by_cases c10 : t648 < t649
   case pos =>
    rw [if_pos c10] at H
    have c10b0 : decide (t648 < t649) = true := decide_eq_true c10
    clear c10
    simp only [Option.some.injEq, Prod.mk.injEq] at H
    obtain ⟨rfl, rfl⟩ := H
    go_wp2_with (first | ((with_reducible refine gate_callee (f := 77) rfl ?_); refine goesM_ (some 15) rfl rfl Try.func77 (by kernel_rfl) rfl [.int .u64 a0] rfl (by rfl) ?_; (with_reducible refine (pattern_key.calls a0 t648 _ A8.out).mono ?_); rintro e w' ⟨rfl, ⟨nd, rfl⟩⟩; refine ⟨_, rfl, ?_⟩) | ((with_reducible refine gate_callee (f := 77) rfl ?_); refine goesM_ (some 17) rfl rfl Try.func77 (by kernel_rfl) rfl [.int .u64 a1] rfl (by rfl) ?_; (with_reducible refine (pattern_key.calls a1 t649 _ A9.out).mono ?_); rintro e w' ⟨rfl, ⟨nd, rfl⟩⟩; refine ⟨_, rfl, ?_⟩))
    go_ret2
    exact ⟨by first | rfl | (simp; done) | (simp [*]; done), by repeat (first | exact Drawn0.refl _ | apply Drawn0.step)⟩
   rw [if_neg c10] at H
   have c10b0 : decide (t648 < t649) = false := decide_eq_false c10
   clear c10
   by_cases c11 : t648 > t649
   case pos =>
    rw [if_pos c11] at H
    have c11b0 : decide (t649 < t648) = true := decide_eq_true c11
    clear c11
    simp only [Option.some.injEq, Prod.mk.injEq] at H
    obtain ⟨rfl, rfl⟩ := H
    go_wp2_with (first | ((with_reducible refine gate_callee (f := 77) rfl ?_); refine goesM_ (some 15) rfl rfl Try.func77 (by kernel_rfl) rfl [.int .u64 a0] rfl (by rfl) ?_; (with_reducible refine (pattern_key.calls a0 t648 _ A8.out).mono ?_); rintro e w' ⟨rfl, ⟨nd, rfl⟩⟩; refine ⟨_, rfl, ?_⟩) | ((with_reducible refine gate_callee (f := 77) rfl ?_); refine goesM_ (some 17) rfl rfl Try.func77 (by kernel_rfl) rfl [.int .u64 a1] rfl (by rfl) ?_; (with_reducible refine (pattern_key.calls a1 t649 _ A9.out).mono ?_); rintro e w' ⟨rfl, ⟨nd, rfl⟩⟩; refine ⟨_, rfl, ?_⟩))
    go_ret2
    exact ⟨by first | rfl | (simp; done) | (simp [*]; done), by repeat (first | exact Drawn0.refl _ | apply Drawn0.step)⟩
   rw [if_neg c11] at H
   have c11b0 : decide (t649 < t648) = false := decide_eq_false c11
   clear c11
   simp only [Option.some.injEq, Prod.mk.injEq] at H
   obtain ⟨rfl, rfl⟩ := H
   go_wp2_with (first | ((with_reducible refine gate_callee (f := 77) rfl ?_); refine goesM_ (some 15) rfl rfl Try.func77 (by kernel_rfl) rfl [.int .u64 a0] rfl (by rfl) ?_; (with_reducible refine (pattern_key.calls a0 t648 _ A8.out).mono ?_); rintro e w' ⟨rfl, ⟨nd, rfl⟩⟩; refine ⟨_, rfl, ?_⟩) | ((with_reducible refine gate_callee (f := 77) rfl ?_); refine goesM_ (some 17) rfl rfl Try.func77 (by kernel_rfl) rfl [.int .u64 a1] rfl (by rfl) ?_; (with_reducible refine (pattern_key.calls a1 t649 _ A9.out).mono ?_); rintro e w' ⟨rfl, ⟨nd, rfl⟩⟩; refine ⟨_, rfl, ?_⟩))
   go_ret2
   exact ⟨by first | rfl | (simp; done) | (simp [*]; done), by repeat (first | exact Drawn0.refl _ | apply Drawn0.step)⟩

end Go.Proofs.Ytfglpaaeipblcaa.P
