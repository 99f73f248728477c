/- Walks of one package: what each function returns, wherever the Lean function beside it has an answer. -/
import Derived.Test.YtfglpaaeipblcaaP0
import Derived.Test.YtfglpaaeipblcaaPPattern3
namespace Go.Proofs.Ytfglpaaeipblcaa.P
open Go.RowKit Go.Proofs.YtfglpaaeipblcaaW.PrintWords Go.Proofs.YtfglpaaeipblcaaW.PrintLast Go.Proofs.YtfglpaaeipblcaaW.PrintMore
attribute [local go_sem] max2_int min2_int max_two min_two max_three min_three max_four min_four   -- for this text's walks alone
set_option linter.unusedVariables false
set_option linter.unusedSimpArgs false

/-! ### pattern_Less: function 39 -/
def pattern_Less.f (k : Nat) (a0 : Int) (a1 : Int) : Option (Bool) := (pattern_Cmp.f k a0 a1).bind fun bt673 => (if bt673.2 = true then (some (decide (bt673.1 < 0))) else (some false))
theorem pattern_Less.mono : ∀ a0 a1 k, LeO (pattern_Less.f k a0 a1) (pattern_Less.f (k + 1) a0 a1) := by
 intro a0 a1 k
 unfold pattern_Less.f
 repeat' first
   | (with_reducible exact pattern_Cmp.mono _ _ _)
   | (with_reducible exact LeO.refl _)
   | (with_reducible exact LeO.none _)
   | (with_reducible refine LeO.ite ?_ ?_)
   | (with_reducible refine LeO.bind ?_ (fun _ => ?_))
   | exact pattern_Cmp.mono _ _ _
   | exact LeO.none _
   | refine LeO.ite ?_ ?_
   | refine LeO.bind ?_ (fun _ => ?_)
set_option maxHeartbeats 8000000 in
set_option maxRecDepth 100000 in
theorem pattern_Less.calls (k : Nat) (a0 : Int) (a1 : Int) (r : Bool) (w : World) (h : pattern_Less.f k a0 a1 = some r) :
  Calls Try.prog 39 #[.int .u64 a0, .int .u64 a1] w fun e w' => e = .returned (.bool r) ∧ Drawn0 w w' := by
 have H : ((pattern_Cmp.f k a0 a1).bind fun bt673 => (if bt673.2 = true then (some (decide (bt673.1 < 0))) else (some false))) = some r := h
 clear h
 replace H := Option.bind_eq_some_iff.mp H
 obtain ⟨⟨t673, t674⟩, A30, H⟩ := H
 replace H : (if t674 = true then (some (decide (t673 < 0))) else (some false)) = some r := H
 have A3 := Aside0.mk A30
 clear A30
 by_cases c4 : t674 = true
 case pos =>
  subst c4
  have H1 : (some (decide (t673 < 0))) = some r := by rw [if_pos rfl] at H; exact H
  clear H
  have H := H1
  clear H1
  obtain rfl := Option.some.inj H
  go_enter Try.func39, Try.ntmps39
  go_wp2_with (first | ((with_reducible refine gate_callee (f := 37) rfl ?_); refine goesM_ (some 10) rfl rfl Try.func37 (by kernel_rfl) rfl [.int .u64 a0, .int .u64 a1] rfl (by rfl) ?_; (with_reducible refine (pattern_Cmp.calls k a0 a1 t673 true _ A3.out).mono ?_); rintro e w' ⟨rfl, ⟨nd, rfl⟩⟩; refine ⟨_, rfl, ?_⟩))
  go_ret
  exact ⟨by first | rfl | (simp; done) | (simp [*]; done), by repeat (first | exact Drawn0.refl _ | apply Drawn0.step)⟩
 replace c4 := Bool.eq_false_iff.mpr c4
 subst c4
 have H1 : (some false) = some r := by rw [if_neg (show ¬ (false = true) by decide)] at H; exact H
 clear H
 have H := H1
 clear H1
 obtain rfl := Option.some.inj H
 go_enter Try.func39, Try.ntmps39
 go_wp2_with (first | ((with_reducible refine gate_callee (f := 37) rfl ?_); refine goesM_ (some 10) rfl rfl Try.func37 (by kernel_rfl) rfl [.int .u64 a0, .int .u64 a1] rfl (by rfl) ?_; (with_reducible refine (pattern_Cmp.calls k a0 a1 t673 false _ A3.out).mono ?_); rintro e w' ⟨rfl, ⟨nd, rfl⟩⟩; refine ⟨_, rfl, ?_⟩))
 go_ret
 exact ⟨by first | rfl | (simp; done) | (simp [*]; done), by repeat (first | exact Drawn0.refl _ | apply Drawn0.step)⟩

end Go.Proofs.Ytfglpaaeipblcaa.P
