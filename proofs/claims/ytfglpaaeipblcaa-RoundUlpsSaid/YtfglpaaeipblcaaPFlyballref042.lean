/- Walks of one package: what each function returns, wherever the Lean function beside it has an answer. -/
import Derived.Test.YtfglpaaeipblcaaP0
namespace Go.Proofs.Ytfglpaaeipblcaa.P
open Go.RowKit Go.Proofs.YtfglpaaeipblcaaW.PrintWords Go.Proofs.YtfglpaaeipblcaaW.PrintLast Go.Proofs.YtfglpaaeipblcaaW.PrintMore
attribute [local go_sem] max2_int min2_int max_two min_two max_three min_three max_four min_four   -- for this text's walks alone
set_option linter.unusedVariables false
set_option linter.unusedSimpArgs false

/-! ### flyballref04_Parts: function 71 -/
def flyballref04_Parts.f (a0 : Int) : Option (Bool × Int × Int) := some (((IntKind.u64.wrap (Int.tdiv a0 9223372036854775808)) == 1), wrap64 (Int.tmod (IntKind.u64.wrap (Int.tdiv a0 4503599627370496)) 2048), Int.tmod a0 4503599627370496)
set_option maxHeartbeats 8000000 in
set_option maxRecDepth 100000 in
theorem flyballref04_Parts.calls (a0 : Int) (r1 : Bool) (r2 : Int) (r3 : Int) (w : World) (h : flyballref04_Parts.f a0 = some (r1, r2, r3)) :
  Calls Try.prog 71 #[.int .u64 a0] w fun e w' => e = .returned (.tuple #[.bool r1, .int .i64 r2, .int .u64 r3]) ∧ Drawn0 w w' := by
 have H : (some (((IntKind.u64.wrap (Int.tdiv a0 9223372036854775808)) == 1), wrap64 (Int.tmod (IntKind.u64.wrap (Int.tdiv a0 4503599627370496)) 2048), Int.tmod a0 4503599627370496)) = some (r1, r2, r3) := h
 clear h
 simp only [Option.some.injEq, Prod.mk.injEq] at H
 obtain ⟨rfl, rfl, rfl⟩ := H
 go_enter Try.func71, Try.ntmps71
 go_wp2
 go_ret3
 exact ⟨by first | rfl | (simp; done) | (simp [*]; done), by repeat (first | exact Drawn0.refl _ | apply Drawn0.step)⟩

/-! ### flyballref04_Class: function 53 -/
mutual
def flyballref04_Class.j0 : Nat → Int → Int → Bool → Option (Int)
 | 0, _, _, _ => none
 | k + 1, x4, x5, x17 => if x17 = true then (some 3) else (if x4 = 2047 then (some 4) else (if x4 = 0 then (flyballref04_Class.j1 k x4 (x5 == 0)) else (flyballref04_Class.j1 k x4 false)))
def flyballref04_Class.j1 : Nat → Int → Bool → Option (Int)
 | 0, _, _ => none
 | k + 1, x4, x25 => if x25 = true then (some 0) else (if x4 = 0 then (some 1) else (some 2))
end
def flyballref04_Class.f (k : Nat) (a0 : Int) : Option (Int) := (flyballref04_Parts.f a0).bind fun bt567 => (if bt567.2.1 = 2047 then (flyballref04_Class.j0 k bt567.2.1 bt567.2.2 (bt567.2.2 == 0)) else (flyballref04_Class.j0 k bt567.2.1 bt567.2.2 false))
theorem flyballref04_Class.mono_l : ∀ k, (∀ y0 y1 y2, LeO (flyballref04_Class.j0 k y0 y1 y2) (flyballref04_Class.j0 (k + 1) y0 y1 y2)) ∧ (∀ y0 y1, LeO (flyballref04_Class.j1 k y0 y1) (flyballref04_Class.j1 (k + 1) y0 y1))
 | 0 => ⟨fun _ _ _ r h => by simp [flyballref04_Class.j0] at h, fun _ _ r h => by simp [flyballref04_Class.j1] at h⟩
 | k + 1 => by
  obtain ⟨ih0, ih1⟩ := flyballref04_Class.mono_l k
  refine ⟨?_, ?_⟩
  ·
   intro y0 y1 y2
   unfold flyballref04_Class.j0
   repeat' first
   | (with_reducible exact ih0 _ _ _)
   | (with_reducible exact ih1 _ _)
   | (with_reducible exact LeO.refl _)
   | (with_reducible exact LeO.none _)
   | (with_reducible refine LeO.ite ?_ ?_)
   | (with_reducible refine LeO.bind ?_ (fun _ => ?_))
   | exact ih0 _ _ _
   | exact ih1 _ _
   | exact LeO.none _
   | refine LeO.ite ?_ ?_
   | refine LeO.bind ?_ (fun _ => ?_)
  ·
   intro y0 y1
   unfold flyballref04_Class.j1
   repeat' first
   | (with_reducible exact ih0 _ _ _)
   | (with_reducible exact ih1 _ _)
   | (with_reducible exact LeO.refl _)
   | (with_reducible exact LeO.none _)
   | (with_reducible refine LeO.ite ?_ ?_)
   | (with_reducible refine LeO.bind ?_ (fun _ => ?_))
   | exact ih0 _ _ _
   | exact ih1 _ _
   | exact LeO.none _
   | refine LeO.ite ?_ ?_
   | refine LeO.bind ?_ (fun _ => ?_)
theorem flyballref04_Class.mono : ∀ a0 k, LeO (flyballref04_Class.f k a0) (flyballref04_Class.f (k + 1) a0) := by
 intro a0 k
 obtain ⟨ih0, ih1⟩ := flyballref04_Class.mono_l k
 unfold flyballref04_Class.f
 repeat' first
   | (with_reducible exact ih0 _ _ _)
   | (with_reducible exact ih1 _ _)
   | (with_reducible exact LeO.refl _)
   | (with_reducible exact LeO.none _)
   | (with_reducible refine LeO.ite ?_ ?_)
   | (with_reducible refine LeO.bind ?_ (fun _ => ?_))
   | exact ih0 _ _ _
   | exact ih1 _ _
   | exact LeO.none _
   | refine LeO.ite ?_ ?_
   | refine LeO.bind ?_ (fun _ => ?_)
set_option maxHeartbeats 8000000 in
set_option maxRecDepth 100000 in
theorem flyballref04_Class.calls (k : Nat) (a0 : Int) (r : Int) (w : World) (h : flyballref04_Class.f k a0 = some r) :
  Calls Try.prog 53 #[.int .u64 a0] w fun e w' => e = .returned (.int .u8 r) ∧ Drawn0 w w' := by
 have H : ((flyballref04_Parts.f a0).bind fun bt567 => (if bt567.2.1 = 2047 then (flyballref04_Class.j0 k bt567.2.1 bt567.2.2 (bt567.2.2 == 0)) else (flyballref04_Class.j0 k bt567.2.1 bt567.2.2 false))) = some r := h
 clear h
 replace H := Option.bind_eq_some_iff.mp H
 obtain ⟨⟨t567, t568, t569⟩, A20, H⟩ := H
 replace H : (if t568 = 2047 then (flyballref04_Class.j0 k t568 t569 (t569 == 0)) else (flyballref04_Class.j0 k t568 t569 false)) = some r := H
 have A2 := Aside0.mk A20
 clear A20
 have HC3 := Aside0.mk H
 clear H
 go_enter Try.func53, Try.ntmps53
 go_upto_region 2 with (first | ((with_reducible refine gate_callee (f := 71) rfl ?_); refine goesM_ (some 8) rfl rfl Try.func71 (by kernel_rfl) rfl [.int .u64 a0] rfl (by rfl) ?_; (with_reducible refine (flyballref04_Parts.calls a0 t567 t568 t569 _ A2.out).mono ?_); rintro e w' ⟨rfl, ⟨nd, rfl⟩⟩; refine ⟨_, rfl, ?_⟩))
 (try simp only [Act.put, List.setIfInBounds_toArray, List.set_cons_zero, List.set_cons_succ])
 go_cut [17] (fun v17 wc => ∃ (kq : Nat) (x17_2 : Bool), v17 = .bool x17_2 ∧ Aside0 (flyballref04_Class.j0 kq t568 t569 x17_2 = some r) ∧ Aside0 (kq ≤ k) ∧ Drawn0 w wc)
 case first =>
  have H := HC3.out
  clear HC3
  by_cases c4 : t568 = 2047
  case neg =>
   rw [if_neg c4] at H
   have c4b0 : (t568 == 2047) = false := beq_eq_false_iff_ne.mpr c4
   have c4b1 : (t568 != 2047) = true := bne_iff_ne.mpr c4
   (first | rw [c4b0] | (simp only [i64_w, i32_w]; rw [c4b0]) | skip)
   have H' := Aside0.mk H
   clear H
   go_wp2
   go_meet
   case rel => exact ⟨_, (false), (by first | rfl | (simp; done) | (simp [*]; done)), H', ⟨by first | omega | exact Nat.le_refl _⟩, by repeat (first | exact Drawn0.refl _ | apply Drawn0.step)⟩
  rw [if_pos c4] at H
  have c4b0 : (t568 == 2047) = true := beq_iff_eq.mpr c4
  have c4b1 : (t568 != 2047) = false := bne_eq_false_iff_eq.mpr c4
  clear c4
  (first | rw [c4b0] | (simp only [i64_w, i32_w]; rw [c4b0]) | skip)
  have H' := Aside0.mk H
  clear H
  go_wp2
  go_meet
  case rel => exact ⟨_, ((t569 == 0)), (by first | rfl | (simp; done) | (simp [*]; done)), H', ⟨by first | omega | exact Nat.le_refl _⟩, by repeat (first | exact Drawn0.refl _ | apply Drawn0.step)⟩
 case rest =>
  clear HC3
  try clear p2
  try clear c4
  try clear c4b0
  try clear c4b1
  obtain ⟨kq, x17_2, rfl, HA, HJ2, ⟨mc2, rfl⟩⟩ := hcut
  cases kq with
  | zero => exact absurd HA.out (by simp [flyballref04_Class.j0])
  | succ kj2 =>
   have H := HA.out
   clear HA
   simp only [flyballref04_Class.j0] at H
   by_cases c5 : x17_2 = true
   case pos =>
    subst c5
    have H1 : (some 3) = some r := by rw [if_pos rfl] at H; exact H
    clear H
    have H := H1
    clear H1
    obtain rfl := Option.some.inj H
    go_wp2
    go_ret
    exact ⟨by first | rfl | (simp; done) | (simp [*]; done), by repeat (first | exact Drawn0.refl _ | apply Drawn0.step)⟩
   replace c5 := Bool.eq_false_iff.mpr c5
   subst c5
   have H1 : (if t568 = 2047 then (some 4) else (if t568 = 0 then (flyballref04_Class.j1 kj2 t568 (t569 == 0)) else (flyballref04_Class.j1 kj2 t568 false))) = some r := by rw [if_neg (show ¬ (false = true) by decide)] at H; exact H
   clear H
   have H := H1
   clear H1
   by_cases c6 : t568 = 2047
   case pos =>
    rw [if_pos c6] at H
    have c6b0 : (t568 == 2047) = true := beq_iff_eq.mpr c6
    have c6b1 : (t568 != 2047) = false := bne_eq_false_iff_eq.mpr c6
    clear c6
    obtain rfl := Option.some.inj H
    go_wp2
    go_ret
    exact ⟨by first | rfl | (simp; done) | (simp [*]; done), by repeat (first | exact Drawn0.refl _ | apply Drawn0.step)⟩
   rw [if_neg c6] at H
   have c6b0 : (t568 == 2047) = false := beq_eq_false_iff_ne.mpr c6
   have c6b1 : (t568 != 2047) = true := bne_iff_ne.mpr c6
   have HC7 := Aside0.mk H
   clear H
   go_upto_region 6 with (fail)
   go_cut [25] (fun v25 wc => ∃ (kq : Nat) (x25_6 : Bool), v25 = .bool x25_6 ∧ Aside0 (flyballref04_Class.j1 kq t568 x25_6 = some r) ∧ Aside0 (kq ≤ kj2) ∧ Drawn0 w wc)
   case first =>
    have H := HC7.out
    clear HC7
    by_cases c8 : t568 = 0
    case neg =>
     rw [if_neg c8] at H
     have c8b0 : (t568 == 0) = false := beq_eq_false_iff_ne.mpr c8
     have c8b1 : (t568 != 0) = true := bne_iff_ne.mpr c8
     (first | rw [c8b0] | (simp only [i64_w, i32_w]; rw [c8b0]) | skip)
     have H' := Aside0.mk H
     clear H
     go_wp2
     go_meet
     case rel => exact ⟨_, (false), (by first | rfl | (simp; done) | (simp [*]; done)), H', ⟨by have := HJ2.out; first | omega | exact Nat.le_refl _⟩, by repeat (first | exact Drawn0.refl _ | apply Drawn0.step)⟩
    rw [if_pos c8] at H
    have c8b0 : (t568 == 0) = true := beq_iff_eq.mpr c8
    have c8b1 : (t568 != 0) = false := bne_eq_false_iff_eq.mpr c8
    clear c8
    (first | rw [c8b0] | (simp only [i64_w, i32_w]; rw [c8b0]) | skip)
    have H' := Aside0.mk H
    clear H
    go_wp2
    go_meet
    case rel => exact ⟨_, ((t569 == 0)), (by first | rfl | (simp; done) | (simp [*]; done)), H', ⟨by have := HJ2.out; first | omega | exact Nat.le_refl _⟩, by repeat (first | exact Drawn0.refl _ | apply Drawn0.step)⟩
   case rest =>
    clear HC7
    try clear c2
    try clear p2
    try clear c4
    try clear c4b0
    try clear c4b1
    try clear c5
    try clear c6
    try clear c6b0
    try clear c6b1
    try clear c7
    try clear c8
    try clear c8b0
    try clear c8b1
    try clear p2
    obtain ⟨kq, x25_6, rfl, HA, HJ6, ⟨mc6, rfl⟩⟩ := hcut
    cases kq with
    | zero => exact absurd HA.out (by simp [flyballref04_Class.j1])
    | succ kj6 =>
     have H := HA.out
     clear HA
     simp only [flyballref04_Class.j1] at H
     by_cases c9 : x25_6 = true
     case pos =>
      subst c9
      have H1 : (some 0) = some r := by rw [if_pos rfl] at H; exact H
      clear H
      have H := H1
      clear H1
      obtain rfl := Option.some.inj H
      go_wp2
      go_ret
      exact ⟨by first | rfl | (simp; done) | (simp [*]; done), by repeat (first | exact Drawn0.refl _ | apply Drawn0.step)⟩
     replace c9 := Bool.eq_false_iff.mpr c9
     subst c9
     have H1 : (if t568 = 0 then (some 1) else (some 2)) = some r := by rw [if_neg (show ¬ (false = true) by decide)] at H; exact H
     clear H
     have H := H1
     clear H1
     by_cases c10 : t568 = 0
     case neg =>
      rw [if_neg c10] at H
      have c10b0 : (t568 == 0) = false := beq_eq_false_iff_ne.mpr c10
      have c10b1 : (t568 != 0) = true := bne_iff_ne.mpr c10
      obtain rfl := Option.some.inj H
      go_wp2
      go_ret
      exact ⟨by first | rfl | (simp; done) | (simp [*]; done), by repeat (first | exact Drawn0.refl _ | apply Drawn0.step)⟩
     rw [if_pos c10] at H
     have c10b0 : (t568 == 0) = true := beq_iff_eq.mpr c10
     have c10b1 : (t568 != 0) = false := bne_eq_false_iff_eq.mpr c10
     clear c10
     obtain rfl := Option.some.inj H
     go_wp2
     go_ret
     exact ⟨by first | rfl | (simp; done) | (simp [*]; done), by repeat (first | exact Drawn0.refl _ | apply Drawn0.step)⟩

/-! ### flyballref04_Finite: function 31 -/
def flyballref04_Finite.f (k : Nat) (a0 : Int) : Option (Bool) := (flyballref04_Class.f k a0).bind fun t570 => (if t570 = 3 then (some false) else (some (t570 != 4)))
theorem flyballref04_Finite.mono : ∀ a0 k, LeO (flyballref04_Finite.f k a0) (flyballref04_Finite.f (k + 1) a0) := by
 intro a0 k
 unfold flyballref04_Finite.f
 repeat' first
   | (with_reducible exact flyballref04_Class.mono _ _)
   | (with_reducible exact LeO.refl _)
   | (with_reducible exact LeO.none _)
   | (with_reducible refine LeO.ite ?_ ?_)
   | (with_reducible refine LeO.bind ?_ (fun _ => ?_))
   | exact flyballref04_Class.mono _ _
   | exact LeO.none _
   | refine LeO.ite ?_ ?_
   | refine LeO.bind ?_ (fun _ => ?_)
set_option maxHeartbeats 8000000 in
set_option maxRecDepth 100000 in
theorem flyballref04_Finite.calls (k : Nat) (a0 : Int) (r : Bool) (w : World) (h : flyballref04_Finite.f k a0 = some r) :
  Calls Try.prog 31 #[.int .u64 a0] w fun e w' => e = .returned (.bool r) ∧ Drawn0 w w' := by
 have H : ((flyballref04_Class.f k a0).bind fun t570 => (if t570 = 3 then (some false) else (some (t570 != 4)))) = some r := h
 clear h
 replace H := Option.bind_eq_some_iff.mp H
 obtain ⟨t570, A20, H⟩ := H
 replace H : (if t570 = 3 then (some false) else (some (t570 != 4))) = some r := H
 have A2 := Aside0.mk A20
 clear A20
 by_cases c3 : t570 = 3
 case neg =>
  rw [if_neg c3] at H
  have c3b0 : (t570 == 3) = false := beq_eq_false_iff_ne.mpr c3
  have c3b1 : (t570 != 3) = true := bne_iff_ne.mpr c3
  obtain rfl := Option.some.inj H
  go_enter Try.func31, Try.ntmps31
  go_wp2_with (first | ((with_reducible refine gate_callee (f := 53) rfl ?_); refine goesM_ (some 5) rfl rfl Try.func53 (by kernel_rfl) rfl [.int .u64 a0] rfl (by rfl) ?_; (with_reducible refine (flyballref04_Class.calls k a0 t570 _ A2.out).mono ?_); rintro e w' ⟨rfl, ⟨nd, rfl⟩⟩; refine ⟨_, rfl, ?_⟩))
  go_ret
  exact ⟨by first | rfl | (simp; done) | (simp [*]; done), by repeat (first | exact Drawn0.refl _ | apply Drawn0.step)⟩
 rw [if_pos c3] at H
 have c3b0 : (t570 == 3) = true := beq_iff_eq.mpr c3
 have c3b1 : (t570 != 3) = false := bne_eq_false_iff_eq.mpr c3
 clear c3
 obtain rfl := Option.some.inj H
 go_enter Try.func31, Try.ntmps31
 go_wp2_with (first | ((with_reducible refine gate_callee (f := 53) rfl ?_); refine goesM_ (some 5) rfl rfl Try.func53 (by kernel_rfl) rfl [.int .u64 a0] rfl (by rfl) ?_; (with_reducible refine (flyballref04_Class.calls k a0 t570 _ A2.out).mono ?_); rintro e w' ⟨rfl, ⟨nd, rfl⟩⟩; refine ⟨_, rfl, ?_⟩))
 go_ret
 exact ⟨by first | rfl | (simp; done) | (simp [*]; done), by repeat (first | exact Drawn0.refl _ | apply Drawn0.step)⟩

/-! ### flyballref04_Split: function 33 -/
def flyballref04_Split.f (k : Nat) (a0 : Int) : Option (Int × Int) := (flyballref04_Parts.f a0).bind fun bt571 => ((flyballref04_Class.f k a0).bind fun t574 => (if t574 = 2 then (some (IntKind.u64.wrap (4503599627370496 + bt571.2.2), wrap64 (bt571.2.1 - 1075))) else (if t574 = 1 then (some (bt571.2.2, (-1074))) else (some (0, 0)))))
theorem flyballref04_Split.mono : ∀ a0 k, LeO (flyballref04_Split.f k a0) (flyballref04_Split.f (k + 1) a0) := by
 intro a0 k
 unfold flyballref04_Split.f
 repeat' first
   | (with_reducible exact flyballref04_Class.mono _ _)
   | (with_reducible exact LeO.refl _)
   | (with_reducible exact LeO.none _)
   | (with_reducible refine LeO.ite ?_ ?_)
   | (with_reducible refine LeO.bind ?_ (fun _ => ?_))
   | exact flyballref04_Class.mono _ _
   | exact LeO.none _
   | refine LeO.ite ?_ ?_
   | refine LeO.bind ?_ (fun _ => ?_)
set_option maxHeartbeats 8000000 in
set_option maxRecDepth 100000 in
theorem flyballref04_Split.calls (k : Nat) (a0 : Int) (r1 : Int) (r2 : Int) (w : World) (h : flyballref04_Split.f k a0 = some (r1, r2)) :
  Calls Try.prog 33 #[.int .u64 a0] w fun e w' => e = .returned (.tuple #[.int .u64 r1, .int .i64 r2]) ∧ Drawn0 w w' := by
 have H : ((flyballref04_Parts.f a0).bind fun bt571 => ((flyballref04_Class.f k a0).bind fun t574 => (if t574 = 2 then (some (IntKind.u64.wrap (4503599627370496 + bt571.2.2), wrap64 (bt571.2.1 - 1075))) else (if t574 = 1 then (some (bt571.2.2, (-1074))) else (some (0, 0)))))) = some (r1, r2) := h
 clear h
 replace H := Option.bind_eq_some_iff.mp H
 obtain ⟨⟨t571, t572, t573⟩, A20, H⟩ := H
 replace H : ((flyballref04_Class.f k a0).bind fun t574 => (if t574 = 2 then (some (IntKind.u64.wrap (4503599627370496 + t573), wrap64 (t572 - 1075))) else (if t574 = 1 then (some (t573, (-1074))) else (some (0, 0))))) = some (r1, r2) := H
 have A2 := Aside0.mk A20
 clear A20
 replace H := Option.bind_eq_some_iff.mp H
 obtain ⟨t574, A30, H⟩ := H
 replace H : (if t574 = 2 then (some (IntKind.u64.wrap (4503599627370496 + t573), wrap64 (t572 - 1075))) else (if t574 = 1 then (some (t573, (-1074))) else (some (0, 0)))) = some (r1, r2) := H
 have A3 := Aside0.mk A30
 clear A30
 by_cases c4 : t574 = 2
 case pos =>
  rw [if_pos c4] at H
  have c4b0 : (t574 == 2) = true := beq_iff_eq.mpr c4
  have c4b1 : (t574 != 2) = false := bne_eq_false_iff_eq.mpr c4
  clear c4
  simp only [Option.some.injEq, Prod.mk.injEq] at H
  obtain ⟨rfl, rfl⟩ := H
  go_enter Try.func33, Try.ntmps33
  go_wp2_with (first | ((with_reducible refine gate_callee (f := 71) rfl ?_); refine goesM_ (some 10) rfl rfl Try.func71 (by kernel_rfl) rfl [.int .u64 a0] rfl (by rfl) ?_; (with_reducible refine (flyballref04_Parts.calls a0 t571 t572 t573 _ A2.out).mono ?_); rintro e w' ⟨rfl, ⟨nd, rfl⟩⟩; refine ⟨_, rfl, ?_⟩) | ((with_reducible refine gate_callee (f := 53) rfl ?_); refine goesM_ (some 15) rfl rfl Try.func53 (by kernel_rfl) rfl [.int .u64 a0] rfl (by rfl) ?_; (with_reducible refine (flyballref04_Class.calls k a0 t574 _ A3.out).mono ?_); rintro e w' ⟨rfl, ⟨nd, rfl⟩⟩; refine ⟨_, rfl, ?_⟩))
  go_ret2
  exact ⟨by first | rfl | (simp; done) | (simp [*]; done), by repeat (first | exact Drawn0.refl _ | apply Drawn0.step)⟩
 rw [if_neg c4] at H
 have c4b0 : (t574 == 2) = false := beq_eq_false_iff_ne.mpr c4
 have c4b1 : (t574 != 2) = true := bne_iff_ne.mpr c4
 by_cases c5 : t574 = 1
 case neg =>
  rw [if_neg c5] at H
  have c5b0 : (t574 == 1) = false := beq_eq_false_iff_ne.mpr c5
  have c5b1 : (t574 != 1) = true := bne_iff_ne.mpr c5
  simp only [Option.some.injEq, Prod.mk.injEq] at H
  obtain ⟨rfl, rfl⟩ := H
  go_enter Try.func33, Try.ntmps33
  go_wp2_with (first | ((with_reducible refine gate_callee (f := 71) rfl ?_); refine goesM_ (some 10) rfl rfl Try.func71 (by kernel_rfl) rfl [.int .u64 a0] rfl (by rfl) ?_; (with_reducible refine (flyballref04_Parts.calls a0 t571 t572 t573 _ A2.out).mono ?_); rintro e w' ⟨rfl, ⟨nd, rfl⟩⟩; refine ⟨_, rfl, ?_⟩) | ((with_reducible refine gate_callee (f := 53) rfl ?_); refine goesM_ (some 15) rfl rfl Try.func53 (by kernel_rfl) rfl [.int .u64 a0] rfl (by rfl) ?_; (with_reducible refine (flyballref04_Class.calls k a0 t574 _ A3.out).mono ?_); rintro e w' ⟨rfl, ⟨nd, rfl⟩⟩; refine ⟨_, rfl, ?_⟩))
  go_ret2
  exact ⟨by first | rfl | (simp; done) | (simp [*]; done), by repeat (first | exact Drawn0.refl _ | apply Drawn0.step)⟩
 rw [if_pos c5] at H
 have c5b0 : (t574 == 1) = true := beq_iff_eq.mpr c5
 have c5b1 : (t574 != 1) = false := bne_eq_false_iff_eq.mpr c5
 clear c5
 simp only [Option.some.injEq, Prod.mk.injEq] at H
 obtain ⟨rfl, rfl⟩ := H
 go_enter Try.func33, Try.ntmps33
 go_wp2_with (first | ((with_reducible refine gate_callee (f := 71) rfl ?_); refine goesM_ (some 10) rfl rfl Try.func71 (by kernel_rfl) rfl [.int .u64 a0] rfl (by rfl) ?_; (with_reducible refine (flyballref04_Parts.calls a0 t571 t572 t573 _ A2.out).mono ?_); rintro e w' ⟨rfl, ⟨nd, rfl⟩⟩; refine ⟨_, rfl, ?_⟩) | ((with_reducible refine gate_callee (f := 53) rfl ?_); refine goesM_ (some 15) rfl rfl Try.func53 (by kernel_rfl) rfl [.int .u64 a0] rfl (by rfl) ?_; (with_reducible refine (flyballref04_Class.calls k a0 t574 _ A3.out).mono ?_); rintro e w' ⟨rfl, ⟨nd, rfl⟩⟩; refine ⟨_, rfl, ?_⟩))
 go_ret2
 exact ⟨by first | rfl | (simp; done) | (simp [*]; done), by repeat (first | exact Drawn0.refl _ | apply Drawn0.step)⟩

end Go.Proofs.Ytfglpaaeipblcaa.P
