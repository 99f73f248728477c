/- Walks of one package: what each function returns, wherever the Lean function beside it has an answer. -/
import Derived.Test.YtfglpaaeipblcaaP0
namespace Go.Proofs.Ytfglpaaeipblcaa.P
open Go.RowKit Go.Proofs.YtfglpaaeipblcaaW.PrintWords Go.Proofs.YtfglpaaeipblcaaW.PrintLast Go.Proofs.YtfglpaaeipblcaaW.PrintMore
attribute [local go_sem] max2_int min2_int max_two min_two max_three min_three max_four min_four   -- for this text's walks alone
set_option linter.unusedVariables false
set_option linter.unusedSimpArgs false

/-! ### pattern_Make: function 58 -/
def pattern_Make.j0 : Nat → Bool → Int → Int → Bool → Option (Int × Int)
 | 0,_,_,_,_=>none
 | k + 1,x0,x1,x2,x18=>if x18 = true then (some (0,1)) else (if x0 = true then (some (Go.bits .or .u64 (Go.bits .or .u64 (IntKind.u64.wrap ((IntKind.u64.wrap (x1)) * 4503599627370496)) x2) 9223372036854775808,0)) else (some (Go.bits .or .u64 (IntKind.u64.wrap ((IntKind.u64.wrap (x1)) * 4503599627370496)) x2,0)))
def pattern_Make.f (k : Nat) (a0 : Bool) (a1 : Int) (a2 : Int) : Option (Int × Int):=if a1 < 0 then (pattern_Make.j0 k a0 a1 a2 true) else (if a1 > 2047 then (pattern_Make.j0 k a0 a1 a2 true) else (pattern_Make.j0 k a0 a1 a2 (decide (a2 > 4503599627370495))))
theorem pattern_Make.mono_l : ∀ k,(∀ y0 y1 y2 y3,LeO (pattern_Make.j0 k y0 y1 y2 y3) (pattern_Make.j0 (k + 1) y0 y1 y2 y3))
 | 0=>fun _ _ _ _ r h=>by simp [pattern_Make.j0] at h
 | k + 1=>by
  have ih0:=pattern_Make.mono_l k
  ·
   intro y0 y1 y2 y3
   unfold pattern_Make.j0
   repeat' with_reducible first | exact ih0 _ _ _ _ | exact LeO.refl _ | exact LeO.none _ | refine LeO.ite ?_ ?_ | refine LeO.bind ?_ (fun _=>?_)
theorem pattern_Make.mono : ∀ a0 a1 a2 k,LeO (pattern_Make.f k a0 a1 a2) (pattern_Make.f (k + 1) a0 a1 a2):=by
 intro a0 a1 a2 k
 have ih0:=pattern_Make.mono_l k
 unfold pattern_Make.f
 repeat' with_reducible first | exact ih0 _ _ _ _ | exact LeO.refl _ | exact LeO.none _ | refine LeO.ite ?_ ?_ | refine LeO.bind ?_ (fun _=>?_)
set_option maxHeartbeats 8000000 in
set_option maxRecDepth 100000 in
theorem pattern_Make.calls (k : Nat) (a0 : Bool) (a1 : Int) (a2 : Int) (r1 : Int) (r2 : Int) (w : World) (h : pattern_Make.f k a0 a1 a2 = some (r1,r2)) :
  Calls Try.prog 58 #[.bool a0,.int .i64 a1,.int .u64 a2] w fun e w'=>e = .returned (.tuple #[.int .u64 r1,.int .i64 r2]) ∧ Drawn0 w w':=by
 have H : (if a1 < 0 then (pattern_Make.j0 k a0 a1 a2 true) else (if a1 > 2047 then (pattern_Make.j0 k a0 a1 a2 true) else (pattern_Make.j0 k a0 a1 a2 (decide (a2 > 4503599627370495))))) = some (r1,r2):=h
 clear h
 have HC4:=Aside0.mk H
 clear H
 go_enter Try.func58,Try.ntmps58
 go_upto_region 1 with (fail)
 go_cut [18] (fun v18 wc=>∃ (kq : Nat) (x18_3 : Bool),v18 = .bool x18_3 ∧ Aside0 (pattern_Make.j0 kq a0 a1 a2 x18_3 = some (r1,r2)) ∧ Aside0 (kq ≤ k) ∧ Drawn0 w wc)
 case first =>
  have H:=HC4.out
  clear HC4
  by_cases c5 : a1 < 0
  case pos =>
   rw [if_pos c5] at H
   have c5b0 : decide (a1 < 0) = true:=decide_eq_true c5
   clear c5
   (first | rw [c5b0] | (simp only [i64_w,i32_w]; rw [c5b0]) | skip)
   have H':=Aside0.mk H
   clear H
   go_wp2
   go_meet
   case rel=>exact ⟨_,(true),(sh_),H',⟨by first | omega | exact Nat.le_refl _⟩,dh_⟩
  rw [if_neg c5] at H
  have c5b0 : decide (a1 < 0) = false:=decide_eq_false c5
  clear c5
  (first | rw [c5b0] | (simp only [i64_w,i32_w]; rw [c5b0]) | skip)
  by_cases c6 : a1 > 2047
  case pos =>
   rw [if_pos c6] at H
   have c6b0 : decide (2047 < a1) = true:=decide_eq_true c6
   clear c6
   have H':=Aside0.mk H
   clear H
   go_wp2
   go_meet
   case rel=>exact ⟨_,(true),(sh_),H',⟨by first | omega | exact Nat.le_refl _⟩,dh_⟩
  rw [if_neg c6] at H
  have c6b0 : decide (2047 < a1) = false:=decide_eq_false c6
  clear c6
  have H':=Aside0.mk H
  clear H
  go_wp2
  go_meet
  case rel=>exact ⟨_,(decide (a2 > 4503599627370495)),(sh_),H',⟨by first | omega | exact Nat.le_refl _⟩,dh_⟩
 case rest =>
  clear HC4
  try clear p2
  try clear c5
  try clear c5b0
  try clear c6
  try clear c6b0
  obtain ⟨kq,x18_3,rfl,HA,HJ3,⟨mc3,rfl⟩⟩:=hcut
  cases kq with
  | zero=>exact absurd HA.out (by simp [pattern_Make.j0])
  | succ kj3 =>
   have H:=HA.out
   clear HA
   simp only [pattern_Make.j0] at H
   by_cases c7 : x18_3 = true
   case pos =>
    subst c7
    have H1 : (some (0,1)) = some (r1,r2):=by rw [if_pos rfl] at H; exact H
    clear H
    have H:=H1
    clear H1
    simp only [Option.some.injEq,Prod.mk.injEq] at H
    obtain ⟨rfl,rfl⟩:=H
    go_wp2
    go_ret2
    exact ⟨sh_,dh_⟩
   replace c7:=Bool.eq_false_iff.mpr c7
   subst c7
   have H1 : (if a0 = true then (some (Go.bits .or .u64 (Go.bits .or .u64 (IntKind.u64.wrap ((IntKind.u64.wrap (a1)) * 4503599627370496)) a2) 9223372036854775808,0)) else (some (Go.bits .or .u64 (IntKind.u64.wrap ((IntKind.u64.wrap (a1)) * 4503599627370496)) a2,0))) = some (r1,r2):=by rw [if_neg (show ¬ (false = true) by decide)] at H; exact H
   clear H
   have H:=H1
   clear H1
   by_cases c8 : a0 = true
   case pos =>
    subst c8
    have H1 : (some (Go.bits .or .u64 (Go.bits .or .u64 (IntKind.u64.wrap ((IntKind.u64.wrap (a1)) * 4503599627370496)) a2) 9223372036854775808,0)) = some (r1,r2):=by rw [if_pos rfl] at H; exact H
    clear H
    have H:=H1
    clear H1
    simp only [Option.some.injEq,Prod.mk.injEq] at H
    obtain ⟨rfl,rfl⟩:=H
    go_wp2
    go_ret2
    exact ⟨sh_,dh_⟩
   replace c8:=Bool.eq_false_iff.mpr c8
   subst c8
   have H1 : (some (Go.bits .or .u64 (IntKind.u64.wrap ((IntKind.u64.wrap (a1)) * 4503599627370496)) a2,0)) = some (r1,r2):=by rw [if_neg (show ¬ (false = true) by decide)] at H; exact H
   clear H
   have H:=H1
   clear H1
   simp only [Option.some.injEq,Prod.mk.injEq] at H
   obtain ⟨rfl,rfl⟩:=H
   go_wp2
   go_ret2
   exact ⟨sh_,dh_⟩

/-! ### pattern_Inf: function 40 -/
def pattern_Inf.f (k : Nat) (a0 : Bool) : Option (Int):=(pattern_Make.f k a0 2047 0).bind fun bt113=>(some bt113.1)
theorem pattern_Inf.mono : ∀ a0 k,LeO (pattern_Inf.f k a0) (pattern_Inf.f (k + 1) a0):=by
 intro a0 k
 unfold pattern_Inf.f
 repeat' with_reducible first | exact pattern_Make.mono _ _ _ _ | exact LeO.refl _ | exact LeO.none _ | refine LeO.ite ?_ ?_ | refine LeO.bind ?_ (fun _=>?_)
set_option maxHeartbeats 8000000 in
set_option maxRecDepth 100000 in
theorem pattern_Inf.calls (k : Nat) (a0 : Bool) (r : Int) (w : World) (h : pattern_Inf.f k a0 = some r) :
  Calls Try.prog 40 #[.bool a0] w fun e w'=>e = .returned (.int .u64 r) ∧ Drawn0 w w':=by
 have H : ((pattern_Make.f k a0 2047 0).bind fun bt113=>(some bt113.1)) = some r:=h
 clear h
 replace H:=Option.bind_eq_some_iff.mp H
 obtain ⟨⟨t113,t114⟩,A20,H⟩:=H
 replace H : (some t113) = some r:=H
 have A2:=Aside0.mk A20
 clear A20
 obtain rfl:=Option.some.inj H
 go_enter Try.func40,Try.ntmps40
 go_wp2_with (first | ((with_reducible refine gc_ 58 rfl ?_); refine gM_ (some 7) Try.func58 [.bool a0,.int .i64 2047,.int .u64 0] ?_; (with_reducible refine (pattern_Make.calls k a0 2047 0 t113 t114 _ A2.out).mono ?_); rintro e w' ⟨rfl,⟨nd,rfl⟩⟩; refine ⟨_,rfl,?_⟩))
 go_ret
 exact ⟨sh_,dh_⟩

/-! ### pattern_Parts: function 82 -/
def pattern_Parts.f (a0 : Int) : Option (Bool × Int × Int):=some (((a0 / 9223372036854775808) == 1),wrap64 (Go.bits .and .u64 (a0 / 4503599627370496) 2047),Go.bits .and .u64 a0 4503599627370495)
set_option maxHeartbeats 8000000 in
set_option maxRecDepth 100000 in
theorem pattern_Parts.calls (a0 : Int) (r1 : Bool) (r2 : Int) (r3 : Int) (w : World) (h : pattern_Parts.f a0 = some (r1,r2,r3)) :
  Calls Try.prog 82 #[.int .u64 a0] w fun e w'=>e = .returned (.tuple #[.bool r1,.int .i64 r2,.int .u64 r3]) ∧ Drawn0 w w':=by
 have H : (some (((a0 / 9223372036854775808) == 1),wrap64 (Go.bits .and .u64 (a0 / 4503599627370496) 2047),Go.bits .and .u64 a0 4503599627370495)) = some (r1,r2,r3):=h
 clear h
 simp only [Option.some.injEq,Prod.mk.injEq] at H
 obtain ⟨rfl,rfl,rfl⟩:=H
 go_enter Try.func82,Try.ntmps82
 go_wp2
 go_ret3
 exact ⟨sh_,dh_⟩

/-! ### pattern_Class: function 50 -/
mutual
def pattern_Class.j0 : Nat → Int → Int → Bool → Option (Int)
 | 0,_,_,_=>none
 | k + 1,x4,x5,x12=>if x12 = true then (some 3) else (if x4 = 2047 then (some 4) else (if x4 = 0 then (pattern_Class.j1 k x4 (x5 == 0)) else (pattern_Class.j1 k x4 false)))
def pattern_Class.j1 : Nat → Int → Bool → Option (Int)
 | 0,_,_=>none
 | k + 1,x4,x22=>if x22 = true then (some 0) else (if x4 = 0 then (some 1) else (some 2))
end
def pattern_Class.f (k : Nat) (a0 : Int) : Option (Int):=(pattern_Parts.f a0).bind fun bt159=>(if bt159.2.1 = 2047 then (pattern_Class.j0 k bt159.2.1 bt159.2.2 (bt159.2.2 == 0)) else (pattern_Class.j0 k bt159.2.1 bt159.2.2 false))
theorem pattern_Class.mono_l : ∀ k,(∀ y0 y1 y2,LeO (pattern_Class.j0 k y0 y1 y2) (pattern_Class.j0 (k + 1) y0 y1 y2)) ∧ (∀ y0 y1,LeO (pattern_Class.j1 k y0 y1) (pattern_Class.j1 (k + 1) y0 y1))
 | 0=>⟨fun _ _ _ r h=>by simp [pattern_Class.j0] at h,fun _ _ r h=>by simp [pattern_Class.j1] at h⟩
 | k + 1=>by
  obtain ⟨ih0,ih1⟩:=pattern_Class.mono_l k
  refine ⟨?_,?_⟩
  ·
   intro y0 y1 y2
   unfold pattern_Class.j0
   repeat' with_reducible first | exact ih0 _ _ _ | exact ih1 _ _ | exact LeO.refl _ | exact LeO.none _ | refine LeO.ite ?_ ?_ | refine LeO.bind ?_ (fun _=>?_)
  ·
   intro y0 y1
   unfold pattern_Class.j1
   repeat' with_reducible first | exact ih0 _ _ _ | exact ih1 _ _ | exact LeO.refl _ | exact LeO.none _ | refine LeO.ite ?_ ?_ | refine LeO.bind ?_ (fun _=>?_)
theorem pattern_Class.mono : ∀ a0 k,LeO (pattern_Class.f k a0) (pattern_Class.f (k + 1) a0):=by
 intro a0 k
 obtain ⟨ih0,ih1⟩:=pattern_Class.mono_l k
 unfold pattern_Class.f
 repeat' with_reducible first | exact ih0 _ _ _ | exact ih1 _ _ | exact LeO.refl _ | exact LeO.none _ | refine LeO.ite ?_ ?_ | refine LeO.bind ?_ (fun _=>?_)
set_option maxHeartbeats 8000000 in
set_option maxRecDepth 100000 in
theorem pattern_Class.calls (k : Nat) (a0 : Int) (r : Int) (w : World) (h : pattern_Class.f k a0 = some r) :
  Calls Try.prog 50 #[.int .u64 a0] w fun e w'=>e = .returned (.int .u8 r) ∧ Drawn0 w w':=by
 have H : ((pattern_Parts.f a0).bind fun bt159=>(if bt159.2.1 = 2047 then (pattern_Class.j0 k bt159.2.1 bt159.2.2 (bt159.2.2 == 0)) else (pattern_Class.j0 k bt159.2.1 bt159.2.2 false))) = some r:=h
 clear h
 replace H:=Option.bind_eq_some_iff.mp H
 obtain ⟨⟨t159,t160,t161⟩,A20,H⟩:=H
 replace H : (if t160 = 2047 then (pattern_Class.j0 k t160 t161 (t161 == 0)) else (pattern_Class.j0 k t160 t161 false)) = some r:=H
 have A2:=Aside0.mk A20
 clear A20
 have HC3:=Aside0.mk H
 clear H
 go_enter Try.func50,Try.ntmps50
 go_upto_region 2 with (first | ((with_reducible refine gc_ 82 rfl ?_); refine gM_ (some 8) Try.func82 [.int .u64 a0] ?_; (with_reducible refine (pattern_Parts.calls a0 t159 t160 t161 _ A2.out).mono ?_); rintro e w' ⟨rfl,⟨nd,rfl⟩⟩; refine ⟨_,rfl,?_⟩))
 (try simp only [Act.put,p1_,p2_,p3_])
 go_cut [12] (fun v12 wc=>∃ (kq : Nat) (x12_2 : Bool),v12 = .bool x12_2 ∧ Aside0 (pattern_Class.j0 kq t160 t161 x12_2 = some r) ∧ Aside0 (kq ≤ k) ∧ Drawn0 w wc)
 case first =>
  have H:=HC3.out
  clear HC3
  by_cases c4 : t160 = 2047
  case neg =>
   rw [if_neg c4] at H
   have c4b0 : (t160 == 2047) = false:=beq_eq_false_iff_ne.mpr c4
   have c4b1 : (t160 != 2047) = true:=bne_iff_ne.mpr c4
   (first | rw [c4b0] | (simp only [i64_w,i32_w]; rw [c4b0]) | skip)
   have H':=Aside0.mk H
   clear H
   go_wp2
   go_meet
   case rel=>exact ⟨_,(false),(sh_),H',⟨by first | omega | exact Nat.le_refl _⟩,dh_⟩
  rw [if_pos c4] at H
  have c4b0 : (t160 == 2047) = true:=beq_iff_eq.mpr c4
  have c4b1 : (t160 != 2047) = false:=bne_eq_false_iff_eq.mpr c4
  clear c4
  (first | rw [c4b0] | (simp only [i64_w,i32_w]; rw [c4b0]) | skip)
  have H':=Aside0.mk H
  clear H
  go_wp2
  go_meet
  case rel=>exact ⟨_,((t161 == 0)),(sh_),H',⟨by first | omega | exact Nat.le_refl _⟩,dh_⟩
 case rest =>
  clear HC3
  try clear p2
  try clear c4
  try clear c4b0
  try clear c4b1
  obtain ⟨kq,x12_2,rfl,HA,HJ2,⟨mc2,rfl⟩⟩:=hcut
  cases kq with
  | zero=>exact absurd HA.out (by simp [pattern_Class.j0])
  | succ kj2 =>
   have H:=HA.out
   clear HA
   simp only [pattern_Class.j0] at H
   by_cases c5 : x12_2 = true
   case pos =>
    subst c5
    have H1 : (some 3) = some r:=by rw [if_pos rfl] at H; exact H
    clear H
    have H:=H1
    clear H1
    obtain rfl:=Option.some.inj H
    go_wp2
    go_ret
    exact ⟨sh_,dh_⟩
   replace c5:=Bool.eq_false_iff.mpr c5
   subst c5
   have H1 : (if t160 = 2047 then (some 4) else (if t160 = 0 then (pattern_Class.j1 kj2 t160 (t161 == 0)) else (pattern_Class.j1 kj2 t160 false))) = some r:=by rw [if_neg (show ¬ (false = true) by decide)] at H; exact H
   clear H
   have H:=H1
   clear H1
   by_cases c6 : t160 = 2047
   case pos =>
    rw [if_pos c6] at H
    have c6b0 : (t160 == 2047) = true:=beq_iff_eq.mpr c6
    have c6b1 : (t160 != 2047) = false:=bne_eq_false_iff_eq.mpr c6
    clear c6
    obtain rfl:=Option.some.inj H
    go_wp2
    go_ret
    exact ⟨sh_,dh_⟩
   rw [if_neg c6] at H
   have c6b0 : (t160 == 2047) = false:=beq_eq_false_iff_ne.mpr c6
   have c6b1 : (t160 != 2047) = true:=bne_iff_ne.mpr c6
   have HC7:=Aside0.mk H
   clear H
   go_upto_region 6 with (fail)
   go_cut [22] (fun v22 wc=>∃ (kq : Nat) (x22_6 : Bool),v22 = .bool x22_6 ∧ Aside0 (pattern_Class.j1 kq t160 x22_6 = some r) ∧ Aside0 (kq ≤ kj2) ∧ Drawn0 w wc)
   case first =>
    have H:=HC7.out
    clear HC7
    by_cases c8 : t160 = 0
    case neg =>
     rw [if_neg c8] at H
     have c8b0 : (t160 == 0) = false:=beq_eq_false_iff_ne.mpr c8
     have c8b1 : (t160 != 0) = true:=bne_iff_ne.mpr c8
     (first | rw [c8b0] | (simp only [i64_w,i32_w]; rw [c8b0]) | skip)
     have H':=Aside0.mk H
     clear H
     go_wp2
     go_meet
     case rel=>exact ⟨_,(false),(sh_),H',⟨by have:=HJ2.out; first | omega | exact Nat.le_refl _⟩,dh_⟩
    rw [if_pos c8] at H
    have c8b0 : (t160 == 0) = true:=beq_iff_eq.mpr c8
    have c8b1 : (t160 != 0) = false:=bne_eq_false_iff_eq.mpr c8
    clear c8
    (first | rw [c8b0] | (simp only [i64_w,i32_w]; rw [c8b0]) | skip)
    have H':=Aside0.mk H
    clear H
    go_wp2
    go_meet
    case rel=>exact ⟨_,((t161 == 0)),(sh_),H',⟨by have:=HJ2.out; first | omega | exact Nat.le_refl _⟩,dh_⟩
   case rest =>
    clear HC7
    try clear c2
    try clear p2
    try clear c4
    try clear c4b0
    try clear c4b1
    try clear c5
    try clear c6
    try clear c6b0
    try clear c6b1
    try clear c8
    try clear c8b0
    try clear c8b1
    try clear p2
    obtain ⟨kq,x22_6,rfl,HA,HJ6,⟨mc6,rfl⟩⟩:=hcut
    cases kq with
    | zero=>exact absurd HA.out (by simp [pattern_Class.j1])
    | succ kj6 =>
     have H:=HA.out
     clear HA
     simp only [pattern_Class.j1] at H
     by_cases c9 : x22_6 = true
     case pos =>
      subst c9
      have H1 : (some 0) = some r:=by rw [if_pos rfl] at H; exact H
      clear H
      have H:=H1
      clear H1
      obtain rfl:=Option.some.inj H
      go_wp2
      go_ret
      exact ⟨sh_,dh_⟩
     replace c9:=Bool.eq_false_iff.mpr c9
     subst c9
     have H1 : (if t160 = 0 then (some 1) else (some 2)) = some r:=by rw [if_neg (show ¬ (false = true) by decide)] at H; exact H
     clear H
     have H:=H1
     clear H1
     by_cases c10 : t160 = 0
     case neg =>
      rw [if_neg c10] at H
      have c10b0 : (t160 == 0) = false:=beq_eq_false_iff_ne.mpr c10
      have c10b1 : (t160 != 0) = true:=bne_iff_ne.mpr c10
      obtain rfl:=Option.some.inj H
      go_wp2
      go_ret
      exact ⟨sh_,dh_⟩
     rw [if_pos c10] at H
     have c10b0 : (t160 == 0) = true:=beq_iff_eq.mpr c10
     have c10b1 : (t160 != 0) = false:=bne_eq_false_iff_eq.mpr c10
     clear c10
     obtain rfl:=Option.some.inj H
     go_wp2
     go_ret
     exact ⟨sh_,dh_⟩

/-! ### pattern_Split: function 51 -/
def pattern_Split.f (k : Nat) (a0 : Int) : Option (Int × Int):=(pattern_Parts.f a0).bind fun bt162=>((pattern_Class.f k a0).bind fun t165=>(if t165 = 2 then (some (Go.bits .or .u64 4503599627370496 bt162.2.2,wrap64 (bt162.2.1 - 1075))) else (if t165 = 1 then (some (bt162.2.2,(-1074))) else (some (0,0)))))
theorem pattern_Split.mono : ∀ a0 k,LeO (pattern_Split.f k a0) (pattern_Split.f (k + 1) a0):=by
 intro a0 k
 unfold pattern_Split.f
 repeat' with_reducible first | exact pattern_Class.mono _ _ | exact LeO.refl _ | exact LeO.none _ | refine LeO.ite ?_ ?_ | refine LeO.bind ?_ (fun _=>?_)
set_option maxHeartbeats 8000000 in
set_option maxRecDepth 100000 in
theorem pattern_Split.calls (k : Nat) (a0 : Int) (r1 : Int) (r2 : Int) (w : World) (h : pattern_Split.f k a0 = some (r1,r2)) :
  Calls Try.prog 51 #[.int .u64 a0] w fun e w'=>e = .returned (.tuple #[.int .u64 r1,.int .i64 r2]) ∧ Drawn0 w w':=by
 have H : ((pattern_Parts.f a0).bind fun bt162=>((pattern_Class.f k a0).bind fun t165=>(if t165 = 2 then (some (Go.bits .or .u64 4503599627370496 bt162.2.2,wrap64 (bt162.2.1 - 1075))) else (if t165 = 1 then (some (bt162.2.2,(-1074))) else (some (0,0)))))) = some (r1,r2):=h
 clear h
 replace H:=Option.bind_eq_some_iff.mp H
 obtain ⟨⟨t162,t163,t164⟩,A20,H⟩:=H
 replace H : ((pattern_Class.f k a0).bind fun t165=>(if t165 = 2 then (some (Go.bits .or .u64 4503599627370496 t164,wrap64 (t163 - 1075))) else (if t165 = 1 then (some (t164,(-1074))) else (some (0,0))))) = some (r1,r2):=H
 have A2:=Aside0.mk A20
 clear A20
 replace H:=Option.bind_eq_some_iff.mp H
 obtain ⟨t165,A30,H⟩:=H
 replace H : (if t165 = 2 then (some (Go.bits .or .u64 4503599627370496 t164,wrap64 (t163 - 1075))) else (if t165 = 1 then (some (t164,(-1074))) else (some (0,0)))) = some (r1,r2):=H
 have A3:=Aside0.mk A30
 clear A30
 by_cases c4 : t165 = 2
 case pos =>
  rw [if_pos c4] at H
  have c4b0 : (t165 == 2) = true:=beq_iff_eq.mpr c4
  have c4b1 : (t165 != 2) = false:=bne_eq_false_iff_eq.mpr c4
  clear c4
  simp only [Option.some.injEq,Prod.mk.injEq] at H
  obtain ⟨rfl,rfl⟩:=H
  go_enter Try.func51,Try.ntmps51
  go_wp2_with (first | ((with_reducible refine gc_ 82 rfl ?_); refine gM_ (some 9) Try.func82 [.int .u64 a0] ?_; (with_reducible refine (pattern_Parts.calls a0 t162 t163 t164 _ A2.out).mono ?_); rintro e w' ⟨rfl,⟨nd,rfl⟩⟩; refine ⟨_,rfl,?_⟩) | ((with_reducible refine gc_ 50 rfl ?_); refine gM_ (some 14) Try.func50 [.int .u64 a0] ?_; (with_reducible refine (pattern_Class.calls k a0 t165 _ A3.out).mono ?_); rintro e w' ⟨rfl,⟨nd,rfl⟩⟩; refine ⟨_,rfl,?_⟩))
  go_ret2
  exact ⟨sh_,dh_⟩
 rw [if_neg c4] at H
 have c4b0 : (t165 == 2) = false:=beq_eq_false_iff_ne.mpr c4
 have c4b1 : (t165 != 2) = true:=bne_iff_ne.mpr c4
 by_cases c5 : t165 = 1
 case neg =>
  rw [if_neg c5] at H
  have c5b0 : (t165 == 1) = false:=beq_eq_false_iff_ne.mpr c5
  have c5b1 : (t165 != 1) = true:=bne_iff_ne.mpr c5
  simp only [Option.some.injEq,Prod.mk.injEq] at H
  obtain ⟨rfl,rfl⟩:=H
  go_enter Try.func51,Try.ntmps51
  go_wp2_with (first | ((with_reducible refine gc_ 82 rfl ?_); refine gM_ (some 9) Try.func82 [.int .u64 a0] ?_; (with_reducible refine (pattern_Parts.calls a0 t162 t163 t164 _ A2.out).mono ?_); rintro e w' ⟨rfl,⟨nd,rfl⟩⟩; refine ⟨_,rfl,?_⟩) | ((with_reducible refine gc_ 50 rfl ?_); refine gM_ (some 14) Try.func50 [.int .u64 a0] ?_; (with_reducible refine (pattern_Class.calls k a0 t165 _ A3.out).mono ?_); rintro e w' ⟨rfl,⟨nd,rfl⟩⟩; refine ⟨_,rfl,?_⟩))
  go_ret2
  exact ⟨sh_,dh_⟩
 rw [if_pos c5] at H
 have c5b0 : (t165 == 1) = true:=beq_iff_eq.mpr c5
 have c5b1 : (t165 != 1) = false:=bne_eq_false_iff_eq.mpr c5
 clear c5
 simp only [Option.some.injEq,Prod.mk.injEq] at H
 obtain ⟨rfl,rfl⟩:=H
 go_enter Try.func51,Try.ntmps51
 go_wp2_with (first | ((with_reducible refine gc_ 82 rfl ?_); refine gM_ (some 9) Try.func82 [.int .u64 a0] ?_; (with_reducible refine (pattern_Parts.calls a0 t162 t163 t164 _ A2.out).mono ?_); rintro e w' ⟨rfl,⟨nd,rfl⟩⟩; refine ⟨_,rfl,?_⟩) | ((with_reducible refine gc_ 50 rfl ?_); refine gM_ (some 14) Try.func50 [.int .u64 a0] ?_; (with_reducible refine (pattern_Class.calls k a0 t165 _ A3.out).mono ?_); rintro e w' ⟨rfl,⟨nd,rfl⟩⟩; refine ⟨_,rfl,?_⟩))
 go_ret2
 exact ⟨sh_,dh_⟩

/-! ### pattern_Quiet: function 32 -/
def pattern_Quiet.f  : Option (Int):=some 9221120237041090560
set_option maxHeartbeats 8000000 in
set_option maxRecDepth 100000 in
theorem pattern_Quiet.calls  (r : Int) (w : World) (h : pattern_Quiet.f  = some r) :
  Calls Try.prog 32 #[] w fun e w'=>e = .returned (.int .u64 r) ∧ Drawn0 w w':=by
 have H : (some 9221120237041090560) = some r:=h
 clear h
 obtain rfl:=Option.some.inj H
 go_enter Try.func32,Try.ntmps32
 go_wp2
 go_ret
 exact ⟨sh_,dh_⟩

end Go.Proofs.Ytfglpaaeipblcaa.P
