/- Walks of one package: what each function returns, wherever the Lean function beside it has an answer. -/
import Derived.Test.YtfglpaaeipblcaaP0
import Derived.Test.YtfglpaaeipblcaaPConv1
namespace Go.Proofs.Ytfglpaaeipblcaa.P
open Go.RowKit Go.Proofs.YtfglpaaeipblcaaW.PrintWords Go.Proofs.YtfglpaaeipblcaaW.PrintLast Go.Proofs.YtfglpaaeipblcaaW.PrintMore
attribute [local go_sem] max2_int min2_int max_two min_two max_three min_three max_four min_four   -- for this text's walks alone
set_option linter.unusedVariables false
set_option linter.unusedSimpArgs false

/-! ### flyballlaw07_works: function 14 -/
def flyballlaw07_works.f (k : Nat)  : Option (Bool):=(conv_FromInt.f k 9007199254740993 0).bind fun bt202=>((conv_FromInt.f k 9007199254740993 1).bind fun bt204=>((conv_ToInt32.f k 13833932155375321088).bind fun bt206=>((conv_ToInt32.f k 4746794007248502784).bind fun bt208=>((conv_ToInt64.f k 4746794007248502784).bind fun bt210=>((conv_Whole.f k 4612811918334230528 0).bind fun bt212=>((conv_Whole.f k 13826050856027422720 1).bind fun bt214=>(if bt202.1 = 4845873199050653696 then (if bt202.2 = 1 then (if bt204.1 = 4845873199050653697 then (if bt206.1 = (-1) then (if bt206.2 = 1 then (if bt208.1 = 0 then (if bt208.2 = 16 then (if bt210.1 = 2147483648 then (if bt210.2 = 0 then (if bt212.1 = 4611686018427387904 then (if bt212.2 = 1 then (some (bt214.1 == 9223372036854775808)) else (some false)) else (some false)) else (some false)) else (some false)) else (some false)) else (some false)) else (some false)) else (some false)) else (some false)) else (some false)) else (some false))))))))
theorem flyballlaw07_works.mono : ∀ k,LeO (flyballlaw07_works.f k ) (flyballlaw07_works.f (k + 1) ):=by
 intro  k
 unfold flyballlaw07_works.f
 repeat' with_reducible first | exact conv_FromInt.mono _ _ _ | exact conv_ToInt32.mono _ _ | exact conv_ToInt64.mono _ _ | exact conv_Whole.mono _ _ _ | exact LeO.refl _ | exact LeO.none _ | refine LeO.ite ?_ ?_ | refine LeO.bind ?_ (fun _=>?_)
set_option maxHeartbeats 8000000 in
set_option maxRecDepth 100000 in
theorem flyballlaw07_works.calls (k : Nat)  (r : Bool) (w : World) (h : flyballlaw07_works.f k  = some r) :
  Calls Try.prog 14 #[] w fun e w'=>e = .returned (.bool r) ∧ Below w.heap.size w w':=by
 have HB:=Aside0.mk (Below.refl w.heap.size w)
 have H : ((conv_FromInt.f k 9007199254740993 0).bind fun bt202=>((conv_FromInt.f k 9007199254740993 1).bind fun bt204=>((conv_ToInt32.f k 13833932155375321088).bind fun bt206=>((conv_ToInt32.f k 4746794007248502784).bind fun bt208=>((conv_ToInt64.f k 4746794007248502784).bind fun bt210=>((conv_Whole.f k 4612811918334230528 0).bind fun bt212=>((conv_Whole.f k 13826050856027422720 1).bind fun bt214=>(if bt202.1 = 4845873199050653696 then (if bt202.2 = 1 then (if bt204.1 = 4845873199050653697 then (if bt206.1 = (-1) then (if bt206.2 = 1 then (if bt208.1 = 0 then (if bt208.2 = 16 then (if bt210.1 = 2147483648 then (if bt210.2 = 0 then (if bt212.1 = 4611686018427387904 then (if bt212.2 = 1 then (some (bt214.1 == 9223372036854775808)) else (some false)) else (some false)) else (some false)) else (some false)) else (some false)) else (some false)) else (some false)) else (some false)) else (some false)) else (some false)) else (some false))))))))) = some r:=h
 clear h
 replace H:=Option.bind_eq_some_iff.mp H
 obtain ⟨⟨t202,t203⟩,A10,H⟩:=H
 replace H : ((conv_FromInt.f k 9007199254740993 1).bind fun bt204=>((conv_ToInt32.f k 13833932155375321088).bind fun bt206=>((conv_ToInt32.f k 4746794007248502784).bind fun bt208=>((conv_ToInt64.f k 4746794007248502784).bind fun bt210=>((conv_Whole.f k 4612811918334230528 0).bind fun bt212=>((conv_Whole.f k 13826050856027422720 1).bind fun bt214=>(if t202 = 4845873199050653696 then (if t203 = 1 then (if bt204.1 = 4845873199050653697 then (if bt206.1 = (-1) then (if bt206.2 = 1 then (if bt208.1 = 0 then (if bt208.2 = 16 then (if bt210.1 = 2147483648 then (if bt210.2 = 0 then (if bt212.1 = 4611686018427387904 then (if bt212.2 = 1 then (some (bt214.1 == 9223372036854775808)) else (some false)) else (some false)) else (some false)) else (some false)) else (some false)) else (some false)) else (some false)) else (some false)) else (some false)) else (some false)) else (some false)))))))) = some r:=H
 have A1:=Aside0.mk A10
 clear A10
 replace H:=Option.bind_eq_some_iff.mp H
 obtain ⟨⟨t204,t205⟩,A20,H⟩:=H
 replace H : ((conv_ToInt32.f k 13833932155375321088).bind fun bt206=>((conv_ToInt32.f k 4746794007248502784).bind fun bt208=>((conv_ToInt64.f k 4746794007248502784).bind fun bt210=>((conv_Whole.f k 4612811918334230528 0).bind fun bt212=>((conv_Whole.f k 13826050856027422720 1).bind fun bt214=>(if t202 = 4845873199050653696 then (if t203 = 1 then (if t204 = 4845873199050653697 then (if bt206.1 = (-1) then (if bt206.2 = 1 then (if bt208.1 = 0 then (if bt208.2 = 16 then (if bt210.1 = 2147483648 then (if bt210.2 = 0 then (if bt212.1 = 4611686018427387904 then (if bt212.2 = 1 then (some (bt214.1 == 9223372036854775808)) else (some false)) else (some false)) else (some false)) else (some false)) else (some false)) else (some false)) else (some false)) else (some false)) else (some false)) else (some false)) else (some false))))))) = some r:=H
 have A2:=Aside0.mk A20
 clear A20
 replace H:=Option.bind_eq_some_iff.mp H
 obtain ⟨⟨t206,t207⟩,A30,H⟩:=H
 replace H : ((conv_ToInt32.f k 4746794007248502784).bind fun bt208=>((conv_ToInt64.f k 4746794007248502784).bind fun bt210=>((conv_Whole.f k 4612811918334230528 0).bind fun bt212=>((conv_Whole.f k 13826050856027422720 1).bind fun bt214=>(if t202 = 4845873199050653696 then (if t203 = 1 then (if t204 = 4845873199050653697 then (if t206 = (-1) then (if t207 = 1 then (if bt208.1 = 0 then (if bt208.2 = 16 then (if bt210.1 = 2147483648 then (if bt210.2 = 0 then (if bt212.1 = 4611686018427387904 then (if bt212.2 = 1 then (some (bt214.1 == 9223372036854775808)) else (some false)) else (some false)) else (some false)) else (some false)) else (some false)) else (some false)) else (some false)) else (some false)) else (some false)) else (some false)) else (some false)))))) = some r:=H
 have A3:=Aside0.mk A30
 clear A30
 replace H:=Option.bind_eq_some_iff.mp H
 obtain ⟨⟨t208,t209⟩,A40,H⟩:=H
 replace H : ((conv_ToInt64.f k 4746794007248502784).bind fun bt210=>((conv_Whole.f k 4612811918334230528 0).bind fun bt212=>((conv_Whole.f k 13826050856027422720 1).bind fun bt214=>(if t202 = 4845873199050653696 then (if t203 = 1 then (if t204 = 4845873199050653697 then (if t206 = (-1) then (if t207 = 1 then (if t208 = 0 then (if t209 = 16 then (if bt210.1 = 2147483648 then (if bt210.2 = 0 then (if bt212.1 = 4611686018427387904 then (if bt212.2 = 1 then (some (bt214.1 == 9223372036854775808)) else (some false)) else (some false)) else (some false)) else (some false)) else (some false)) else (some false)) else (some false)) else (some false)) else (some false)) else (some false)) else (some false))))) = some r:=H
 have A4:=Aside0.mk A40
 clear A40
 replace H:=Option.bind_eq_some_iff.mp H
 obtain ⟨⟨t210,t211⟩,A50,H⟩:=H
 replace H : ((conv_Whole.f k 4612811918334230528 0).bind fun bt212=>((conv_Whole.f k 13826050856027422720 1).bind fun bt214=>(if t202 = 4845873199050653696 then (if t203 = 1 then (if t204 = 4845873199050653697 then (if t206 = (-1) then (if t207 = 1 then (if t208 = 0 then (if t209 = 16 then (if t210 = 2147483648 then (if t211 = 0 then (if bt212.1 = 4611686018427387904 then (if bt212.2 = 1 then (some (bt214.1 == 9223372036854775808)) else (some false)) else (some false)) else (some false)) else (some false)) else (some false)) else (some false)) else (some false)) else (some false)) else (some false)) else (some false)) else (some false)))) = some r:=H
 have A5:=Aside0.mk A50
 clear A50
 replace H:=Option.bind_eq_some_iff.mp H
 obtain ⟨⟨t212,t213⟩,A60,H⟩:=H
 replace H : ((conv_Whole.f k 13826050856027422720 1).bind fun bt214=>(if t202 = 4845873199050653696 then (if t203 = 1 then (if t204 = 4845873199050653697 then (if t206 = (-1) then (if t207 = 1 then (if t208 = 0 then (if t209 = 16 then (if t210 = 2147483648 then (if t211 = 0 then (if t212 = 4611686018427387904 then (if t213 = 1 then (some (bt214.1 == 9223372036854775808)) else (some false)) else (some false)) else (some false)) else (some false)) else (some false)) else (some false)) else (some false)) else (some false)) else (some false)) else (some false)) else (some false))) = some r:=H
 have A6:=Aside0.mk A60
 clear A60
 replace H:=Option.bind_eq_some_iff.mp H
 obtain ⟨⟨t214,t215⟩,A70,H⟩:=H
 replace H : (if t202 = 4845873199050653696 then (if t203 = 1 then (if t204 = 4845873199050653697 then (if t206 = (-1) then (if t207 = 1 then (if t208 = 0 then (if t209 = 16 then (if t210 = 2147483648 then (if t211 = 0 then (if t212 = 4611686018427387904 then (if t213 = 1 then (some (t214 == 9223372036854775808)) else (some false)) else (some false)) else (some false)) else (some false)) else (some false)) else (some false)) else (some false)) else (some false)) else (some false)) else (some false)) else (some false)) = some r:=H
 have A7:=Aside0.mk A70
 clear A70
 by_cases c8 : t202 = 4845873199050653696
 case neg =>
  rw [if_neg c8] at H
  have c8b0 : (t202 == 4845873199050653696) = false:=beq_eq_false_iff_ne.mpr c8
  have c8b1 : (t202 != 4845873199050653696) = true:=bne_iff_ne.mpr c8
  obtain rfl:=Option.some.inj H
  go_enter Try.func14,Try.ntmps14
  go_wp2_with (first | ((with_reducible refine gc_ 15 rfl ?_); refine gM_ (some 16) Try.func15 [.int .i64 9007199254740993,.int .u8 0] ?_; (with_reducible refine (conv_FromInt.calls k 9007199254740993 0 t202 t203 _ A1.out).mono ?_); rintro e w96 ⟨rfl,hb⟩; refine ⟨_,rfl,?_⟩; replace HB:=bq_ hb) | ((with_reducible refine gc_ 15 rfl ?_); refine gM_ (some 20) Try.func15 [.int .i64 9007199254740993,.int .u8 1] ?_; (with_reducible refine (conv_FromInt.calls k 9007199254740993 1 t204 t205 _ A2.out).mono ?_); rintro e w97 ⟨rfl,hb⟩; refine ⟨_,rfl,?_⟩; replace HB:=bq_ hb) | ((with_reducible refine gc_ 17 rfl ?_); refine gM_ (some 24) Try.func17 [.int .u64 13833932155375321088] ?_; (with_reducible refine (conv_ToInt32.calls k 13833932155375321088 t206 t207 _ A3.out).mono ?_); rintro e w98 ⟨rfl,hb⟩; refine ⟨_,rfl,?_⟩; replace HB:=bq_ hb) | ((with_reducible refine gc_ 17 rfl ?_); refine gM_ (some 28) Try.func17 [.int .u64 4746794007248502784] ?_; (with_reducible refine (conv_ToInt32.calls k 4746794007248502784 t208 t209 _ A4.out).mono ?_); rintro e w99 ⟨rfl,hb⟩; refine ⟨_,rfl,?_⟩; replace HB:=bq_ hb) | ((with_reducible refine gc_ 19 rfl ?_); refine gM_ (some 32) Try.func19 [.int .u64 4746794007248502784] ?_; (with_reducible refine (conv_ToInt64.calls k 4746794007248502784 t210 t211 _ A5.out).mono ?_); rintro e w100 ⟨rfl,hb⟩; refine ⟨_,rfl,?_⟩; replace HB:=bq_ hb) | ((with_reducible refine gc_ 20 rfl ?_); refine gM_ (some 36) Try.func20 [.int .u64 4612811918334230528,.int .u8 0] ?_; (with_reducible refine (conv_Whole.calls k 4612811918334230528 0 t212 t213 _ A6.out).mono ?_); rintro e w101 ⟨rfl,hb⟩; refine ⟨_,rfl,?_⟩; replace HB:=bq_ hb) | ((with_reducible refine gc_ 20 rfl ?_); refine gM_ (some 40) Try.func20 [.int .u64 13826050856027422720,.int .u8 1] ?_; (with_reducible refine (conv_Whole.calls k 13826050856027422720 1 t214 t215 _ A7.out).mono ?_); rintro e w102 ⟨rfl,hb⟩; refine ⟨_,rfl,?_⟩; replace HB:=bq_ hb))
  go_ret
  exact ⟨eh_,bh_⟩
 rw [if_pos c8] at H
 have c8b0 : (t202 == 4845873199050653696) = true:=beq_iff_eq.mpr c8
 have c8b1 : (t202 != 4845873199050653696) = false:=bne_eq_false_iff_eq.mpr c8
 clear c8
 by_cases c9 : t203 = 1
 case neg =>
  rw [if_neg c9] at H
  have c9b0 : (t203 == 1) = false:=beq_eq_false_iff_ne.mpr c9
  have c9b1 : (t203 != 1) = true:=bne_iff_ne.mpr c9
  obtain rfl:=Option.some.inj H
  go_enter Try.func14,Try.ntmps14
  go_wp2_with (first | ((with_reducible refine gc_ 15 rfl ?_); refine gM_ (some 16) Try.func15 [.int .i64 9007199254740993,.int .u8 0] ?_; (with_reducible refine (conv_FromInt.calls k 9007199254740993 0 t202 t203 _ A1.out).mono ?_); rintro e w89 ⟨rfl,hb⟩; refine ⟨_,rfl,?_⟩; replace HB:=bq_ hb) | ((with_reducible refine gc_ 15 rfl ?_); refine gM_ (some 20) Try.func15 [.int .i64 9007199254740993,.int .u8 1] ?_; (with_reducible refine (conv_FromInt.calls k 9007199254740993 1 t204 t205 _ A2.out).mono ?_); rintro e w90 ⟨rfl,hb⟩; refine ⟨_,rfl,?_⟩; replace HB:=bq_ hb) | ((with_reducible refine gc_ 17 rfl ?_); refine gM_ (some 24) Try.func17 [.int .u64 13833932155375321088] ?_; (with_reducible refine (conv_ToInt32.calls k 13833932155375321088 t206 t207 _ A3.out).mono ?_); rintro e w91 ⟨rfl,hb⟩; refine ⟨_,rfl,?_⟩; replace HB:=bq_ hb) | ((with_reducible refine gc_ 17 rfl ?_); refine gM_ (some 28) Try.func17 [.int .u64 4746794007248502784] ?_; (with_reducible refine (conv_ToInt32.calls k 4746794007248502784 t208 t209 _ A4.out).mono ?_); rintro e w92 ⟨rfl,hb⟩; refine ⟨_,rfl,?_⟩; replace HB:=bq_ hb) | ((with_reducible refine gc_ 19 rfl ?_); refine gM_ (some 32) Try.func19 [.int .u64 4746794007248502784] ?_; (with_reducible refine (conv_ToInt64.calls k 4746794007248502784 t210 t211 _ A5.out).mono ?_); rintro e w93 ⟨rfl,hb⟩; refine ⟨_,rfl,?_⟩; replace HB:=bq_ hb) | ((with_reducible refine gc_ 20 rfl ?_); refine gM_ (some 36) Try.func20 [.int .u64 4612811918334230528,.int .u8 0] ?_; (with_reducible refine (conv_Whole.calls k 4612811918334230528 0 t212 t213 _ A6.out).mono ?_); rintro e w94 ⟨rfl,hb⟩; refine ⟨_,rfl,?_⟩; replace HB:=bq_ hb) | ((with_reducible refine gc_ 20 rfl ?_); refine gM_ (some 40) Try.func20 [.int .u64 13826050856027422720,.int .u8 1] ?_; (with_reducible refine (conv_Whole.calls k 13826050856027422720 1 t214 t215 _ A7.out).mono ?_); rintro e w95 ⟨rfl,hb⟩; refine ⟨_,rfl,?_⟩; replace HB:=bq_ hb))
  go_ret
  exact ⟨eh_,bh_⟩
 rw [if_pos c9] at H
 have c9b0 : (t203 == 1) = true:=beq_iff_eq.mpr c9
 have c9b1 : (t203 != 1) = false:=bne_eq_false_iff_eq.mpr c9
 clear c9
 by_cases c10 : t204 = 4845873199050653697
 case neg =>
  rw [if_neg c10] at H
  have c10b0 : (t204 == 4845873199050653697) = false:=beq_eq_false_iff_ne.mpr c10
  have c10b1 : (t204 != 4845873199050653697) = true:=bne_iff_ne.mpr c10
  obtain rfl:=Option.some.inj H
  go_enter Try.func14,Try.ntmps14
  go_wp2_with (first | ((with_reducible refine gc_ 15 rfl ?_); refine gM_ (some 16) Try.func15 [.int .i64 9007199254740993,.int .u8 0] ?_; (with_reducible refine (conv_FromInt.calls k 9007199254740993 0 t202 t203 _ A1.out).mono ?_); rintro e w82 ⟨rfl,hb⟩; refine ⟨_,rfl,?_⟩; replace HB:=bq_ hb) | ((with_reducible refine gc_ 15 rfl ?_); refine gM_ (some 20) Try.func15 [.int .i64 9007199254740993,.int .u8 1] ?_; (with_reducible refine (conv_FromInt.calls k 9007199254740993 1 t204 t205 _ A2.out).mono ?_); rintro e w83 ⟨rfl,hb⟩; refine ⟨_,rfl,?_⟩; replace HB:=bq_ hb) | ((with_reducible refine gc_ 17 rfl ?_); refine gM_ (some 24) Try.func17 [.int .u64 13833932155375321088] ?_; (with_reducible refine (conv_ToInt32.calls k 13833932155375321088 t206 t207 _ A3.out).mono ?_); rintro e w84 ⟨rfl,hb⟩; refine ⟨_,rfl,?_⟩; replace HB:=bq_ hb) | ((with_reducible refine gc_ 17 rfl ?_); refine gM_ (some 28) Try.func17 [.int .u64 4746794007248502784] ?_; (with_reducible refine (conv_ToInt32.calls k 4746794007248502784 t208 t209 _ A4.out).mono ?_); rintro e w85 ⟨rfl,hb⟩; refine ⟨_,rfl,?_⟩; replace HB:=bq_ hb) | ((with_reducible refine gc_ 19 rfl ?_); refine gM_ (some 32) Try.func19 [.int .u64 4746794007248502784] ?_; (with_reducible refine (conv_ToInt64.calls k 4746794007248502784 t210 t211 _ A5.out).mono ?_); rintro e w86 ⟨rfl,hb⟩; refine ⟨_,rfl,?_⟩; replace HB:=bq_ hb) | ((with_reducible refine gc_ 20 rfl ?_); refine gM_ (some 36) Try.func20 [.int .u64 4612811918334230528,.int .u8 0] ?_; (with_reducible refine (conv_Whole.calls k 4612811918334230528 0 t212 t213 _ A6.out).mono ?_); rintro e w87 ⟨rfl,hb⟩; refine ⟨_,rfl,?_⟩; replace HB:=bq_ hb) | ((with_reducible refine gc_ 20 rfl ?_); refine gM_ (some 40) Try.func20 [.int .u64 13826050856027422720,.int .u8 1] ?_; (with_reducible refine (conv_Whole.calls k 13826050856027422720 1 t214 t215 _ A7.out).mono ?_); rintro e w88 ⟨rfl,hb⟩; refine ⟨_,rfl,?_⟩; replace HB:=bq_ hb))
  go_ret
  exact ⟨eh_,bh_⟩
 rw [if_pos c10] at H
 have c10b0 : (t204 == 4845873199050653697) = true:=beq_iff_eq.mpr c10
 have c10b1 : (t204 != 4845873199050653697) = false:=bne_eq_false_iff_eq.mpr c10
 clear c10
 by_cases c11 : t206 = (-1)
 case neg =>
  rw [if_neg c11] at H
  have c11b0 : (t206 == (-1)) = false:=beq_eq_false_iff_ne.mpr c11
  have c11b1 : (t206 != (-1)) = true:=bne_iff_ne.mpr c11
  obtain rfl:=Option.some.inj H
  go_enter Try.func14,Try.ntmps14
  go_wp2_with (first | ((with_reducible refine gc_ 15 rfl ?_); refine gM_ (some 16) Try.func15 [.int .i64 9007199254740993,.int .u8 0] ?_; (with_reducible refine (conv_FromInt.calls k 9007199254740993 0 t202 t203 _ A1.out).mono ?_); rintro e w75 ⟨rfl,hb⟩; refine ⟨_,rfl,?_⟩; replace HB:=bq_ hb) | ((with_reducible refine gc_ 15 rfl ?_); refine gM_ (some 20) Try.func15 [.int .i64 9007199254740993,.int .u8 1] ?_; (with_reducible refine (conv_FromInt.calls k 9007199254740993 1 t204 t205 _ A2.out).mono ?_); rintro e w76 ⟨rfl,hb⟩; refine ⟨_,rfl,?_⟩; replace HB:=bq_ hb) | ((with_reducible refine gc_ 17 rfl ?_); refine gM_ (some 24) Try.func17 [.int .u64 13833932155375321088] ?_; (with_reducible refine (conv_ToInt32.calls k 13833932155375321088 t206 t207 _ A3.out).mono ?_); rintro e w77 ⟨rfl,hb⟩; refine ⟨_,rfl,?_⟩; replace HB:=bq_ hb) | ((with_reducible refine gc_ 17 rfl ?_); refine gM_ (some 28) Try.func17 [.int .u64 4746794007248502784] ?_; (with_reducible refine (conv_ToInt32.calls k 4746794007248502784 t208 t209 _ A4.out).mono ?_); rintro e w78 ⟨rfl,hb⟩; refine ⟨_,rfl,?_⟩; replace HB:=bq_ hb) | ((with_reducible refine gc_ 19 rfl ?_); refine gM_ (some 32) Try.func19 [.int .u64 4746794007248502784] ?_; (with_reducible refine (conv_ToInt64.calls k 4746794007248502784 t210 t211 _ A5.out).mono ?_); rintro e w79 ⟨rfl,hb⟩; refine ⟨_,rfl,?_⟩; replace HB:=bq_ hb) | ((with_reducible refine gc_ 20 rfl ?_); refine gM_ (some 36) Try.func20 [.int .u64 4612811918334230528,.int .u8 0] ?_; (with_reducible refine (conv_Whole.calls k 4612811918334230528 0 t212 t213 _ A6.out).mono ?_); rintro e w80 ⟨rfl,hb⟩; refine ⟨_,rfl,?_⟩; replace HB:=bq_ hb) | ((with_reducible refine gc_ 20 rfl ?_); refine gM_ (some 40) Try.func20 [.int .u64 13826050856027422720,.int .u8 1] ?_; (with_reducible refine (conv_Whole.calls k 13826050856027422720 1 t214 t215 _ A7.out).mono ?_); rintro e w81 ⟨rfl,hb⟩; refine ⟨_,rfl,?_⟩; replace HB:=bq_ hb))
  go_ret
  exact ⟨eh_,bh_⟩
 rw [if_pos c11] at H
 have c11b0 : (t206 == (-1)) = true:=beq_iff_eq.mpr c11
 have c11b1 : (t206 != (-1)) = false:=bne_eq_false_iff_eq.mpr c11
 clear c11
 by_cases c12 : t207 = 1
 case neg =>
  rw [if_neg c12] at H
  have c12b0 : (t207 == 1) = false:=beq_eq_false_iff_ne.mpr c12
  have c12b1 : (t207 != 1) = true:=bne_iff_ne.mpr c12
  obtain rfl:=Option.some.inj H
  go_enter Try.func14,Try.ntmps14
  go_wp2_with (first | ((with_reducible refine gc_ 15 rfl ?_); refine gM_ (some 16) Try.func15 [.int .i64 9007199254740993,.int .u8 0] ?_; (with_reducible refine (conv_FromInt.calls k 9007199254740993 0 t202 t203 _ A1.out).mono ?_); rintro e w68 ⟨rfl,hb⟩; refine ⟨_,rfl,?_⟩; replace HB:=bq_ hb) | ((with_reducible refine gc_ 15 rfl ?_); refine gM_ (some 20) Try.func15 [.int .i64 9007199254740993,.int .u8 1] ?_; (with_reducible refine (conv_FromInt.calls k 9007199254740993 1 t204 t205 _ A2.out).mono ?_); rintro e w69 ⟨rfl,hb⟩; refine ⟨_,rfl,?_⟩; replace HB:=bq_ hb) | ((with_reducible refine gc_ 17 rfl ?_); refine gM_ (some 24) Try.func17 [.int .u64 13833932155375321088] ?_; (with_reducible refine (conv_ToInt32.calls k 13833932155375321088 t206 t207 _ A3.out).mono ?_); rintro e w70 ⟨rfl,hb⟩; refine ⟨_,rfl,?_⟩; replace HB:=bq_ hb) | ((with_reducible refine gc_ 17 rfl ?_); refine gM_ (some 28) Try.func17 [.int .u64 4746794007248502784] ?_; (with_reducible refine (conv_ToInt32.calls k 4746794007248502784 t208 t209 _ A4.out).mono ?_); rintro e w71 ⟨rfl,hb⟩; refine ⟨_,rfl,?_⟩; replace HB:=bq_ hb) | ((with_reducible refine gc_ 19 rfl ?_); refine gM_ (some 32) Try.func19 [.int .u64 4746794007248502784] ?_; (with_reducible refine (conv_ToInt64.calls k 4746794007248502784 t210 t211 _ A5.out).mono ?_); rintro e w72 ⟨rfl,hb⟩; refine ⟨_,rfl,?_⟩; replace HB:=bq_ hb) | ((with_reducible refine gc_ 20 rfl ?_); refine gM_ (some 36) Try.func20 [.int .u64 4612811918334230528,.int .u8 0] ?_; (with_reducible refine (conv_Whole.calls k 4612811918334230528 0 t212 t213 _ A6.out).mono ?_); rintro e w73 ⟨rfl,hb⟩; refine ⟨_,rfl,?_⟩; replace HB:=bq_ hb) | ((with_reducible refine gc_ 20 rfl ?_); refine gM_ (some 40) Try.func20 [.int .u64 13826050856027422720,.int .u8 1] ?_; (with_reducible refine (conv_Whole.calls k 13826050856027422720 1 t214 t215 _ A7.out).mono ?_); rintro e w74 ⟨rfl,hb⟩; refine ⟨_,rfl,?_⟩; replace HB:=bq_ hb))
  go_ret
  exact ⟨eh_,bh_⟩
 rw [if_pos c12] at H
 have c12b0 : (t207 == 1) = true:=beq_iff_eq.mpr c12
 have c12b1 : (t207 != 1) = false:=bne_eq_false_iff_eq.mpr c12
 clear c12
 by_cases c13 : t208 = 0
 case neg =>
  rw [if_neg c13] at H
  have c13b0 : (t208 == 0) = false:=beq_eq_false_iff_ne.mpr c13
  have c13b1 : (t208 != 0) = true:=bne_iff_ne.mpr c13
  obtain rfl:=Option.some.inj H
  go_enter Try.func14,Try.ntmps14
  go_wp2_with (first | ((with_reducible refine gc_ 15 rfl ?_); refine gM_ (some 16) Try.func15 [.int .i64 9007199254740993,.int .u8 0] ?_; (with_reducible refine (conv_FromInt.calls k 9007199254740993 0 t202 t203 _ A1.out).mono ?_); rintro e w61 ⟨rfl,hb⟩; refine ⟨_,rfl,?_⟩; replace HB:=bq_ hb) | ((with_reducible refine gc_ 15 rfl ?_); refine gM_ (some 20) Try.func15 [.int .i64 9007199254740993,.int .u8 1] ?_; (with_reducible refine (conv_FromInt.calls k 9007199254740993 1 t204 t205 _ A2.out).mono ?_); rintro e w62 ⟨rfl,hb⟩; refine ⟨_,rfl,?_⟩; replace HB:=bq_ hb) | ((with_reducible refine gc_ 17 rfl ?_); refine gM_ (some 24) Try.func17 [.int .u64 13833932155375321088] ?_; (with_reducible refine (conv_ToInt32.calls k 13833932155375321088 t206 t207 _ A3.out).mono ?_); rintro e w63 ⟨rfl,hb⟩; refine ⟨_,rfl,?_⟩; replace HB:=bq_ hb) | ((with_reducible refine gc_ 17 rfl ?_); refine gM_ (some 28) Try.func17 [.int .u64 4746794007248502784] ?_; (with_reducible refine (conv_ToInt32.calls k 4746794007248502784 t208 t209 _ A4.out).mono ?_); rintro e w64 ⟨rfl,hb⟩; refine ⟨_,rfl,?_⟩; replace HB:=bq_ hb) | ((with_reducible refine gc_ 19 rfl ?_); refine gM_ (some 32) Try.func19 [.int .u64 4746794007248502784] ?_; (with_reducible refine (conv_ToInt64.calls k 4746794007248502784 t210 t211 _ A5.out).mono ?_); rintro e w65 ⟨rfl,hb⟩; refine ⟨_,rfl,?_⟩; replace HB:=bq_ hb) | ((with_reducible refine gc_ 20 rfl ?_); refine gM_ (some 36) Try.func20 [.int .u64 4612811918334230528,.int .u8 0] ?_; (with_reducible refine (conv_Whole.calls k 4612811918334230528 0 t212 t213 _ A6.out).mono ?_); rintro e w66 ⟨rfl,hb⟩; refine ⟨_,rfl,?_⟩; replace HB:=bq_ hb) | ((with_reducible refine gc_ 20 rfl ?_); refine gM_ (some 40) Try.func20 [.int .u64 13826050856027422720,.int .u8 1] ?_; (with_reducible refine (conv_Whole.calls k 13826050856027422720 1 t214 t215 _ A7.out).mono ?_); rintro e w67 ⟨rfl,hb⟩; refine ⟨_,rfl,?_⟩; replace HB:=bq_ hb))
  go_ret
  exact ⟨eh_,bh_⟩
 rw [if_pos c13] at H
 have c13b0 : (t208 == 0) = true:=beq_iff_eq.mpr c13
 have c13b1 : (t208 != 0) = false:=bne_eq_false_iff_eq.mpr c13
 clear c13
 by_cases c14 : t209 = 16
 case neg =>
  rw [if_neg c14] at H
  have c14b0 : (t209 == 16) = false:=beq_eq_false_iff_ne.mpr c14
  have c14b1 : (t209 != 16) = true:=bne_iff_ne.mpr c14
  obtain rfl:=Option.some.inj H
  go_enter Try.func14,Try.ntmps14
  go_wp2_with (first | ((with_reducible refine gc_ 15 rfl ?_); refine gM_ (some 16) Try.func15 [.int .i64 9007199254740993,.int .u8 0] ?_; (with_reducible refine (conv_FromInt.calls k 9007199254740993 0 t202 t203 _ A1.out).mono ?_); rintro e w54 ⟨rfl,hb⟩; refine ⟨_,rfl,?_⟩; replace HB:=bq_ hb) | ((with_reducible refine gc_ 15 rfl ?_); refine gM_ (some 20) Try.func15 [.int .i64 9007199254740993,.int .u8 1] ?_; (with_reducible refine (conv_FromInt.calls k 9007199254740993 1 t204 t205 _ A2.out).mono ?_); rintro e w55 ⟨rfl,hb⟩; refine ⟨_,rfl,?_⟩; replace HB:=bq_ hb) | ((with_reducible refine gc_ 17 rfl ?_); refine gM_ (some 24) Try.func17 [.int .u64 13833932155375321088] ?_; (with_reducible refine (conv_ToInt32.calls k 13833932155375321088 t206 t207 _ A3.out).mono ?_); rintro e w56 ⟨rfl,hb⟩; refine ⟨_,rfl,?_⟩; replace HB:=bq_ hb) | ((with_reducible refine gc_ 17 rfl ?_); refine gM_ (some 28) Try.func17 [.int .u64 4746794007248502784] ?_; (with_reducible refine (conv_ToInt32.calls k 4746794007248502784 t208 t209 _ A4.out).mono ?_); rintro e w57 ⟨rfl,hb⟩; refine ⟨_,rfl,?_⟩; replace HB:=bq_ hb) | ((with_reducible refine gc_ 19 rfl ?_); refine gM_ (some 32) Try.func19 [.int .u64 4746794007248502784] ?_; (with_reducible refine (conv_ToInt64.calls k 4746794007248502784 t210 t211 _ A5.out).mono ?_); rintro e w58 ⟨rfl,hb⟩; refine ⟨_,rfl,?_⟩; replace HB:=bq_ hb) | ((with_reducible refine gc_ 20 rfl ?_); refine gM_ (some 36) Try.func20 [.int .u64 4612811918334230528,.int .u8 0] ?_; (with_reducible refine (conv_Whole.calls k 4612811918334230528 0 t212 t213 _ A6.out).mono ?_); rintro e w59 ⟨rfl,hb⟩; refine ⟨_,rfl,?_⟩; replace HB:=bq_ hb) | ((with_reducible refine gc_ 20 rfl ?_); refine gM_ (some 40) Try.func20 [.int .u64 13826050856027422720,.int .u8 1] ?_; (with_reducible refine (conv_Whole.calls k 13826050856027422720 1 t214 t215 _ A7.out).mono ?_); rintro e w60 ⟨rfl,hb⟩; refine ⟨_,rfl,?_⟩; replace HB:=bq_ hb))
  go_ret
  exact ⟨eh_,bh_⟩
 rw [if_pos c14] at H
 have c14b0 : (t209 == 16) = true:=beq_iff_eq.mpr c14
 have c14b1 : (t209 != 16) = false:=bne_eq_false_iff_eq.mpr c14
 clear c14
 by_cases c15 : t210 = 2147483648
 case neg =>
  rw [if_neg c15] at H
  have c15b0 : (t210 == 2147483648) = false:=beq_eq_false_iff_ne.mpr c15
  have c15b1 : (t210 != 2147483648) = true:=bne_iff_ne.mpr c15
  obtain rfl:=Option.some.inj H
  go_enter Try.func14,Try.ntmps14
  go_wp2_with (first | ((with_reducible refine gc_ 15 rfl ?_); refine gM_ (some 16) Try.func15 [.int .i64 9007199254740993,.int .u8 0] ?_; (with_reducible refine (conv_FromInt.calls k 9007199254740993 0 t202 t203 _ A1.out).mono ?_); rintro e w47 ⟨rfl,hb⟩; refine ⟨_,rfl,?_⟩; replace HB:=bq_ hb) | ((with_reducible refine gc_ 15 rfl ?_); refine gM_ (some 20) Try.func15 [.int .i64 9007199254740993,.int .u8 1] ?_; (with_reducible refine (conv_FromInt.calls k 9007199254740993 1 t204 t205 _ A2.out).mono ?_); rintro e w48 ⟨rfl,hb⟩; refine ⟨_,rfl,?_⟩; replace HB:=bq_ hb) | ((with_reducible refine gc_ 17 rfl ?_); refine gM_ (some 24) Try.func17 [.int .u64 13833932155375321088] ?_; (with_reducible refine (conv_ToInt32.calls k 13833932155375321088 t206 t207 _ A3.out).mono ?_); rintro e w49 ⟨rfl,hb⟩; refine ⟨_,rfl,?_⟩; replace HB:=bq_ hb) | ((with_reducible refine gc_ 17 rfl ?_); refine gM_ (some 28) Try.func17 [.int .u64 4746794007248502784] ?_; (with_reducible refine (conv_ToInt32.calls k 4746794007248502784 t208 t209 _ A4.out).mono ?_); rintro e w50 ⟨rfl,hb⟩; refine ⟨_,rfl,?_⟩; replace HB:=bq_ hb) | ((with_reducible refine gc_ 19 rfl ?_); refine gM_ (some 32) Try.func19 [.int .u64 4746794007248502784] ?_; (with_reducible refine (conv_ToInt64.calls k 4746794007248502784 t210 t211 _ A5.out).mono ?_); rintro e w51 ⟨rfl,hb⟩; refine ⟨_,rfl,?_⟩; replace HB:=bq_ hb) | ((with_reducible refine gc_ 20 rfl ?_); refine gM_ (some 36) Try.func20 [.int .u64 4612811918334230528,.int .u8 0] ?_; (with_reducible refine (conv_Whole.calls k 4612811918334230528 0 t212 t213 _ A6.out).mono ?_); rintro e w52 ⟨rfl,hb⟩; refine ⟨_,rfl,?_⟩; replace HB:=bq_ hb) | ((with_reducible refine gc_ 20 rfl ?_); refine gM_ (some 40) Try.func20 [.int .u64 13826050856027422720,.int .u8 1] ?_; (with_reducible refine (conv_Whole.calls k 13826050856027422720 1 t214 t215 _ A7.out).mono ?_); rintro e w53 ⟨rfl,hb⟩; refine ⟨_,rfl,?_⟩; replace HB:=bq_ hb))
  go_ret
  exact ⟨eh_,bh_⟩
 rw [if_pos c15] at H
 have c15b0 : (t210 == 2147483648) = true:=beq_iff_eq.mpr c15
 have c15b1 : (t210 != 2147483648) = false:=bne_eq_false_iff_eq.mpr c15
 clear c15
 by_cases c16 : t211 = 0
 case neg =>
  rw [if_neg c16] at H
  have c16b0 : (t211 == 0) = false:=beq_eq_false_iff_ne.mpr c16
  have c16b1 : (t211 != 0) = true:=bne_iff_ne.mpr c16
  obtain rfl:=Option.some.inj H
  go_enter Try.func14,Try.ntmps14
  go_wp2_with (first | ((with_reducible refine gc_ 15 rfl ?_); refine gM_ (some 16) Try.func15 [.int .i64 9007199254740993,.int .u8 0] ?_; (with_reducible refine (conv_FromInt.calls k 9007199254740993 0 t202 t203 _ A1.out).mono ?_); rintro e w40 ⟨rfl,hb⟩; refine ⟨_,rfl,?_⟩; replace HB:=bq_ hb) | ((with_reducible refine gc_ 15 rfl ?_); refine gM_ (some 20) Try.func15 [.int .i64 9007199254740993,.int .u8 1] ?_; (with_reducible refine (conv_FromInt.calls k 9007199254740993 1 t204 t205 _ A2.out).mono ?_); rintro e w41 ⟨rfl,hb⟩; refine ⟨_,rfl,?_⟩; replace HB:=bq_ hb) | ((with_reducible refine gc_ 17 rfl ?_); refine gM_ (some 24) Try.func17 [.int .u64 13833932155375321088] ?_; (with_reducible refine (conv_ToInt32.calls k 13833932155375321088 t206 t207 _ A3.out).mono ?_); rintro e w42 ⟨rfl,hb⟩; refine ⟨_,rfl,?_⟩; replace HB:=bq_ hb) | ((with_reducible refine gc_ 17 rfl ?_); refine gM_ (some 28) Try.func17 [.int .u64 4746794007248502784] ?_; (with_reducible refine (conv_ToInt32.calls k 4746794007248502784 t208 t209 _ A4.out).mono ?_); rintro e w43 ⟨rfl,hb⟩; refine ⟨_,rfl,?_⟩; replace HB:=bq_ hb) | ((with_reducible refine gc_ 19 rfl ?_); refine gM_ (some 32) Try.func19 [.int .u64 4746794007248502784] ?_; (with_reducible refine (conv_ToInt64.calls k 4746794007248502784 t210 t211 _ A5.out).mono ?_); rintro e w44 ⟨rfl,hb⟩; refine ⟨_,rfl,?_⟩; replace HB:=bq_ hb) | ((with_reducible refine gc_ 20 rfl ?_); refine gM_ (some 36) Try.func20 [.int .u64 4612811918334230528,.int .u8 0] ?_; (with_reducible refine (conv_Whole.calls k 4612811918334230528 0 t212 t213 _ A6.out).mono ?_); rintro e w45 ⟨rfl,hb⟩; refine ⟨_,rfl,?_⟩; replace HB:=bq_ hb) | ((with_reducible refine gc_ 20 rfl ?_); refine gM_ (some 40) Try.func20 [.int .u64 13826050856027422720,.int .u8 1] ?_; (with_reducible refine (conv_Whole.calls k 13826050856027422720 1 t214 t215 _ A7.out).mono ?_); rintro e w46 ⟨rfl,hb⟩; refine ⟨_,rfl,?_⟩; replace HB:=bq_ hb))
  go_ret
  exact ⟨eh_,bh_⟩
 rw [if_pos c16] at H
 have c16b0 : (t211 == 0) = true:=beq_iff_eq.mpr c16
 have c16b1 : (t211 != 0) = false:=bne_eq_false_iff_eq.mpr c16
 clear c16
 by_cases c17 : t212 = 4611686018427387904
 case neg =>
  rw [if_neg c17] at H
  have c17b0 : (t212 == 4611686018427387904) = false:=beq_eq_false_iff_ne.mpr c17
  have c17b1 : (t212 != 4611686018427387904) = true:=bne_iff_ne.mpr c17
  obtain rfl:=Option.some.inj H
  go_enter Try.func14,Try.ntmps14
  go_wp2_with (first | ((with_reducible refine gc_ 15 rfl ?_); refine gM_ (some 16) Try.func15 [.int .i64 9007199254740993,.int .u8 0] ?_; (with_reducible refine (conv_FromInt.calls k 9007199254740993 0 t202 t203 _ A1.out).mono ?_); rintro e w33 ⟨rfl,hb⟩; refine ⟨_,rfl,?_⟩; replace HB:=bq_ hb) | ((with_reducible refine gc_ 15 rfl ?_); refine gM_ (some 20) Try.func15 [.int .i64 9007199254740993,.int .u8 1] ?_; (with_reducible refine (conv_FromInt.calls k 9007199254740993 1 t204 t205 _ A2.out).mono ?_); rintro e w34 ⟨rfl,hb⟩; refine ⟨_,rfl,?_⟩; replace HB:=bq_ hb) | ((with_reducible refine gc_ 17 rfl ?_); refine gM_ (some 24) Try.func17 [.int .u64 13833932155375321088] ?_; (with_reducible refine (conv_ToInt32.calls k 13833932155375321088 t206 t207 _ A3.out).mono ?_); rintro e w35 ⟨rfl,hb⟩; refine ⟨_,rfl,?_⟩; replace HB:=bq_ hb) | ((with_reducible refine gc_ 17 rfl ?_); refine gM_ (some 28) Try.func17 [.int .u64 4746794007248502784] ?_; (with_reducible refine (conv_ToInt32.calls k 4746794007248502784 t208 t209 _ A4.out).mono ?_); rintro e w36 ⟨rfl,hb⟩; refine ⟨_,rfl,?_⟩; replace HB:=bq_ hb) | ((with_reducible refine gc_ 19 rfl ?_); refine gM_ (some 32) Try.func19 [.int .u64 4746794007248502784] ?_; (with_reducible refine (conv_ToInt64.calls k 4746794007248502784 t210 t211 _ A5.out).mono ?_); rintro e w37 ⟨rfl,hb⟩; refine ⟨_,rfl,?_⟩; replace HB:=bq_ hb) | ((with_reducible refine gc_ 20 rfl ?_); refine gM_ (some 36) Try.func20 [.int .u64 4612811918334230528,.int .u8 0] ?_; (with_reducible refine (conv_Whole.calls k 4612811918334230528 0 t212 t213 _ A6.out).mono ?_); rintro e w38 ⟨rfl,hb⟩; refine ⟨_,rfl,?_⟩; replace HB:=bq_ hb) | ((with_reducible refine gc_ 20 rfl ?_); refine gM_ (some 40) Try.func20 [.int .u64 13826050856027422720,.int .u8 1] ?_; (with_reducible refine (conv_Whole.calls k 13826050856027422720 1 t214 t215 _ A7.out).mono ?_); rintro e w39 ⟨rfl,hb⟩; refine ⟨_,rfl,?_⟩; replace HB:=bq_ hb))
  go_ret
  exact ⟨eh_,bh_⟩
 rw [if_pos c17] at H
 have c17b0 : (t212 == 4611686018427387904) = true:=beq_iff_eq.mpr c17
 have c17b1 : (t212 != 4611686018427387904) = false:=bne_eq_false_iff_eq.mpr c17
 clear c17
 by_cases c18 : t213 = 1
 case neg =>
  rw [if_neg c18] at H
  have c18b0 : (t213 == 1) = false:=beq_eq_false_iff_ne.mpr c18
  have c18b1 : (t213 != 1) = true:=bne_iff_ne.mpr c18
  obtain rfl:=Option.some.inj H
  go_enter Try.func14,Try.ntmps14
  go_wp2_with (first | ((with_reducible refine gc_ 15 rfl ?_); refine gM_ (some 16) Try.func15 [.int .i64 9007199254740993,.int .u8 0] ?_; (with_reducible refine (conv_FromInt.calls k 9007199254740993 0 t202 t203 _ A1.out).mono ?_); rintro e w26 ⟨rfl,hb⟩; refine ⟨_,rfl,?_⟩; replace HB:=bq_ hb) | ((with_reducible refine gc_ 15 rfl ?_); refine gM_ (some 20) Try.func15 [.int .i64 9007199254740993,.int .u8 1] ?_; (with_reducible refine (conv_FromInt.calls k 9007199254740993 1 t204 t205 _ A2.out).mono ?_); rintro e w27 ⟨rfl,hb⟩; refine ⟨_,rfl,?_⟩; replace HB:=bq_ hb) | ((with_reducible refine gc_ 17 rfl ?_); refine gM_ (some 24) Try.func17 [.int .u64 13833932155375321088] ?_; (with_reducible refine (conv_ToInt32.calls k 13833932155375321088 t206 t207 _ A3.out).mono ?_); rintro e w28 ⟨rfl,hb⟩; refine ⟨_,rfl,?_⟩; replace HB:=bq_ hb) | ((with_reducible refine gc_ 17 rfl ?_); refine gM_ (some 28) Try.func17 [.int .u64 4746794007248502784] ?_; (with_reducible refine (conv_ToInt32.calls k 4746794007248502784 t208 t209 _ A4.out).mono ?_); rintro e w29 ⟨rfl,hb⟩; refine ⟨_,rfl,?_⟩; replace HB:=bq_ hb) | ((with_reducible refine gc_ 19 rfl ?_); refine gM_ (some 32) Try.func19 [.int .u64 4746794007248502784] ?_; (with_reducible refine (conv_ToInt64.calls k 4746794007248502784 t210 t211 _ A5.out).mono ?_); rintro e w30 ⟨rfl,hb⟩; refine ⟨_,rfl,?_⟩; replace HB:=bq_ hb) | ((with_reducible refine gc_ 20 rfl ?_); refine gM_ (some 36) Try.func20 [.int .u64 4612811918334230528,.int .u8 0] ?_; (with_reducible refine (conv_Whole.calls k 4612811918334230528 0 t212 t213 _ A6.out).mono ?_); rintro e w31 ⟨rfl,hb⟩; refine ⟨_,rfl,?_⟩; replace HB:=bq_ hb) | ((with_reducible refine gc_ 20 rfl ?_); refine gM_ (some 40) Try.func20 [.int .u64 13826050856027422720,.int .u8 1] ?_; (with_reducible refine (conv_Whole.calls k 13826050856027422720 1 t214 t215 _ A7.out).mono ?_); rintro e w32 ⟨rfl,hb⟩; refine ⟨_,rfl,?_⟩; replace HB:=bq_ hb))
  go_ret
  exact ⟨eh_,bh_⟩
 rw [if_pos c18] at H
 have c18b0 : (t213 == 1) = true:=beq_iff_eq.mpr c18
 have c18b1 : (t213 != 1) = false:=bne_eq_false_iff_eq.mpr c18
 clear c18
 obtain rfl:=Option.some.inj H
 go_enter Try.func14,Try.ntmps14
 go_wp2_with (first | ((with_reducible refine gc_ 15 rfl ?_); refine gM_ (some 16) Try.func15 [.int .i64 9007199254740993,.int .u8 0] ?_; (with_reducible refine (conv_FromInt.calls k 9007199254740993 0 t202 t203 _ A1.out).mono ?_); rintro e w19 ⟨rfl,hb⟩; refine ⟨_,rfl,?_⟩; replace HB:=bq_ hb) | ((with_reducible refine gc_ 15 rfl ?_); refine gM_ (some 20) Try.func15 [.int .i64 9007199254740993,.int .u8 1] ?_; (with_reducible refine (conv_FromInt.calls k 9007199254740993 1 t204 t205 _ A2.out).mono ?_); rintro e w20 ⟨rfl,hb⟩; refine ⟨_,rfl,?_⟩; replace HB:=bq_ hb) | ((with_reducible refine gc_ 17 rfl ?_); refine gM_ (some 24) Try.func17 [.int .u64 13833932155375321088] ?_; (with_reducible refine (conv_ToInt32.calls k 13833932155375321088 t206 t207 _ A3.out).mono ?_); rintro e w21 ⟨rfl,hb⟩; refine ⟨_,rfl,?_⟩; replace HB:=bq_ hb) | ((with_reducible refine gc_ 17 rfl ?_); refine gM_ (some 28) Try.func17 [.int .u64 4746794007248502784] ?_; (with_reducible refine (conv_ToInt32.calls k 4746794007248502784 t208 t209 _ A4.out).mono ?_); rintro e w22 ⟨rfl,hb⟩; refine ⟨_,rfl,?_⟩; replace HB:=bq_ hb) | ((with_reducible refine gc_ 19 rfl ?_); refine gM_ (some 32) Try.func19 [.int .u64 4746794007248502784] ?_; (with_reducible refine (conv_ToInt64.calls k 4746794007248502784 t210 t211 _ A5.out).mono ?_); rintro e w23 ⟨rfl,hb⟩; refine ⟨_,rfl,?_⟩; replace HB:=bq_ hb) | ((with_reducible refine gc_ 20 rfl ?_); refine gM_ (some 36) Try.func20 [.int .u64 4612811918334230528,.int .u8 0] ?_; (with_reducible refine (conv_Whole.calls k 4612811918334230528 0 t212 t213 _ A6.out).mono ?_); rintro e w24 ⟨rfl,hb⟩; refine ⟨_,rfl,?_⟩; replace HB:=bq_ hb) | ((with_reducible refine gc_ 20 rfl ?_); refine gM_ (some 40) Try.func20 [.int .u64 13826050856027422720,.int .u8 1] ?_; (with_reducible refine (conv_Whole.calls k 13826050856027422720 1 t214 t215 _ A7.out).mono ?_); rintro e w25 ⟨rfl,hb⟩; refine ⟨_,rfl,?_⟩; replace HB:=bq_ hb))
 go_ret
 exact ⟨eh_,bh_⟩

end Go.Proofs.Ytfglpaaeipblcaa.P
