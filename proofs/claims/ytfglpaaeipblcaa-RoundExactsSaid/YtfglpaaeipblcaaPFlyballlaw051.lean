/- Walks of one package: what each function returns, wherever the Lean function beside it has an answer. -/
import Derived.Test.YtfglpaaeipblcaaP0
import Derived.Test.YtfglpaaeipblcaaPPattern1
import Derived.Test.YtfglpaaeipblcaaPRound1
import Derived.Test.YtfglpaaeipblcaaPNat1
import Derived.Test.YtfglpaaeipblcaaPRound3
import Derived.Test.YtfglpaaeipblcaaPRatio1
namespace Go.Proofs.Ytfglpaaeipblcaa.P
open Go.RowKit Go.Proofs.YtfglpaaeipblcaaW.PrintWords Go.Proofs.YtfglpaaeipblcaaW.PrintLast Go.Proofs.YtfglpaaeipblcaaW.PrintMore
attribute [local go_sem] max2_int min2_int max_two min_two max_three min_three max_four min_four   -- for this text's walks alone
set_option linter.unusedVariables false
set_option linter.unusedSimpArgs false

-- GIVENTEXT
/-! ### flyballlaw05_works: function 22 -/
def flyballlaw05_works.f (k : Nat)  : Option (Bool) := (round_Round.f k false 0 3 (-1) false 0).bind fun bt404 => ((nat_New.f k 1).bind fun t406 => ((nat_New.f k 3).bind fun t409 => ((ratio_New.f k false t406 t409).bind fun bt412 => ((round_Exact.f k bt412.1 bt412.2.1 bt412.2.2.1 0).bind fun bt421 => ((round_Exact.f k bt412.1 bt412.2.1 bt412.2.2.1 1).bind fun bt423 => ((ratio_Dyad.f k false 1 (-1075)).bind fun bt425 => ((round_Exact.f k bt425.1 bt425.2.1 bt425.2.2.1 0).bind fun bt434 => ((round_Exact.f k bt425.1 bt425.2.1 bt425.2.2.1 1).bind fun bt436 => ((round_Round.f k true 0 1 1024 false 0).bind fun bt438 => ((round_Round.f k true 0 1 1024 false 1).bind fun bt440 => (if bt404.1 = 4609434218613702656 then (if bt404.2 = 0 then (if bt421.1 = 4599676419421066581 then (if bt421.2 = 1 then (if bt423.1 = 4599676419421066582 then (if bt434.1 = 0 then (if bt434.2 = 3 then (if bt436.1 = 1 then ((pattern_Inf.f k true).bind fun t442 => (if bt438.1 = t442 then (if bt438.2 = 5 then (if bt440.1 = 18442240474082181119 then ((round_Ulp.f k 4607182418800017408).bind fun t443 => (some (t443 == 4372995238176751616))) else (some false)) else (some false)) else (some false))) else (some false)) else (some false)) else (some false)) else (some false)) else (some false)) else (some false)) else (some false)) else (some false))))))))))))
theorem flyballlaw05_works.mono : ∀ k, LeO (flyballlaw05_works.f k ) (flyballlaw05_works.f (k + 1) ) := by
 intro  k
 unfold flyballlaw05_works.f
 repeat' with_reducible first | exact nat_New.mono _ _ | exact pattern_Inf.mono _ _ | exact ratio_Dyad.mono _ _ _ _ | exact ratio_New.mono _ _ _ _ | exact round_Exact.mono _ _ _ _ _ | exact round_Round.mono _ _ _ _ _ _ _ | exact round_Ulp.mono _ _ | exact LeO.refl _ | exact LeO.none _ | refine LeO.ite ?_ ?_ | refine LeO.bind ?_ (fun _ => ?_)
set_option maxHeartbeats 8000000 in
set_option maxRecDepth 100000 in
theorem flyballlaw05_works.calls (k : Nat)  (r : Bool) (w : World) (h : flyballlaw05_works.f k  = some r) :
  Calls Try.prog 22 #[] w fun e w' => e = .returned (.bool r) ∧ Below w.heap.size w w' := by
 have hu40 := Try.underlying40
 have hu50 := Try.underlying50
 have HB := Aside0.mk (Below.refl w.heap.size w)
 have H : ((round_Round.f k false 0 3 (-1) false 0).bind fun bt404 => ((nat_New.f k 1).bind fun t406 => ((nat_New.f k 3).bind fun t409 => ((ratio_New.f k false t406 t409).bind fun bt412 => ((round_Exact.f k bt412.1 bt412.2.1 bt412.2.2.1 0).bind fun bt421 => ((round_Exact.f k bt412.1 bt412.2.1 bt412.2.2.1 1).bind fun bt423 => ((ratio_Dyad.f k false 1 (-1075)).bind fun bt425 => ((round_Exact.f k bt425.1 bt425.2.1 bt425.2.2.1 0).bind fun bt434 => ((round_Exact.f k bt425.1 bt425.2.1 bt425.2.2.1 1).bind fun bt436 => ((round_Round.f k true 0 1 1024 false 0).bind fun bt438 => ((round_Round.f k true 0 1 1024 false 1).bind fun bt440 => (if bt404.1 = 4609434218613702656 then (if bt404.2 = 0 then (if bt421.1 = 4599676419421066581 then (if bt421.2 = 1 then (if bt423.1 = 4599676419421066582 then (if bt434.1 = 0 then (if bt434.2 = 3 then (if bt436.1 = 1 then ((pattern_Inf.f k true).bind fun t442 => (if bt438.1 = t442 then (if bt438.2 = 5 then (if bt440.1 = 18442240474082181119 then ((round_Ulp.f k 4607182418800017408).bind fun t443 => (some (t443 == 4372995238176751616))) else (some false)) else (some false)) else (some false))) else (some false)) else (some false)) else (some false)) else (some false)) else (some false)) else (some false)) else (some false)) else (some false))))))))))))) = some r := h
 clear h
 replace H := Option.bind_eq_some_iff.mp H
 obtain ⟨⟨t404, t405⟩, A10, H⟩ := H
 replace H : ((nat_New.f k 1).bind fun t406 => ((nat_New.f k 3).bind fun t409 => ((ratio_New.f k false t406 t409).bind fun bt412 => ((round_Exact.f k bt412.1 bt412.2.1 bt412.2.2.1 0).bind fun bt421 => ((round_Exact.f k bt412.1 bt412.2.1 bt412.2.2.1 1).bind fun bt423 => ((ratio_Dyad.f k false 1 (-1075)).bind fun bt425 => ((round_Exact.f k bt425.1 bt425.2.1 bt425.2.2.1 0).bind fun bt434 => ((round_Exact.f k bt425.1 bt425.2.1 bt425.2.2.1 1).bind fun bt436 => ((round_Round.f k true 0 1 1024 false 0).bind fun bt438 => ((round_Round.f k true 0 1 1024 false 1).bind fun bt440 => (if t404 = 4609434218613702656 then (if t405 = 0 then (if bt421.1 = 4599676419421066581 then (if bt421.2 = 1 then (if bt423.1 = 4599676419421066582 then (if bt434.1 = 0 then (if bt434.2 = 3 then (if bt436.1 = 1 then ((pattern_Inf.f k true).bind fun t442 => (if bt438.1 = t442 then (if bt438.2 = 5 then (if bt440.1 = 18442240474082181119 then ((round_Ulp.f k 4607182418800017408).bind fun t443 => (some (t443 == 4372995238176751616))) else (some false)) else (some false)) else (some false))) else (some false)) else (some false)) else (some false)) else (some false)) else (some false)) else (some false)) else (some false)) else (some false)))))))))))) = some r := H
 have A1 := Aside0.mk A10
 clear A10
 replace H := Option.bind_eq_some_iff.mp H
 obtain ⟨t406, A20, H⟩ := H
 replace H : ((nat_New.f k 3).bind fun t409 => ((ratio_New.f k false t406 t409).bind fun bt412 => ((round_Exact.f k bt412.1 bt412.2.1 bt412.2.2.1 0).bind fun bt421 => ((round_Exact.f k bt412.1 bt412.2.1 bt412.2.2.1 1).bind fun bt423 => ((ratio_Dyad.f k false 1 (-1075)).bind fun bt425 => ((round_Exact.f k bt425.1 bt425.2.1 bt425.2.2.1 0).bind fun bt434 => ((round_Exact.f k bt425.1 bt425.2.1 bt425.2.2.1 1).bind fun bt436 => ((round_Round.f k true 0 1 1024 false 0).bind fun bt438 => ((round_Round.f k true 0 1 1024 false 1).bind fun bt440 => (if t404 = 4609434218613702656 then (if t405 = 0 then (if bt421.1 = 4599676419421066581 then (if bt421.2 = 1 then (if bt423.1 = 4599676419421066582 then (if bt434.1 = 0 then (if bt434.2 = 3 then (if bt436.1 = 1 then ((pattern_Inf.f k true).bind fun t442 => (if bt438.1 = t442 then (if bt438.2 = 5 then (if bt440.1 = 18442240474082181119 then ((round_Ulp.f k 4607182418800017408).bind fun t443 => (some (t443 == 4372995238176751616))) else (some false)) else (some false)) else (some false))) else (some false)) else (some false)) else (some false)) else (some false)) else (some false)) else (some false)) else (some false)) else (some false))))))))))) = some r := H
 have A2 := Aside0.mk A20
 clear A20
 replace H := Option.bind_eq_some_iff.mp H
 obtain ⟨t409, A30, H⟩ := H
 replace H : ((ratio_New.f k false t406 t409).bind fun bt412 => ((round_Exact.f k bt412.1 bt412.2.1 bt412.2.2.1 0).bind fun bt421 => ((round_Exact.f k bt412.1 bt412.2.1 bt412.2.2.1 1).bind fun bt423 => ((ratio_Dyad.f k false 1 (-1075)).bind fun bt425 => ((round_Exact.f k bt425.1 bt425.2.1 bt425.2.2.1 0).bind fun bt434 => ((round_Exact.f k bt425.1 bt425.2.1 bt425.2.2.1 1).bind fun bt436 => ((round_Round.f k true 0 1 1024 false 0).bind fun bt438 => ((round_Round.f k true 0 1 1024 false 1).bind fun bt440 => (if t404 = 4609434218613702656 then (if t405 = 0 then (if bt421.1 = 4599676419421066581 then (if bt421.2 = 1 then (if bt423.1 = 4599676419421066582 then (if bt434.1 = 0 then (if bt434.2 = 3 then (if bt436.1 = 1 then ((pattern_Inf.f k true).bind fun t442 => (if bt438.1 = t442 then (if bt438.2 = 5 then (if bt440.1 = 18442240474082181119 then ((round_Ulp.f k 4607182418800017408).bind fun t443 => (some (t443 == 4372995238176751616))) else (some false)) else (some false)) else (some false))) else (some false)) else (some false)) else (some false)) else (some false)) else (some false)) else (some false)) else (some false)) else (some false)))))))))) = some r := H
 have A3 := Aside0.mk A30
 clear A30
 replace H := Option.bind_eq_some_iff.mp H
 obtain ⟨⟨t412, t413, t416, t419⟩, A40, H⟩ := H
 replace H : ((round_Exact.f k t412 t413 t416 0).bind fun bt421 => ((round_Exact.f k t412 t413 t416 1).bind fun bt423 => ((ratio_Dyad.f k false 1 (-1075)).bind fun bt425 => ((round_Exact.f k bt425.1 bt425.2.1 bt425.2.2.1 0).bind fun bt434 => ((round_Exact.f k bt425.1 bt425.2.1 bt425.2.2.1 1).bind fun bt436 => ((round_Round.f k true 0 1 1024 false 0).bind fun bt438 => ((round_Round.f k true 0 1 1024 false 1).bind fun bt440 => (if t404 = 4609434218613702656 then (if t405 = 0 then (if bt421.1 = 4599676419421066581 then (if bt421.2 = 1 then (if bt423.1 = 4599676419421066582 then (if bt434.1 = 0 then (if bt434.2 = 3 then (if bt436.1 = 1 then ((pattern_Inf.f k true).bind fun t442 => (if bt438.1 = t442 then (if bt438.2 = 5 then (if bt440.1 = 18442240474082181119 then ((round_Ulp.f k 4607182418800017408).bind fun t443 => (some (t443 == 4372995238176751616))) else (some false)) else (some false)) else (some false))) else (some false)) else (some false)) else (some false)) else (some false)) else (some false)) else (some false)) else (some false)) else (some false))))))))) = some r := H
 have A4 := Aside0.mk A40
 clear A40
 replace H := Option.bind_eq_some_iff.mp H
 obtain ⟨⟨t421, t422⟩, A50, H⟩ := H
 replace H : ((round_Exact.f k t412 t413 t416 1).bind fun bt423 => ((ratio_Dyad.f k false 1 (-1075)).bind fun bt425 => ((round_Exact.f k bt425.1 bt425.2.1 bt425.2.2.1 0).bind fun bt434 => ((round_Exact.f k bt425.1 bt425.2.1 bt425.2.2.1 1).bind fun bt436 => ((round_Round.f k true 0 1 1024 false 0).bind fun bt438 => ((round_Round.f k true 0 1 1024 false 1).bind fun bt440 => (if t404 = 4609434218613702656 then (if t405 = 0 then (if t421 = 4599676419421066581 then (if t422 = 1 then (if bt423.1 = 4599676419421066582 then (if bt434.1 = 0 then (if bt434.2 = 3 then (if bt436.1 = 1 then ((pattern_Inf.f k true).bind fun t442 => (if bt438.1 = t442 then (if bt438.2 = 5 then (if bt440.1 = 18442240474082181119 then ((round_Ulp.f k 4607182418800017408).bind fun t443 => (some (t443 == 4372995238176751616))) else (some false)) else (some false)) else (some false))) else (some false)) else (some false)) else (some false)) else (some false)) else (some false)) else (some false)) else (some false)) else (some false)))))))) = some r := H
 have A5 := Aside0.mk A50
 clear A50
 replace H := Option.bind_eq_some_iff.mp H
 obtain ⟨⟨t423, t424⟩, A60, H⟩ := H
 replace H : ((ratio_Dyad.f k false 1 (-1075)).bind fun bt425 => ((round_Exact.f k bt425.1 bt425.2.1 bt425.2.2.1 0).bind fun bt434 => ((round_Exact.f k bt425.1 bt425.2.1 bt425.2.2.1 1).bind fun bt436 => ((round_Round.f k true 0 1 1024 false 0).bind fun bt438 => ((round_Round.f k true 0 1 1024 false 1).bind fun bt440 => (if t404 = 4609434218613702656 then (if t405 = 0 then (if t421 = 4599676419421066581 then (if t422 = 1 then (if t423 = 4599676419421066582 then (if bt434.1 = 0 then (if bt434.2 = 3 then (if bt436.1 = 1 then ((pattern_Inf.f k true).bind fun t442 => (if bt438.1 = t442 then (if bt438.2 = 5 then (if bt440.1 = 18442240474082181119 then ((round_Ulp.f k 4607182418800017408).bind fun t443 => (some (t443 == 4372995238176751616))) else (some false)) else (some false)) else (some false))) else (some false)) else (some false)) else (some false)) else (some false)) else (some false)) else (some false)) else (some false)) else (some false))))))) = some r := H
 have A6 := Aside0.mk A60
 clear A60
 replace H := Option.bind_eq_some_iff.mp H
 obtain ⟨⟨t425, t426, t429, t432⟩, A70, H⟩ := H
 replace H : ((round_Exact.f k t425 t426 t429 0).bind fun bt434 => ((round_Exact.f k t425 t426 t429 1).bind fun bt436 => ((round_Round.f k true 0 1 1024 false 0).bind fun bt438 => ((round_Round.f k true 0 1 1024 false 1).bind fun bt440 => (if t404 = 4609434218613702656 then (if t405 = 0 then (if t421 = 4599676419421066581 then (if t422 = 1 then (if t423 = 4599676419421066582 then (if bt434.1 = 0 then (if bt434.2 = 3 then (if bt436.1 = 1 then ((pattern_Inf.f k true).bind fun t442 => (if bt438.1 = t442 then (if bt438.2 = 5 then (if bt440.1 = 18442240474082181119 then ((round_Ulp.f k 4607182418800017408).bind fun t443 => (some (t443 == 4372995238176751616))) else (some false)) else (some false)) else (some false))) else (some false)) else (some false)) else (some false)) else (some false)) else (some false)) else (some false)) else (some false)) else (some false)))))) = some r := H
 have A7 := Aside0.mk A70
 clear A70
 replace H := Option.bind_eq_some_iff.mp H
 obtain ⟨⟨t434, t435⟩, A80, H⟩ := H
 replace H : ((round_Exact.f k t425 t426 t429 1).bind fun bt436 => ((round_Round.f k true 0 1 1024 false 0).bind fun bt438 => ((round_Round.f k true 0 1 1024 false 1).bind fun bt440 => (if t404 = 4609434218613702656 then (if t405 = 0 then (if t421 = 4599676419421066581 then (if t422 = 1 then (if t423 = 4599676419421066582 then (if t434 = 0 then (if t435 = 3 then (if bt436.1 = 1 then ((pattern_Inf.f k true).bind fun t442 => (if bt438.1 = t442 then (if bt438.2 = 5 then (if bt440.1 = 18442240474082181119 then ((round_Ulp.f k 4607182418800017408).bind fun t443 => (some (t443 == 4372995238176751616))) else (some false)) else (some false)) else (some false))) else (some false)) else (some false)) else (some false)) else (some false)) else (some false)) else (some false)) else (some false)) else (some false))))) = some r := H
 have A8 := Aside0.mk A80
 clear A80
 replace H := Option.bind_eq_some_iff.mp H
 obtain ⟨⟨t436, t437⟩, A90, H⟩ := H
 replace H : ((round_Round.f k true 0 1 1024 false 0).bind fun bt438 => ((round_Round.f k true 0 1 1024 false 1).bind fun bt440 => (if t404 = 4609434218613702656 then (if t405 = 0 then (if t421 = 4599676419421066581 then (if t422 = 1 then (if t423 = 4599676419421066582 then (if t434 = 0 then (if t435 = 3 then (if t436 = 1 then ((pattern_Inf.f k true).bind fun t442 => (if bt438.1 = t442 then (if bt438.2 = 5 then (if bt440.1 = 18442240474082181119 then ((round_Ulp.f k 4607182418800017408).bind fun t443 => (some (t443 == 4372995238176751616))) else (some false)) else (some false)) else (some false))) else (some false)) else (some false)) else (some false)) else (some false)) else (some false)) else (some false)) else (some false)) else (some false)))) = some r := H
 have A9 := Aside0.mk A90
 clear A90
 replace H := Option.bind_eq_some_iff.mp H
 obtain ⟨⟨t438, t439⟩, A100, H⟩ := H
 replace H : ((round_Round.f k true 0 1 1024 false 1).bind fun bt440 => (if t404 = 4609434218613702656 then (if t405 = 0 then (if t421 = 4599676419421066581 then (if t422 = 1 then (if t423 = 4599676419421066582 then (if t434 = 0 then (if t435 = 3 then (if t436 = 1 then ((pattern_Inf.f k true).bind fun t442 => (if t438 = t442 then (if t439 = 5 then (if bt440.1 = 18442240474082181119 then ((round_Ulp.f k 4607182418800017408).bind fun t443 => (some (t443 == 4372995238176751616))) else (some false)) else (some false)) else (some false))) else (some false)) else (some false)) else (some false)) else (some false)) else (some false)) else (some false)) else (some false)) else (some false))) = some r := H
 have A10 := Aside0.mk A100
 clear A100
 replace H := Option.bind_eq_some_iff.mp H
 obtain ⟨⟨t440, t441⟩, A110, H⟩ := H
 replace H : (if t404 = 4609434218613702656 then (if t405 = 0 then (if t421 = 4599676419421066581 then (if t422 = 1 then (if t423 = 4599676419421066582 then (if t434 = 0 then (if t435 = 3 then (if t436 = 1 then ((pattern_Inf.f k true).bind fun t442 => (if t438 = t442 then (if t439 = 5 then (if t440 = 18442240474082181119 then ((round_Ulp.f k 4607182418800017408).bind fun t443 => (some (t443 == 4372995238176751616))) else (some false)) else (some false)) else (some false))) else (some false)) else (some false)) else (some false)) else (some false)) else (some false)) else (some false)) else (some false)) else (some false)) = some r := H
 have A11 := Aside0.mk A110
 clear A110
 have HH_ := Aside0.mk H
 clear H
 go_enter Try.func22, Try.ntmps22
 go_upto_region 10 with (first | ((with_reducible refine gc_ 23 rfl ?_); refine gM_ (some 21) Try.func23 [.bool false, .agg #[.int .u64 0, .int .u64 3], .int .i64 (-1), .bool false, .int .u8 0] ?_; (with_reducible refine (round_Round.calls k false 0 3 (-1) false 0 t404 t405 _ A1.out).mono ?_); rintro e w25 ⟨rfl, hb⟩; refine ⟨_, rfl, ?_⟩; replace HB := bq_ hb) | ((with_reducible refine gc_ 56 rfl ?_); refine gM_ (some 25) Try.func56 [.int .u64 1] ?_; (with_reducible refine (nat_New.calls k 1 t406 _ A2.out).mono ?_); rintro e w26 ⟨v407, rfl, ho0, hb⟩; refine ⟨_, rfl, ?_⟩; have HO408 := Aside0.mk (Kd.V_lower (Kd.V_mono (ok' := fun k_ => True) ho0 (fun k_ hk_ => trivial)) (below_size bh_)); replace HB := bq_ hb) | ((with_reducible refine gc_ 56 rfl ?_); refine gM_ (some 26) Try.func56 [.int .u64 3] ?_; (with_reducible refine (nat_New.calls k 3 t409 _ A3.out).mono ?_); rintro e w27 ⟨v410, rfl, ho0, hb⟩; refine ⟨_, rfl, ?_⟩; replace HO408 := Aside0.mk (Kd.V_below (by (with_reducible repeat (first | apply va_ | apply vn_ | apply vd_)); exact HO408.out) hb); have HO411 := Aside0.mk (Kd.V_lower (Kd.V_mono (ok' := fun k_ => True) ho0 (fun k_ hk_ => trivial)) (below_size bh_)); replace HB := bq_ hb; skip; obtain ⟨Ao28, co28, eo28⟩ := Kd.V_slice HO408.out; subst eo28; obtain ⟨Ao29, co29, eo29⟩ := Kd.V_slice HO411.out; subst eo29) | ((with_reducible refine gc_ 55 rfl ?_); refine gM_ (some 27) Try.func55 [.bool false, .slice Ao28 t406.length co28, .slice Ao29 t409.length co29] ?_; (with_reducible refine (ratio_New.calls k false (fun k_ => True) _ _ t406 (fun k_ => True) _ _ t409 t412 t413 t416 t419 _ ?side1 ?side2 A4.out).mono ?_); (case side1 => exact HO408.out); (case side2 => exact HO411.out); rintro e w30 ⟨v414, v417, rfl, ho0, ho1, hb⟩; refine ⟨_, rfl, ?_⟩; have HO415 := Aside0.mk (Kd.V_lower (Kd.V_mono (ok' := fun k_ => True) ho0 (fun k_ hk_ => trivial)) (below_size bh_)); have HO418 := Aside0.mk (Kd.V_lower (Kd.V_mono (ok' := fun k_ => True) ho1 (fun k_ hk_ => trivial)) (below_size bh_)); replace HB := bq_ hb) | ((with_reducible refine gate_dst (N := 3) rfl ?_); refine box_event ?hg (N := 3) ?hd (cs := #[.bool false, .slice none 0 0, .slice none 0 0]) (t := 50) ?hr ?_; (case hd => rfl); (case hg => rfl); (case hr => first | (go_simp; done) | (go_simp; rfl)); intro gb420 hg w31 hbox hb; have n2_ := Aside0.mk (Kd.V_below (Kd.V_elderB (by (with_reducible repeat (first | apply va_ | apply vn_ | apply vd_)); exact HO415.out) gb420 (Nat.le_of_eq hg.symm)) hb); have n3_ := Aside0.mk (Kd.V_below (Kd.V_elderB (by (with_reducible repeat (first | apply va_ | apply vn_ | apply vd_)); exact HO418.out) gb420 (Nat.le_of_eq hg.symm)) hb); have n4_ := bq_ hb; have n5_ := Aside0.mk (hbox); have n7_ := bz_ hg; clear HO415 HO418 HB; have HO415 := n2_; have HO418 := n3_; have HB := n4_; have BK420 := n5_; have GE420 := n7_; clear n2_ n3_ n4_ n5_ n7_; clear hb hbox hg; have hcz32_0 : w31.cell? ⟨gb420, 0, none⟩ = some (.bool false) := (blk_cell BK420.out 0).trans rfl; have hcz32_1 : w31.cell? ⟨gb420, 1, none⟩ = some (.slice none 0 0) := (blk_cell BK420.out 1).trans rfl; have hcz32_2 : w31.cell? ⟨gb420, 2, none⟩ = some (.slice none 0 0) := (blk_cell BK420.out 2).trans rfl; have hfz32_0 := blk_frozen BK420.out 0; have hfz32_1 := blk_frozen BK420.out 1; have hfz32_2 := blk_frozen BK420.out 2; obtain ⟨Ao33, co33, eo33⟩ := Kd.V_slice HO415.out; subst eo33; obtain ⟨Ao34, co34, eo34⟩ := Kd.V_slice HO418.out; subst eo34) | ((with_reducible refine gc_ 26 rfl ?_); refine gM_ (some 32) Try.func26 [.agg #[.bool t412, .slice Ao33 t413.length co33, .slice Ao34 t416.length co34], .int .u8 0] ?_; (with_reducible refine (round_Exact.calls k t412 _ _ t413 _ _ t416 0 t421 t422 _ ?side1 ?side2 ?side3 ?side4 A5.out).mono ?_); (case side1 => refine (Kd.V_reads' (e := 123) (base := w.heap.size) (ok := fun k_ => (True ∧ k_ ≠ gb420)) (n := t413.length) (c := co33) ?_).2.2; exact (by (with_reducible repeat (first | apply va_ | apply vn_ | apply vd_)); exact (Kd.V_mono (Kd.V_far (p := ⟨gb420, 2, none⟩) (Kd.V_far (p := ⟨gb420, 1, none⟩) (Kd.V_far (p := ⟨gb420, 0, none⟩) (Kd.V_mono HO415.out (fun k_ hk => (⟨hk, hk.2⟩ : _ ∧ k_ ≠ gb420))) (fun _ hk => hk.2) (.bool t412)) (fun _ hk => hk.2) (.slice Ao33 t413.length co33)) (fun _ hk => hk.2) (.slice Ao34 t416.length co34)) (fun _ h_ => h_.1)))); (case side2 => exact (Kd.V_reads' HO415.out).2.1); (case side3 => refine (Kd.V_reads' (e := 123) (base := w.heap.size) (ok := fun k_ => (True ∧ k_ ≠ gb420)) (n := t416.length) (c := co34) ?_).2.2; exact (by (with_reducible repeat (first | apply va_ | apply vn_ | apply vd_)); exact (Kd.V_mono (Kd.V_far (p := ⟨gb420, 2, none⟩) (Kd.V_far (p := ⟨gb420, 1, none⟩) (Kd.V_far (p := ⟨gb420, 0, none⟩) (Kd.V_mono HO418.out (fun k_ hk => (⟨hk, hk.2⟩ : _ ∧ k_ ≠ gb420))) (fun _ hk => hk.2) (.bool t412)) (fun _ hk => hk.2) (.slice Ao33 t413.length co33)) (fun _ hk => hk.2) (.slice Ao34 t416.length co34)) (fun _ h_ => h_.1)))); (case side4 => exact (Kd.V_reads' HO418.out).2.1); rintro e w35 ⟨rfl, hb⟩; refine ⟨_, rfl, ?_⟩; replace HO415 := Aside0.mk (Kd.V_below (by (with_reducible repeat (first | apply va_ | apply vn_ | apply vd_)); exact (Kd.V_mono (Kd.V_far (p := ⟨gb420, 2, none⟩) (Kd.V_far (p := ⟨gb420, 1, none⟩) (Kd.V_far (p := ⟨gb420, 0, none⟩) (Kd.V_mono HO415.out (fun k_ hk => (⟨hk, hk.2⟩ : _ ∧ k_ ≠ gb420))) (fun _ hk => hk.2) (.bool t412)) (fun _ hk => hk.2) (.slice Ao33 t413.length co33)) (fun _ hk => hk.2) (.slice Ao34 t416.length co34)) (fun _ h_ => h_.1))) hb); replace HO418 := Aside0.mk (Kd.V_below (by (with_reducible repeat (first | apply va_ | apply vn_ | apply vd_)); exact (Kd.V_mono (Kd.V_far (p := ⟨gb420, 2, none⟩) (Kd.V_far (p := ⟨gb420, 1, none⟩) (Kd.V_far (p := ⟨gb420, 0, none⟩) (Kd.V_mono HO418.out (fun k_ hk => (⟨hk, hk.2⟩ : _ ∧ k_ ≠ gb420))) (fun _ hk => hk.2) (.bool t412)) (fun _ hk => hk.2) (.slice Ao33 t413.length co33)) (fun _ hk => hk.2) (.slice Ao34 t416.length co34)) (fun _ h_ => h_.1))) hb); replace BK420 := Aside0.mk (blk_below (g := gb420) (o := .cells #[.bool t412, .slice Ao33 t413.length co33, .slice Ao34 t416.length co34] 50 (0, 0)) (by (with_reducible repeat (first | apply kn_ | apply kd_ | apply ka_)); refine blk_put (cs := #[.bool t412, .slice Ao33 t413.length co33, .slice none 0 0]) ?_ 2 _ rfl; (with_reducible repeat (first | apply kn_ | apply kd_ | apply ka_)); refine blk_put (cs := #[.bool t412, .slice none 0 0, .slice none 0 0]) ?_ 1 _ rfl; (with_reducible repeat (first | apply kn_ | apply kd_ | apply ka_)); refine blk_put (cs := #[.bool false, .slice none 0 0, .slice none 0 0]) ?_ 0 _ rfl; (with_reducible repeat (first | apply kn_ | apply kd_ | apply ka_)); exact BK420.out) hb); replace HB := bq_ hb; skip; have hcz36_0 : w35.cell? ⟨gb420, 0, none⟩ = some (.bool t412) := (blk_cell BK420.out 0).trans rfl; have hcz36_1 : w35.cell? ⟨gb420, 1, none⟩ = some (.slice Ao33 t413.length co33) := (blk_cell BK420.out 1).trans rfl; have hcz36_2 : w35.cell? ⟨gb420, 2, none⟩ = some (.slice Ao34 t416.length co34) := (blk_cell BK420.out 2).trans rfl; have hfz36_0 := blk_frozen BK420.out 0; have hfz36_1 := blk_frozen BK420.out 1; have hfz36_2 := blk_frozen BK420.out 2) | ((with_reducible refine gc_ 26 rfl ?_); refine gM_ (some 37) Try.func26 [.agg #[.bool t412, .slice Ao33 t413.length co33, .slice Ao34 t416.length co34], .int .u8 1] ?_; (with_reducible refine (round_Exact.calls k t412 _ _ t413 _ _ t416 1 t423 t424 _ ?side1 ?side2 ?side3 ?side4 A6.out).mono ?_); (case side1 => repeat first | exact (Kd.V_reads' HO415.out).2.2 | with_reducible first | apply ca_ | apply cn_ | apply cd_); (case side2 => exact (Kd.V_reads' HO415.out).2.1); (case side3 => repeat first | exact (Kd.V_reads' HO418.out).2.2 | with_reducible first | apply ca_ | apply cn_ | apply cd_); (case side4 => exact (Kd.V_reads' HO418.out).2.1); rintro e w37 ⟨rfl, hb⟩; refine ⟨_, rfl, ?_⟩; replace BK420 := Aside0.mk (blk_below (g := gb420) (o := .cells #[.bool t412, .slice Ao33 t413.length co33, .slice Ao34 t416.length co34] 50 (0, 0)) (by (with_reducible repeat (first | apply kn_ | apply kd_ | apply ka_)); exact BK420.out) hb); replace HB := bq_ hb) | ((with_reducible refine gc_ 35 rfl ?_); refine gM_ (some 41) Try.func35 [.bool false, .int .u64 1, .int .i64 (-1075)] ?_; (with_reducible refine (ratio_Dyad.calls k false 1 (-1075) t425 t426 t429 t432 _ A7.out).mono ?_); rintro e w38 ⟨v427, v430, rfl, ho0, ho1, hb⟩; refine ⟨_, rfl, ?_⟩; have HO428 := Aside0.mk (Kd.V_lower (Kd.V_mono (ok' := fun k_ => k_ ≠ gb420) ho0 (fun k_ hk_ => (Kd.freshB (g := gb420) (o := .cells #[.bool t412, .slice Ao33 t413.length co33, .slice Ao34 t416.length co34] 50 (0, 0)) (by (with_reducible repeat (first | apply kn_ | apply kd_ | apply ka_)); exact BK420.out) k_ hk_))) (below_size bh_)); have HO431 := Aside0.mk (Kd.V_lower (Kd.V_mono (ok' := fun k_ => k_ ≠ gb420) ho1 (fun k_ hk_ => (Kd.freshB (g := gb420) (o := .cells #[.bool t412, .slice Ao33 t413.length co33, .slice Ao34 t416.length co34] 50 (0, 0)) (by (with_reducible repeat (first | apply kn_ | apply kd_ | apply ka_)); exact BK420.out) k_ hk_))) (below_size bh_)); replace BK420 := Aside0.mk (blk_below (g := gb420) (o := .cells #[.bool t412, .slice Ao33 t413.length co33, .slice Ao34 t416.length co34] 50 (0, 0)) (by (with_reducible repeat (first | apply kn_ | apply kd_ | apply ka_)); exact BK420.out) hb); replace HB := bq_ hb) | ((with_reducible refine gate_dst (N := 9) rfl ?_); refine box_event ?hg (N := 9) ?hd (cs := #[.bool false, .slice none 0 0, .slice none 0 0]) (t := 50) ?hr ?_; (case hd => rfl); (case hg => rfl); (case hr => first | (go_simp; done) | (go_simp; rfl)); intro gb433 hg w39 hbox hb; have n4_ := Aside0.mk (Kd.V_below (Kd.V_elderB (by (with_reducible repeat (first | apply va_ | apply vn_ | apply vd_)); exact HO428.out) gb433 (Nat.le_of_eq hg.symm)) hb); have n5_ := Aside0.mk (Kd.V_below (Kd.V_elderB (by (with_reducible repeat (first | apply va_ | apply vn_ | apply vd_)); exact HO431.out) gb433 (Nat.le_of_eq hg.symm)) hb); have n7_ := bq_ hb; have n8_ := Aside0.mk (hbox); have n10_ := bz_ hg; have n11_ := Aside0.mk ((by rw [hg]; exact Nat.ne_of_lt (blk_lt (g := gb420) (o := .cells #[.bool t412, .slice Ao33 t413.length co33, .slice Ao34 t416.length co34] 50 (0, 0)) (by (with_reducible repeat (first | apply kn_ | apply kd_ | apply ka_)); exact BK420.out)) : gb420 ≠ gb433)); have n12_ := Aside0.mk ((by rw [hg]; exact Nat.ne_of_gt (blk_lt (g := gb420) (o := .cells #[.bool t412, .slice Ao33 t413.length co33, .slice Ao34 t416.length co34] 50 (0, 0)) (by (with_reducible repeat (first | apply kn_ | apply kd_ | apply ka_)); exact BK420.out)) : gb433 ≠ gb420)); clear HO428 HO431 HB; have HO428 := n4_; have HO431 := n5_; have HB := n7_; have BK433 := n8_; have GE433 := n10_; have NB420_433 := n11_; have NB433_420 := n12_; clear n4_ n5_ n7_ n8_ n10_ n11_ n12_; clear hb hbox hg; have hnb40 := NB433_420.out; have hnc40 := NB420_433.out; have hcz41_0 : w39.cell? ⟨gb433, 0, none⟩ = some (.bool false) := (blk_cell BK433.out 0).trans rfl; have hcz41_1 : w39.cell? ⟨gb433, 1, none⟩ = some (.slice none 0 0) := (blk_cell BK433.out 1).trans rfl; have hcz41_2 : w39.cell? ⟨gb433, 2, none⟩ = some (.slice none 0 0) := (blk_cell BK433.out 2).trans rfl; have hfz41_0 := blk_frozen BK433.out 0; have hfz41_1 := blk_frozen BK433.out 1; have hfz41_2 := blk_frozen BK433.out 2; obtain ⟨Ao42, co42, eo42⟩ := Kd.V_slice HO428.out; subst eo42; obtain ⟨Ao43, co43, eo43⟩ := Kd.V_slice HO431.out; subst eo43) | ((with_reducible refine gc_ 26 rfl ?_); refine gM_ (some 46) Try.func26 [.agg #[.bool t425, .slice Ao42 t426.length co42, .slice Ao43 t429.length co43], .int .u8 0] ?_; (with_reducible refine (round_Exact.calls k t425 _ _ t426 _ _ t429 0 t434 t435 _ ?side1 ?side2 ?side3 ?side4 A8.out).mono ?_); (case side1 => refine (Kd.V_reads' (e := 123) (base := w.heap.size) (ok := fun k_ => (k_ ≠ gb420 ∧ k_ ≠ gb433)) (n := t426.length) (c := co42) ?_).2.2; exact (by (with_reducible repeat (first | apply va_ | apply vn_ | apply vd_)); exact (Kd.V_mono (Kd.V_far (p := ⟨gb433, 2, none⟩) (Kd.V_far (p := ⟨gb433, 1, none⟩) (Kd.V_far (p := ⟨gb433, 0, none⟩) (Kd.V_mono HO428.out (fun k_ hk => (⟨hk, hk.2⟩ : _ ∧ k_ ≠ gb433))) (fun _ hk => hk.2) (.bool t425)) (fun _ hk => hk.2) (.slice Ao42 t426.length co42)) (fun _ hk => hk.2) (.slice Ao43 t429.length co43)) (fun _ h_ => h_.1)))); (case side2 => exact (Kd.V_reads' HO428.out).2.1); (case side3 => refine (Kd.V_reads' (e := 123) (base := w.heap.size) (ok := fun k_ => (k_ ≠ gb420 ∧ k_ ≠ gb433)) (n := t429.length) (c := co43) ?_).2.2; exact (by (with_reducible repeat (first | apply va_ | apply vn_ | apply vd_)); exact (Kd.V_mono (Kd.V_far (p := ⟨gb433, 2, none⟩) (Kd.V_far (p := ⟨gb433, 1, none⟩) (Kd.V_far (p := ⟨gb433, 0, none⟩) (Kd.V_mono HO431.out (fun k_ hk => (⟨hk, hk.2⟩ : _ ∧ k_ ≠ gb433))) (fun _ hk => hk.2) (.bool t425)) (fun _ hk => hk.2) (.slice Ao42 t426.length co42)) (fun _ hk => hk.2) (.slice Ao43 t429.length co43)) (fun _ h_ => h_.1)))); (case side4 => exact (Kd.V_reads' HO431.out).2.1); rintro e w44 ⟨rfl, hb⟩; refine ⟨_, rfl, ?_⟩; replace HO428 := Aside0.mk (Kd.V_below (by (with_reducible repeat (first | apply va_ | apply vn_ | apply vd_)); exact (Kd.V_mono (Kd.V_far (p := ⟨gb433, 2, none⟩) (Kd.V_far (p := ⟨gb433, 1, none⟩) (Kd.V_far (p := ⟨gb433, 0, none⟩) (Kd.V_mono HO428.out (fun k_ hk => (⟨hk, hk.2⟩ : _ ∧ k_ ≠ gb433))) (fun _ hk => hk.2) (.bool t425)) (fun _ hk => hk.2) (.slice Ao42 t426.length co42)) (fun _ hk => hk.2) (.slice Ao43 t429.length co43)) (fun _ h_ => h_.1))) hb); replace HO431 := Aside0.mk (Kd.V_below (by (with_reducible repeat (first | apply va_ | apply vn_ | apply vd_)); exact (Kd.V_mono (Kd.V_far (p := ⟨gb433, 2, none⟩) (Kd.V_far (p := ⟨gb433, 1, none⟩) (Kd.V_far (p := ⟨gb433, 0, none⟩) (Kd.V_mono HO431.out (fun k_ hk => (⟨hk, hk.2⟩ : _ ∧ k_ ≠ gb433))) (fun _ hk => hk.2) (.bool t425)) (fun _ hk => hk.2) (.slice Ao42 t426.length co42)) (fun _ hk => hk.2) (.slice Ao43 t429.length co43)) (fun _ h_ => h_.1))) hb); replace BK433 := Aside0.mk (blk_below (g := gb433) (o := .cells #[.bool t425, .slice Ao42 t426.length co42, .slice Ao43 t429.length co43] 50 (0, 0)) (by (with_reducible repeat (first | apply kn_ | apply kd_ | apply ka_)); refine blk_put (cs := #[.bool t425, .slice Ao42 t426.length co42, .slice none 0 0]) ?_ 2 _ rfl; (with_reducible repeat (first | apply kn_ | apply kd_ | apply ka_)); refine blk_put (cs := #[.bool t425, .slice none 0 0, .slice none 0 0]) ?_ 1 _ rfl; (with_reducible repeat (first | apply kn_ | apply kd_ | apply ka_)); refine blk_put (cs := #[.bool false, .slice none 0 0, .slice none 0 0]) ?_ 0 _ rfl; (with_reducible repeat (first | apply kn_ | apply kd_ | apply ka_)); exact BK433.out) hb); replace HB := bq_ hb; skip; have hcz45_0 : w44.cell? ⟨gb433, 0, none⟩ = some (.bool t425) := (blk_cell BK433.out 0).trans rfl; have hcz45_1 : w44.cell? ⟨gb433, 1, none⟩ = some (.slice Ao42 t426.length co42) := (blk_cell BK433.out 1).trans rfl; have hcz45_2 : w44.cell? ⟨gb433, 2, none⟩ = some (.slice Ao43 t429.length co43) := (blk_cell BK433.out 2).trans rfl; have hfz45_0 := blk_frozen BK433.out 0; have hfz45_1 := blk_frozen BK433.out 1; have hfz45_2 := blk_frozen BK433.out 2) | ((with_reducible refine gc_ 26 rfl ?_); refine gM_ (some 51) Try.func26 [.agg #[.bool t425, .slice Ao42 t426.length co42, .slice Ao43 t429.length co43], .int .u8 1] ?_; (with_reducible refine (round_Exact.calls k t425 _ _ t426 _ _ t429 1 t436 t437 _ ?side1 ?side2 ?side3 ?side4 A9.out).mono ?_); (case side1 => repeat first | exact (Kd.V_reads' HO428.out).2.2 | with_reducible first | apply ca_ | apply cn_ | apply cd_); (case side2 => exact (Kd.V_reads' HO428.out).2.1); (case side3 => repeat first | exact (Kd.V_reads' HO431.out).2.2 | with_reducible first | apply ca_ | apply cn_ | apply cd_); (case side4 => exact (Kd.V_reads' HO431.out).2.1); rintro e w46 ⟨rfl, hb⟩; refine ⟨_, rfl, ?_⟩; replace HB := bq_ hb) | ((with_reducible refine gc_ 23 rfl ?_); refine gM_ (some 56) Try.func23 [.bool true, .agg #[.int .u64 0, .int .u64 1], .int .i64 1024, .bool false, .int .u8 0] ?_; (with_reducible refine (round_Round.calls k true 0 1 1024 false 0 t438 t439 _ A10.out).mono ?_); rintro e w47 ⟨rfl, hb⟩; refine ⟨_, rfl, ?_⟩; replace HB := bq_ hb) | ((with_reducible refine gc_ 23 rfl ?_); refine gM_ (some 61) Try.func23 [.bool true, .agg #[.int .u64 0, .int .u64 1], .int .i64 1024, .bool false, .int .u8 1] ?_; (with_reducible refine (round_Round.calls k true 0 1 1024 false 1 t440 t441 _ A11.out).mono ?_); rintro e w48 ⟨rfl, hb⟩; refine ⟨_, rfl, ?_⟩; replace HB := bq_ hb))
 have H := HH_.out
 clear HH_
 by_cases c12 : t404 = 4609434218613702656
 case neg =>
  rw [if_neg c12] at H
  have c12b0 : (t404 == 4609434218613702656) = false := beq_eq_false_iff_ne.mpr c12
  have c12b1 : (t404 != 4609434218613702656) = true := bne_iff_ne.mpr c12
  obtain rfl := Option.some.inj H
  go_wp2_with (fail)
  go_ret
  exact ⟨eh_, bh_⟩
 rw [if_pos c12] at H
 have c12b0 : (t404 == 4609434218613702656) = true := beq_iff_eq.mpr c12
 have c12b1 : (t404 != 4609434218613702656) = false := bne_eq_false_iff_eq.mpr c12
 clear c12
 by_cases c13 : t405 = 0
 case neg =>
  rw [if_neg c13] at H
  have c13b0 : (t405 == 0) = false := beq_eq_false_iff_ne.mpr c13
  have c13b1 : (t405 != 0) = true := bne_iff_ne.mpr c13
  obtain rfl := Option.some.inj H
  go_wp2_with (fail)
  go_ret
  exact ⟨eh_, bh_⟩
 rw [if_pos c13] at H
 have c13b0 : (t405 == 0) = true := beq_iff_eq.mpr c13
 have c13b1 : (t405 != 0) = false := bne_eq_false_iff_eq.mpr c13
 clear c13
 by_cases c14 : t421 = 4599676419421066581
 case neg =>
  rw [if_neg c14] at H
  have c14b0 : (t421 == 4599676419421066581) = false := beq_eq_false_iff_ne.mpr c14
  have c14b1 : (t421 != 4599676419421066581) = true := bne_iff_ne.mpr c14
  obtain rfl := Option.some.inj H
  go_wp2_with (fail)
  go_ret
  exact ⟨eh_, bh_⟩
 rw [if_pos c14] at H
 have c14b0 : (t421 == 4599676419421066581) = true := beq_iff_eq.mpr c14
 have c14b1 : (t421 != 4599676419421066581) = false := bne_eq_false_iff_eq.mpr c14
 clear c14
 by_cases c15 : t422 = 1
 case neg =>
  rw [if_neg c15] at H
  have c15b0 : (t422 == 1) = false := beq_eq_false_iff_ne.mpr c15
  have c15b1 : (t422 != 1) = true := bne_iff_ne.mpr c15
  obtain rfl := Option.some.inj H
  go_wp2_with (fail)
  go_ret
  exact ⟨eh_, bh_⟩
 rw [if_pos c15] at H
 have c15b0 : (t422 == 1) = true := beq_iff_eq.mpr c15
 have c15b1 : (t422 != 1) = false := bne_eq_false_iff_eq.mpr c15
 clear c15
 by_cases c16 : t423 = 4599676419421066582
 case neg =>
  rw [if_neg c16] at H
  have c16b0 : (t423 == 4599676419421066582) = false := beq_eq_false_iff_ne.mpr c16
  have c16b1 : (t423 != 4599676419421066582) = true := bne_iff_ne.mpr c16
  obtain rfl := Option.some.inj H
  go_wp2_with (fail)
  go_ret
  exact ⟨eh_, bh_⟩
 rw [if_pos c16] at H
 have c16b0 : (t423 == 4599676419421066582) = true := beq_iff_eq.mpr c16
 have c16b1 : (t423 != 4599676419421066582) = false := bne_eq_false_iff_eq.mpr c16
 clear c16
 by_cases c17 : t434 = 0
 case neg =>
  rw [if_neg c17] at H
  have c17b0 : (t434 == 0) = false := beq_eq_false_iff_ne.mpr c17
  have c17b1 : (t434 != 0) = true := bne_iff_ne.mpr c17
  obtain rfl := Option.some.inj H
  go_wp2_with (fail)
  go_ret
  exact ⟨eh_, bh_⟩
 rw [if_pos c17] at H
 have c17b0 : (t434 == 0) = true := beq_iff_eq.mpr c17
 have c17b1 : (t434 != 0) = false := bne_eq_false_iff_eq.mpr c17
 clear c17
 by_cases c18 : t435 = 3
 case neg =>
  rw [if_neg c18] at H
  have c18b0 : (t435 == 3) = false := beq_eq_false_iff_ne.mpr c18
  have c18b1 : (t435 != 3) = true := bne_iff_ne.mpr c18
  obtain rfl := Option.some.inj H
  go_wp2_with (fail)
  go_ret
  exact ⟨eh_, bh_⟩
 rw [if_pos c18] at H
 have c18b0 : (t435 == 3) = true := beq_iff_eq.mpr c18
 have c18b1 : (t435 != 3) = false := bne_eq_false_iff_eq.mpr c18
 clear c18
 by_cases c19 : t436 = 1
 case neg =>
  rw [if_neg c19] at H
  have c19b0 : (t436 == 1) = false := beq_eq_false_iff_ne.mpr c19
  have c19b1 : (t436 != 1) = true := bne_iff_ne.mpr c19
  obtain rfl := Option.some.inj H
  go_wp2_with (fail)
  go_ret
  exact ⟨eh_, bh_⟩
 rw [if_pos c19] at H
 have c19b0 : (t436 == 1) = true := beq_iff_eq.mpr c19
 have c19b1 : (t436 != 1) = false := bne_eq_false_iff_eq.mpr c19
 clear c19
 replace H := Option.bind_eq_some_iff.mp H
 obtain ⟨t442, A200, H⟩ := H
 replace H : (if t438 = t442 then (if t439 = 5 then (if t440 = 18442240474082181119 then ((round_Ulp.f k 4607182418800017408).bind fun t443 => (some (t443 == 4372995238176751616))) else (some false)) else (some false)) else (some false)) = some r := H
 have A20 := Aside0.mk A200
 clear A200
 by_cases c21 : t438 = t442
 case neg =>
  rw [if_neg c21] at H
  have c21b0 : (t438 == t442) = false := beq_eq_false_iff_ne.mpr c21
  have c21b1 : (t438 != t442) = true := bne_iff_ne.mpr c21
  obtain rfl := Option.some.inj H
  go_wp2_with (first | (go_at_call 40; (with_reducible refine (pattern_Inf.calls k true t442 _ A20.out).mono ?_); rintro e w' ⟨rfl, ⟨nd, rfl⟩⟩))
  go_ret
  exact ⟨eh_, bh_⟩
 rw [if_pos c21] at H
 have c21b0 : (t438 == t442) = true := beq_iff_eq.mpr c21
 have c21b1 : (t438 != t442) = false := bne_eq_false_iff_eq.mpr c21
 clear c21
 by_cases c22 : t439 = 5
 case neg =>
  rw [if_neg c22] at H
  have c22b0 : (t439 == 5) = false := beq_eq_false_iff_ne.mpr c22
  have c22b1 : (t439 != 5) = true := bne_iff_ne.mpr c22
  obtain rfl := Option.some.inj H
  go_wp2_with (first | (go_at_call 40; (with_reducible refine (pattern_Inf.calls k true t442 _ A20.out).mono ?_); rintro e w' ⟨rfl, ⟨nd, rfl⟩⟩))
  go_ret
  exact ⟨eh_, bh_⟩
 rw [if_pos c22] at H
 have c22b0 : (t439 == 5) = true := beq_iff_eq.mpr c22
 have c22b1 : (t439 != 5) = false := bne_eq_false_iff_eq.mpr c22
 clear c22
 by_cases c23 : t440 = 18442240474082181119
 case neg =>
  rw [if_neg c23] at H
  have c23b0 : (t440 == 18442240474082181119) = false := beq_eq_false_iff_ne.mpr c23
  have c23b1 : (t440 != 18442240474082181119) = true := bne_iff_ne.mpr c23
  obtain rfl := Option.some.inj H
  go_wp2_with (first | (go_at_call 40; (with_reducible refine (pattern_Inf.calls k true t442 _ A20.out).mono ?_); rintro e w' ⟨rfl, ⟨nd, rfl⟩⟩))
  go_ret
  exact ⟨eh_, bh_⟩
 rw [if_pos c23] at H
 have c23b0 : (t440 == 18442240474082181119) = true := beq_iff_eq.mpr c23
 have c23b1 : (t440 != 18442240474082181119) = false := bne_eq_false_iff_eq.mpr c23
 clear c23
 replace H := Option.bind_eq_some_iff.mp H
 obtain ⟨t443, A240, H⟩ := H
 replace H : (some (t443 == 4372995238176751616)) = some r := H
 have A24 := Aside0.mk A240
 clear A240
 obtain rfl := Option.some.inj H
 go_wp2_with (first | (go_at_call 40; (with_reducible refine (pattern_Inf.calls k true t442 _ A20.out).mono ?_); rintro e w' ⟨rfl, ⟨nd, rfl⟩⟩) | (go_at_call 30; (with_reducible refine (round_Ulp.calls k 4607182418800017408 t443 _ A24.out).mono ?_); rintro e w49 ⟨rfl, hb⟩; replace HB := bq_ hb))
 go_ret
 exact ⟨eh_, bh_⟩

end Go.Proofs.Ytfglpaaeipblcaa.P
