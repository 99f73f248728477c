/- Walks of one package: what each function returns, wherever the Lean function beside it has an answer. -/
import Derived.Test.YtfglpaaeipblcaaP0
import Derived.Test.YtfglpaaeipblcaaPNat1
namespace Go.Proofs.Ytfglpaaeipblcaa.P
open Go.RowKit Go.Proofs.YtfglpaaeipblcaaW.PrintWords Go.Proofs.YtfglpaaeipblcaaW.PrintLast Go.Proofs.YtfglpaaeipblcaaW.PrintMore
attribute [local go_sem] max2_int min2_int max_two min_two max_three min_three max_four min_four   -- for this text's walks alone
set_option linter.unusedVariables false
set_option linter.unusedSimpArgs false

/-! ### round_two: function 68 -/
def round_two.f (k : Nat) (a0 : Int) : Option (List Int) := (nat_New.f k 1).bind fun t197 => ((nat_Nat_Shl.f k t197 a0).bind fun bt200 => (some bt200.1))
theorem round_two.mono : ∀ a0 k, LeO (round_two.f k a0) (round_two.f (k + 1) a0) := by
 intro a0 k
 unfold round_two.f
 repeat' with_reducible first | exact nat_Nat_Shl.mono _ _ _ | exact nat_New.mono _ _ | exact LeO.refl _ | exact LeO.none _ | refine LeO.ite ?_ ?_ | refine LeO.bind ?_ (fun _ => ?_)
set_option maxHeartbeats 8000000 in
set_option maxRecDepth 100000 in
theorem round_two.calls (k : Nat) (a0 : Int) (r : List Int) (w : World) (h : round_two.f k a0 = some r) :
  Calls Try.prog 68 #[.int .i64 a0] w fun e w' => ∃ v0_ : Value, e = .returned (v0_) ∧ Kd.V (Kd.int .u32) 123 w' w.heap.size (fun k_ => (w.heap.size ≤ k_)) v0_ r ∧ Below w.heap.size w w' := by
 have HB := Aside0.mk (Below.refl w.heap.size w)
 have H : ((nat_New.f k 1).bind fun t197 => ((nat_Nat_Shl.f k t197 a0).bind fun bt200 => (some bt200.1))) = some r := h
 clear h
 replace H := Option.bind_eq_some_iff.mp H
 obtain ⟨t197, A20, H⟩ := H
 replace H : ((nat_Nat_Shl.f k t197 a0).bind fun bt200 => (some bt200.1)) = some r := H
 have A2 := Aside0.mk A20
 clear A20
 replace H := Option.bind_eq_some_iff.mp H
 obtain ⟨⟨t200, t203⟩, A30, H⟩ := H
 replace H : (some t200) = some r := H
 have A3 := Aside0.mk A30
 clear A30
 obtain rfl := Option.some.inj H
 go_enter Try.func68, Try.ntmps68
 go_wp2_with (first | ((with_reducible refine gc_ 56 rfl ?_); refine gM_ (some 6) Try.func56 [.int .u64 1] ?_; (with_reducible refine (nat_New.calls k 1 t197 _ A2.out).mono ?_); rintro e w4 ⟨v198, rfl, ho0, hb⟩; refine ⟨_, rfl, ?_⟩; have HO199 := Aside0.mk (Kd.V_lower (Kd.V_mono (ok' := fun k_ => (w.heap.size ≤ k_)) ho0 (fun k_ hk_ => (Nat.le_trans (below_size bh_) hk_))) (below_size bh_)); replace HB := bq_ hb; skip; obtain ⟨Ao5, co5, eo5⟩ := Kd.V_slice HO199.out; subst eo5) | ((with_reducible refine gc_ 72 rfl ?_); refine gM_ (some 8) Try.func72 [.slice Ao5 t197.length co5, .int .i64 a0] ?_; (with_reducible refine (nat_Nat_Shl.calls k _ _ t197 a0 t200 t203 _ ?side1 ?side2 A3.out).mono ?_); (case side1 => repeat first | exact (Kd.V_reads' HO199.out).2.2 | with_reducible first | apply ca_ | apply cn_ | apply cd_); (case side2 => exact (Kd.V_reads' HO199.out).2.1); rintro e w6 ⟨v201, rfl, ho0, hb⟩; refine ⟨_, rfl, ?_⟩; have HO202 := Aside0.mk (Kd.V_lower (Kd.V_mono (ok' := fun k_ => (w.heap.size ≤ k_)) ho0 (fun k_ hk_ => (Nat.le_trans (below_size bh_) hk_))) (below_size bh_)); replace HB := bq_ hb))
 go_ret
 exact ⟨_, eh_, by (with_reducible repeat (first | apply va_ | apply vn_ | apply vd_)); exact HO202.out, bh_⟩

end Go.Proofs.Ytfglpaaeipblcaa.P
