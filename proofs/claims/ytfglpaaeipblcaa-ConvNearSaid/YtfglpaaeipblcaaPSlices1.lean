/- Walks of one package: what each function returns, wherever the Lean function beside it has an answer. -/
import Derived.Test.YtfglpaaeipblcaaP0
namespace Go.Proofs.Ytfglpaaeipblcaa.P
open Go.RowKit Go.Proofs.YtfglpaaeipblcaaW.PrintWords Go.Proofs.YtfglpaaeipblcaaW.PrintLast Go.Proofs.YtfglpaaeipblcaaW.PrintMore
attribute [local go_sem] max2_int min2_int max_two min_two max_three min_three max_four min_four   -- for this text's walks alone
set_option linter.unusedVariables false
set_option linter.unusedSimpArgs false

/-! ### nat_Nat_uint32_96: function 96 -/
-- GIVENTEXT
def nat_Nat_uint32_96.f (l0 : List Int) : Option (List Int):=if l0.length < 35184372088832 then some l0 else none
set_option maxHeartbeats 8000000 in
set_option maxRecDepth 100000 in
theorem nat_Nat_uint32_96.calls (A0 : Option Addr) (c0 : Nat) (l0 : List Int) (r : List Int) (w : World) (hr0 : Kd.C (Kd.int .u32) w A0 l0.length l0) (hc0 : l0.length ≤ c0) (h : nat_Nat_uint32_96.f l0 = some r) :
  Calls Try.prog 96 #[.slice A0 l0.length c0] w fun e w'=>∃ v0_ : Value,e = .returned (v0_) ∧ Kd.V (Kd.int .u32) 123 w' w.heap.size (fun k_=>(w.heap.size ≤ k_)) v0_ r ∧ Below w.heap.size w w':=by
 unfold nat_Nat_uint32_96.f at h
 split at h
 · rename_i LM
   obtain rfl:=Option.some.inj h
   clear h
   have LMc:=Aside0.mk LM
   have HR0:=Aside0.mk hr0
   clear LM hr0 hc0
   have HB:=Aside0.mk (Below.refl w.heap.size w)
   cases hA : A0 with
   | none =>
     subst hA
     have hl : l0 = []:=by
       by_cases h0 : l0 = []
       · exact h0
       · obtain ⟨ad,e,_⟩:=(HR0.out).2.2 (List.length_pos_iff.mpr h0)
         cases e
     subst hl
     have heq : ∀ w : World,(binOp .eql 48 (.slice none 0 c0) (.slice none 0 0)).run Try.prog w = .ok (.bool true) w:=fun w=>eql_slice_nil w 48 123 none 0 c0 Try.underlying48
     go_enter Try.func96,Try.ntmps96
     go_wp2
     go_ret
     exact ⟨.slice none 0 0,rfl,Kd.R_V (base:=0) (Kd.R_nil _ _ _ _ _),HB.out⟩
   | some ad =>
     subst hA
     have heq : ∀ w : World,(binOp .eql 48 (.slice (some ad) l0.length c0) (.slice none 0 0)).run Try.prog w = .ok (.bool false) w:=fun w=>eql_slice_nil w 48 123 (some ad) l0.length c0 Try.underlying48
     go_enter Try.func96,Try.ntmps96
     go_wp2_with (first
       | ((with_reducible refine gate_dst (N:=5) rfl ?_); refine Kd.R_lit (Kd.int .u32) _ 123 ?hg (N:=5) ?hd (xs:=([] : List Int)) (inner:=[]) (ok:=fun _=>True) (okp:=fun _=>True) ?hr (Reps.none _ _) (fun _ hk=>hk) trivial (Below.refl _ _) (Nat.le_refl _) (by simp) ?_; (case hd=>rfl); (case hg=>rfl); (case hr=>first | (go_simp; done) | (go_simp; rfl)); intro v1 w1 ho1 hb1 hg_ hnew_; clear hg_ hnew_; have HO1:=Aside0.mk (Kd.R_lower ho1 (Nat.le_refl _)); have HB1:=Aside0.mk hb1; clear ho1 hb1)
       | ((with_reducible refine gate_builtin (b:=.append) (xs:=#[.tmp 5,.tmp 6]) rfl ?_); at_builtin; refine Kd.R_append_rows (Kd.int .u32) (w0:=w) w.heap.size rfl (.tmp 5) (.tmp 6) 48 123 (.int .u32 0) 4 rfl Try.underlying48 info123 rfl (by decide) (by omega) v1 [] l0 _ _ _ (fun _=>True) (fun _=>False) rfl rfl ?aO ?aR (fun _ _ h=>h) (fun _ h=>h.elim) ?aF ?aB ?aS ?aL ?_; (case aR=>exact Kd.C_below HR0.out HB1.out); (case aB=>exact HB1.out); (case aF=>exact (fun _ _=>trivial)); (case aO=>exact HO1.out); (case aS=>exact HB1.out.size); (case aL=>have:=LMc.out; simp; omega); intro v2 w2 ho2 hb2 hg2 hat2; have HO2:=Aside0.mk ho2; have HB2:=Aside0.mk hb2; clear ho2 hb2 hg2 hat2))
     go_ret
     exact ⟨_,rfl,Kd.R_V (base:=w.heap.size) (Kd.R_mono (Kd.R_bound (by simpa using HO2.out)) (fun _ hk=>hk.2.1)),HB2.out⟩
 · cases h

-- NOT PRINTED: function 112 (nat_Nat_uint32_112)

end Go.Proofs.Ytfglpaaeipblcaa.P
