/- An integer of two words times a power of two, and a little more, is rounded just as the document says, with its flags, in each mode. -/
import Derived.Test.YtfglpaaeipblcaaPZRoundRounds1
import Derived.Test.YtfglpaaeipblcaaS7
import Derived.Test.YtfglpaaeipblcaaW5
namespace Go.Proofs.Ytfglpaaeipblcaa.Pure
open Go.RowKit Go.Proofs.Ytfglpaaeipblcaa.P Go.Proofs.YtfglpaaeipblcaaW.PrintWords Go.Proofs.YtfglpaaeipblcaaW.PrintLast

theorem wf_u64 {x : Int} (h : (Lit.int .u64 x).wf = true) : 0 ≤ x ∧ x < 18446744073709551616 := by
  simp only [Lit.wf, Bool.and_eq_true, decide_eq_true_eq, show IntKind.u64.min = 0 by decide, show IntKind.u64.max = 18446744073709551615 by decide] at h
  omega
theorem RoundRounds (neg : Bool) (hi lo e : Int) (rest : Bool) (mode : Int) (h1 : (Lit.int .u64 hi).wf = true) (h2 : (Lit.int .u64 lo).wf = true) (_ : (Lit.int .i64 e).wf = true) (_ : (Lit.int .u8 mode).wf = true) :
    ∃ k, flyballlaw05_RoundRounds.f k neg hi lo e rest mode = some true := by
  obtain ⟨a0, a1⟩ := wf_u64 h1
  obtain ⟨b0, b1⟩ := wf_u64 h2
  have hm : (lo.toNat + 18446744073709551616 * hi.toNat) < 340282366920938463463374607431768211456 := by omega
  have ho := Of_ev [lo, hi] (by
    intro x hx
    simp only [List.mem_cons, List.not_mem_nil, or_false] at hx
    rcases hx with rfl | rfl
    · exact ⟨b0, b1⟩
    · exact ⟨a0, a1⟩) (by simp)
  have hv := bv_wsbits [lo, hi] (by
    intro x hx
    simp only [List.mem_cons, List.not_mem_nil, or_false] at hx
    rcases hx with rfl | rfl
    · exact ⟨b0, b1⟩
    · exact ⟨a0, a1⟩)
  have hw : wsv [lo, hi] = lo.toNat + 18446744073709551616 * hi.toNat := by simp [wsv]
  obtain ⟨r, hr1, hr2⟩ := Round_both neg (lo.toNat + 18446744073709551616 * hi.toNat) hm (wsbits [lo, hi]) (by rw [wsbits_length]; simp) (by rw [hv, hw]) e rest mode
  have e1 : (((lo.toNat + 18446744073709551616 * hi.toNat) / 18446744073709551616 : Nat) : Int) = hi := by omega
  have e2 : (((lo.toNat + 18446744073709551616 * hi.toNat) % 18446744073709551616 : Nat) : Int) = lo := by omega
  rw [e1, e2] at hr1
  refine Ev.rounds (g := fun k => flyballlaw05_RoundRounds.f k neg hi lo e rest mode) ?_
  unfold flyballlaw05_RoundRounds.f
  refine Ev.bind works5 (Ev.pos rfl (Ev.bind hr1 (Ev.bind ho (Ev.bind hr2 (Ev.pos rfl (Ev.ret ?_))))))
  exact beq_self_eq_true _
end Go.Proofs.Ytfglpaaeipblcaa.Pure
