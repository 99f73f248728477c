import Derived.Test.YtfglpaaeipblcaaPFlyballlaw052
import Derived.Test.YtfglpaaeipblcaaPFlyballref031
import Derived.Test.YtfglpaaeipblcaaPFlyballref032
import Derived.Test.YtfglpaaeipblcaaPFlyballref052
import Derived.Test.YtfglpaaeipblcaaPRound3
import Derived.Test.YtfglpaaeipblcaaPZRoundExacts1
import Derived.Test.YtfglpaaeipblcaaB2
import Derived.Test.YtfglpaaeipblcaaS4
import Derived.Test.YtfglpaaeipblcaaQ2
import Derived.Test.YtfglpaaeipblcaaW5
namespace Go.Proofs.Ytfglpaaeipblcaa.Pure
open Go.RowKit Go.Proofs.Ytfglpaaeipblcaa.P Go.Proofs.YtfglpaaeipblcaaW.PrintWords Go.Proofs.YtfglpaaeipblcaaW.PrintLast

theorem W32.of_wf {l : List Int} (h : ∀ y ∈ l, (Lit.int .u32 y).wf = true) : W32 l := by
  intro y hy
  have := h y hy
  simp only [Lit.wf, Bool.and_eq_true, decide_eq_true_eq, show IntKind.u32.min = 0 by decide, show IntKind.u32.max = 4294967295 by decide] at this
  omega
theorem Exact5_zero (neg : Bool) (d : List Bool) (mode : Int) : Ev (fun k => flyballref05_Exact.f k neg [] d mode) (0, 0) := by
  have hl := Len_ev [] (by simp)
  unfold flyballref05_Exact.f
  refine Ev.bind (a := 0) ?_ (Ev.pos rfl (Ev.ret rfl))
  unfold flyballref03_Sign.f
  exact Ev.bind hl (Ev.pos rfl (Ev.ret rfl))
theorem Exact5_ev (neg : Bool) {l d : List Bool} (hl : l.length < 1000000) (hd : d.length < 1000000) (hN : bv l ≠ 0) (mode : Int) :
    ∃ K, IsFloor (bv l) (bv d) K ∧ Ev (fun k => flyballref05_Exact.f k neg l d mode) (rnd neg (bv l) (bv d) K mode) := by
  have e0 : bv l * c60 = bv l * 2 ^ ((0 : Int) + 6000).toNat := by
    have aux : ∀ n : Nat, n = 6000 → c60 = 2 ^ n := fun n hn => by
      have := c60_split 0 n (by omega)
      rw [this, Nat.pow_zero, Nat.one_mul]
    rw [← aux _ (by decide : ((0 : Int) + 6000).toNat = 6000)]
  obtain ⟨K, k0, k1, k2, hs⟩ := Signed_ev neg l d 0 false (by decide) hl hd mode (bv l * c60) (bv d * c26) e0 rfl
  refine ⟨K, ⟨k0, k1, k2⟩, ?_⟩
  have hb : blen (bv l) ≠ 0 := fun h => hN (blen_eq_zero.1 h)
  have hlen := Len_ev l (by omega)
  have hsg : ∃ s, s ≠ 0 ∧ Ev (fun k => flyballref03_Sign.f k neg l d) s := by
    unfold flyballref03_Sign.f
    cases neg
    · exact ⟨1, by decide, Ev.bind hlen (Ev.neg (by omega) (Ev.neg (by simp) (Ev.ret rfl)))⟩
    · exact ⟨-1, by decide, Ev.bind hlen (Ev.neg (by omega) (Ev.pos rfl (Ev.ret rfl)))⟩
  obtain ⟨s, s0, hsg⟩ := hsg
  unfold flyballref05_Exact.f rnd
  exact Ev.bind hsg (Ev.neg s0 (Ev.bind hs (Ev.ret rfl)))
/-- The program and the reference round a fraction alike. -/
theorem exacts_both (neg : Bool) {l d : List Int} (hl : W32 l) (hd : W32 d) (h1 : l.length ≤ 6) (h2 : d.length ≤ 6) (mode : Int) :
    ∃ r b p q, Ev (fun k => round_Exact.f k neg l d mode) r ∧ Ev (fun k => round_Frac.f k neg l d mode) r ∧ Ev (fun k => flyballlaw05_of.f k neg l d) (b, p, q) ∧ Ev (fun k => flyballref05_Exact.f k b p q mode) r := by
  obtain ⟨x, x1, x2, x3⟩ := Bits_ev hl (by omega)
  obtain ⟨y, y1, y2, y3⟩ := Bits_ev hd (by omega)
  obtain ⟨lo0, lo1⟩ := Low_ev neg (l := x) (d := y) (by omega) (by omega)
  have of1 : ∀ {b p q}, Ev (fun k => flyballref03_Low.f k neg x y) (b, p, q) → Ev (fun k => flyballlaw05_of.f k neg l d) (b, p, q) := by
    intro b p q h
    unfold flyballlaw05_of.f
    exact Ev.bind x1 (Ev.bind y1 (Ev.bind h (Ev.ret rfl)))
  by_cases h0 : nv l = 0 ∨ nv d = 0
  · obtain ⟨f1, f2⟩ := Frac_zero hl hd (by omega) (by omega) h0 neg mode
    exact ⟨(0, 0), false, [], [true], f2, f1, of1 (lo0 (by rw [x2, y2]; exact h0)), Exact5_zero false [true] mode⟩
  · have hN : nv l ≠ 0 := fun h => h0 (.inl h)
    have hD : nv d ≠ 0 := fun h => h0 (.inr h)
    obtain ⟨K, hK, f1, f2⟩ := Exact_ev hl hd (by omega) (by omega) hN hD neg mode
    obtain ⟨p, q, l1, l2, l3, l4, l5⟩ := lo1 (by rw [x2]; exact hN) (by rw [y2]; exact hD)
    rw [x2, y2] at l2 l3
    have hg : 0 < Nat.gcd (nv l) (nv d) := Nat.gcd_pos_of_pos_left _ (Nat.pos_of_ne_zero hN)
    have e1 : bv p * Nat.gcd (nv l) (nv d) = nv l := by rw [l2]; exact Nat.div_mul_cancel (Nat.gcd_dvd_left _ _)
    have e2 : bv q * Nat.gcd (nv l) (nv d) = nv d := by rw [l3]; exact Nat.div_mul_cancel (Nat.gcd_dvd_right _ _)
    have hp : bv p ≠ 0 := fun h => hN (by rw [← e1, h, Nat.zero_mul])
    have hq : bv q ≠ 0 := fun h => hD (by rw [← e2, h, Nat.zero_mul])
    have lp : p.length < 1000000 ∧ q.length < 1000000 := ⟨by omega, by omega⟩
    obtain ⟨L, hL, g⟩ := Exact5_ev neg lp.1 lp.2 hp mode
    have hL2 := hL.scale hg
    rw [e1, e2] at hL2
    have := floor_one (Nat.pos_of_ne_zero hD) hL2 hK
    subst this
    have hr := rnd_scale neg (bv p) (bv q) L mode hg
    rw [e1, e2] at hr
    rw [← hr] at g
    exact ⟨_, neg, p, q, f1, f2, of1 l1, g⟩
theorem exacts_long (a1 : Int) (b : Bool) (l d : List Int) : Ev (fun k => flyballlaw05_RoundExacts.j0 k a1 true true b l d) true := by
  refine Ev.step (fun k => by rw [flyballlaw05_RoundExacts.j0]) ?_
  exact Ev.pos rfl (Ev.ret rfl)
theorem RoundExacts (b : Bool) (l d : List Int) (mode : Int) (h1 : ∀ y ∈ l, (Lit.int .u32 y).wf = true) (h2 : ∀ y ∈ d, (Lit.int .u32 y).wf = true) (_ : (Lit.int .u8 mode).wf = true) :
    ∃ k, flyballlaw05_RoundExacts.f k b l d mode = some true := by
  have H : Ev (fun k => flyballlaw05_RoundExacts.f k b l d mode) true := by
    unfold flyballlaw05_RoundExacts.f
    refine Ev.bind works5 (Ev.pos rfl ?_)
    by_cases n1 : (l.length : Int) > 6
    · exact Ev.pos n1 (exacts_long _ _ _ _)
    · refine Ev.neg n1 ?_
      by_cases n2 : (d.length : Int) > 6
      · rw [decide_eq_true n2]
        exact exacts_long _ _ _ _
      · rw [decide_eq_false n2]
        obtain ⟨r, b2, p, q, e1, e2, e3, e4⟩ := exacts_both b (W32.of_wf h1) (W32.of_wf h2) (by omega) (by omega) mode
        refine Ev.step (fun k => by rw [flyballlaw05_RoundExacts.j0]) ?_
        exact Ev.neg (by simp) (Ev.bind e1 (Ev.bind e3 (Ev.bind e4 (Ev.bind e2 (Ev.pos rfl (Ev.pos rfl (Ev.pos rfl (Ev.pos rfl (Ev.ret (beq_self_eq_true _))))))))))
  obtain ⟨n, h⟩ := H
  exact ⟨n, h n (Nat.le_refl _)⟩
end Go.Proofs.Ytfglpaaeipblcaa.Pure
