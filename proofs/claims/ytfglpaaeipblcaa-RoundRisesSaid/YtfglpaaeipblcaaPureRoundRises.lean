import Derived.Test.YtfglpaaeipblcaaPPattern4
import Derived.Test.YtfglpaaeipblcaaPZRoundRises1
import Derived.Test.YtfglpaaeipblcaaR1
import Derived.Test.YtfglpaaeipblcaaW5
namespace Go.Proofs.Ytfglpaaeipblcaa.Pure
open Go.RowKit Go.Proofs.Ytfglpaaeipblcaa.P Go.Proofs.YtfglpaaeipblcaaW.PrintWords Go.Proofs.YtfglpaaeipblcaaW.PrintLast

theorem W32.of_wf {l : List Int} (h : ∀ y ∈ l, (Lit.int .u32 y).wf = true) : W32 l := by
  intro y hy
  have := h y hy
  simp only [Lit.wf, Bool.and_eq_true, decide_eq_true_eq, show IntKind.u32.min = 0 by decide, show IntKind.u32.max = 4294967295 by decide] at this
  omega
theorem LessP (neg1 neg2 : Bool) (K L : Nat) (hK : K ≤ 9218868437227405312) (hL : L ≤ 9218868437227405312) :
    Ev (fun k => pattern_Less.f k (sgn neg1 K) (sgn neg2 L)) (decide (sg neg1 K < sg neg2 L)) := by
  unfold pattern_Less.f
  refine Ev.bind (CmpP neg1 neg2 K L hK hL) (Ev.pos rfl (Ev.ret ?_))
  refine decide_eq_decide.2 ?_
  unfold cmpZ
  simp only []
  split
  · rename_i h
    exact ⟨fun _ => h, fun _ => by decide⟩
  · rename_i h
    constructor
    · intro h2
      split at h2 <;> exact absurd h2 (by decide)
    · intro h2; exact absurd h2 h
theorem rises_j0 (b : Bool) (l d : List Int) (c : Bool) (m e : List Int) (mode : Int) (hl : W32 l) (hd : W32 d) (hm : W32 m) (he : W32 e)
    (h1 : l.length ≤ 6) (h2 : d.length ≤ 6) (h3 : m.length ≤ 6) (h4 : e.length ≤ 6) : Ev (fun k => flyballlaw05_RoundRises.j0 k mode true false b l d c m e) true := by
  obtain ⟨f, hf, F⟩ := Exact_RK hl hd (by omega) (by omega) b
  obtain ⟨g, hg, G⟩ := Exact_RK hm he (by omega) (by omega) c
  obtain ⟨b1, L1, x1, a1, f1, s1⟩ := F mode
  obtain ⟨b2, L2, x2, a2, g1, s2⟩ := G mode
  obtain ⟨b3, L3, x3, a3, f2, s3⟩ := F 2
  obtain ⟨b4, L4, x4, a4, f0, s4⟩ := F 0
  obtain ⟨b5, L5, x5, a5, f3, s5⟩ := F 1
  obtain ⟨w1, w2⟩ := RK_way hf
  have hc := CmpP b1 b2 L1 L2 a1 a2
  have n1 := LessP b4 b3 L4 L3 a4 a3
  have n2 := LessP b5 b4 L5 L4 a5 a4
  have p1 := fits_qv hl hd h1 h2 (by decide : 0 < 6) (neg := b)
  have p2 := fits_qv hm he h3 h4 (by decide : 0 < 6) (neg := c)
  have hq := RCmp_ev (IsQ.of hl hd (by omega) (by omega) b) (IsQ.of hm he (by omega) (by omega) c) p1 p2 (by decide)
  rw [← f0, ← f2, decide_eq_false (by omega)] at n1
  rw [← f0, ← f3, decide_eq_false (by omega)] at n2
  rw [← f1, ← g1] at hc
  have tail : Ev (fun k => (pattern_Less.f k (sgn b4 L4) (sgn b3 L3)).bind fun t => if t = true then some false else (pattern_Less.f k (sgn b5 L5) (sgn b4 L4)).bind fun u => some (!u)) true :=
    Ev.bind n1 (Ev.neg (by simp) (Ev.bind n2 (Ev.ret rfl)))
  refine Ev.step (fun k => by rw [flyballlaw05_RoundRises.j0]) ?_
  refine Ev.neg (by simp) (Ev.bind s1 (Ev.bind s2 (Ev.bind s3 (Ev.bind s4 (Ev.bind s5 (Ev.bind hq (Ev.bind hc (Ev.pos rfl (Ev.pos rfl ?_)))))))))
  have up : ¬ (qv c m e < qv b l d) → f mode ≤ g mode := fun h => RK_mono hf hg (Rat.not_lt.1 h) mode
  have dn : ¬ (qv b l d < qv c m e) → g mode ≤ f mode := fun h => RK_mono hg hf (Rat.not_lt.1 h) mode
  unfold cmpQ
  simp only []
  by_cases q1 : qv b l d < qv c m e
  · rw [if_pos q1]
    have h := up (Rat.not_lt.2 (Rat.le_of_lt q1))
    refine Ev.neg (by decide) (Ev.pos ?_ (Ev.pos (by decide) tail))
    unfold cmpZ
    split
    · decide
    · rw [if_neg (by omega)]; decide
  · rw [if_neg q1]
    have h := dn q1
    by_cases q2 : qv c m e < qv b l d
    · rw [if_pos q2]
      refine Ev.pos (by decide) (Ev.neg (by decide) (Ev.pos ?_ tail))
      unfold cmpZ
      rw [if_neg (by omega)]
      split <;> decide
    · rw [if_neg q2]
      have h2 := up q2
      have hz : cmpZ (f mode) (g mode) = 0 := by unfold cmpZ; rw [if_neg (by omega), if_neg (by omega)]
      rw [hz]
      exact Ev.neg (by decide) (Ev.pos (by decide) (Ev.neg (by decide) (Ev.pos (by decide) tail)))
theorem rises_long (a2 : Int) (b : Bool) (l d : List Int) (c : Bool) (m e : List Int) : Ev (fun k => flyballlaw05_RoundRises.j0 k a2 true true b l d c m e) true := by
  refine Ev.step (fun k => by rw [flyballlaw05_RoundRises.j0]) ?_
  exact Ev.pos rfl (Ev.ret rfl)
theorem RoundRises (b : Bool) (l d : List Int) (c : Bool) (m e : List Int) (mode : Int) (h1 : ∀ y ∈ l, (Lit.int .u32 y).wf = true) (h2 : ∀ y ∈ d, (Lit.int .u32 y).wf = true) (h3 : ∀ y ∈ m, (Lit.int .u32 y).wf = true) (h4 : ∀ y ∈ e, (Lit.int .u32 y).wf = true) (_ : (Lit.int .u8 mode).wf = true) :
    ∃ k, flyballlaw05_RoundRises.f k b l d c m e mode = some true := by
  have H : Ev (fun k => flyballlaw05_RoundRises.f k b l d c m e mode) true := by
    unfold flyballlaw05_RoundRises.f
    refine Ev.bind works5 (Ev.pos rfl ?_)
    by_cases n1 : (l.length : Int) > 6
    · exact Ev.pos n1 (rises_long _ _ _ _ _ _ _)
    · refine Ev.neg n1 ?_
      by_cases n2 : (d.length : Int) > 6
      · exact Ev.pos n2 (rises_long _ _ _ _ _ _ _)
      · refine Ev.neg n2 ?_
        by_cases n3 : (m.length : Int) > 6
        · exact Ev.pos n3 (rises_long _ _ _ _ _ _ _)
        · refine Ev.neg n3 ?_
          by_cases n4 : (e.length : Int) > 6
          · rw [decide_eq_true n4]
            exact rises_long _ _ _ _ _ _ _
          · rw [decide_eq_false n4]
            exact rises_j0 b l d c m e mode (W32.of_wf h1) (W32.of_wf h2) (W32.of_wf h3) (W32.of_wf h4) (by omega) (by omega) (by omega) (by omega)
  obtain ⟨n, h⟩ := H
  exact ⟨n, h n (Nat.le_refl _)⟩
end Go.Proofs.Ytfglpaaeipblcaa.Pure
