/- One word of a quotient; a quotient, and what is left. -/
import Derived.Test.YtfglpaaeipblcaaPNat1
import Derived.Test.YtfglpaaeipblcaaN5
namespace Go.Proofs.Ytfglpaaeipblcaa.Pure
open Go.RowKit Go.Proofs.Ytfglpaaeipblcaa.P Go.Proofs.YtfglpaaeipblcaaW.PrintWords Go.Proofs.YtfglpaaeipblcaaW.PrintLast

theorem l0_ev {num den : List Int} (hN : W32 num) (hD : W32 den) {n v1 v2 u T q : Nat} (hn : 2 ≤ n) (hdl : den.length = n) (hnl : num.length = n + 1) (hn8 : n < 800000)
    (hv1 : 1 ≤ v1) (hv1W : v1 < 4294967296) (e2 : wd1 (nv den) (n - 2) = v2) (eu : wd1 (nv num) (n - 2) = u)
    (dec : ∀ g left, g * v1 + left = T → (4294967296 ≤ g ∨ left * 4294967296 + u < g * v2) → q ≤ g → q + 1 ≤ g)
    (fin1 : ∀ g left, g * v1 + left = T → g < 4294967296 → g * v2 ≤ left * 4294967296 + u → q ≤ g → g ≤ q + 1)
    (brk : ∀ g left, g * v1 + left = T → 4294967296 ≤ left → g < 4294967296 ∧ g * v2 ≤ left * 4294967296 + u) :
    ∀ m g left, left < 4294967296 → 4294967296 ≤ left + m → g < 17179869184 → g * v1 + left = T → q ≤ g →
      ∃ g2, q ≤ g2 ∧ g2 ≤ q + 1 ∧ g2 < 4294967296 ∧ ∀ r, Ev (fun k => nat_step.j2 k num den (n : Int) (g2 : Int)) r → Ev (fun k => nat_step.l0 k num den (n : Int) (v1 : Int) (g : Int) (left : Int)) r := by
  intro m
  induction m with
  | zero =>
    intro g left h1 h2
    omega
  | succ m ih =>
    intro g left hl hm hg ht hq
    have j1true : q + 1 ≤ g → ∃ g2, q ≤ g2 ∧ g2 ≤ q + 1 ∧ g2 < 4294967296 ∧ ∀ r, Ev (fun k => nat_step.j2 k num den (n : Int) (g2 : Int)) r → Ev (fun k => nat_step.j1 k num den (n : Int) (v1 : Int) (g : Int) (left : Int) true) r := by
      intro hq1
      have ht2 : (g - 1) * v1 + (left + v1) = T := by
        rw [← ht]
        obtain ⟨z, rfl⟩ : ∃ z, g = z + 1 := ⟨g - 1, by clear ht; omega⟩
        rw [Nat.add_sub_cancel, Nat.add_mul, Nat.one_mul]
        generalize z * v1 = y
        omega
      have f1 : IntKind.u64.wrap ((left : Int) + (v1 : Int)) = ((left + v1 : Nat) : Int) := by clear ht ht2; rw [u64i] <;> omega
      have f2 : IntKind.u64.wrap ((g : Int) - 1) = ((g - 1 : Nat) : Int) := by clear ht ht2; rw [u64i] <;> omega
      by_cases hb : 4294967296 ≤ left + v1
      · obtain ⟨h1, h2⟩ := brk (g - 1) (left + v1) ht2 hb
        have h3 := fin1 (g - 1) (left + v1) ht2 h1 h2 (by clear ht ht2 h2; omega)
        refine ⟨g - 1, by clear ht ht2 h2; omega, h3, h1, fun r hr => ?_⟩
        refine Ev.step (fun k => by rw [nat_step.j1]) ?_
        refine Ev.pos rfl ?_
        rw [f1, f2]
        exact Ev.pos (by clear ht ht2 h2; omega) hr
      · obtain ⟨g2, y1, y2, y3, y4⟩ := ih (g - 1) (left + v1) (by clear ht ht2; omega) (by clear ht ht2; omega) (by clear ht ht2; omega) ht2 (by clear ht ht2; omega)
        refine ⟨g2, y1, y2, y3, fun r hr => ?_⟩
        refine Ev.step (fun k => by rw [nat_step.j1]) ?_
        refine Ev.pos rfl ?_
        rw [f1, f2]
        exact Ev.neg (by clear ht ht2 y4; omega) (y4 r hr)
    by_cases hgW : 4294967296 ≤ g
    · obtain ⟨g2, y1, y2, y3, y4⟩ := j1true (dec g left ht (.inl hgW) hq)
      refine ⟨g2, y1, y2, y3, fun r hr => ?_⟩
      refine Ev.step (fun k => by rw [nat_step.l0]) ?_
      exact Ev.pos (by clear ht y4; omega) (y4 r hr)
    · have f1 : wrap64 ((n : Int) - 2) = ((n - 2 : Nat) : Int) := by clear ht; rw [w64] <;> omega
      have hu := wd1_lt (nv num) (n - 2)
      have hv2 := wd1_lt (nv den) (n - 2)
      have gd := nv_getD hD (n - 2)
      have gn := nv_getD hN (n - 2)
      rw [e2] at hv2 gd
      rw [eu] at hu gn
      have hgv := mul32 (x := g) (y := v2) (by clear ht; omega) hv2
      have f2 : IntKind.u64.wrap (v2 : Int) = (v2 : Int) := u64i (by clear ht; omega) (by clear ht; omega)
      have f3 : IntKind.u64.wrap ((g : Int) * (v2 : Int)) = ((g * v2 : Nat) : Int) := by
        rw [← Int.natCast_mul]
        clear ht
        generalize g * v2 = y at *
        rw [u64i] <;> omega
      have go : ∀ r, Ev (fun k => nat_step.j1 k num den (n : Int) (v1 : Int) (g : Int) (left : Int) (decide (((g * v2 : Nat) : Int) > ((4294967296 * left + u : Nat) : Int)))) r → Ev (fun k => nat_step.l0 k num den (n : Int) (v1 : Int) (g : Int) (left : Int)) r := by
        intro r hr
        refine Ev.step (fun k => by rw [nat_step.l0]) ?_
        refine Ev.neg (by clear ht; omega) ?_
        rw [f1, rd_nat, rd_nat, gd, gn, or_words hl hu, f2, f3]
        exact Ev.pos (Int.natCast_nonneg _) (Ev.pos (by clear ht; omega) (Ev.pos (by clear ht; omega) hr))
      by_cases ht2 : left * 4294967296 + u < g * v2
      · have hdec : decide (((g * v2 : Nat) : Int) > ((4294967296 * left + u : Nat) : Int)) = true := decide_eq_true (by clear ht; omega)
        rw [hdec] at go
        obtain ⟨g2, y1, y2, y3, y4⟩ := j1true (dec g left ht (.inr ht2) hq)
        exact ⟨g2, y1, y2, y3, fun r hr => go r (y4 r hr)⟩
      · have hdec : decide (((g * v2 : Nat) : Int) > ((4294967296 * left + u : Nat) : Int)) = false := decide_eq_false (by clear ht; omega)
        rw [hdec] at go
        refine ⟨g, hq, fin1 g left ht (by clear ht; omega) (by clear ht; omega) hq, by clear ht; omega, fun r hr => go r ?_⟩
        refine Ev.step (fun k => by rw [nat_step.j1]) ?_
        exact Ev.neg (by simp) hr

theorem step_end {N D q g w x Bn : Nat} (hD : 0 < D) (hq : q = N / D) (hq1 : q * D ≤ N) (hq2 : N < (q + 1) * D) (g1 : q ≤ g) (g2 : g ≤ q + 1) (hw : w ≤ 1) (hx : x + g * D = N + Bn * w) (hxl : x < Bn) (hDB : D < Bn) :
    (w = 0 → g = q ∧ x = N % D) ∧ (w ≠ 0 → g = q + 1 ∧ (x + D) % Bn = N % D) := by
  have hmod : N % D = N - q * D := by
    have := Nat.div_add_mod N D
    rw [← hq, Nat.mul_comm] at this
    generalize q * D = z at *
    omega
  have hml : N % D < D := Nat.mod_lt _ hD
  clear hq
  rw [Nat.add_mul, Nat.one_mul] at hq2
  have hg : g = q ∨ g = q + 1 := by clear hx hq1 hq2 hmod; omega
  refine ⟨fun h0 => ?_, fun h0 => ?_⟩
  · subst h0
    rw [Nat.mul_zero, Nat.add_zero] at hx
    rcases hg with rfl | rfl
    · refine ⟨rfl, ?_⟩
      rw [hmod]
      generalize g * D = z at *
      omega
    · rw [Nat.add_mul, Nat.one_mul] at hx
      generalize q * D = z at *
      omega
  · obtain rfl : w = 1 := by clear hx hq1 hq2 hmod; omega
    rw [Nat.mul_one] at hx
    rcases hg with rfl | rfl
    · generalize g * D = z at *
      omega
    · rw [Nat.add_mul, Nat.one_mul] at hx
      refine ⟨rfl, ?_⟩
      have e : x + D = N % D + Bn := by
        rw [hmod]
        generalize q * D = z at *
        omega
      rw [e, Nat.add_mod_right]
      exact Nat.mod_eq_of_lt (Nat.lt_trans hml hDB)
theorem step_ev {num den : List Int} (hN : W32 num) (hD : W32 den) {n : Nat} (hn : 2 ≤ n) (hdl : den.length = n) (hnl : num.length = n + 1) (hn8 : n < 800000) (hnorm : B n ≤ 2 * nv den) (hlt : nv num < 4294967296 * nv den) :
    ∃ x2, Ev (fun k => nat_step.f k num den) (((nv num / nv den : Nat) : Int), x2) ∧ W32 x2 ∧ x2.length = n + 1 ∧ nv x2 = nv num % nv den := by
  have hDn := nv_lt hD
  have hNn := nv_lt hN
  rw [hdl] at hDn
  rw [hnl] at hNn
  generalize hDe : nv den = D at *
  generalize hNe : nv num = N at *
  have hb1 := B_pos (n - 1)
  have hb2 := B_pos (n - 2)
  have s0 : B n = 4294967296 * B (n - 1) := by rw [← B_succ, show n - 1 + 1 = n by omega]
  have s1 : B (n - 1) = 4294967296 * B (n - 2) := by rw [← B_succ, show n - 2 + 1 = n - 1 by omega]
  have hDpos : 0 < D := by
    have := B_pos n
    omega
  -- the words
  have hv1d : D / B (n - 1) < 4294967296 := by rw [Nat.div_lt_iff_lt_mul hb1, ← s0]; exact hDn
  have ev1 : wd1 D (n - 1) = D / B (n - 1) := by unfold wd1; exact Nat.mod_eq_of_lt hv1d
  have hv1 : 2147483648 ≤ D / B (n - 1) := by
    rw [Nat.le_div_iff_mul_le hb1]
    omega
  have eD2 : D / B (n - 2) = D / B (n - 1) * 4294967296 + wd1 D (n - 2) := by
    have h := div_B_succ D (n - 2)
    rw [show n - 2 + 1 = n - 1 by omega] at h
    unfold wd1
    rw [h, Nat.mul_comm]
    exact (Nat.div_add_mod _ _).symm
  have hND : N / B n < 4294967296 := by
    rw [Nat.div_lt_iff_lt_mul (B_pos n), ← B_succ]
    exact hNn
  have eNn : wd1 N n = N / B n := by unfold wd1; exact Nat.mod_eq_of_lt hND
  have eT : N / B (n - 1) = 4294967296 * wd1 N n + wd1 N (n - 1) := by
    have h := div_B_succ N (n - 1)
    rw [show n - 1 + 1 = n by omega] at h
    rw [eNn]
    unfold wd1
    rw [h]
    exact (Nat.div_add_mod _ _).symm
  have eT3 : N / B (n - 2) = N / B (n - 1) * 4294967296 + wd1 N (n - 2) := by
    have h := div_B_succ N (n - 2)
    rw [show n - 2 + 1 = n - 1 by omega] at h
    unfold wd1
    rw [h, Nat.mul_comm]
    exact (Nat.div_add_mod _ _).symm
  -- bounds by the words
  have d1 : D < (D / B (n - 1) + 1) * B (n - 1) := by
    rw [← Nat.div_lt_iff_lt_mul hb1]
    exact Nat.lt_succ_self _
  have d2 : (D / B (n - 1) * 4294967296 + wd1 D (n - 2)) * B (n - 2) ≤ D := by rw [← eD2]; exact Nat.div_mul_le_self _ _
  have d3 : D < (D / B (n - 1) * 4294967296 + wd1 D (n - 2) + 1) * B (n - 2) := by
    rw [← eD2, ← Nat.div_lt_iff_lt_mul hb2]
    exact Nat.lt_succ_self _
  have t2 : (N / B (n - 1) * 4294967296 + wd1 N (n - 2)) * B (n - 2) ≤ N := by rw [← eT3]; exact Nat.div_mul_le_self _ _
  have t3 : N < (N / B (n - 1) * 4294967296 + wd1 N (n - 2) + 1) * B (n - 2) := by
    rw [← eT3, ← Nat.div_lt_iff_lt_mul hb2]
    exact Nat.lt_succ_self _
  have hqW : N / D < 4294967296 := by rw [Nat.div_lt_iff_lt_mul hDpos]; exact hlt
  have hq1 : N / D * D ≤ N := Nat.div_mul_le_self _ _
  have hq2 : N < (N / D + 1) * D := by
    rw [← Nat.div_lt_iff_lt_mul hDpos]
    exact Nat.lt_succ_self _
  have gf := guess_first (N := N) (D := D) (q := N / D) rfl hb1 hq1
  -- behind the guess
  have next : ∀ g, N / D ≤ g → g ≤ N / D + 1 → g < 4294967296 → ∃ x2, Ev (fun k => nat_step.j2 k num den (n : Int) (g : Int)) (((N / D : Nat) : Int), x2) ∧ W32 x2 ∧ x2.length = n + 1 ∧ nv x2 = N % D := by
    intro g g1 g2 g3
    obtain ⟨x, w, x1, x2, x3, x4, x5⟩ := l1_ev hD (by omega) g3 N (den.length + 1) 0 0 0 num (Nat.zero_add _) hN (by rw [hnl, hdl]) (by decide) (by decide) (fun h => rfl) (by rw [B_zero, Nat.mod_one, hNe, Nat.mul_zero, Nat.mul_zero])
    have hj2 : ∀ r, Ev (fun k => nat_step.l1 k num den (den.length : Int) (g : Int) ((0 : Nat) : Int) ((0 : Nat) : Int) ((den.length + 1 : Nat) : Int) ((0 : Nat) : Int)) r → Ev (fun k => nat_step.j2 k num den (n : Int) (g : Int)) r := by
      intro r h
      refine Ev.step (fun k => by rw [nat_step.j2]) ?_
      rw [hnl, ← hdl]
      exact h
    have hxl := nv_lt x1
    rw [x2, hdl] at hxl
    rw [hDe, hdl] at x4
    have hDlt : D < B (n + 1) := Nat.lt_of_lt_of_le hDn (B_mono (Nat.le_succ n))
    obtain ⟨e1, e2⟩ := step_end hDpos rfl hq1 hq2 g1 g2 x3 x4 hxl hDlt
    by_cases hw0 : w = 0
    · obtain ⟨rfl, e3⟩ := e1 hw0
      refine ⟨x, hj2 _ (x5 _ ?_), x1, by rw [x2, hdl], e3⟩
      subst hw0
      refine Ev.pos rfl (Ev.ret ?_)
      have e9 : ((N / D : Nat) : Int) % 4294967296 = ((N / D : Nat) : Int) := Int.emod_eq_of_lt (Int.natCast_nonneg _) (Int.ofNat_lt.2 hqW)
      rw [e9]
    · obtain ⟨rfl, e3⟩ := e2 hw0
      obtain ⟨x6, y1, y2, y3, y4⟩ := l2_ev hD (by omega) (g := N / D + 1) (Nat.succ_le_succ (Nat.zero_le _)) g3 (nv x) (den.length + 1) 0 0 x (Nat.zero_add _) x1 x2 (by decide) (by rw [B_zero, Nat.mod_one, Nat.mul_zero])
      refine ⟨x6, hj2 _ (x5 _ ?_), y2, by rw [y3, hdl], by rw [y4, hDe, hdl]; exact e3⟩
      refine Ev.neg (fun h => hw0 (Int.ofNat.inj h)) ?_
      rw [x2]
      exact y1
  -- the call
  have hnd : nv num / nv den = N / D := by rw [hNe, hDe]
  have gN : num.getD n 0 = ((wd1 N n : Nat) : Int) := by rw [nv_getD hN, hNe]
  have gN1 : num.getD (n - 1) 0 = ((wd1 N (n - 1) : Nat) : Int) := by rw [nv_getD hN, hNe]
  have gD1 : den.getD (n - 1) 0 = ((D / B (n - 1) : Nat) : Int) := by rw [nv_getD hD, hDe, ev1]
  have hT : N / B (n - 1) < 18446744073709551616 := by
    have := wd1_lt N n
    have := wd1_lt N (n - 1)
    rw [eT]
    omega
  have hle : N / B (n - 1) / (D / B (n - 1)) < 17179869184 := by
    rw [Nat.div_lt_iff_lt_mul (by omega)]
    have := Nat.mul_le_mul_left 17179869184 hv1
    omega
  have hdm : N / B (n - 1) / (D / B (n - 1)) * (D / B (n - 1)) + N / B (n - 1) % (D / B (n - 1)) = N / B (n - 1) := Nat.div_add_mod' _ _
  have hlm : N / B (n - 1) % (D / B (n - 1)) < 4294967296 := Nat.lt_trans (Nat.mod_lt _ (by omega)) hv1d
  obtain ⟨g, g1, g2, g3, g4⟩ := l0_ev (v1 := D / B (n - 1)) (v2 := wd1 D (n - 2)) (u := wd1 N (n - 2)) (T := N / B (n - 1)) (q := N / D) hN hD hn hdl hnl hn8 (by omega) hv1d (by rw [hDe]) (by rw [hNe])
    (fun g left ht h hq => by
      rcases h with h | h
      · exact Nat.lt_of_lt_of_le hqW h
      · have := guess_dec d2 t3 ht h
        exact (Nat.div_lt_iff_lt_mul hDpos).2 this)
    (fun g left ht hgW hg hq => guess_end d3 t2 ht hg hgW (by omega) hq2)
    (fun g left ht hl => guess_break hb1 hlt rfl d1 ht hl (wd1_lt D (n - 2)) (wd1 N (n - 2)))
    4294967296 _ _ hlm (Nat.le_add_left _ _) hle hdm (by rw [Nat.le_div_iff_mul_le (by omega)]; exact gf)
  obtain ⟨x2, y1, y2, y3, y4⟩ := next g g1 g2 g3
  refine ⟨x2, ?_, y2, y3, y4⟩
  have r1 := g4 _ y1
  unfold nat_step.f
  have f1 : wrap64 ((n : Int) - 1) = ((n - 1 : Nat) : Int) := by rw [w64] <;> omega
  have f2 : ∀ z : Nat, z < 4294967296 → IntKind.u64.wrap (z : Int) = (z : Int) := fun z hz => u64i (by omega) (by omega)
  have f3 : IntKind.u64.wrap (Int.tdiv ((N / B (n - 1) : Nat) : Int) ((D / B (n - 1) : Nat) : Int)) = ((N / B (n - 1) / (D / B (n - 1)) : Nat) : Int) := by
    rw [Int.tdiv_eq_ediv_of_nonneg (Int.natCast_nonneg _), ← Int.natCast_ediv, u64i (Int.natCast_nonneg _)]
    omega
  have f4 : Int.tmod ((N / B (n - 1) : Nat) : Int) ((D / B (n - 1) : Nat) : Int) = ((N / B (n - 1) % (D / B (n - 1)) : Nat) : Int) := by
    rw [Int.tmod_eq_emod_of_nonneg (Int.natCast_nonneg _), ← Int.natCast_emod]
  have f5 := or_words (wd1_lt N n) (wd1_lt N (n - 1))
  rw [← eT] at f5
  rw [f2 _ (wd1_lt N (n - 1))] at f5
  rw [hdl, hnl, f1, rd_nat, rd_nat, rd_nat, gN, gN1, gD1, f2 _ hv1d, f2 _ (wd1_lt N n), f2 _ (wd1_lt N (n - 1)), f5, f3, f4]
  refine Ev.pos (Int.natCast_nonneg _) (Ev.pos (by omega) (Ev.pos (Int.natCast_nonneg _) (Ev.pos (by omega) (Ev.pos (by omega) (Ev.neg (by omega) ?_)))))
  exact r1
end Go.Proofs.Ytfglpaaeipblcaa.Pure
