/- Sums, differences and products of rows of words are those of the numbers that they stand for. -/
import Derived.Test.YtfglpaaeipblcaaPNat2
import Derived.Test.YtfglpaaeipblcaaN1
namespace Go.Proofs.Ytfglpaaeipblcaa.Pure
open Go.RowKit Go.Proofs.Ytfglpaaeipblcaa.P Go.Proofs.YtfglpaaeipblcaaW.PrintWords Go.Proofs.YtfglpaaeipblcaaW.PrintLast
theorem nv_mod_len {a : List Int} (ha : W32 a) (i : Nat) (h : a.length ≤ i) : nv a % B i = nv a := Nat.mod_eq_of_lt (Nat.lt_of_lt_of_le (nv_lt ha) (B_mono h))
theorem W32.snoc {l : List Int} (h : W32 l) (x : Nat) : W32 (l ++ [(x : Int) % 4294967296]) := h.append (W32.cons (by omega) (by omega) W32.nil)
theorem nv_snoc_mod (l : List Int) (x : Nat) : nv (l ++ [(x : Int) % 4294967296]) = nv l + B l.length * (x % 4294967296) := by
  rw [nv_snoc]
  congr 2
theorem nv_snoc_lt (l : List Int) {r : Nat} (x : Int) (hr : x = (r : Int)) : nv (l ++ [x]) = nv l + B l.length * r := by
  rw [nv_snoc, hr, Int.toNat_natCast]
theorem cmpN_neg {x y : Nat} : cmpN x y < 0 ↔ x < y := by
  unfold cmpN
  by_cases h : x < y
  · simp [h]
  · by_cases h2 : y < x <;> simp [h, h2]
/-! ### Mul -/
theorem nv_set {l : List Int} (p : Nat) (hp : p < l.length) (v : Int) : nv (l.set p v) + B p * (l.getD p 0).toNat = nv l + B p * v.toNat := by
  induction l generalizing p with
  | nil => simp at hp
  | cons x t ih =>
    cases p with
    | zero => simp [nv, B_zero]; omega
    | succ p =>
      have := ih p (by simpa using hp)
      simp only [List.set_cons_succ, nv, List.getD_cons_succ, B_succ]
      grind
theorem mul32 {x y : Nat} (hx : x < 4294967296) (hy : y < 4294967296) : x * y ≤ 18446744065119617025 := by
  have := Nat.mul_le_mul (Nat.le_of_lt_succ hx) (Nat.le_of_lt_succ hy)
  omega
/-- One word of a product. -/
theorem mul_step {x y z c : Nat} (hx : x < 4294967296) (hy : y < 4294967296) (hz : z < 4294967296) (hc : c < 4294967296) :
    ∃ r q : Nat, IntKind.u64.wrap ((c : Int) + IntKind.u64.wrap (IntKind.u64.wrap (IntKind.u64.wrap (x : Int) * IntKind.u64.wrap (y : Int)) + IntKind.u64.wrap (z : Int))) % 4294967296 = (r : Int) ∧
      IntKind.u64.wrap ((c : Int) + IntKind.u64.wrap (IntKind.u64.wrap (IntKind.u64.wrap (x : Int) * IntKind.u64.wrap (y : Int)) + IntKind.u64.wrap (z : Int))) / 4294967296 = (q : Int) ∧ r < 4294967296 ∧ q < 4294967296 ∧ r + 4294967296 * q = c + x * y + z := by
  have hxy := mul32 hx hy
  rw [u64i (x := (x : Int)) (by omega) (by omega), u64i (x := (y : Int)) (by omega) (by omega), u64i (x := (z : Int)) (by omega) (by omega), ← Int.natCast_mul]
  generalize x * y = p at *
  rw [u64i (x := (p : Int)) (by omega) (by omega), u64i (x := (p : Int) + (z : Int)) (by omega) (by omega), u64i (by omega) (by omega)]
  exact ⟨(c + p + z) % 4294967296, (c + p + z) / 4294967296, by omega, by omega, by omega, by omega, by omega⟩
theorem mul_alg {o o2 p r q c x y z V bi bj mb : Nat} (h : r + 4294967296 * q = c + x * y + z) (hp : bi * bj = p) (hs : o2 + p * z = o + p * r) (hv : o + p * c = V + bi * x * mb) : o2 + 4294967296 * p * q = V + bi * x * (mb + bj * y) := by
  have h2 : p * (r + 4294967296 * q) = p * (c + x * y + z) := by rw [h]
  rw [Nat.mul_add, Nat.mul_add, Nat.mul_add] at h2
  have h4 : 4294967296 * p * q = p * (4294967296 * q) := by rw [Nat.mul_comm 4294967296 p, Nat.mul_assoc]
  have h5 : bi * x * (mb + bj * y) = bi * x * mb + p * (x * y) := by
    rw [Nat.mul_add, ← hp]
    congr 1
    ac_rfl
  rw [h4, h5]
  clear h h4 h5 hp
  generalize p * (4294967296 * q) = z1 at *
  generalize p * r = z2 at *
  generalize p * c = z3 at *
  generalize p * (x * y) = z4 at *
  generalize p * z = z5 at *
  generalize bi * x * mb = z6 at *
  omega
theorem MulN_l1_ev {a b : List Int} (hb : W32 b) (hl : a.length + b.length < 900000) (i : Nat) (hi : i < a.length) (x : Nat) (hx : x < 4294967296) (V0 : Nat) (r : List Int)
    (next : ∀ out : List Int, out.length = a.length + b.length → W32 out → nv out = V0 + B i * x * nv b → Ev (fun k => nat_Nat_Mul.l0 k b out a (a.length : Int) ((i + 1 : Nat) : Int)) r) :
    ∀ (d j c : Nat) (out : List Int), j + d = b.length → out.length = a.length + b.length → W32 out → c < 4294967296 → (∀ q, i + b.length ≤ q → out.getD q 0 = 0) →
    nv out + B (i + j) * c = V0 + B i * x * (nv b % B j) →
    Ev (fun k => nat_Nat_Mul.l1 k b out (i : Int) (x : Int) (c : Int) a (a.length : Int) (i : Int) b (b.length : Int) (j : Int)) r := by
  intro d
  induction d with
  | zero =>
    intro j c out hj ho hw hc hz hv
    obtain rfl : j = b.length := by clear hv hz; omega
    have e1 : wrap64 ((i : Int) + (b.length : Int)) = ((i + b.length : Nat) : Int) := by clear hv hz; rw [w64] <;> omega
    have e2 : wrap64 ((i : Int) + 1) = ((i + 1 : Nat) : Int) := by clear hv hz; rw [w64] <;> omega
    have q1 : ((i + b.length : Nat) : Int) < (out.length : Int) := by clear hv hz e1 e2; omega
    have hs := nv_set (l := out) (i + b.length) (Int.ofNat_lt.1 q1) ((c : Int) % 4294967296)
    rw [hz _ (Nat.le_refl _)] at hs
    have e3 : ((c : Int) % 4294967296).toNat = c := by clear hv hz hs e1 e2; omega
    rw [e3, Int.toNat_zero, Nat.mul_zero, Nat.add_zero, hv, nv_mod_len hb _ (Nat.le_refl _)] at hs
    refine Ev.step (fun k => by rw [nat_Nat_Mul.l1]) ?_
    rw [e1, e2]
    refine Ev.neg (Int.lt_irrefl _) (Ev.pos (Int.natCast_nonneg _) (Ev.pos q1 ?_))
    rw [Int.toNat_natCast]
    exact next _ (by rw [List.length_set, ho]) (hw.set _ (Int.emod_nonneg _ (by decide)) (Int.emod_lt_of_pos _ (by decide))) hs
  | succ d ih =>
    intro j c out hj ho hw hc hz hv
    have e1 : wrap64 ((i : Int) + (j : Int)) = ((i + j : Nat) : Int) := by clear hv hz; rw [w64] <;> omega
    have e2 : wrap64 ((j : Int) + 1) = ((j + 1 : Nat) : Int) := by clear hv hz e1; rw [w64] <;> omega
    have q1 : (j : Int) < (b.length : Int) := by clear hv hz e1 e2; omega
    have q2 : i + j < out.length := by clear hv hz e1 e2; omega
    have q3 : j + 1 + d = b.length := by clear hv hz e1 e2; omega
    have g1 := nv_getD hb j
    have l1 := wd1_lt (nv b) j
    have m1 := nv_mod_succ (nv b) j
    generalize wd1 (nv b) j = y at *
    have g2 := hw.getD (i + j)
    obtain ⟨z, hz2⟩ := Int.eq_ofNat_of_zero_le g2.1
    rw [hz2] at g2
    obtain ⟨rr, qq, hr, hq, hr2, hq2, he⟩ := mul_step (x := x) (y := y) (z := z) (c := c) hx l1 (Int.ofNat_lt.1 g2.2) hc
    have hs := nv_set (l := out) (i + j) q2 ((rr : Nat) : Int)
    rw [hz2, Int.toNat_natCast, Int.toNat_natCast] at hs
    refine Ev.step (fun k => by rw [nat_Nat_Mul.l1]) ?_
    rw [e1, e2, rd_nat, rd_nat, Int.toNat_natCast]
    refine Ev.pos q1 (Ev.pos (Int.natCast_nonneg _) (Ev.pos q1 (Ev.pos (Int.natCast_nonneg _) (Ev.pos (Int.ofNat_lt.2 q2) ?_))))
    rw [g1, hz2, hr, hq]
    refine ih (j + 1) qq _ q3 (by rw [List.length_set, ho]) (hw.set _ (Int.natCast_nonneg _) (Int.ofNat_lt.2 hr2)) hq2 ?_ ?_
    · intro q hq
      have := hz q hq
      rw [List.getD_eq_getElem?_getD] at this ⊢
      rw [List.getElem?_set_ne (by clear hv hz hs; omega)]
      exact this
    · rw [m1, ← Nat.add_assoc, B_succ]
      exact mul_alg he (B_add i j).symm hs hv
theorem MulN_l0_ev {a b : List Int} (ha : W32 a) (hb : W32 b) (hl : a.length + b.length < 900000) :
    ∀ (d i : Nat) (out : List Int), i + d = a.length → out.length = a.length + b.length → W32 out → nv out = (nv a % B i) * nv b →
    Ev (fun k => nat_Nat_Mul.l0 k b out a (a.length : Int) (i : Int)) (wd (nv a * nv b)) := by
  intro d
  induction d with
  | zero =>
    intro i out hi ho hw hv
    refine Ev.step (fun k => by rw [nat_Nat_Mul.l0]) ?_
    have h1 := trim_ev (l := out) (by omega) hw
    rw [hv, nv_mod_len ha i (by omega)] at h1
    exact Ev.neg (by omega) (Ev.bind h1 (Ev.ret rfl))
  | succ d ih =>
    intro i out hi ho hw hv
    refine Ev.step (fun k => by rw [nat_Nat_Mul.l0]) ?_
    refine Ev.pos (by omega) (Ev.pos (by omega) (Ev.pos (by omega) ?_))
    rw [rd_nat]
    have g1 := nv_getD ha i
    have l1 := wd1_lt (nv a) i
    have m1 := nv_mod_succ (nv a) i
    rw [g1]
    have hlt : nv out < B (i + b.length) := by
      rw [hv, B_add]
      have h1 := Nat.mod_lt (nv a) (B_pos i)
      have h2 := nv_lt hb
      have h3 := Nat.mul_le_mul_right (nv b) (Nat.le_of_lt h1)
      have h4 := Nat.mul_lt_mul_of_pos_left h2 (B_pos i)
      omega
    refine MulN_l1_ev hb hl i (by omega) _ l1 (nv out) _ (fun out2 h1 h2 h3 => ?_) b.length 0 0 out (by omega) ho hw (by omega) ?_ (by rw [B_zero, Nat.mod_one]; simp)
    · refine ih (i + 1) out2 (by omega) h1 h2 ?_
      rw [h3, hv, m1, Nat.add_mul]
    · intro q hq
      rw [nv_getD hw q]
      unfold wd1
      rw [Nat.div_eq_of_lt (Nat.lt_of_lt_of_le hlt (B_mono hq))]
      rfl
theorem MulN_ev {a b : List Int} (ha : W32 a) (hb : W32 b) (hl : a.length + b.length < 900000) : Ev (fun k => nat_Nat_Mul.f k a b) (wd (nv a * nv b)) := by
  unfold nat_Nat_Mul.f
  have e : wrap64 ((a.length : Int) + (b.length : Int)) = ((a.length + b.length : Nat) : Int) := by rw [w64] <;> omega
  rw [e, Int.toNat_natCast]
  refine Ev.pos (by omega) (Ev.pos (by omega) ?_)
  exact MulN_l0_ev ha hb hl a.length 0 _ (by omega) (by simp) (W32.replicate _) (by rw [nv_replicate, B_zero, Nat.mod_one, Nat.zero_mul])


/-- One word of a difference. -/
theorem sub_step {x y c : Nat} (hx : x < 4294967296) (hy : y < 4294967296) (hc : c ≤ 1) : ∃ r q : Nat, IntKind.u64.wrap (IntKind.u64.wrap ((x : Int) - (y : Int)) - (c : Int)) % 4294967296 = (r : Int) ∧ IntKind.u64.wrap (IntKind.u64.wrap ((x : Int) - (y : Int)) - (c : Int)) / 9223372036854775808 = (q : Int) ∧ r < 4294967296 ∧ q ≤ 1 ∧ r + y + c = x + 4294967296 * q := by
  rw [u64w, u64w]
  by_cases h : y + c ≤ x
  · exact ⟨x - y - c, 0, by omega, by omega, by omega, by omega, by omega⟩
  · exact ⟨4294967296 + x - y - c, 1, by omega, by omega, by omega, by omega, by omega⟩
theorem sub_alg {o p r x y c q A Bm : Nat} (h : r + y + c = x + 4294967296 * q) (hv : o + Bm = A + p * c) : o + p * r + (Bm + p * y) = A + p * x + 4294967296 * p * q := by
  have h2 : p * (r + y + c) = p * (x + 4294967296 * q) := by rw [h]
  rw [Nat.mul_add, Nat.mul_add, Nat.mul_add] at h2
  have h4 : 4294967296 * p * q = p * (4294967296 * q) := by rw [Nat.mul_comm 4294967296 p, Nat.mul_assoc]
  rw [h4]
  clear h h4
  generalize p * (4294967296 * q) = z1 at *
  generalize p * r = z2 at *
  generalize p * c = z3 at *
  generalize p * x = z4 at *
  generalize p * y = z5 at *
  omega
end Go.Proofs.Ytfglpaaeipblcaa.Pure
