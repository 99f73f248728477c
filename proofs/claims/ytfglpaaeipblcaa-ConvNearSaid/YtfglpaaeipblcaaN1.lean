/- Rows of words of 32 bits stand for numbers: the row of a number; trim, New, at, Len, Cmp. -/
import Derived.Test.YtfglpaaeipblcaaPBits1
import Derived.Test.YtfglpaaeipblcaaPNat1
import Derived.Test.YtfglpaaeipblcaaS5
namespace Go.Proofs.Ytfglpaaeipblcaa.Pure
open Go.RowKit Go.Proofs.Ytfglpaaeipblcaa.P Go.Proofs.YtfglpaaeipblcaaW.PrintWords Go.Proofs.YtfglpaaeipblcaaW.PrintLast

/-- The number that a row of words stands for, the least word first. -/
def nv : List Int → Nat
  | [] => 0
  | x :: t => x.toNat + 4294967296 * nv t
def W32 (l : List Int) : Prop := ∀ x ∈ l, 0 ≤ x ∧ x < 4294967296
theorem W32.nil : W32 [] := fun _ h => by cases h
theorem W32.cons {x : Int} {l : List Int} (h0 : 0 ≤ x) (h1 : x < 4294967296) (h : W32 l) : W32 (x :: l) := by
  intro y hy
  rcases List.mem_cons.1 hy with rfl | hy
  · exact ⟨h0, h1⟩
  · exact h y hy
theorem W32.head {x : Int} {l : List Int} (h : W32 (x :: l)) : 0 ≤ x ∧ x < 4294967296 := h x List.mem_cons_self
theorem W32.tail {x : Int} {l : List Int} (h : W32 (x :: l)) : W32 l := fun y hy => h y (List.mem_cons_of_mem _ hy)
theorem W32.append {a b : List Int} (ha : W32 a) (hb : W32 b) : W32 (a ++ b) := by
  intro y hy
  rcases List.mem_append.1 hy with h | h
  · exact ha y h
  · exact hb y h
theorem W32.left {a b : List Int} (h : W32 (a ++ b)) : W32 a := fun y hy => h y (List.mem_append.2 (.inl hy))
theorem W32.right {a b : List Int} (h : W32 (a ++ b)) : W32 b := fun y hy => h y (List.mem_append.2 (.inr hy))
theorem W32.take {l : List Int} (h : W32 l) (n : Nat) : W32 (l.take n) := fun y hy => h y (List.mem_of_mem_take hy)
theorem W32.drop {l : List Int} (h : W32 l) (n : Nat) : W32 (l.drop n) := fun y hy => h y (List.mem_of_mem_drop hy)
theorem W32.set {l : List Int} (h : W32 l) (n : Nat) {x : Int} (h0 : 0 ≤ x) (h1 : x < 4294967296) : W32 (l.set n x) := by
  intro y hy
  rcases List.mem_or_eq_of_mem_set hy with h2 | rfl
  · exact h y h2
  · exact ⟨h0, h1⟩
theorem W32.replicate (n : Nat) : W32 (List.replicate n 0) := by
  intro y hy
  obtain ⟨_, rfl⟩ := List.mem_replicate.1 hy
  omega
theorem W32.getD {l : List Int} (h : W32 l) (i : Nat) : 0 ≤ l.getD i 0 ∧ l.getD i 0 < 4294967296 := by
  by_cases hi : i < l.length
  · rw [List.getD_eq_getElem?_getD, List.getElem?_eq_getElem hi]
    exact h _ (List.getElem_mem hi)
  · rw [List.getD_eq_getElem?_getD, List.getElem?_eq_none (by omega)]
    decide
/-- 2^(32 n). -/
def B (n : Nat) : Nat := 4294967296 ^ n
theorem B_zero : B 0 = 1 := rfl
theorem B_succ (n : Nat) : B (n + 1) = 4294967296 * B n := by unfold B; rw [Nat.pow_succ, Nat.mul_comm]
theorem B_add (m n : Nat) : B (m + n) = B m * B n := by unfold B; exact Nat.pow_add _ _ _
theorem B_pos (n : Nat) : 0 < B n := by unfold B; exact Nat.pow_pos (by decide)
theorem B_two (n : Nat) : B n = 2 ^ (32 * n) := by unfold B; rw [Nat.pow_mul]
theorem B_mono {m n : Nat} (h : m ≤ n) : B m ≤ B n := by unfold B; exact Nat.pow_le_pow_right (by decide) h
theorem nv_append (a b : List Int) : nv (a ++ b) = nv a + B a.length * nv b := by
  induction a with
  | nil => simp [nv, B]
  | cons x t ih => simp only [List.cons_append, nv, ih, List.length_cons, B_succ]; rw [Nat.mul_add, Nat.mul_assoc]; omega
theorem nv_lt {a : List Int} (h : W32 a) : nv a < B a.length := by
  induction a with
  | nil => simp [nv, B]
  | cons x t ih =>
    have := ih h.tail
    have := h.head
    simp only [nv, List.length_cons, B_succ]
    omega
theorem nv_replicate (n : Nat) : nv (List.replicate n 0) = 0 := by
  induction n with
  | zero => rfl
  | succ n ih => simp [List.replicate_succ, nv, ih]
theorem nv_snoc (a : List Int) (x : Int) : nv (a ++ [x]) = nv a + B a.length * x.toNat := by rw [nv_append]; simp [nv]
theorem nv_take_drop (a : List Int) (n : Nat) (h : n ≤ a.length) : nv a = nv (a.take n) + B n * nv (a.drop n) := by
  have := nv_append (a.take n) (a.drop n)
  rw [List.take_append_drop, List.length_take, Nat.min_eq_left h] at this
  exact this
theorem nv_take {a : List Int} (ha : W32 a) (n : Nat) : nv (a.take n) = nv a % B n := by
  by_cases h : n ≤ a.length
  · rw [nv_take_drop a n h, Nat.add_mul_mod_self_left]
    have := nv_lt (ha.take n)
    rw [List.length_take, Nat.min_eq_left h] at this
    exact (Nat.mod_eq_of_lt this).symm
  · rw [List.take_of_length_le (by omega)]
    exact (Nat.mod_eq_of_lt (Nat.lt_of_lt_of_le (nv_lt ha) (B_mono (by omega)))).symm
theorem nv_drop {a : List Int} (ha : W32 a) (n : Nat) : nv (a.drop n) = nv a / B n := by
  by_cases h : n ≤ a.length
  · rw [nv_take_drop a n h, Nat.add_mul_div_left _ _ (B_pos n)]
    have := nv_lt (ha.take n)
    rw [List.length_take, Nat.min_eq_left h] at this
    rw [Nat.div_eq_of_lt this, Nat.zero_add]
  · rw [List.drop_of_length_le (by omega)]
    exact (Nat.div_eq_of_lt (Nat.lt_of_lt_of_le (nv_lt ha) (B_mono (by omega)))).symm
/-- A word of a number. -/
def wd1 (n i : Nat) : Nat := n / B i % 4294967296
theorem wd1_lt (n i : Nat) : wd1 n i < 4294967296 := Nat.mod_lt _ (by decide)
theorem nv_getD {a : List Int} (ha : W32 a) (i : Nat) : a.getD i 0 = ((wd1 (nv a) i : Nat) : Int) := by
  unfold wd1
  rw [← nv_drop ha]
  induction a generalizing i with
  | nil => simp [nv]
  | cons x t ih =>
    have := ha.head
    cases i with
    | zero => simp only [List.getD_cons_zero, List.drop_zero, nv]; omega
    | succ i => simpa using ih ha.tail i
theorem nv_take_succ {a : List Int} (_ : W32 a) (i : Nat) (h : i < a.length) : nv (a.take (i + 1)) = nv (a.take i) + B i * (a.getD i 0).toNat := by
  rw [List.take_succ_eq_append_getElem h, nv_snoc, List.length_take, Nat.min_eq_left (by omega)]
  simp [List.getD, h]
theorem nv_mod_succ (n i : Nat) : n % B (i + 1) = n % B i + B i * wd1 n i := by
  unfold wd1
  rw [B_succ, Nat.mul_comm, Nat.mod_mul]

/-- The row of a number, without words of nought at the end. -/
def wd (n : Nat) : List Int := if h : n = 0 then [] else ((n % 4294967296 : Nat) : Int) :: wd (n / 4294967296)
termination_by n
decreasing_by exact Nat.div_lt_self (by omega) (by decide)
theorem wd_zero : wd 0 = [] := by rw [wd]; rfl
theorem wd_pos {n : Nat} (h : n ≠ 0) : wd n = ((n % 4294967296 : Nat) : Int) :: wd (n / 4294967296) := by rw [wd, dif_neg h]
theorem nv_wd (n : Nat) : nv (wd n) = n := by
  induction n using Nat.strongRecOn with
  | _ n ih =>
    by_cases h : n = 0
    · subst h; rw [wd_zero]; rfl
    · rw [wd_pos h, nv, ih _ (Nat.div_lt_self (by omega) (by decide))]
      omega
theorem W32_wd (n : Nat) : W32 (wd n) := by
  induction n using Nat.strongRecOn with
  | _ n ih =>
    by_cases h : n = 0
    · subst h; rw [wd_zero]; exact W32.nil
    · rw [wd_pos h]
      exact W32.cons (by omega) (by omega) (ih _ (Nat.div_lt_self (by omega) (by decide)))
theorem wd_nil {n : Nat} : wd n = [] ↔ n = 0 := by
  constructor
  · intro h
    have := nv_wd n
    rw [h] at this
    exact this.symm
  · rintro rfl
    exact wd_zero
theorem wd_length (n : Nat) : (wd n).length = (blen n + 31) / 32 := by
  induction n using Nat.strongRecOn with
  | _ n ih =>
    by_cases h : n = 0
    · subst h; rw [wd_zero]; rfl
    · rw [wd_pos h, List.length_cons, ih _ (Nat.div_lt_self (by omega) (by decide))]
      have h1 := lt_blen n
      have h2 := blen_le n h
      have h0 : blen n ≠ 0 := by rw [Ne, blen_eq_zero]; exact h
      by_cases hs : n < 4294967296
      · have : blen n ≤ 32 := blen_lt_iff.2 (by simpa using hs)
        rw [Nat.div_eq_of_lt hs]
        simp only [blen_zero]
        omega
      · have h32 : 32 < blen n := by
          apply Nat.lt_of_not_le
          intro hle
          have := blen_lt_iff.1 hle
          simp at this
          omega
        have e : blen (n / 4294967296) = blen n - 33 + 1 := by
          refine blen_of ?_ ?_
          · rw [Nat.le_div_iff_mul_le (by decide)]
            have : 2 ^ (blen n - 33) * 4294967296 = 2 ^ (blen n - 1) := by
              rw [show (4294967296 : Nat) = 2 ^ 32 by decide, ← Nat.pow_add]
              congr 1
              omega
            omega
          · rw [Nat.div_lt_iff_lt_mul (by decide)]
            have : 2 ^ (blen n - 33 + 1) * 4294967296 = 2 ^ blen n := by
              rw [show (4294967296 : Nat) = 2 ^ 32 by decide, ← Nat.pow_add]
              congr 1
              omega
            omega
        omega
theorem wd_length_le {n k : Nat} (h : n < 2 ^ (32 * k)) : (wd n).length ≤ k := by
  rw [wd_length]
  have := blen_lt_iff.2 h
  omega
/-- A row whose last word is not nought is the row of its number. -/
theorem wd_of {l : List Int} (hl : W32 l) (h : ∀ (h0 : l ≠ []), l.getLast h0 ≠ 0) : wd (nv l) = l := by
  induction l with
  | nil => exact wd_zero
  | cons x t ih =>
    have hx := hl.head
    have hne : nv (x :: t) ≠ 0 := by
      intro h0
      simp only [nv] at h0
      by_cases ht : t = []
      · subst ht
        have := h (by simp)
        simp at this
        omega
      · have h2 := ih hl.tail (fun h3 => by rw [← List.getLast_cons h3]; exact h (by simp))
        have : nv t = 0 := by omega
        rw [this, wd_zero] at h2
        exact ht h2.symm
    rw [wd_pos hne]
    have e1 : nv (x :: t) % 4294967296 = x.toNat := by simp only [nv]; omega
    have e2 : nv (x :: t) / 4294967296 = nv t := by simp only [nv]; omega
    rw [e1, e2]
    have h3 : wd (nv t) = t := by
      by_cases ht : t = []
      · subst ht; exact wd_zero
      · exact ih hl.tail (fun h3 => by rw [← List.getLast_cons h3]; exact h (by simp))
    rw [h3, Int.toNat_of_nonneg hx.1]

/-! ### trim, New, at -/
theorem rd_nat (l : List Int) (i : Nat) : rd l (i : Int) = l.getD i 0 := by unfold rd; rw [Int.toNat_natCast]
theorem trim_l0_ev : ∀ (n : Nat) (l : List Int), l.length = n → n < 1000000 → W32 l → Ev (fun k => nat_trim.l0 k l) (wd (nv l)) := by
  intro n
  induction n with
  | zero =>
    intro l hl hn hw
    obtain rfl : l = [] := List.length_eq_zero_iff.1 hl
    refine Ev.step (fun k => by rw [nat_trim.l0]) ?_
    exact Ev.neg (by simp) (Ev.ret wd_zero.symm)
  | succ n ih =>
    intro l hl hn hw
    have e1 : wrap64 ((l.length : Int) - 1) = ((n : Nat) : Int) := by rw [w64] <;> omega
    refine Ev.step (fun k => by rw [nat_trim.l0]) ?_
    rw [e1, rd_nat]
    refine Ev.pos (by omega) (Ev.pos (by omega) (Ev.pos (by omega) ?_))
    have ht := nv_take_succ hw n (by omega)
    rw [List.take_of_length_le (by omega)] at ht
    by_cases h0 : l.getD n 0 = 0
    · refine Ev.pos h0 (Ev.pos (by omega) ?_)
      rw [h0] at ht
      simp only [Int.toNat_zero, Nat.mul_zero, Nat.add_zero] at ht
      rw [ht]
      exact ih _ (by simp; omega) (by omega) (hw.take n)
    · refine Ev.neg h0 (Ev.ret ?_)
      refine (wd_of hw fun hne => ?_).symm
      rw [List.getLast_eq_getElem]
      have : l.length - 1 = n := by omega
      rw [List.getD_eq_getElem?_getD, List.getElem?_eq_getElem (by omega)] at h0
      simpa [this] using h0
theorem trim_ev {l : List Int} (hl : l.length < 1000000) (hw : W32 l) : Ev (fun k => nat_trim.f k l) (wd (nv l)) := trim_l0_ev _ l rfl hl hw
theorem New_ev (x : Nat) (h : x < 18446744073709551616) : Ev (fun k => nat_New.f k (x : Int)) (wd x) := by
  unfold nat_New.f
  have hw : W32 [(x : Int) % 4294967296, ((x : Int) / 4294967296) % 4294967296] := W32.cons (by omega) (by omega) (W32.cons (by omega) (by omega) W32.nil)
  have := trim_ev (by simp) hw
  have e : nv [(x : Int) % 4294967296, ((x : Int) / 4294967296) % 4294967296] = x := by simp only [nv]; omega
  rw [e] at this
  exact Ev.bind this (Ev.ret rfl)
theorem at_some {l : List Int} (hw : W32 l) (i : Int) (h : 0 ≤ i) : nat_Nat_at.f l i = some ((wd1 (nv l) i.toNat : Nat) : Int) := by
  unfold nat_Nat_at.f
  rw [← nv_getD hw]
  have hb := hw.getD i.toNat
  by_cases hi : i < (l.length : Int)
  · rw [if_pos hi, if_pos h]
    unfold rd
    rw [u64i (by omega) (by omega)]
  · rw [if_neg hi, List.getD_eq_getElem?_getD, List.getElem?_eq_none (by omega)]
    rfl

/-! ### Len, Cmp -/
theorem Len_evN {l : List Int} (hl : l.length < 1000000) (hw : W32 l) : Ev (fun k => nat_Nat_Len.f k l) ((blen (nv l) : Nat) : Int) := by
  unfold nat_Nat_Len.f
  refine Ev.bind (trim_ev hl hw) ?_
  generalize hn : nv l = n
  have hlen := wd_length n
  by_cases h0 : n = 0
  · subst h0
    exact Ev.pos (by rw [wd_zero]; rfl) (Ev.ret rfl)
  · have hpos : 0 < (wd n).length := by
      have : wd n ≠ [] := fun h => h0 (wd_nil.1 h)
      exact List.length_pos_iff.2 this
    have hb : blen n ≤ 32 * l.length := by
      have := nv_lt hw
      rw [hn, B_two] at this
      exact blen_lt_iff.2 this
    have e1 : wrap64 (((wd n).length : Int) - 1) = (((wd n).length - 1 : Nat) : Int) := by rw [w64] <;> omega
    refine Ev.neg (by omega) ?_
    rw [e1, rd_nat]
    refine Ev.pos (by omega) (Ev.pos (by omega) ?_)
    have hg := nv_getD (W32_wd n) ((wd n).length - 1)
    rw [nv_wd] at hg
    rw [hg]
    have hlt := wd1_lt n ((wd n).length - 1)
    refine Ev.bind0 (a := ((blen (wd1 n ((wd n).length - 1)) : Nat) : Int)) ?_ (Ev.ret ?_)
    · unfold bits_Len32.f
      rw [if_pos (by omega), Int.toNat_natCast, bitLen_blen _ (by omega)]
    · have hl1 : n < B (wd n).length := by have := nv_lt (W32_wd n); rwa [nv_wd] at this
      have hd : n / B ((wd n).length - 1) < 4294967296 := by
        rw [Nat.div_lt_iff_lt_mul (B_pos _), ← B_succ]
        rwa [show (wd n).length - 1 + 1 = (wd n).length by omega]
      have hw1 : wd1 n ((wd n).length - 1) = n / 2 ^ (32 * ((wd n).length - 1)) := by
        unfold wd1
        rw [Nat.mod_eq_of_lt hd, B_two]
      have hbl : blen n - 32 * ((wd n).length - 1) = blen (n / 2 ^ (32 * ((wd n).length - 1))) := by
        have h1 := lt_blen n
        have h2 := blen_le n h0
        have h3 : blen n ≠ 0 := by rw [Ne, blen_eq_zero]; exact h0
        have e : blen (n / 2 ^ (32 * ((wd n).length - 1))) = (blen n - 32 * ((wd n).length - 1) - 1) + 1 := by
          refine blen_of ?_ ?_
          · rw [Nat.le_div_iff_mul_le (Nat.two_pow_pos _), ← Nat.pow_add]
            rwa [show blen n - 32 * ((wd n).length - 1) - 1 + 32 * ((wd n).length - 1) = blen n - 1 by omega]
          · rw [Nat.div_lt_iff_lt_mul (Nat.two_pow_pos _), ← Nat.pow_add]
            rwa [show blen n - 32 * ((wd n).length - 1) - 1 + 1 + 32 * ((wd n).length - 1) = blen n by omega]
        omega
      rw [hw1, ← hbl]
      rw [w64 (x := 32 * (((wd n).length - 1 : Nat) : Int)) (by omega) (by omega), w64 (by omega) (by omega)]
      omega
theorem div_B_succ (n i : Nat) : n / B (i + 1) = n / B i / 4294967296 := by rw [B_succ, Nat.mul_comm, Nat.div_div_eq_div_mul]
theorem CmpN_l0_ev {a b : List Int} (ha : W32 a) (hb : W32 b) (hl : max a.length b.length < 1000000) :
    ∀ (n : Nat), n ≤ max a.length b.length → nv a / B n = nv b / B n → Ev (fun k => nat_Nat_Cmp.l0 k a b ((n : Int) - 1)) (cmpN (nv a) (nv b)) := by
  intro n
  induction n with
  | zero =>
    intro hn he
    refine Ev.step (fun k => by rw [nat_Nat_Cmp.l0]) ?_
    refine Ev.neg (by omega) (Ev.ret ?_)
    rw [B_zero, Nat.div_one, Nat.div_one] at he
    simp [cmpN, he]
  | succ n ih =>
    intro hn he
    refine Ev.step (fun k => by rw [nat_Nat_Cmp.l0]) ?_
    have e0 : (((n + 1 : Nat) : Int) - 1) = (n : Nat) := by omega
    rw [e0]
    have h1 := at_some ha (n : Int) (by omega)
    have h2 := at_some hb (n : Int) (by omega)
    rw [Int.toNat_natCast] at h1 h2
    rw [div_B_succ, div_B_succ] at he
    refine Ev.pos (by omega) (Ev.bind0 h1 (Ev.bind0 h2 ?_))
    unfold wd1
    by_cases hx : nv a / B n % 4294967296 = nv b / B n % 4294967296
    · refine Ev.pos (by rw [hx]) ?_
      rw [w64 (by omega) (by omega)]
      exact ih (by omega) (by omega)
    · refine Ev.neg (by omega) ?_
      by_cases hlt : nv a / B n % 4294967296 < nv b / B n % 4294967296
      · refine Ev.pos (by omega) (Ev.ret ?_)
        have : nv a / B n < nv b / B n := by omega
        have : nv a < nv b := Nat.lt_of_div_lt_div this
        unfold cmpN
        rw [if_pos this]
      · refine Ev.neg (by omega) (Ev.ret ?_)
        have : nv b / B n < nv a / B n := by omega
        have : nv b < nv a := Nat.lt_of_div_lt_div this
        unfold cmpN
        rw [if_neg (by omega), if_pos this]
theorem CmpN_ev {a b : List Int} (ha : W32 a) (hb : W32 b) (hl : max a.length b.length < 1000000) : Ev (fun k => nat_Nat_Cmp.f k a b) (cmpN (nv a) (nv b)) := by
  have := CmpN_l0_ev ha hb hl (max a.length b.length) (Nat.le_refl _) (by
    rw [Nat.div_eq_of_lt (Nat.lt_of_lt_of_le (nv_lt ha) (B_mono (by omega))), Nat.div_eq_of_lt (Nat.lt_of_lt_of_le (nv_lt hb) (B_mono (by omega)))])
  unfold nat_Nat_Cmp.f
  rw [mx_nat, w64 (by omega) (by omega)]
  exact this
end Go.Proofs.Ytfglpaaeipblcaa.Pure
