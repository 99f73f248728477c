/- Numbers in machine words; how many bits a number has; rows of bits as numbers. -/
import Derived.Test.YtfglpaaeipblcaaP0
namespace Go.Proofs.Ytfglpaaeipblcaa.Pure
open Go.RowKit Go.Proofs.Ytfglpaaeipblcaa.P Go.Proofs.YtfglpaaeipblcaaW.PrintWords Go.Proofs.YtfglpaaeipblcaaW.PrintLast

theorem Ev.pos {α : Type} {c : Prop} [Decidable c] {f g : Nat → Option α} {r : α} (h : c) (k : Ev f r) : Ev (fun n => if c then f n else g n) r := by
  simpa only [if_pos h] using k
theorem Ev.neg {α : Type} {c : Prop} [Decidable c] {f g : Nat → Option α} {r : α} (h : ¬ c) (k : Ev g r) : Ev (fun n => if c then f n else g n) r := by
  simpa only [if_neg h] using k
theorem Ev.bind0 {α β : Type} {o : Option α} {f : Nat → α → Option β} {a : α} {r : β} (h : o = some a) (k : Ev (fun n => f n a) r) : Ev (fun n => o.bind (f n)) r := by
  subst h
  exact k
theorem Ev.ret {α : Type} {a r : α} (h : a = r) : Ev (fun _ => some a) r := h ▸ Ev.now a
theorem Ev.some_ {α : Type} {o : Option α} {r : α} (h : o = some r) : Ev (fun _ => o) r := ⟨0, fun _ _ => h⟩
theorem Ev.as {α : Type} {g : Nat → Option α} {a r : α} (h : Ev g a) (e : a = r) : Ev g r := e ▸ h
theorem Ev.det {α : Type} {g : Nat → Option α} {a r : α} (h : Ev g a) (h2 : Ev g r) : a = r := by
  obtain ⟨K, h⟩ := h
  obtain ⟨L, h2⟩ := h2
  exact Option.some.inj ((h (max K L) (by omega)).symm.trans (h2 (max K L) (by omega)))
theorem w64 {x : Int} (h0 : -9223372036854775808 ≤ x) (h1 : x ≤ 9223372036854775807) : wrap64 x = x := by unfold wrap64; omega
theorem u64w (x : Int) : IntKind.u64.wrap x = x % 18446744073709551616 := by simp [IntKind.wrap, IntKind.bits, IntKind.signed]
theorem u64i {x : Int} (h0 : 0 ≤ x) (h1 : x < 18446744073709551616) : IntKind.u64.wrap x = x := by rw [u64w]; omega
theorem wraps_u64 (n : Int) (h₀ : 0 ≤ n) (h₁ : n < 2 ^ 64) : IntKind.u64.wrap n = n := u64i h₀ (by simpa using h₁)
/-- The number that a row of bits stands for, the least bit first. -/
def bv : List Bool → Nat
  | [] => 0
  | b :: t => b.toNat + 2 * bv t
theorem bv_append (a b : List Bool) : bv (a ++ b) = bv a + 2 ^ a.length * bv b := by
  induction a with
  | nil => simp [bv]
  | cons x t ih => simp only [List.cons_append, bv, ih, List.length_cons]; rw [Nat.pow_succ, Nat.mul_comm (2 ^ t.length) 2, Nat.mul_assoc]; omega
theorem bv_lt (a : List Bool) : bv a < 2 ^ a.length := by
  induction a with
  | nil => simp [bv]
  | cons x t ih => simp only [bv, List.length_cons, Nat.pow_succ]; cases x <;> simp <;> omega
theorem bv_false (n : Nat) : bv (List.replicate n false) = 0 := by
  induction n with
  | zero => rfl
  | succ n ih => simp [List.replicate_succ, bv, ih]
theorem bv_snoc (a : List Bool) (b : Bool) : bv (a ++ [b]) = bv a + 2 ^ a.length * b.toNat := by rw [bv_append]; simp [bv]
theorem bv_one : bv [true] = 1 := rfl
theorem bv_take_drop (a : List Bool) (n : Nat) (h : n ≤ a.length) : bv a = bv (a.take n) + 2 ^ n * bv (a.drop n) := by
  have := bv_append (a.take n) (a.drop n)
  rw [List.take_append_drop, List.length_take, Nat.min_eq_left h] at this
  exact this
theorem bv_take (a : List Bool) (n : Nat) : bv (a.take n) = bv a % 2 ^ n := by
  by_cases h : n ≤ a.length
  · rw [bv_take_drop a n h, Nat.add_mul_mod_self_left]
    have := bv_lt (a.take n)
    rw [List.length_take, Nat.min_eq_left h] at this
    exact (Nat.mod_eq_of_lt this).symm
  · rw [List.take_of_length_le (by omega)]
    exact (Nat.mod_eq_of_lt (Nat.lt_of_lt_of_le (bv_lt a) (Nat.pow_le_pow_right (by decide) (by omega)))).symm
theorem bv_drop (a : List Bool) (n : Nat) : bv (a.drop n) = bv a / 2 ^ n := by
  by_cases h : n ≤ a.length
  · rw [bv_take_drop a n h, Nat.add_mul_div_left _ _ (Nat.two_pow_pos n)]
    have := bv_lt (a.take n)
    rw [List.length_take, Nat.min_eq_left h] at this
    rw [Nat.div_eq_of_lt this, Nat.zero_add]
  · rw [List.drop_of_length_le (by omega)]
    exact (Nat.div_eq_of_lt (Nat.lt_of_lt_of_le (bv_lt a) (Nat.pow_le_pow_right (by decide) (by omega)))).symm
theorem bv_getD (a : List Bool) (i : Nat) : a.getD i false = decide (bv a / 2 ^ i % 2 = 1) := by
  rw [← bv_drop]
  induction a generalizing i with
  | nil => simp [bv]
  | cons x t ih =>
    cases i with
    | zero => cases x <;> simp [bv]
    | succ i => simpa using ih i
theorem bv_take_succ (a : List Bool) (i : Nat) (h : i < a.length) : bv (a.take (i + 1)) = bv (a.take i) + 2 ^ i * (a.getD i false).toNat := by
  rw [List.take_succ_eq_append_getElem h, bv_snoc, List.length_take, Nat.min_eq_left (by omega)]
  simp [List.getD, h]
/-- How many bits a number has. -/
def blen (n : Nat) : Nat := if n = 0 then 0 else n.log2 + 1
theorem blen_zero : blen 0 = 0 := rfl
theorem blen_eq_zero {n : Nat} : blen n = 0 ↔ n = 0 := by unfold blen; split <;> simp_all
theorem lt_blen (n : Nat) : n < 2 ^ blen n := by
  unfold blen
  split
  · subst_vars; decide
  · exact Nat.lt_log2_self
theorem blen_le (n : Nat) (h : n ≠ 0) : 2 ^ (blen n - 1) ≤ n := by
  unfold blen
  rw [if_neg h]
  exact Nat.log2_self_le h
theorem blen_of {n j : Nat} (h0 : 2 ^ j ≤ n) (h1 : n < 2 ^ (j + 1)) : blen n = j + 1 := by
  have hn : n ≠ 0 := by have := Nat.two_pow_pos j; omega
  unfold blen
  rw [if_neg hn]
  have a := (Nat.le_log2 hn).2 h0
  have b := (Nat.log2_lt hn).2 h1
  omega
theorem blen_lt_iff {n j : Nat} : blen n ≤ j ↔ n < 2 ^ j := by
  constructor
  · intro h; exact Nat.lt_of_lt_of_le (lt_blen n) (Nat.pow_le_pow_right (by decide) h)
  · intro h
    by_cases hn : n = 0
    · subst hn; simp [blen]
    · unfold blen
      rw [if_neg hn]
      have b := (Nat.log2_lt hn).2 h
      omega
theorem bv_len_le (a : List Bool) : blen (bv a) ≤ a.length := blen_lt_iff.2 (bv_lt a)
theorem bv_take_len (a : List Bool) : bv (a.take (blen (bv a))) = bv a := by
  rw [bv_take]
  exact Nat.mod_eq_of_lt (lt_blen _)
theorem shr1 (x : Int) (n : Nat) (h0 : 0 ≤ x) (h1 : x < 18446744073709551616) (hn : n ≤ 64) : (Go.bits .and .u64 (shr .u64 x (n : Int)) 1 == 1) = decide (x.toNat / 2 ^ n % 2 = 1) := by
  have e : shr .u64 x (n : Int) = ((x.toNat / 2 ^ n : Nat) : Int) := by
    unfold shr
    rw [Int.toNat_natCast, Nat.min_eq_left (by simpa [IntKind.bits] using hn), Int.natCast_ediv, Int.toNat_of_nonneg h0]
    simp
  rw [e]
  have hlt : x.toNat / 2 ^ n < 2 ^ 64 := Nat.lt_of_le_of_lt (Nat.div_le_self _ _) (by omega)
  have := bits_mask .u64 64 (by decide) wraps_u64 1 (by decide) ((x.toNat / 2 ^ n : Nat) : Int) (Int.natCast_nonneg _) (by exact_mod_cast hlt)
  simp only [Int.pow_one, Int.reduceSub] at this
  rw [this]
  by_cases hb : x.toNat / 2 ^ n % 2 = 1
  · have h2 : ((x.toNat / 2 ^ n : Nat) : Int) % 2 = 1 := by omega
    rw [decide_eq_true hb]
    exact beq_iff_eq.2 h2
  · have h2 : ¬ ((x.toNat / 2 ^ n : Nat) : Int) % 2 = 1 := by omega
    rw [decide_eq_false hb]
    exact beq_eq_false_iff_ne.2 h2
/-- The bits of a word, so many of them. -/
def wbits (x n : Nat) : List Bool := (List.range n).map fun i => decide (x / 2 ^ i % 2 = 1)
theorem wbits_succ (x n : Nat) : wbits x (n + 1) = wbits x n ++ [decide (x / 2 ^ n % 2 = 1)] := by simp [wbits, List.range_succ]
theorem wbits_length (x n : Nat) : (wbits x n).length = n := by simp [wbits]
theorem bv_wbits (x n : Nat) : bv (wbits x n) = x % 2 ^ n := by
  induction n with
  | zero => simp [wbits, bv, Nat.mod_one]
  | succ n ih =>
    rw [wbits_succ, bv_snoc, ih, wbits_length, Nat.pow_succ, Nat.mod_mul]
    have : x / 2 ^ n % 2 < 2 := Nat.mod_lt _ (by decide)
    by_cases h : x / 2 ^ n % 2 = 1
    · simp [h]
    · have h0 : x / 2 ^ n % 2 = 0 := by omega
      simp [h0]
/-- The bits of words. -/
def wsbits : List Int → List Bool
  | [] => []
  | x :: t => wbits x.toNat 64 ++ wsbits t
def wsv : List Int → Nat
  | [] => 0
  | x :: t => x.toNat + 2 ^ 64 * wsv t
theorem wsbits_length (l : List Int) : (wsbits l).length = 64 * l.length := by
  induction l with
  | nil => rfl
  | cons x t ih => simp [wsbits, wbits_length, ih]; omega
theorem wsbits_append (a b : List Int) : wsbits (a ++ b) = wsbits a ++ wsbits b := by
  induction a with
  | nil => rfl
  | cons x t ih => simp [wsbits, ih]
def U64s (l : List Int) : Prop := ∀ x ∈ l, 0 ≤ x ∧ x < 18446744073709551616
theorem bv_wsbits (l : List Int) (h : U64s l) : bv (wsbits l) = wsv l := by
  induction l with
  | nil => rfl
  | cons x t ih =>
    have hx := h x (by simp)
    rw [wsbits, bv_append, bv_wbits, wbits_length, ih (fun y hy => h y (by simp [hy])), wsv, Nat.mod_eq_of_lt (by omega)]
theorem bv_shl (a : List Bool) (n : Nat) : bv (List.replicate n false ++ a) = bv a * 2 ^ n := by
  rw [bv_append, bv_false, List.length_replicate, Nat.zero_add, Nat.mul_comm]
theorem bv_mod_succ (a : List Bool) (i : Nat) : bv a % 2 ^ (i + 1) = bv a % 2 ^ i + 2 ^ i * (a.getD i false).toNat := by
  rw [Nat.pow_succ, Nat.mod_mul, bv_getD]
  have : bv a / 2 ^ i % 2 < 2 := Nat.mod_lt _ (by decide)
  by_cases h : bv a / 2 ^ i % 2 = 1
  · simp [h]
  · have h0 : bv a / 2 ^ i % 2 = 0 := by omega
    simp [h0]
theorem bv_mod_len (a : List Bool) (i : Nat) (h : a.length ≤ i) : bv a % 2 ^ i = bv a :=
  Nat.mod_eq_of_lt (Nat.lt_of_lt_of_le (bv_lt a) (Nat.pow_le_pow_right (by decide) h))
/-- -1, 0, 1. -/
def cmpN (x y : Nat) : Int := if x < y then -1 else if y < x then 1 else 0
theorem mx_nat (x y : Nat) : mx (x : Int) (y : Int) = ((max x y : Nat) : Int) := by unfold mx; split <;> omega
end Go.Proofs.Ytfglpaaeipblcaa.Pure
