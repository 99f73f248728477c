/- The program's numbers of 128 bits, and the float of parts. -/
import Derived.Test.YtfglpaaeipblcaaPBits1
import Derived.Test.YtfglpaaeipblcaaPPattern1
import Derived.Test.YtfglpaaeipblcaaPWide1
import Derived.Test.YtfglpaaeipblcaaM0
namespace Go.Proofs.Ytfglpaaeipblcaa.Pure
open Go.RowKit Go.Proofs.Ytfglpaaeipblcaa.P Go.Proofs.YtfglpaaeipblcaaW.PrintWords Go.Proofs.YtfglpaaeipblcaaW.PrintLast

theorem bitLen_blen (n : Nat) (h : n < 18446744073709551616) : Lib.bitLen n = blen n := by
  by_cases h0 : n = 0
  · subst h0; rfl
  · have hb : blen n ≠ 0 := fun e => h0 (blen_eq_zero.1 e)
    have h1 := blen_le n h0
    have h2 := lt_blen n
    generalize hj : blen n - 1 = j at h1
    have hj2 : blen n = j + 1 := by omega
    rw [hj2] at h2 ⊢
    rw [Lib.bitLen_shift j n h1 h]
    have : n / 2 ^ j = 1 := by
      have a : 1 ≤ n / 2 ^ j := (Nat.le_div_iff_mul_le (Nat.two_pow_pos j)).2 (by omega)
      have b : n / 2 ^ j < 2 := (Nat.div_lt_iff_lt_mul (Nat.two_pow_pos j)).2 (by rw [Nat.pow_succ] at h2; omega)
      omega
    rw [this, show Lib.bitLen 1 = 1 from rfl]
theorem blen_hi (m : Nat) (h : 0 < m / 18446744073709551616) : blen m = 64 + blen (m / 18446744073709551616) := by
  have h0 : m / 18446744073709551616 ≠ 0 := by omega
  have hb : blen (m / 18446744073709551616) ≠ 0 := fun e => h0 (blen_eq_zero.1 e)
  have h1 := blen_le _ h0
  have h2 := lt_blen (m / 18446744073709551616)
  generalize hj : blen (m / 18446744073709551616) - 1 = j at h1
  have hj2 : blen (m / 18446744073709551616) = j + 1 := by omega
  rw [hj2] at h2 ⊢
  have p : 2 ^ (64 + j) = 18446744073709551616 * 2 ^ j := by rw [Nat.pow_add]
  have p2 : 2 ^ (64 + j + 1) = 18446744073709551616 * 2 ^ (j + 1) := by rw [Nat.add_assoc, Nat.pow_add]
  rw [show 64 + (j + 1) = (64 + j) + 1 by omega]
  refine blen_of ?_ ?_
  · rw [p]
    have := Nat.mul_le_mul_left 18446744073709551616 h1
    generalize 18446744073709551616 * 2 ^ j = z at *
    omega
  · rw [p2]
    have : m < 18446744073709551616 * (m / 18446744073709551616 + 1) := by omega
    exact Nat.lt_of_lt_of_le this (Nat.mul_le_mul_left _ h2)
theorem ULen (m : Nat) (h : m < 340282366920938463463374607431768211456) : wide_U128_Len.f ((m / 18446744073709551616 : Nat) : Int) ((m % 18446744073709551616 : Nat) : Int) = some ((blen m : Nat) : Int) := by
  unfold wide_U128_Len.f bits_Len64.f
  by_cases h0 : m / 18446744073709551616 = 0
  · rw [if_neg (by omega), if_pos (by omega), Int.toNat_natCast, bitLen_blen _ (by omega)]
    simp only [Option.bind_some]
    rw [show m % 18446744073709551616 = m by omega]
  · have hb : blen (m / 18446744073709551616) ≤ 64 := blen_lt_iff.2 (by omega)
    rw [if_pos (by omega), if_pos (by omega), Int.toNat_natCast, bitLen_blen _ (by omega)]
    simp only [Option.bind_some]
    rw [blen_hi m (by omega), w64 (by omega) (by omega)]
    congr 1
theorem shl64 (x n : Nat) (hn : n ≤ 64) : shl .u64 (x : Int) (n : Int) = ((x * 2 ^ n % 18446744073709551616 : Nat) : Int) := by
  unfold shl
  rw [Int.toNat_natCast, Nat.min_eq_left (by simpa [IntKind.bits] using hn), u64w]
  simp
theorem shr64 (x n : Nat) (hn : n ≤ 64) : shr .u64 (x : Int) (n : Int) = ((x / 2 ^ n : Nat) : Int) := by
  unfold shr
  rw [Int.toNat_natCast, Nat.min_eq_left (by simpa [IntKind.bits] using hn), Int.natCast_ediv]
  simp
theorem or64 (a b : Nat) (ha : a < 18446744073709551616) (hb : b < 18446744073709551616) : Go.bits .or .u64 (a : Int) (b : Int) = ((a ||| b : Nat) : Int) :=
  (bits_nat .u64 64 (by decide) wraps_u64 a b (by simpa using ha) (by simpa using hb)).2
theorem or_join (a b i : Nat) (h : b < 2 ^ i) : 2 ^ i * a ||| b = 2 ^ i * a + b := (Nat.two_pow_add_eq_or_of_lt h a).symm
theorem div_shift (x n : Nat) (hn : n ≤ 64) : x * 2 ^ n / 18446744073709551616 = x / 2 ^ (64 - n) := by
  have p : 18446744073709551616 = 2 ^ (64 - n) * 2 ^ n := by rw [← Nat.pow_add, Nat.sub_add_cancel hn]
  rw [p, Nat.mul_div_mul_right _ _ (Nat.two_pow_pos n)]
theorem Shl_l0_ev128 : ∀ (d n m : Nat), n ≤ d → d < 1000000 → m < 340282366920938463463374607431768211456 →
    Ev (fun k => wide_U128_Shl.l0 k n ((m / 18446744073709551616 : Nat) : Int) ((m % 18446744073709551616 : Nat) : Int))
      (((m * 2 ^ n / 18446744073709551616 % 18446744073709551616 : Nat) : Int), ((m * 2 ^ n % 18446744073709551616 : Nat) : Int)) := by
  intro d
  induction d using Nat.strongRecOn with
  | _ d ih =>
    intro n m hn hd hm
    by_cases h64 : 64 ≤ n
    · have p : 2 ^ n = 18446744073709551616 * 2 ^ (n - 64) := by
        have := Nat.pow_add 2 64 (n - 64)
        rw [show 64 + (n - 64) = n by omega] at this
        exact this
      have key : m * 2 ^ n = 18446744073709551616 * (m * 2 ^ (n - 64)) := by rw [p]; ac_rfl
      have r1 : m * 2 ^ n / 18446744073709551616 = m * 2 ^ (n - 64) := by rw [key, Nat.mul_div_cancel_left _ (by decide)]
      have r2 : m * 2 ^ n % 18446744073709551616 = 0 := by rw [key, Nat.mul_mod_right]
      rw [r1, r2]
      refine Ev.step (fun k => by rw [wide_U128_Shl.l0]) ?_
      refine Ev.pos (by omega) ?_
      by_cases hz : m % 18446744073709551616 = 0
      · refine Ev.pos (by simp [hz]) (Ev.ret ?_)
        have : m * 2 ^ (n - 64) % 18446744073709551616 = 0 := by rw [Nat.mul_mod, hz, Nat.zero_mul, Nat.zero_mod]
        rw [this, hz]
        rfl
      · refine Ev.neg (by simp; omega) ?_
        have e : wrap64 ((n : Int) - 64) = ((n - 64 : Nat) : Int) := by rw [w64] <;> omega
        rw [e]
        have := ih (n - 64) (by omega) (n - 64) ((m % 18446744073709551616) * 18446744073709551616) (Nat.le_refl _) (by omega) (by omega)
        rw [Nat.mul_div_cancel _ (by decide), Nat.mul_mod_left] at this
        have q1 : m % 18446744073709551616 * 18446744073709551616 * 2 ^ (n - 64) / 18446744073709551616 = m % 18446744073709551616 * 2 ^ (n - 64) := by
          rw [Nat.mul_right_comm, Nat.mul_div_cancel _ (by decide)]
        have q2 : m % 18446744073709551616 * 18446744073709551616 * 2 ^ (n - 64) % 18446744073709551616 = 0 := by
          rw [Nat.mul_right_comm, Nat.mul_mod_left]
        rw [q1, q2, Nat.mul_mod, Nat.mod_mod, ← Nat.mul_mod] at this
        simpa using this
    · refine Ev.step (fun k => by rw [wide_U128_Shl.l0]) ?_
      refine Ev.neg (by omega) ?_
      by_cases h0 : n = 0
      · subst h0
        refine Ev.pos (by omega) (Ev.ret ?_)
        rw [Nat.pow_zero, Nat.mul_one, Nat.mod_eq_of_lt (a := m / 18446744073709551616) (by omega)]
      · have e : wrap64 (64 - (n : Int)) = ((64 - n : Nat) : Int) := by rw [w64] <;> omega
        rw [e]
        refine Ev.neg (by omega) (Ev.pos (by omega) (Ev.pos (by omega) (Ev.ret ?_)))
        have hlo : m % 18446744073709551616 < 18446744073709551616 := Nat.mod_lt _ (by decide)
        generalize hhi : m / 18446744073709551616 = hi
        generalize hlo2 : m % 18446744073709551616 = lo at hlo
        have hm2 : m = hi * 18446744073709551616 + lo := by omega
        have hp : 2 ^ (64 - n) * 2 ^ n = 18446744073709551616 := by rw [← Nat.pow_add, Nat.sub_add_cancel (by omega)]
        rw [shl64 _ _ (by omega), shr64 _ _ (by omega), shl64 _ _ (by omega)]
        have hx : hi * 2 ^ n % 18446744073709551616 = 2 ^ n * (hi % 2 ^ (64 - n)) := by
          rw [← hp, Nat.mul_comm hi, Nat.mul_comm (2 ^ (64 - n)), Nat.mul_mod_mul_left]
        have hy : lo / 2 ^ (64 - n) < 2 ^ n := (Nat.div_lt_iff_lt_mul (Nat.two_pow_pos _)).2 (by rw [Nat.mul_comm, hp]; exact hlo)
        rw [or64 _ _ (Nat.mod_lt _ (by decide)) (Nat.lt_of_le_of_lt (Nat.div_le_self _ _) hlo), hx, or_join _ _ _ hy, ← hx]
        have t1 : m * 2 ^ n = hi * 2 ^ n * 18446744073709551616 + lo * 2 ^ n := by rw [hm2, Nat.add_mul]; ac_rfl
        have t2 : m * 2 ^ n / 18446744073709551616 = hi * 2 ^ n + lo / 2 ^ (64 - n) := by
          rw [t1, Nat.mul_comm (hi * 2 ^ n), Nat.mul_add_div (by decide), div_shift lo n (by omega)]
        have t3 : m * 2 ^ n % 18446744073709551616 = lo * 2 ^ n % 18446744073709551616 := by
          rw [t1, Nat.mul_comm (hi * 2 ^ n), Nat.mul_add_mod]
        rw [t2, t3]
        have t4 : (hi * 2 ^ n + lo / 2 ^ (64 - n)) % 18446744073709551616 = hi * 2 ^ n % 18446744073709551616 + lo / 2 ^ (64 - n) := by
          rw [Nat.add_mod, hx]
          have l1 : lo / 2 ^ (64 - n) < 18446744073709551616 := Nat.lt_of_le_of_lt (Nat.div_le_self _ _) hlo
          rw [Nat.mod_eq_of_lt l1]
          refine Nat.mod_eq_of_lt ?_
          have l2 : hi % 2 ^ (64 - n) + 1 ≤ 2 ^ (64 - n) := Nat.mod_lt _ (Nat.two_pow_pos _)
          have l3 := Nat.mul_le_mul_left (2 ^ n) l2
          rw [Nat.mul_add, Nat.mul_one, Nat.mul_comm (2 ^ n) (2 ^ (64 - n)), hp] at l3
          omega
        rw [t4]
theorem UShl (m n : Nat) (hn : n < 1000000) (hm : m < 340282366920938463463374607431768211456) :
    Ev (fun k => wide_U128_Shl.f k ((m / 18446744073709551616 : Nat) : Int) ((m % 18446744073709551616 : Nat) : Int) n)
      (((m * 2 ^ n / 18446744073709551616 % 18446744073709551616 : Nat) : Int), ((m * 2 ^ n % 18446744073709551616 : Nat) : Int)) :=
  Shl_l0_ev128 n n m (Nat.le_refl _) hn hm
theorem mod_pow_succ64 (m n : Nat) (h : 64 ≤ n) : m % 2 ^ n = m % 18446744073709551616 + 18446744073709551616 * (m / 18446744073709551616 % 2 ^ (n - 64)) := by
  have p : 2 ^ n = 18446744073709551616 * 2 ^ (n - 64) := by
    have := Nat.pow_add 2 64 (n - 64)
    rw [show 64 + (n - 64) = n by omega] at this
    exact this
  rw [p, Nat.mod_mul]
theorem Shr_l0_ev128 : ∀ (d n m : Nat) (b : Bool), n ≤ d → d < 1000000 → m < 340282366920938463463374607431768211456 →
    Ev (fun k => wide_U128_Shr.l0 k n b ((m / 18446744073709551616 : Nat) : Int) ((m % 18446744073709551616 : Nat) : Int))
      (((m / 2 ^ n / 18446744073709551616 : Nat) : Int), ((m / 2 ^ n % 18446744073709551616 : Nat) : Int), b || decide (m % 2 ^ n ≠ 0)) := by
  intro d
  induction d using Nat.strongRecOn with
  | _ d ih =>
    intro n m b hn hd hm
    by_cases h64 : 64 ≤ n
    · have p : 2 ^ n = 18446744073709551616 * 2 ^ (n - 64) := by
        have := Nat.pow_add 2 64 (n - 64)
        rw [show 64 + (n - 64) = n by omega] at this
        exact this
      have q : m / 2 ^ n = m / 18446744073709551616 / 2 ^ (n - 64) := by rw [p, Nat.div_div_eq_div_mul]
      have r := mod_pow_succ64 m n h64
      have e : wrap64 ((n : Int) - 64) = ((n - 64 : Nat) : Int) := by rw [w64] <;> omega
      have hrec := fun b => ih (n - 64) (by omega) (n - 64) (m / 18446744073709551616) b (Nat.le_refl _) (by omega) (by omega)
      rw [Nat.div_eq_of_lt (a := m / 18446744073709551616) (b := 18446744073709551616) (by omega), Nat.mod_eq_of_lt (a := m / 18446744073709551616) (by omega)] at hrec
      have hb : (decide (m % 2 ^ n ≠ 0)) = (decide (m % 18446744073709551616 ≠ 0) || decide (m / 18446744073709551616 % 2 ^ (n - 64) ≠ 0)) := by
        rw [r]
        by_cases h1 : m % 18446744073709551616 = 0 <;> by_cases h2 : m / 18446744073709551616 % 2 ^ (n - 64) = 0 <;> simp [h1, h2] <;> omega
      have hne : (((m % 18446744073709551616 : Nat) : Int) != 0) = decide (m % 18446744073709551616 ≠ 0) := by
        by_cases h1 : m % 18446744073709551616 = 0
        · rw [h1]; rfl
        · rw [decide_eq_true h1]
          exact bne_iff_ne.2 (by omega)
      have fin : ∀ b2 : Bool, (b2 || decide (m / 18446744073709551616 % 2 ^ (n - 64) ≠ 0)) = (b || decide (m % 2 ^ n ≠ 0)) →
          Ev (fun k => if (((m / 18446744073709551616 : Nat) : Int) == 0) = true then some ((0 : Int), ((m / 18446744073709551616 : Nat) : Int), b2) else wide_U128_Shr.l0 k (wrap64 ((n : Int) - 64)) b2 0 ((m / 18446744073709551616 : Nat) : Int))
            (((m / 2 ^ n / 18446744073709551616 : Nat) : Int), ((m / 2 ^ n % 18446744073709551616 : Nat) : Int), b || decide (m % 2 ^ n ≠ 0)) := by
        intro b2 hb2
        by_cases hz : m / 18446744073709551616 = 0
        · refine Ev.pos (by simp [hz]) (Ev.ret ?_)
          rw [q, ← hb2, hz]
          simp
        · refine Ev.neg (by simp; omega) ?_
          rw [e, q, ← hb2]
          exact hrec b2
      refine Ev.step (fun k => by rw [wide_U128_Shr.l0]) ?_
      refine Ev.pos (by omega) ?_
      cases b
      · refine Ev.neg (by simp) ?_
        rw [hne]
        exact fin _ (by rw [hb, Bool.false_or])
      · exact Ev.pos rfl (fin _ (by simp))
    · refine Ev.step (fun k => by rw [wide_U128_Shr.l0]) ?_
      refine Ev.neg (by omega) ?_
      by_cases h0 : n = 0
      · subst h0
        refine Ev.pos (by omega) (Ev.ret ?_)
        simp [Nat.mod_one]
      · have e : wrap64 (64 - (n : Int)) = ((64 - n : Nat) : Int) := by rw [w64] <;> omega
        rw [e]
        refine Ev.neg (by omega) (Ev.pos (by omega) (Ev.pos (by omega) ?_))
        have hlo : m % 18446744073709551616 < 18446744073709551616 := Nat.mod_lt _ (by decide)
        generalize hhi : m / 18446744073709551616 = hi
        generalize hlo2 : m % 18446744073709551616 = lo at hlo
        have hm2 : m = hi * 18446744073709551616 + lo := by omega
        have hhb : hi < 18446744073709551616 := by omega
        have hp : 2 ^ (64 - n) * 2 ^ n = 18446744073709551616 := by rw [← Nat.pow_add, Nat.sub_add_cancel (by omega)]
        rw [shr64 _ _ (by omega), shr64 _ _ (by omega), shl64 _ _ (by omega), shl64 _ _ (by omega)]
        have hx : hi * 2 ^ (64 - n) % 18446744073709551616 = 2 ^ (64 - n) * (hi % 2 ^ n) := by
          rw [← hp, Nat.mul_comm hi, Nat.mul_mod_mul_left]
        have hy : lo / 2 ^ n < 2 ^ (64 - n) := (Nat.div_lt_iff_lt_mul (Nat.two_pow_pos _)).2 (by rw [hp]; exact hlo)
        rw [or64 _ _ (Nat.lt_of_le_of_lt (Nat.div_le_self _ _) hlo) (Nat.mod_lt _ (by decide)), hx, Nat.or_comm, or_join _ _ _ hy]
        have t1 : m = 2 ^ n * (2 ^ (64 - n) * hi) + lo := by
          rw [← Nat.mul_assoc, Nat.mul_comm (2 ^ n), hp, hm2, Nat.mul_comm hi]
        have t2 : m / 2 ^ n = 2 ^ (64 - n) * hi + lo / 2 ^ n := by rw [t1, Nat.mul_add_div (Nat.two_pow_pos _)]
        have t3 : m % 2 ^ n = lo % 2 ^ n := by rw [t1, Nat.mul_add_mod]
        have hh : 2 ^ n * (hi / 2 ^ n) + hi % 2 ^ n = hi := Nat.div_add_mod hi (2 ^ n)
        have t4 : 2 ^ (64 - n) * hi = 18446744073709551616 * (hi / 2 ^ n) + 2 ^ (64 - n) * (hi % 2 ^ n) := by
          rw [← hp, Nat.mul_assoc, ← Nat.mul_add, hh]
        have l2 : hi % 2 ^ n + 1 ≤ 2 ^ n := Nat.mod_lt _ (Nat.two_pow_pos _)
        have l3 := Nat.mul_le_mul_left (2 ^ (64 - n)) l2
        rw [Nat.mul_add, Nat.mul_one, hp] at l3
        have t5 : m / 2 ^ n / 18446744073709551616 = hi / 2 ^ n := by
          rw [t2, t4, Nat.add_assoc, Nat.mul_add_div (by decide), Nat.div_eq_of_lt (a := 2 ^ (64 - n) * (hi % 2 ^ n) + lo / 2 ^ n) (by omega), Nat.add_zero]
        have t6 : m / 2 ^ n % 18446744073709551616 = 2 ^ (64 - n) * (hi % 2 ^ n) + lo / 2 ^ n := by
          rw [t2, t4, Nat.add_assoc, Nat.mul_add_mod, Nat.mod_eq_of_lt (by omega)]
        rw [t5, t6, t3]
        have hz : lo * 2 ^ (64 - n) % 18446744073709551616 = 2 ^ (64 - n) * (lo % 2 ^ n) := by
          rw [← hp, Nat.mul_comm lo, Nat.mul_mod_mul_left]
        have hb : ((((lo * 2 ^ (64 - n) % 18446744073709551616 : Nat) : Int)) != 0) = decide (lo % 2 ^ n ≠ 0) := by
          rw [hz]
          by_cases hq : lo % 2 ^ n = 0
          · rw [hq]; rfl
          · rw [decide_eq_true hq]
            refine bne_iff_ne.2 ?_
            have := Nat.mul_pos (Nat.two_pow_pos (64 - n)) (Nat.pos_of_ne_zero hq)
            omega
        cases b
        · refine Ev.neg (by simp) (Ev.ret ?_)
          rw [hb, Bool.false_or]
        · exact Ev.pos rfl (Ev.ret (by simp))
theorem UShr (m n : Nat) (hn : n < 1000000) (hm : m < 340282366920938463463374607431768211456) :
    Ev (fun k => wide_U128_Shr.f k ((m / 18446744073709551616 : Nat) : Int) ((m % 18446744073709551616 : Nat) : Int) n)
      (((m / 2 ^ n / 18446744073709551616 : Nat) : Int), ((m / 2 ^ n % 18446744073709551616 : Nat) : Int), decide (m % 2 ^ n ≠ 0)) := by
  have := Shr_l0_ev128 n n m false (Nat.le_refl _) hn hm
  rw [Bool.false_or] at this
  exact this
theorem MakeP (neg : Bool) (x f : Nat) (hx : x ≤ 2047) (hf : f < 4503599627370496) :
    Ev (fun k => pattern_Make.f k neg x f) (if neg = true then ((4503599627370496 * x + f : Nat) : Int) + 9223372036854775808 else ((4503599627370496 * x + f : Nat) : Int), 0) := by
  unfold pattern_Make.f
  refine Ev.neg (by omega) (Ev.neg (by omega) ?_)
  refine Ev.step (fun k => by rw [pattern_Make.j0]) ?_
  refine Ev.neg (by simp; omega) ?_
  have e1 : IntKind.u64.wrap (x : Int) = (x : Nat) := u64i (by omega) (by omega)
  have e2 : IntKind.u64.wrap ((x : Int) * 4503599627370496) = ((4503599627370496 * x : Nat) : Int) := by rw [u64i] <;> omega
  rw [e1, e2]
  have j1 : 4503599627370496 * x ||| f = 4503599627370496 * x + f := or_join x f 52 (by simpa using hf)
  rw [or64 _ _ (by omega) (by omega), j1]
  cases neg
  · exact Ev.neg (by simp) (Ev.ret (by simp))
  · refine Ev.pos rfl (Ev.ret ?_)
    have j2 : 9223372036854775808 * 1 ||| (4503599627370496 * x + f) = 9223372036854775808 * 1 + (4503599627370496 * x + f) := or_join 1 _ 63 (by simp; omega)
    have o := or64 (4503599627370496 * x + f) 9223372036854775808 (by omega) (by omega)
    rw [Nat.or_comm, show 9223372036854775808 ||| (4503599627370496 * x + f) = 9223372036854775808 + (4503599627370496 * x + f) by simpa using j2] at o
    have o2 : Go.bits .or .u64 ((4503599627370496 * x + f : Nat) : Int) 9223372036854775808 = ((9223372036854775808 + (4503599627370496 * x + f) : Nat) : Int) := o
    rw [o2, if_pos rfl]
    congr 1
    omega
end Go.Proofs.Ytfglpaaeipblcaa.Pure
