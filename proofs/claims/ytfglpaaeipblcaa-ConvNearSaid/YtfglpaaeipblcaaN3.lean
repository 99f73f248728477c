/- Shifts of rows of words, and a row of at most two words as one number. -/
import Derived.Test.YtfglpaaeipblcaaPNat1
import Derived.Test.YtfglpaaeipblcaaN2
namespace Go.Proofs.Ytfglpaaeipblcaa.Pure
open Go.RowKit Go.Proofs.Ytfglpaaeipblcaa.P Go.Proofs.YtfglpaaeipblcaaW.PrintWords Go.Proofs.YtfglpaaeipblcaaW.PrintLast

theorem tmod32 (n : Nat) : Int.tmod (n : Int) 32 = ((n % 32 : Nat) : Int) := by rw [Int.tmod_eq_emod_of_nonneg (Int.natCast_nonneg _)]; omega
theorem mx0 (n : Int) : mx n 0 = ((n.toNat : Nat) : Int) := by unfold mx; split <;> omega
/-- One word of a shift to the left. -/
theorem shl_step {x c s : Nat} (hx : x < 4294967296) (hs : s < 32) (hc : c < 2 ^ s) : ∃ r q : Nat, Go.bits .or .u64 (c : Int) (shl .u64 (IntKind.u64.wrap (x : Int)) ((s : Nat) : Int)) % 4294967296 = (r : Int) ∧
    Go.bits .or .u64 (c : Int) (shl .u64 (IntKind.u64.wrap (x : Int)) ((s : Nat) : Int)) / 4294967296 = (q : Int) ∧ r < 4294967296 ∧ q < 2 ^ s ∧ r + 4294967296 * q = c + x * 2 ^ s := by
  have hp : 2 ^ s ≤ 2147483648 := by
    have : 2 ^ s ≤ 2 ^ 31 := Nat.pow_le_pow_right (by decide) (by omega)
    simpa using this
  have hxs : x * 2 ^ s + 2 ^ s ≤ 4294967296 * 2 ^ s := by
    have := Nat.mul_le_mul_right (2 ^ s) (show x + 1 ≤ 4294967296 by omega)
    rw [Nat.add_mul, Nat.one_mul] at this
    exact this
  have hor : 2 ^ s * x ||| c = 2 ^ s * x + c := or_join x c s hc
  rw [Nat.mul_comm (2 ^ s) x] at hor
  have e : Go.bits .or .u64 (c : Int) (shl .u64 (IntKind.u64.wrap (x : Int)) ((s : Nat) : Int)) = ((x * 2 ^ s + c : Nat) : Int) := by
    rw [u64i (x := (x : Int)) (by omega) (by omega), shl64 _ _ (by omega), Nat.mod_eq_of_lt (by omega), or64 _ _ (by omega) (by omega), Nat.or_comm, hor]
  rw [e]
  have hq : (x * 2 ^ s + c) / 4294967296 < 2 ^ s := by
    rw [Nat.div_lt_iff_lt_mul (by decide), Nat.mul_comm (2 ^ s) 4294967296]
    omega
  generalize x * 2 ^ s = y at *
  exact ⟨(y + c) % 4294967296, (y + c) / 4294967296, by omega, by omega, by omega, hq, by omega⟩
theorem shl_alg {o p r q c x t V Bi A : Nat} (h : r + 4294967296 * q = c + x * t) (hp : V * Bi = p) (hv : o + p * c = V * t * A) : o + p * r + 4294967296 * p * q = V * t * (A + Bi * x) := by
  have h2 : p * (r + 4294967296 * q) = p * (c + x * t) := by rw [h]
  rw [Nat.mul_add, Nat.mul_add] at h2
  have h4 : 4294967296 * p * q = p * (4294967296 * q) := by rw [Nat.mul_comm 4294967296 p, Nat.mul_assoc]
  have h5 : V * t * (A + Bi * x) = V * t * A + p * (x * t) := by
    rw [Nat.mul_add, ← hp]
    congr 1
    ac_rfl
  rw [h4, h5]
  clear h h4 h5 hp
  generalize p * (4294967296 * q) = z1 at *
  generalize p * r = z2 at *
  generalize p * c = z3 at *
  generalize p * (x * t) = z4 at *
  generalize V * t * A = z6 at *
  omega
theorem ShlN_l0_ev {a : List Int} (ha : W32 a) (n : Nat) (hl : a.length + n / 32 < 900000) :
    ∀ (d i c : Nat) (out : List Int), i + d = a.length → out.length = n / 32 + i → W32 out → c < 2 ^ (n % 32) → nv out + B (n / 32 + i) * c = B (n / 32) * 2 ^ (n % 32) * (nv a % B i) →
    Ev (fun k => nat_Nat_Shl.l0 k (n : Int) out (c : Int) a (a.length : Int) (i : Int)) (wd (nv a * 2 ^ n), 0) := by
  intro d
  induction d with
  | zero =>
    intro i c out hi ho hw hc hv
    have hp : 2 ^ (n % 32) ≤ 2147483648 := by
      have : 2 ^ (n % 32) ≤ 2 ^ 31 := Nat.pow_le_pow_right (by decide) (by omega)
      simpa using this
    have q1 : out.length < 35184372088832 := by clear hv hp hc; omega
    have q2 : i = a.length := by clear hv hp hc; omega
    have h1 := trim_ev (l := out ++ [(c : Int) % 4294967296]) (by rw [List.length_append, List.length_singleton]; clear hv hp hc; omega) (hw.snoc c)
    rw [nv_snoc_mod, ho, Nat.mod_eq_of_lt (a := c) (by clear hv; omega), hv, nv_mod_len ha i (by clear hv hp hc; omega)] at h1
    have e : B (n / 32) * 2 ^ (n % 32) * nv a = nv a * 2 ^ n := by
      rw [B_two, ← Nat.pow_add, Nat.mul_comm]
      congr 2
      exact Nat.div_add_mod n 32
    rw [e] at h1
    refine Ev.step (fun k => by rw [nat_Nat_Shl.l0]) ?_
    exact Ev.neg (by subst q2; exact Int.lt_irrefl _) (Ev.pos q1 (Ev.bind h1 (Ev.ret rfl)))
  | succ d ih =>
    intro i c out hi ho hw hc hv
    have q1 : (i : Int) < (a.length : Int) := by clear hv hc; omega
    have q2 : out.length < 35184372088832 := by clear hv hc; omega
    have q3 : i + 1 + d = a.length := by clear hv hc; omega
    have q4 : out.length + 1 = n / 32 + (i + 1) := by clear hv hc; omega
    have e2 : wrap64 ((i : Int) + 1) = ((i + 1 : Nat) : Int) := by clear hv hc; rw [w64] <;> omega
    have g1 := nv_getD ha i
    have l1 := wd1_lt (nv a) i
    have m1 := nv_mod_succ (nv a) i
    generalize wd1 (nv a) i = x at *
    obtain ⟨r, q, hr, hq, hr2, hq2, he⟩ := shl_step (s := n % 32) l1 (Nat.mod_lt _ (by decide)) hc
    refine Ev.step (fun k => by rw [nat_Nat_Shl.l0]) ?_
    rw [tmod32, rd_nat, g1, e2, hr, hq]
    refine Ev.pos q1 (Ev.pos (Int.natCast_nonneg _) (Ev.pos q1 (Ev.pos (Int.natCast_nonneg _) (Ev.pos q2 ?_))))
    refine ih (i + 1) q _ q3 (by rw [List.length_append, List.length_singleton]; exact q4) (hw.append (W32.cons (Int.natCast_nonneg _) (Int.ofNat_lt.2 hr2) W32.nil)) hq2 ?_
    rw [nv_snoc_lt _ _ rfl, ho, m1, ← Nat.add_assoc, B_succ]
    exact shl_alg he (B_add _ _).symm hv
theorem ShlN_ev {a : List Int} (ha : W32 a) (hl : a.length < 800000) (n : Int) : Ev (fun k => nat_Nat_Shl.f k a n)
    (if nv a = 0 then ([], 0) else if 65536 < blen (nv a) + n.toNat then ([], 20) else (wd (nv a * 2 ^ n.toNat), 0)) := by
  unfold nat_Nat_Shl.f
  have hb : blen (nv a) ≤ 32 * a.length := by
    have := nv_lt ha
    rw [B_two] at this
    exact blen_lt_iff.2 this
  refine Ev.bind (Len_evN (by omega) ha) ?_
  rw [mx0]
  generalize n.toNat = m
  by_cases h0 : nv a = 0
  · rw [if_pos h0]
    refine Ev.pos ?_ (Ev.ret rfl)
    rw [h0]; rfl
  · rw [if_neg h0]
    have h1 : blen (nv a) ≠ 0 := by rw [Ne, blen_eq_zero]; exact h0
    refine Ev.neg (by omega) ?_
    rw [w64 (x := 65536 - ((blen (nv a) : Nat) : Int)) (by omega) (by omega)]
    by_cases hbig : 65536 < blen (nv a) + m
    · rw [if_pos hbig]
      exact Ev.pos (by omega) (Ev.ret rfl)
    · rw [if_neg hbig]
      have e1 : wrap64 ((m : Int) / 32) = ((m / 32 : Nat) : Int) := by rw [w64] <;> omega
      have e2 : wrap64 (((m / 32 : Nat) : Int) + (a.length : Int)) = ((m / 32 + a.length : Nat) : Int) := by rw [w64] <;> omega
      have e3 : wrap64 (((m / 32 + a.length : Nat) : Int) + 1) = ((m / 32 + a.length + 1 : Nat) : Int) := by rw [w64] <;> omega
      rw [e1, e2, e3, Int.toNat_natCast, Int.toNat_natCast]
      refine Ev.neg (by omega) (Ev.pos (by omega) (Ev.pos (by omega) (Ev.pos (by omega) ?_)))
      exact ShlN_l0_ev ha m (by omega) a.length 0 0 _ (by omega) (by simp) (W32.replicate _) (Nat.two_pow_pos _) (by rw [nv_replicate, B_zero, Nat.mod_one, Nat.mul_zero, Nat.mul_zero])

/-! ### Shr -/
theorem shr_word (R i s : Nat) (hs : s < 32) : (wd1 R i + 4294967296 * wd1 R (i + 1)) / 2 ^ s % 4294967296 = wd1 (R / 2 ^ s) i := by
  unfold wd1
  rw [div_B_succ, Nat.div_div_eq_div_mul R (2 ^ s) (B i), Nat.mul_comm (2 ^ s) (B i), ← Nat.div_div_eq_div_mul R (B i) (2 ^ s)]
  generalize R / B i = Y
  have h1 : Y % 4294967296 + 4294967296 * (Y / 4294967296 % 4294967296) = Y % (4294967296 * 4294967296) := (Nat.mod_mul).symm
  rw [h1]
  have hk : 4294967296 * 4294967296 = 2 ^ s * (2 ^ (32 - s) * 4294967296) := by
    rw [← Nat.mul_assoc, ← Nat.pow_add, show s + (32 - s) = 32 by omega]
  rw [hk, Nat.mod_mul_right_div_self, Nat.mod_mod_of_dvd _ (Nat.dvd_mul_left _ _)]
/-- One word of a shift to the right. -/
theorem shr_step {x y s : Nat} (hx : x < 4294967296) (hy : y < 4294967296) (hs : s < 32) : shr .u64 (Go.bits .or .u64 (x : Int) (IntKind.u64.wrap ((y : Int) * 4294967296))) ((s : Nat) : Int) % 4294967296 = (((x + 4294967296 * y) / 2 ^ s % 4294967296 : Nat) : Int) := by
  have hor : 4294967296 * y ||| x = 4294967296 * y + x := or_join y x 32 (by simpa using hx)
  have e1 : IntKind.u64.wrap ((y : Int) * 4294967296) = ((4294967296 * y : Nat) : Int) := by rw [u64i] <;> omega
  rw [e1, or64 _ _ (by omega) (by omega), Nat.or_comm, hor, Nat.add_comm, shr64 _ _ (by omega)]
  omega
theorem ShrN_l0_ev {a : List Int} (ha : W32 a) (n : Nat) (hl : a.length < 900000) :
    ∀ (d i : Nat) (out : List Int), i + d = a.length → out.length = i → W32 out → nv out = nv a / 2 ^ (n % 32) % B i →
    Ev (fun k => nat_Nat_Shr.l0 k (n : Int) a out (a.length : Int) (i : Int)) (wd (nv a / 2 ^ (n % 32))) := by
  intro d
  induction d with
  | zero =>
    intro i out hi ho hw hv
    have h1 := trim_ev (l := out) (by omega) hw
    obtain rfl : i = a.length := by omega
    have hlt : nv a / 2 ^ (n % 32) < B a.length := Nat.lt_of_le_of_lt (Nat.div_le_self _ _) (nv_lt ha)
    rw [hv, Nat.mod_eq_of_lt hlt] at h1
    refine Ev.step (fun k => by rw [nat_Nat_Shr.l0]) ?_
    exact Ev.neg (Int.lt_irrefl _) (Ev.bind h1 (Ev.ret rfl))
  | succ d ih =>
    intro i out hi ho hw hv
    have q1 : (i : Int) < (a.length : Int) := by clear hv; omega
    have q2 : out.length < 35184372088832 := by clear hv; omega
    have q3 : i + 1 + d = a.length := by clear hv; omega
    have e2 : wrap64 ((i : Int) + 1) = ((i + 1 : Nat) : Int) := by clear hv; rw [w64] <;> omega
    have h1 := at_some ha (i : Int) (Int.natCast_nonneg _)
    have h2 := at_some ha ((i + 1 : Nat) : Int) (Int.natCast_nonneg _)
    rw [Int.toNat_natCast] at h1 h2
    have hst := shr_step (wd1_lt (nv a) i) (wd1_lt (nv a) (i + 1)) (Nat.mod_lt n (show 32 > 0 by decide))
    rw [shr_word _ _ _ (Nat.mod_lt n (show 32 > 0 by decide))] at hst
    have hlw := wd1_lt (nv a / 2 ^ (n % 32)) i
    refine Ev.step (fun k => by rw [nat_Nat_Shr.l0]) ?_
    rw [tmod32, e2]
    refine Ev.pos q1 (Ev.bind0 h1 (Ev.bind0 h2 (Ev.pos (Int.natCast_nonneg _) (Ev.pos q2 ?_))))
    rw [hst]
    refine ih (i + 1) _ q3 (by rw [List.length_append, List.length_singleton, ho]) (hw.append (W32.cons (Int.natCast_nonneg _) (Int.ofNat_lt.2 hlw) W32.nil)) ?_
    rw [nv_snoc_lt _ _ rfl, ho, hv, ← nv_mod_succ]
theorem ShrN_ev {a : List Int} (ha : W32 a) (hl : a.length < 900000) (n : Nat) (hn : n < 1000000) : Ev (fun k => nat_Nat_Shr.f k a (n : Int)) (wd (nv a / 2 ^ n)) := by
  unfold nat_Nat_Shr.f
  rw [mx0, Int.toNat_natCast]
  have e1 : wrap64 ((n : Int) / 32) = ((n / 32 : Nat) : Int) := by rw [w64] <;> omega
  rw [e1, Int.toNat_natCast]
  have hsplit : (2 : Nat) ^ n = B (n / 32) * 2 ^ (n % 32) := by
    rw [B_two, ← Nat.pow_add]
    congr 1
    exact (Nat.div_add_mod n 32).symm
  by_cases h : a.length ≤ n / 32
  · refine Ev.pos (by omega) (Ev.ret ?_)
    rw [hsplit, ← Nat.div_div_eq_div_mul, Nat.div_eq_of_lt (Nat.lt_of_lt_of_le (nv_lt ha) (B_mono h)), Nat.zero_div, wd_zero]
  · refine Ev.neg (by omega) (Ev.pos (by omega) (Ev.pos (by omega) ?_))
    have := ShrN_l0_ev (ha.drop (n / 32)) n (by rw [List.length_drop]; omega) (a.drop (n / 32)).length 0 [] (by omega) rfl W32.nil (by rw [B_zero, Nat.mod_one]; rfl)
    rw [nv_drop ha, Nat.div_div_eq_div_mul, ← hsplit] at this
    exact this
end Go.Proofs.Ytfglpaaeipblcaa.Pure
