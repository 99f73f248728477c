/- Sums and differences of rows of words. -/
import Derived.Test.YtfglpaaeipblcaaPNat2
import Derived.Test.YtfglpaaeipblcaaN2
namespace Go.Proofs.Ytfglpaaeipblcaa.Pure
open Go.RowKit Go.Proofs.Ytfglpaaeipblcaa.P Go.Proofs.YtfglpaaeipblcaaW.PrintWords Go.Proofs.YtfglpaaeipblcaaW.PrintLast
theorem AddN_l0_ev {a b : List Int} (ha : W32 a) (hb : W32 b) (hl : max a.length b.length < 900000) :
    ∀ (d i c : Nat) (out : List Int), i + d = max a.length b.length → out.length = i → W32 out → c ≤ 1 → nv out + B i * c = nv a % B i + nv b % B i →
    Ev (fun k => nat_Nat_Add.l0 k a b out (c : Int) ((max a.length b.length : Nat) : Int) (i : Int)) (wd (nv a + nv b)) := by
  intro d
  induction d with
  | zero =>
    intro i c out hi ho hw hc hv
    refine Ev.step (fun k => by rw [nat_Nat_Add.l0]) ?_
    refine Ev.neg (by omega) (Ev.pos (by omega) ?_)
    have h1 := trim_ev (l := out ++ [(c : Int) % 4294967296]) (by rw [List.length_append, List.length_singleton]; omega) (hw.snoc c)
    rw [nv_snoc_mod, ho, Nat.mod_eq_of_lt (a := c) (by omega), hv, nv_mod_len ha i (by omega), nv_mod_len hb i (by omega)] at h1
    exact Ev.bind h1 (Ev.ret rfl)
  | succ d ih =>
    intro i c out hi ho hw hc hv
    have h1 := at_some ha (i : Int) (Int.natCast_nonneg _)
    have h2 := at_some hb (i : Int) (Int.natCast_nonneg _)
    rw [Int.toNat_natCast] at h1 h2
    have m1 := nv_mod_succ (nv a) i
    have m2 := nv_mod_succ (nv b) i
    have l1 := wd1_lt (nv a) i
    have l2 := wd1_lt (nv b) i
    generalize wd1 (nv a) i = x at *
    generalize wd1 (nv b) i = y at *
    have hout : nv (out ++ [((c + (x + y) : Nat) : Int) % 4294967296]) + B (i + 1) * ((c + (x + y)) / 4294967296) = nv a % B (i + 1) + nv b % B (i + 1) := by
      rw [nv_snoc_mod, ho, m1, m2, B_succ]
      clear ih h1 h2 m1 m2 hi ho hw
      generalize B i = p at *
      have hd := Nat.mod_add_div (c + (x + y)) 4294967296
      generalize (c + (x + y)) % 4294967296 = r at *
      generalize (c + (x + y)) / 4294967296 = q at *
      have h3 : p * (r + 4294967296 * q) = p * (c + (x + y)) := by rw [hd]
      rw [Nat.mul_add, Nat.mul_add, Nat.mul_add] at h3
      have h4 : 4294967296 * p * q = p * (4294967296 * q) := by rw [Nat.mul_comm 4294967296 p, Nat.mul_assoc]
      rw [h4]
      generalize p * (4294967296 * q) = z1 at *
      generalize p * r = z2 at *
      generalize p * c = z3 at *
      generalize p * x = z4 at *
      generalize p * y = z5 at *
      omega
    clear hv m1 m2
    have e1 : IntKind.u64.wrap ((x : Int) + (y : Int)) = ((x + y : Nat) : Int) := by rw [u64i] <;> omega
    have e2 : IntKind.u64.wrap ((c : Int) + ((x + y : Nat) : Int)) = ((c + (x + y) : Nat) : Int) := by rw [u64i] <;> omega
    have e3 : (((c + (x + y) : Nat) : Int)) / 4294967296 = (((c + (x + y)) / 4294967296 : Nat) : Int) := by omega
    have e4 : wrap64 ((i : Int) + 1) = ((i + 1 : Nat) : Int) := by rw [w64] <;> omega
    have q1 : (i : Int) < ((max a.length b.length : Nat) : Int) := by omega
    have q2 : out.length < 35184372088832 := by clear e1 e2 e3 e4 h1 h2 l1 l2; omega
    have q3 : i + 1 + d = max a.length b.length := by omega
    have q4 : (c + (x + y)) / 4294967296 ≤ 1 := by omega
    refine Ev.step (fun k => by rw [nat_Nat_Add.l0]) ?_
    refine Ev.pos q1 (Ev.bind0 h1 (Ev.bind0 h2 (Ev.pos q2 ?_)))
    rw [e1, e2, e3, e4]
    exact ih (i + 1) _ _ q3 (by rw [List.length_append, List.length_singleton, ho]) (hw.snoc _) q4 hout
theorem AddN_ev {a b : List Int} (ha : W32 a) (hb : W32 b) (hl : max a.length b.length < 900000) : Ev (fun k => nat_Nat_Add.f k a b) (wd (nv a + nv b)) := by
  have := AddN_l0_ev ha hb hl (max a.length b.length) 0 0 [] (by omega) rfl W32.nil (by omega) (by simp [nv, B_zero, Nat.mod_one])
  unfold nat_Nat_Add.f
  rw [mx_nat]
  exact this

theorem SubN_l0_ev {a b : List Int} (ha : W32 a) (hb : W32 b) (hl : a.length < 900000) (hle : nv b ≤ nv a) :
    ∀ (d i c : Nat) (out : List Int), i + d = a.length → out.length = i → W32 out → c ≤ 1 → nv out + nv b % B i = nv a % B i + B i * c →
    Ev (fun k => nat_Nat_Sub.l0 k a b out (c : Int) (a.length : Int) (i : Int)) (wd (nv a - nv b), true) := by
  intro d
  induction d with
  | zero =>
    intro i c out hi ho hw hc hv
    refine Ev.step (fun k => by rw [nat_Nat_Sub.l0]) ?_
    refine Ev.neg (by clear hv; omega) ?_
    have h1 := trim_ev (l := out) (by clear hv; omega) hw
    have hlt := nv_lt ha
    have hlo := nv_lt hw
    obtain rfl : i = a.length := by clear hv; omega
    rw [Nat.mod_eq_of_lt (a := nv b) (Nat.lt_of_le_of_lt hle hlt), Nat.mod_eq_of_lt hlt] at hv
    rw [ho] at hlo
    have hc0 : c = 0 := by
      rcases Nat.eq_zero_or_pos c with h | h
      · exact h
      · obtain rfl : c = 1 := by clear hv; omega
        rw [Nat.mul_one] at hv
        omega
    subst hc0
    rw [Nat.mul_zero, Nat.add_zero] at hv
    rw [show nv a - nv b = nv out by omega]
    exact Ev.bind h1 (Ev.ret rfl)
  | succ d ih =>
    intro i c out hi ho hw hc hv
    have h1 := at_some ha (i : Int) (Int.natCast_nonneg _)
    have h2 := at_some hb (i : Int) (Int.natCast_nonneg _)
    rw [Int.toNat_natCast] at h1 h2
    have m1 := nv_mod_succ (nv a) i
    have m2 := nv_mod_succ (nv b) i
    have l1 := wd1_lt (nv a) i
    have l2 := wd1_lt (nv b) i
    generalize wd1 (nv a) i = x at *
    generalize wd1 (nv b) i = y at *
    have q1 : (i : Int) < (a.length : Int) := by clear hv; omega
    have q2 : out.length < 35184372088832 := by clear hv; omega
    have q3 : i + 1 + d = a.length := by clear hv; omega
    have e4 : wrap64 ((i : Int) + 1) = ((i + 1 : Nat) : Int) := by clear hv; rw [w64] <;> omega
    obtain ⟨r, q, hr, hq, hr2, hq2, he⟩ := sub_step l1 l2 hc
    refine Ev.step (fun k => by rw [nat_Nat_Sub.l0]) ?_
    refine Ev.pos q1 (Ev.bind0 h1 (Ev.bind0 h2 (Ev.pos q2 ?_)))
    rw [e4, hr, hq]
    refine ih (i + 1) q _ q3 (by rw [List.length_append, List.length_singleton, ho]) (hw.append (W32.cons (Int.natCast_nonneg _) (by omega) W32.nil)) hq2 ?_
    rw [nv_snoc_lt _ _ rfl, ho, m1, m2, B_succ]
    exact sub_alg he hv
theorem SubN_ev {a b : List Int} (ha : W32 a) (hb : W32 b) (hl : max a.length b.length < 900000) : Ev (fun k => nat_Nat_Sub.f k a b) (if nv a < nv b then ([], false) else (wd (nv a - nv b), true)) := by
  unfold nat_Nat_Sub.f
  refine Ev.bind (CmpN_ev ha hb (by omega)) ?_
  by_cases h : nv a < nv b
  · rw [if_pos h]
    exact Ev.pos (cmpN_neg.2 h) (Ev.ret rfl)
  · rw [if_neg h]
    refine Ev.neg (fun h2 => h (cmpN_neg.1 h2)) ?_
    exact SubN_l0_ev ha hb (by omega) (by omega) a.length 0 0 [] (by omega) rfl W32.nil (by omega) (by simp [nv, B_zero, Nat.mod_one])


end Go.Proofs.Ytfglpaaeipblcaa.Pure
