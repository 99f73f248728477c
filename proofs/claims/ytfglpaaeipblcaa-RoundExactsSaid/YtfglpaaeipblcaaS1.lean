/- Rows of bits stand for numbers: what the reference's functions on them compute. -/
import Derived.Test.YtfglpaaeipblcaaPFlyballref011
import Derived.Test.YtfglpaaeipblcaaM0
namespace Go.Proofs.Ytfglpaaeipblcaa.Pure
open Go.RowKit Go.Proofs.Ytfglpaaeipblcaa.P Go.Proofs.YtfglpaaeipblcaaW.PrintWords Go.Proofs.YtfglpaaeipblcaaW.PrintLast

theorem Len_l0_ev (a : List Bool) (ha : a.length < 1099511627776) : ∀ n : Nat, n ≤ a.length → Ev (fun k => flyballref01_Len.l0 k a n) (blen (bv (a.take n)) : Nat)
  | 0, _ => by
    refine Ev.step (fun k => by rw [flyballref01_Len.l0]) ?_
    refine Ev.neg (by simp) (Ev.ret (by simp [bv, blen]))
  | n + 1, h => by
    refine Ev.step (fun k => by rw [flyballref01_Len.l0]) ?_
    have e : wrap64 (((n + 1 : Nat) : Int) - 1) = (n : Nat) := by rw [w64] <;> omega
    rw [e]
    refine Ev.pos (by omega) (Ev.pos (by omega) (Ev.pos (by omega) ?_))
    have hs := bv_take_succ a n (by omega)
    by_cases hb : rdOf false a (n : Int) = true
    · refine Ev.pos hb (Ev.ret ?_)
      unfold rdOf at hb
      rw [Int.toNat_natCast] at hb
      rw [hb] at hs
      simp only [Bool.toNat_true, Nat.mul_one] at hs
      have hlt := bv_lt (a.take n)
      rw [List.length_take, Nat.min_eq_left (by omega)] at hlt
      rw [blen_of (n := bv (a.take (n + 1))) (j := n) (by omega) (by rw [Nat.pow_succ]; omega)]
    · refine Ev.neg hb ?_
      unfold rdOf at hb
      rw [Int.toNat_natCast] at hb
      rw [Bool.eq_false_iff.mpr hb] at hs
      simp only [Bool.toNat_false, Nat.mul_zero, Nat.add_zero] at hs
      rw [hs]
      exact Len_l0_ev a ha n (by omega)
theorem Len_ev (a : List Bool) (ha : a.length < 1099511627776) : Ev (fun k => flyballref01_Len.f k a) (blen (bv a) : Nat) := by
  have := Len_l0_ev a ha a.length (Nat.le_refl _)
  rw [List.take_length] at this
  exact this
theorem bit_some (a : List Bool) (i : Int) (h : 0 ≤ i) : flyballref01_bit.f a i = some (a.getD i.toNat false) := by
  unfold flyballref01_bit.f rdOf
  rw [if_pos (by omega)]
  by_cases hi : i < (a.length : Int)
  · rw [if_pos hi, if_pos h]
  · rw [if_neg hi, List.getD, List.getElem?_eq_none (by omega)]
    rfl
theorem Of_l1_ev (l : List Int) (hl : U64s l) (hn : l.length < 1000000) (i : Nat) (hi : i < l.length) (out : List Bool) (ho : out.length ≤ 64 * i) (r : List Bool)
    (next : Ev (fun k => flyballref01_Of.l0 k l (out ++ wbits (rd l i).toNat 64) (i + 1 : Nat)) r) :
    ∀ d j : Nat, j + d = 64 → Ev (fun k => flyballref01_Of.l1 k l (out ++ wbits (rd l i).toNat j) i j) r
  | 0, j, h => by
    obtain rfl : j = 64 := by omega
    refine Ev.step (fun k => by rw [flyballref01_Of.l1]) ?_
    refine Ev.neg (by omega) ?_
    rw [show wrap64 ((i : Int) + 1) = ((i + 1 : Nat) : Int) by rw [w64] <;> omega]
    exact next
  | d + 1, j, h => by
    refine Ev.step (fun k => by rw [flyballref01_Of.l1]) ?_
    have e1 : IntKind.u64.wrap (j : Int) = (j : Nat) := u64i (by omega) (by omega)
    have e2 : wrap64 ((j : Int) + 1) = ((j + 1 : Nat) : Int) := by rw [w64] <;> omega
    rw [e1, e2]
    refine Ev.pos (by omega) (Ev.pos (by omega) (Ev.pos (by omega) (Ev.pos (by omega) (Ev.pos (by simp [wbits_length]; omega) ?_))))
    have hx : 0 ≤ rd l i ∧ rd l i < 18446744073709551616 := by
      unfold rd
      rw [Int.toNat_natCast, List.getD, List.getElem?_eq_getElem hi]
      exact hl _ (List.getElem_mem hi)
    rw [shr1 _ j hx.1 hx.2 (by omega), List.append_assoc, ← wbits_succ]
    exact Of_l1_ev l hl hn i hi out ho r next d (j + 1) (by omega)
theorem Of_l0_ev (l : List Int) (hl : U64s l) (hn : l.length < 1000000) : ∀ d i : Nat, i + d = l.length → Ev (fun k => flyballref01_Of.l0 k l (wsbits (l.take i)) i) (wsbits l)
  | 0, i, h => by
    refine Ev.step (fun k => by rw [flyballref01_Of.l0]) ?_
    refine Ev.neg (by omega) (Ev.ret ?_)
    rw [List.take_of_length_le (by omega)]
  | d + 1, i, h => by
    refine Ev.step (fun k => by rw [flyballref01_Of.l0]) ?_
    refine Ev.pos (by omega) ?_
    have nx := Of_l0_ev l hl hn d (i + 1) (by omega)
    rw [List.take_succ_eq_append_getElem (by omega : i < l.length), wsbits_append] at nx
    have e : rd l i = l[i]'(by omega) := by
      unfold rd
      rw [Int.toNat_natCast, List.getD, List.getElem?_eq_getElem (by omega)]
      rfl
    simp only [wsbits, List.append_nil] at nx
    rw [← e] at nx
    have := Of_l1_ev l hl hn i (by omega) (wsbits (l.take i)) (by rw [wsbits_length, List.length_take]; omega) _ nx 64 0 (by omega)
    simpa [wbits] using this
theorem Of_ev (l : List Int) (hl : U64s l) (hn : l.length < 1000000) : Ev (fun k => flyballref01_Of.f k l) (wsbits l) := by
  have := Of_l0_ev l hl hn l.length 0 (by omega)
  simpa [wsbits, flyballref01_Of.f] using this
theorem Of1_ev (x : Int) (h0 : 0 ≤ x) (h1 : x < 18446744073709551616) : Ev (fun k => flyballref01_Of.f k [x]) (wbits x.toNat 64) := by
  have := Of_ev [x] (by intro y hy; simp at hy; subst hy; exact ⟨h0, h1⟩) (by simp)
  simpa [wsbits] using this
theorem Shl_l0_ev (a : List Bool) (n : Nat) (h : a.length + n < 1099511627776) : ∀ d i : Nat, i + d = n → Ev (fun k => flyballref01_Shl.l0 k a n (List.replicate i false) i) (List.replicate n false ++ a)
  | 0, i, hi => by
    obtain rfl : i = n := by omega
    refine Ev.step (fun k => by rw [flyballref01_Shl.l0]) ?_
    exact Ev.neg (by omega) (Ev.pos (by simp; omega) (Ev.ret rfl))
  | d + 1, i, hi => by
    refine Ev.step (fun k => by rw [flyballref01_Shl.l0]) ?_
    rw [show wrap64 ((i : Int) + 1) = ((i + 1 : Nat) : Int) by rw [w64] <;> omega]
    refine Ev.pos (by omega) (Ev.pos (by simp; omega) ?_)
    rw [← List.replicate_succ']
    exact Shl_l0_ev a n h d (i + 1) (by omega)
theorem Shl_ev (a : List Bool) (n : Int) (h0 : 0 ≤ n) (h : a.length + n.toNat < 1099511627776) : Ev (fun k => flyballref01_Shl.f k a n) (List.replicate n.toNat false ++ a) := by
  obtain ⟨m, rfl⟩ := Int.eq_ofNat_of_zero_le h0
  exact Shl_l0_ev a m (by simpa using h) m 0 (by omega)
end Go.Proofs.Ytfglpaaeipblcaa.Pure
