/- The reference's bits of a row of words. -/
import Derived.Test.YtfglpaaeipblcaaPFlyballref021
import Derived.Test.YtfglpaaeipblcaaB1
import Derived.Test.YtfglpaaeipblcaaN1
namespace Go.Proofs.Ytfglpaaeipblcaa.Pure
open Go.RowKit Go.Proofs.Ytfglpaaeipblcaa.P Go.Proofs.YtfglpaaeipblcaaW.PrintWords Go.Proofs.YtfglpaaeipblcaaW.PrintLast

theorem u32w (x : Int) : IntKind.u32.wrap x = x % 4294967296 := by simp [IntKind.wrap, IntKind.bits, IntKind.signed]
theorem shr1_32 (x : Int) (n : Nat) (h0 : 0 ≤ x) (h1 : x < 4294967296) (hn : n ≤ 32) : (Go.bits .and .u32 (shr .u32 x (n : Int)) 1 == 1) = decide (x.toNat / 2 ^ n % 2 = 1) := by
  have e : shr .u32 x (n : Int) = ((x.toNat / 2 ^ n : Nat) : Int) := by
    unfold shr
    rw [Int.toNat_natCast, Nat.min_eq_left (by simpa [IntKind.bits] using hn), Int.natCast_ediv, Int.toNat_of_nonneg h0]
    simp
  rw [e]
  have hlt : x.toNat / 2 ^ n < 2 ^ 32 := Nat.lt_of_le_of_lt (Nat.div_le_self _ _) (by omega)
  have := bits_mask .u32 32 (by decide) (fun n h0 h1 => by rw [u32w]; omega) 1 (by decide) ((x.toNat / 2 ^ n : Nat) : Int) (Int.natCast_nonneg _) (by exact_mod_cast hlt)
  simp only [Int.pow_one, Int.reduceSub] at this
  rw [this]
  by_cases hb : x.toNat / 2 ^ n % 2 = 1
  · have h2 : ((x.toNat / 2 ^ n : Nat) : Int) % 2 = 1 := by omega
    rw [decide_eq_true hb]
    exact beq_iff_eq.2 h2
  · have h2 : ¬ ((x.toNat / 2 ^ n : Nat) : Int) % 2 = 1 := by omega
    rw [decide_eq_false hb]
    exact beq_eq_false_iff_ne.2 h2
theorem Bits_l1_ev {l : List Int} (i : Nat) (hi : i < l.length) (hx : 0 ≤ rd l i ∧ rd l i < 4294967296) (hn : i < 1000) {out : List Bool} (ho : out.length = 32 * i) {r : List Bool}
    (next : Ev (fun k => flyballref02_Bits.l0 k l (out ++ wbits (rd l i).toNat 32) (i + 1 : Nat)) r) :
    ∀ d j : Nat, j + d = 32 → Ev (fun k => flyballref02_Bits.l1 k l (out ++ wbits (rd l i).toNat j) i j) r
  | 0, j, h => by
    obtain rfl : j = 32 := by omega
    refine Ev.step (fun k => by rw [flyballref02_Bits.l1]) ?_
    refine Ev.neg (by omega) ?_
    rw [show wrap64 ((i : Int) + 1) = ((i + 1 : Nat) : Int) by rw [w64] <;> omega]
    exact next
  | d + 1, j, h => by
    refine Ev.step (fun k => by rw [flyballref02_Bits.l1]) ?_
    have e1 : IntKind.u64.wrap (j : Int) = (j : Nat) := u64i (by omega) (by omega)
    have e2 : wrap64 ((j : Int) + 1) = ((j + 1 : Nat) : Int) := by rw [w64] <;> omega
    rw [e1, e2]
    refine Ev.pos (by omega) (Ev.pos (by omega) (Ev.pos (by omega) (Ev.pos (by omega) (Ev.pos (by simp [wbits_length]; omega) ?_))))
    rw [shr1_32 _ j hx.1 hx.2 (by omega), List.append_assoc, ← wbits_succ]
    exact Bits_l1_ev i hi hx hn ho next d (j + 1) (by omega)
theorem Bits_l0_ev {l : List Int} (hl : W32 l) (hn : l.length < 1000) : ∀ (d i : Nat) (out : List Bool), i + d = l.length → out.length = 32 * i → bv out = nv (l.take i) →
    ∃ r, Ev (fun k => flyballref02_Bits.l0 k l out (i : Int)) r ∧ bv r = nv l ∧ r.length ≤ 32 * l.length := by
  intro d
  induction d with
  | zero =>
    intro i out hi ho hv
    rw [List.take_of_length_le (by omega)] at hv
    refine ⟨out.take (blen (bv out)), ?_, by rw [bv_take_len, hv], by rw [List.length_take]; omega⟩
    refine Ev.step (fun k => by rw [flyballref02_Bits.l0]) ?_
    exact Ev.neg (by omega) (trimmed (l := out) (f := fun _ t => some t) (by omega) (Ev.ret rfl))
  | succ d ih =>
    intro i out hi ho hv
    have hx : 0 ≤ rd l i ∧ rd l i < 4294967296 := by
      unfold rd
      rw [Int.toNat_natCast, List.getD, List.getElem?_eq_getElem (by omega)]
      exact hl _ (List.getElem_mem _)
    have ht := nv_take_succ hl i (by omega)
    have hg : l.getD i 0 = rd l i := by unfold rd; rw [Int.toNat_natCast]
    rw [hg] at ht
    obtain ⟨r, h1, h2, h3⟩ := ih (i + 1) (out ++ wbits (rd l i).toNat 32) (by omega) (by rw [List.length_append, wbits_length]; omega) (by
      rw [bv_append, bv_wbits, ht, hv, ho, B_two, Nat.mod_eq_of_lt (by omega : (rd l i).toNat < 2 ^ 32)])
    refine ⟨r, ?_, h2, h3⟩
    refine Ev.step (fun k => by rw [flyballref02_Bits.l0]) ?_
    refine Ev.pos (by omega) ?_
    have := Bits_l1_ev i (by omega) hx (by omega) ho h1 32 0 (by omega)
    simpa [wbits] using this
theorem Bits_ev {l : List Int} (hl : W32 l) (hn : l.length < 1000) : ∃ r, Ev (fun k => flyballref02_Bits.f k l) r ∧ bv r = nv l ∧ r.length ≤ 32 * l.length := by
  have := Bits_l0_ev hl hn l.length 0 [] (by omega) rfl (by simp [bv, nv])
  simpa [flyballref02_Bits.f] using this
end Go.Proofs.Ytfglpaaeipblcaa.Pure
