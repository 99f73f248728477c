/- slices.Backward at nat.Nat: its value stops where the loop's body says so; else all have come, from the last to the first. -/
import Derived.RangeFuncBox
import Derived.RangeFuncLeaves
import Derived.RangeFuncWrites
import Derived.Shelf.Abstract
import Derived.WalkKit
import Derived.OwnWalkIn
import Derived.TacticsInMore
import Derived.LoopNIn
import Derived.LoopIn
import Derived.Test.YtfglpaaeipblcaaProg
namespace Go.Proofs.Ytfglpaaeipblcaa
open Go.RowKit Go.Shelf
attribute [local go_sem] Oper.semAt_some

/-- What comes: the indices, from the last to the first. -/
def backs (len : Nat) : List (Fin len) := (List.finRange len).reverse
theorem backs_length (len : Nat) : (backs len).length = len := by simp [backs]
theorem backs_succ (len k m : Nat) (h : k + (m + 1) = len) : (backs len).take k ++ [⟨m, by omega⟩] = (backs len).take (k + 1) := by
  rw [List.take_succ_eq_append_getElem (by rw [backs_length]; omega)]
  congr 2
  apply Fin.ext
  simp [backs]
  omega
/-- What a round is handed. -/
def backEnc (zs : List Int) (len : Nat) (i : Fin len) : Array Value := #[.int .i64 ((i.1 : Nat) : Int), .int .u32 (zs[i.1]?.getD 0)]

/-- WHAT A ROUND KEEPS: what lay below n₀, and the box with the slice. -/
def KeepBox (n₀ Bs : Nat) (W W' : World) : Prop := Below n₀ W W' ∧ ∀ v, W.cell? ⟨Bs, 0, none⟩ = some v → W'.cell? ⟨Bs, 0, none⟩ = some v
theorem KeepBox.t {n₀ Bs : Nat} {A B C : World} (h : KeepBox n₀ Bs A B) (k : KeepBox n₀ Bs B C) : KeepBox n₀ Bs A C := ⟨h.1.trans k.1, fun v hv => k.2 v (h.2 v hv)⟩
theorem KeepBox.b {n₀ Bs : Nat} {w : World} (hn : n₀ ≤ w.heap.size) (_ : Bs < w.heap.size) (W : World) (l : Nat) (o o' : Obj) (hl : w.heap.size ≤ l) (h : W.heap[l]? = some o) (hc : o.isCells = false) (hw : o.isWalk = false) : KeepBox n₀ Bs W (W.putObj l o') :=
  ⟨belowK_b hn W l o o' hl h hc hw, fun v hv => cell_kept hv (grownBy_putObj' W l o') (fun r e => by cases e; exact ⟨o, h, hc⟩)⟩

theorem KeepBox.set {n₀ Bs : Nat} (W : World) (p : Addr) (v : Value) (h : n₀ ≤ p.block) (hne : Bs ≠ p.block) : KeepBox n₀ Bs W (W.setCell p v) :=
  ⟨(Below.refl _ W).setCell h v, fun u hu => by
    have e : (W.setCell p v).heap[Bs]? = W.heap[Bs]? := Below.heap_setCell W p v Bs hne
    simp only [World.cell?] at hu ⊢
    rw [e]
    exact hu⟩

set_option maxRecDepth 100000 in
set_option maxHeartbeats 2000000 in
theorem back1_in (F : Fence) (n : Nat) (h114 : F.fn 114) (hro : F.round = none) (hn : 1 ≤ n) (l Bs n₀ : Nat) (A : Option Addr) (len cap : Nat) (zs : List Int) (hlen : len ≤ 9223372036854775807)
    (J Jx : List (Fin len) → World → Prop)
    (hY : ∀ pre x W, J pre W → pre.length < len → YieldAt F (n - 1) Try.prog l (backEnc zs len x) W fun e W' =>
      (e = .returned (.bool true) ∧ J (pre ++ [x]) W' ∧ KeepBox n₀ Bs W W') ∨ (e = .returned (.bool false) ∧ Jx (pre ++ [x]) W'))
    (W : World) (hBs : W.cell? ⟨Bs, 0, none⟩ = some (.slice A len cap)) (hc : ∀ j : Nat, j < len → ∃ ad, A = some ad ∧ ad.block < n₀ ∧ W.cell? (ad.add j) = some (.int .u32 (zs[j]?.getD 0))) (h0 : J [] W) :
    CallsIn F n Try.prog 114 #[.func (.yield l) #[] #[], .pointer (some ⟨Bs, 0, none⟩)] W fun e W' => (∃ v, e = .returned v) ∧
      ((∃ ys, ys = backs len ∧ J ys W') ∨ (∃ pre, (∃ k, k ≤ len ∧ pre = (backs len).take k) ∧ Jx pre W')) := by
  refine callsIn_of_wp Try.func114 rfl h114 ?_ hro
  simp only [Try.ntmps114, List.size_toArray, List.length_cons, List.length_nil, Nat.reduceAdd, Nat.reduceSub, Array.replicate_succ, Array.replicate_zero, List.push_toArray, List.append_toArray, List.nil_append, List.cons_append]
  have e0 : IntKind.i64.wrap ((len : Int) - 1) = (len : Int) - 1 := by rw [IntKind.wrap_i64]; omega
  gi_wp2
  gi_loopw [3] (fun i wr => ∃ k m : Nat, k + m = len ∧ i = .int .i64 ((m : Int) - 1) ∧ J ((backs len).take k) wr ∧ KeepBox n₀ Bs W wr)
    (fun i _ => (intOf i + 1).toNat)
  case atStart => exact ⟨0, len, by omega, by simp, h0, Below.refl _ _, fun _ hv => hv⟩
  case round =>
    obtain ⟨k, m, hkm, rfl, hJs, hnx⟩ := hrel
    have hBs' : wr.cell? ⟨Bs, 0, none⟩ = some (.slice A len cap) := hnx.2 _ hBs
    cases m with
    | zero =>
      gi_wp2
      go_end0
      exact ⟨⟨_, rfl⟩, .inl ⟨_, by rw [show k = len by omega]; exact List.take_of_length_le (Nat.le_of_eq (backs_length len)), hJs⟩⟩
    | succ m =>
      obtain ⟨ad, rfl, hb, hcm⟩ := hc m (by omega)
      have hcx : wr.cell? (ad.add m) = some (.int .u32 (zs[m]?.getD 0)) := (hnx.1.cell (p := ad.add m) (by unfold Addr.add; split <;> exact hb)).trans hcm
      obtain ⟨fn, tmps, assign, body, hy, hR⟩ := hY _ ⟨m, by omega⟩ wr hJs (by rw [List.length_take, backs_length]; omega)
      dsimp only [backEnc] at hy
      have em : ((m + 1 : Nat) : Int) - 1 = (m : Int) := by omega
      rw [em]
      have hm0 : (0 : Int) ≤ (m : Int) := by omega
      have hm1 : (m : Int) < (len : Int) := by omega
      gi_wp2
      have hbk := backs_succ len k m hkm
      rw [hbk] at hR
      refine hR.mono ?_
      rintro e W3 (⟨rfl, hJ3, hk3⟩ | ⟨rfl, hJx3⟩)
      · have e3 : IntKind.i64.wrap ((m : Int) - 1) = (m : Int) - 1 := by rw [IntKind.wrap_i64]; omega
        gi_wp2
        go_roundw
        case rel => exact ⟨k + 1, m, by omega, by simp, hJ3, hnx.t hk3⟩
        case measure => simp [intOf]
      · gi_wp2
        refine bodyPost_ret (results_none rfl _ _ _) rfl ?_
        exact ⟨⟨_, rfl⟩, .inr ⟨_, ⟨k + 1, by omega, rfl⟩, hJx3⟩⟩

set_option maxHeartbeats 1000000 in
/-- **slices.Backward(s)**: the slice value is boxed; the function value captures the box. -/
theorem back_in (F : Fence) (n : Nat) (h112 : F.fn 112) (hro : F.round = none) (a : Option Addr) (len cap : Nat) (w : World) :
    CallsIn F n Try.prog 112 #[.slice a len cap] w fun e w' => e = .returned (.func (.func 114) #[] #[.pointer (some ⟨w.heap.size, 0, none⟩)]) ∧ w' = w.alloc (.cells #[.slice a len cap] 48) := by
  refine callsIn_of_wp Try.func112 rfl h112 ?_ hro
  simp only [Try.ntmps112, List.size_toArray, List.length_cons, List.length_nil, Nat.reduceAdd, Nat.reduceSub, Array.replicate_succ, Array.replicate_zero, List.push_toArray, List.append_toArray, List.nil_append, List.cons_append]
  gi_wp2
  go_ret
  exact ⟨rfl, rfl⟩

theorem back_stops (F : Fence) (n : Nat) (h114 : F.fn 114) (hro : F.round = none) (hn : 1 ≤ n) (Bs n₀ : Nat) (A : Option Addr) (len cap : Nat) (zs : List Int) (hlen : len ≤ 9223372036854775807) (w : World) (hBs : Bs < w.heap.size) (hn₀ : n₀ ≤ w.heap.size)
    (hb : w.cell? ⟨Bs, 0, none⟩ = some (.slice A len cap)) (hc : ∀ j : Nat, j < len → ∃ ad, A = some ad ∧ ad.block < n₀ ∧ w.cell? (ad.add j) = some (.int .u32 (zs[j]?.getD 0))) :
    SeqStopsK F n Try.prog 114 #[.pointer (some ⟨Bs, 0, none⟩)] (backEnc zs len) (KeepBox n₀ Bs) (fun ys => ys = backs len)
      (fun pre => ∃ k, k ≤ len ∧ pre = (backs len).take k) len w := fun l J Jx W hW _ _ hY h0 => by
  have hb' := (hW.cell (p := ⟨Bs, 0, none⟩) hBs).trans hb
  refine back1_in F n h114 hro hn l Bs n₀ A len cap zs hlen J Jx hY W hb' (fun j hj => ?_) h0
  obtain ⟨ad, e, h1, h2⟩ := hc j hj
  refine ⟨ad, e, h1, (hW.cell (p := ad.add j) ?_).trans h2⟩
  have : (ad.add j).block = ad.block := by unfold Addr.add; split <;> rfl
  rw [this]
  omega
end Go.Proofs.Ytfglpaaeipblcaa
