/- Division of a row of words by one word; a row shifted by less than a word. -/
import Derived.Test.YtfglpaaeipblcaaPNat1
import Derived.Test.YtfglpaaeipblcaaN3
namespace Go.Proofs.Ytfglpaaeipblcaa.Pure
open Go.RowKit Go.Proofs.Ytfglpaaeipblcaa.P Go.Proofs.YtfglpaaeipblcaaW.PrintWords Go.Proofs.YtfglpaaeipblcaaW.PrintLast

/-! ### by one word -/
theorem u32i {x : Int} (h0 : 0 ≤ x) (h1 : x < 4294967296) : IntKind.u32.wrap x = x := by
  have e : IntKind.u32.wrap x = x % 4294967296 := by simp [IntKind.wrap, IntKind.bits, IntKind.signed]
  rw [e]
  omega
theorem or_words {r x : Nat} (hr : r < 4294967296) (hx : x < 4294967296) : Go.bits .or .u64 (IntKind.u64.wrap ((r : Int) * 4294967296)) (IntKind.u64.wrap (x : Int)) = ((4294967296 * r + x : Nat) : Int) := by
  have hor : 4294967296 * r ||| x = 4294967296 * r + x := or_join r x 32 (by simpa using hx)
  have e1 : IntKind.u64.wrap ((r : Int) * 4294967296) = ((4294967296 * r : Nat) : Int) := by rw [u64i] <;> omega
  rw [e1, u64i (x := (x : Int)) (by omega) (by omega), or64 _ _ (by omega) (by omega), hor]
theorem short_step {b r x : Nat} (hb : b < 4294967296) (hr : r < b) (hx : x < 4294967296) :
    Int.tmod (Go.bits .or .u64 (IntKind.u64.wrap ((r : Int) * 4294967296)) (IntKind.u64.wrap (x : Int))) (b : Int) = (((4294967296 * r + x) % b : Nat) : Int) ∧
    IntKind.u32.wrap (IntKind.u64.wrap (Int.tdiv (Go.bits .or .u64 (IntKind.u64.wrap ((r : Int) * 4294967296)) (IntKind.u64.wrap (x : Int))) (b : Int))) = (((4294967296 * r + x) / b : Nat) : Int) ∧ (4294967296 * r + x) / b < 4294967296 := by
  have hlt : (4294967296 * r + x) / b < 4294967296 := by
    rw [Nat.div_lt_iff_lt_mul (by omega)]
    have := Nat.mul_le_mul_left 4294967296 (show r + 1 ≤ b by omega)
    omega
  rw [or_words (by omega) hx, Int.tmod_eq_emod_of_nonneg (Int.natCast_nonneg _), Int.tdiv_eq_ediv_of_nonneg (Int.natCast_nonneg _), ← Int.natCast_emod, ← Int.natCast_ediv]
  refine ⟨rfl, ?_, hlt⟩
  generalize (4294967296 * r + x) / b = q at *
  rw [u64i (by omega) (by omega), u32i (by omega) (by omega)]
theorem nv_set0 {l : List Int} {p : Nat} (hp : p < l.length) (h0 : l.getD p 0 = 0) {v : Int} {n : Nat} (hv : v = (n : Int)) : nv (l.set p v) = nv l + B p * n := by
  have := nv_set p hp v
  rw [h0, hv, Int.toNat_natCast, Int.toNat_zero, Nat.mul_zero, Nat.add_zero] at this
  rw [hv]
  exact this
theorem short_alg {A b : Nat} (hb : 0 < b) (x i : Nat) (h : A / B i = 4294967296 * (A / B (i + 1)) + x) : A / B i / b = 4294967296 * (A / B (i + 1) / b) + (4294967296 * (A / B (i + 1) % b) + x) / b ∧ A / B i % b = (4294967296 * (A / B (i + 1) % b) + x) % b := by
  rw [h]
  generalize A / B (i + 1) = Y
  have hd := Nat.div_add_mod Y b
  have e : 4294967296 * Y + x = b * (4294967296 * (Y / b)) + (4294967296 * (Y % b) + x) := by
    have h2 : 4294967296 * (b * (Y / b)) = b * (4294967296 * (Y / b)) := by ac_rfl
    rw [← h2]
    generalize b * (Y / b) = z at *
    omega
  rw [e, Nat.mul_add_div hb, Nat.mul_add_mod]
  exact ⟨rfl, rfl⟩
theorem short_run {l : List Int} (hl : W32 l) {b : Nat} (hb : 0 < b) (hb2 : b < 4294967296) :
    ∀ (m : Nat) (q : List Int), m ≤ l.length → q.length = l.length → W32 q → nv q = B m * (nv l / B m / b) →
    ∃ q2, (List.range m).reverse.foldl (nat_Nat_short.step (b : Int) l) (((nv l / B m % b : Nat) : Int), q) = (((nv l % b : Nat) : Int), q2) ∧ W32 q2 ∧ nv q2 = nv l / b ∧ q2.length = l.length
  | 0, q, _, hq, hw, hv => by
    rw [B_zero, Nat.div_one, Nat.one_mul] at hv
    exact ⟨q, by rw [B_zero, Nat.div_one]; rfl, hw, hv, hq⟩
  | m + 1, q, hm, hq, hw, hv => by
    rw [List.range_succ, List.reverse_append, List.reverse_singleton, List.singleton_append, List.foldl_cons]
    have hlm : m < l.length := by clear hv; omega
    have hqm : m < q.length := by clear hv; omega
    have hx : (l[m]?.getD 0) = ((wd1 (nv l) m : Nat) : Int) := by rw [← nv_getD hl, List.getD_eq_getElem?_getD]
    have hxl := wd1_lt (nv l) m
    have hdiv : nv l / B m = 4294967296 * (nv l / B (m + 1)) + wd1 (nv l) m := by
      unfold wd1
      rw [div_B_succ]
      exact (Nat.div_add_mod _ _).symm
    obtain ⟨a1, a2⟩ := short_alg hb (wd1 (nv l) m) m hdiv
    have hr : nv l / B (m + 1) % b < b := Nat.mod_lt _ hb
    generalize nv l / B (m + 1) % b = r at *
    obtain ⟨s1, s2, s3⟩ := short_step hb2 hr hxl
    have h0 : q.getD m 0 = 0 := by
      rw [nv_getD hw, hv]
      unfold wd1
      rw [B_succ, Nat.mul_comm 4294967296, Nat.mul_assoc, Nat.mul_div_cancel_left _ (B_pos m), Nat.mul_mod_right]
      rfl
    have hst : nat_Nat_short.step (b : Int) l ((r : Int), q) m = (((nv l / B m % b : Nat) : Int), q.set m (((4294967296 * r + wd1 (nv l) m) / b : Nat) : Int)) := by
      unfold nat_Nat_short.step
      rw [hx, s1, s2, ← a2]
    rw [hst]
    refine short_run hl hb hb2 m _ (Nat.le_of_lt hlm) (by rw [List.length_set, hq]) (hw.set _ (Int.natCast_nonneg _) (Int.ofNat_lt.2 s3)) ?_
    rw [nv_set0 hqm h0 rfl, hv, a1, B_succ, Nat.mul_add, Nat.mul_comm 4294967296, Nat.mul_assoc]
theorem shortN_ev {l : List Int} (hl : W32 l) (hn : l.length < 900000) {b : Nat} (hb : 0 < b) (hb2 : b < 4294967296) : Ev (fun k => nat_Nat_short.f k l (b : Int)) (wd (nv l / b), wd (nv l % b)) := by
  unfold nat_Nat_short.f nat_Nat_short.run
  have hz : nv l / B l.length = 0 := Nat.div_eq_of_lt (nv_lt hl)
  obtain ⟨q2, h1, h2, h3, h4⟩ := short_run hl hb hb2 l.length (List.replicate l.length 0) (Nat.le_refl _) (by simp) (W32.replicate _) (by rw [nv_replicate, hz, Nat.zero_div, Nat.mul_zero])
  rw [hz, Nat.zero_mod] at h1
  change List.foldl _ ((0 : Int), _) _ = _ at h1
  rw [h1]
  have t1 := trim_ev (l := q2) (by omega) h2
  rw [h3] at t1
  have hr : nv l % b < b := Nat.mod_lt _ hb
  refine Ev.pos ⟨by omega, by omega, by omega⟩ (Ev.bind t1 (Ev.bind (New_ev (nv l % b) (by omega)) (Ev.ret rfl)))

/-! ### shifted -/
/-- What a word hands to the next one. -/
def over (A s : Nat) : Nat → Nat
  | 0 => 0
  | i + 1 => wd1 A i * 2 ^ s / 4294967296
theorem over_lt (A s i : Nat) : over A s i < 2 ^ s := by
  cases i with
  | zero => exact Nat.two_pow_pos s
  | succ i =>
    unfold over
    rw [Nat.div_lt_iff_lt_mul (by decide), Nat.mul_comm]
    exact Nat.mul_lt_mul_of_pos_left (wd1_lt A i) (Nat.two_pow_pos s)
theorem over_step (A s i : Nat) (hs : s < 32) : (wd1 A i * 2 ^ s + over A s i) / 4294967296 = over A s (i + 1) := by
  have h1 := over_lt A s i
  generalize over A s i = c at *
  show _ = wd1 A i * 2 ^ s / 4294967296
  have hp : (4294967296 : Nat) = 2 ^ s * 2 ^ (32 - s) := by rw [← Nat.pow_add, show s + (32 - s) = 32 by omega]
  rw [hp, ← Nat.div_div_eq_div_mul, ← Nat.div_div_eq_div_mul, Nat.mul_comm (wd1 A i), Nat.mul_add_div (Nat.two_pow_pos s), Nat.div_eq_of_lt h1, Nat.add_zero, Nat.mul_div_cancel_left _ (Nat.two_pow_pos s)]
theorem shifted_word {x c s : Nat} (hx : x < 4294967296) (hs : s < 32) (hc : c < 2 ^ s) : Go.bits .or .u64 (shl .u64 (x : Int) ((s : Nat) : Int)) (c : Int) % 4294967296 = (((x * 2 ^ s + c) % 4294967296 : Nat) : Int) := by
  have hp : 2 ^ s ≤ 2147483648 := by
    have : 2 ^ s ≤ 2 ^ 31 := Nat.pow_le_pow_right (by decide) (by omega)
    simpa using this
  have hxs : x * 2 ^ s + 2 ^ s ≤ 4294967296 * 2 ^ s := by
    have := Nat.mul_le_mul_right (2 ^ s) (show x + 1 ≤ 4294967296 by omega)
    rw [Nat.add_mul, Nat.one_mul] at this
    exact this
  have hor : 2 ^ s * x ||| c = 2 ^ s * x + c := or_join x c s hc
  rw [Nat.mul_comm (2 ^ s) x] at hor
  rw [shl64 _ _ (by omega), Nat.mod_eq_of_lt (by omega), or64 _ _ (by omega) (by omega), hor]
  generalize x * 2 ^ s = y at *
  omega
theorem shifted_l0_ev {a : List Int} (ha : W32 a) {s : Nat} (hs : s < 32) (size : Nat) (hsz : size < 900000) :
    ∀ (d i : Nat) (out : List Int), i + d = size → out.length = size → W32 out → (∀ q, i ≤ q → out.getD q 0 = 0) → nv out + B i * over (nv a) s i = 2 ^ s * (nv a % B i) →
    ∃ r, Ev (fun k => nat_shifted.l0 k a (s : Int) out (size : Int) (i : Int)) r ∧ W32 r ∧ r.length = size ∧ nv r + B size * over (nv a) s size = 2 ^ s * (nv a % B size) := by
  intro d
  induction d with
  | zero =>
    intro i out hi ho hw hz hv
    obtain rfl : i = size := by clear hv hz; omega
    refine ⟨out, ?_, hw, ho, hv⟩
    refine Ev.step (fun k => by rw [nat_shifted.l0]) ?_
    exact Ev.neg (Int.lt_irrefl _) (Ev.ret rfl)
  | succ d ih =>
    intro i out hi ho hw hz hv
    have q1 : (i : Int) < (size : Int) := by clear hv hz; omega
    have q2 : i < out.length := by clear hv hz; omega
    have q3 : i + 1 + d = size := by clear hv hz; omega
    have e2 : wrap64 ((i : Int) + 1) = ((i + 1 : Nat) : Int) := by clear hv hz; rw [w64] <;> omega
    have h1 := at_some ha (i : Int) (Int.natCast_nonneg _)
    rw [Int.toNat_natCast] at h1
    have hx := wd1_lt (nv a) i
    have ho2 := over_step (nv a) s i hs
    have hol := over_lt (nv a) s i
    have hsw := shifted_word hx hs hol
    have hn : nv (out.set i (((wd1 (nv a) i * 2 ^ s + over (nv a) s i) % 4294967296 : Nat) : Int)) + B (i + 1) * over (nv a) s (i + 1) = 2 ^ s * (nv a % B (i + 1)) := by
      rw [nv_set0 q2 (hz i (Nat.le_refl _)) rfl, nv_mod_succ, ← ho2, B_succ]
      generalize wd1 (nv a) i = x at *
      generalize over (nv a) s i = c at *
      clear ih h1 hz hi ho hw hsw hol
      have hd := Nat.mod_add_div (x * 2 ^ s + c) 4294967296
      generalize (x * 2 ^ s + c) % 4294967296 = r at *
      generalize (x * 2 ^ s + c) / 4294967296 = q at *
      have h2 : B i * (r + 4294967296 * q) = B i * (x * 2 ^ s + c) := by rw [hd]
      rw [Nat.mul_add, Nat.mul_add] at h2
      have h4 : 4294967296 * B i * q = B i * (4294967296 * q) := by rw [Nat.mul_comm 4294967296 (B i), Nat.mul_assoc]
      have h5 : 2 ^ s * (nv a % B i + B i * x) = 2 ^ s * (nv a % B i) + B i * (x * 2 ^ s) := by
        rw [Nat.mul_add]
        congr 1
        ac_rfl
      rw [h4, h5]
      clear hd h4 h5 ho2
      generalize B i * (4294967296 * q) = z1 at *
      generalize B i * r = z2 at *
      generalize B i * c = z3 at *
      generalize B i * (x * 2 ^ s) = z4 at *
      generalize 2 ^ s * (nv a % B i) = z5 at *
      omega
    have hz2 : ∀ q, i + 1 ≤ q → (out.set i (((wd1 (nv a) i * 2 ^ s + over (nv a) s i) % 4294967296 : Nat) : Int)).getD q 0 = 0 := by
      intro q hq
      have := hz q (by omega)
      rw [List.getD_eq_getElem?_getD] at this ⊢
      rw [List.getElem?_set_ne (by omega)]
      exact this
    obtain ⟨r, hr1, hr2⟩ := ih (i + 1) _ q3 (by rw [List.length_set, ho]) (hw.set _ (Int.natCast_nonneg _) (Int.ofNat_lt.2 (Nat.mod_lt _ (by decide)))) hz2 hn
    refine ⟨r, ?_, hr2⟩
    refine Ev.step (fun k => by rw [nat_shifted.l0]) ?_
    refine Ev.pos q1 (Ev.bind0 h1 (Ev.pos (Int.natCast_nonneg _) ?_))
    rw [e2, Int.toNat_natCast]
    cases i with
    | zero =>
      refine Ev.neg (by decide) (Ev.pos (by decide) (Ev.pos (by rw [ho]; exact q1) ?_))
      have e : shl .u64 ((wd1 (nv a) 0 : Nat) : Int) (s : Int) % 4294967296 = (((wd1 (nv a) 0 * 2 ^ s + over (nv a) s 0) % 4294967296 : Nat) : Int) := by
        rw [← hsw]
        show _ = Go.bits .or .u64 (shl .u64 ((wd1 (nv a) 0 : Nat) : Int) (s : Int)) ((0 : Nat) : Int) % 4294967296
        rw [shl64 _ _ (by omega), or64 _ _ (Nat.mod_lt _ (by decide)) (by decide), Nat.or_zero]
      rw [e]
      exact hr1
    | succ i =>
      have e5 : wrap64 (((i + 1 : Nat) : Int) - 1) = (i : Int) := by clear hv hz hr1 hn hz2; rw [w64] <;> omega
      have h3 := at_some ha (i : Int) (Int.natCast_nonneg _)
      rw [Int.toNat_natCast] at h3
      refine Ev.pos (by clear hv hz hr1 hn hz2; omega) ?_
      rw [e5]
      refine Ev.bind0 h3 (Ev.pos (Int.natCast_nonneg _) (Ev.pos (by rw [ho]; exact q1) ?_))
      have e6 : shl .u64 ((wd1 (nv a) i : Nat) : Int) (s : Int) / 4294967296 = ((over (nv a) s (i + 1) : Nat) : Int) := by
        have hy := wd1_lt (nv a) i
        have hp : 2 ^ s ≤ 2147483648 := by
          have : 2 ^ s ≤ 2 ^ 31 := Nat.pow_le_pow_right (by decide) (by omega)
          simpa using this
        have hm := Nat.mul_le_mul (Nat.le_of_lt hy) hp
        rw [shl64 _ _ (by omega), Nat.mod_eq_of_lt (by omega)]
        show ((_ : Nat) : Int) / ((4294967296 : Nat) : Int) = _
        rw [← Int.natCast_ediv]
        rfl
      rw [e6, hsw]
      exact hr1
theorem shiftedN_ev {a : List Int} (ha : W32 a) {s : Nat} (hs : s < 32) (size : Nat) (hsz : size < 900000) :
    ∃ r, Ev (fun k => nat_shifted.f k a (s : Int) (size : Int)) r ∧ W32 r ∧ r.length = size ∧ nv r = nv a * 2 ^ s % B size := by
  obtain ⟨r, h1, h2, h3, h4⟩ := shifted_l0_ev ha hs size hsz size 0 (List.replicate size 0) (by omega) (by simp) (W32.replicate _) (fun q _ => by
    rw [List.getD_eq_getElem?_getD, List.getElem?_replicate]; split <;> rfl) (by rw [nv_replicate, B_zero, Nat.mod_one]; simp [over])
  refine ⟨r, ?_, h2, h3, ?_⟩
  · unfold nat_shifted.f
    rw [Int.toNat_natCast]
    refine Ev.pos (by omega) (Ev.pos (by omega) (Ev.bind0 rfl ?_))
    simpa using h1
  · have hlt := nv_lt h2
    rw [h3] at hlt
    have e : nv r = (2 ^ s * (nv a % B size)) % B size := by
      rw [← h4, Nat.add_mul_mod_self_left, Nat.mod_eq_of_lt hlt]
    rw [e, Nat.mul_mod, Nat.mod_mod, ← Nat.mul_mod, Nat.mul_comm]
end Go.Proofs.Ytfglpaaeipblcaa.Pure
