/- A quotient of rows of words, and what is left; the greatest common divisor. -/
import Derived.Test.YtfglpaaeipblcaaPBits1
import Derived.Test.YtfglpaaeipblcaaPNat2
import Derived.Test.YtfglpaaeipblcaaPSlices1
import Derived.Test.YtfglpaaeipblcaaN6
namespace Go.Proofs.Ytfglpaaeipblcaa.Pure
open Go.RowKit Go.Proofs.Ytfglpaaeipblcaa.P Go.Proofs.YtfglpaaeipblcaaW.PrintWords Go.Proofs.YtfglpaaeipblcaaW.PrintLast

theorem div_alg {M Ni D dig rem Bi lo nm2 V nq : Nat} (hM : M = Bi * Ni + lo) (hN : Ni = D * dig + rem) (hn : nm2 = lo + Bi * rem) (hV : V = D * nq + M) : V = D * (nq + Bi * dig) + nm2 := by
  rw [hV, hM, hn, hN, Nat.mul_add, Nat.mul_add]
  have e : Bi * (D * dig) = D * (Bi * dig) := by ac_rfl
  rw [e]
  generalize D * nq = z1
  generalize D * (Bi * dig) = z2
  generalize Bi * rem = z3
  omega
theorem rem_lt {lo Bi rem D : Nat} (hlo : lo < Bi) (hr : rem < D) : lo + Bi * rem < Bi * D := by
  have h := Nat.mul_le_mul_left Bi (show rem + 1 ≤ D from hr)
  rw [Nat.mul_add, Nat.mul_one] at h
  omega
theorem Div_l0_ev {den : List Int} (hD : W32 den) {n m s V : Nat} (hn : 2 ≤ n) (hdl : den.length = n) (hsz : m + n < 400000) (hs : s < 32) (hnorm : B n ≤ 2 * nv den) :
    ∀ (i : Nat) (num q : List Int), i ≤ m + 1 → W32 num → num.length = m + n + 1 → W32 q → q.length = m + 1 → (∀ j, j < i → q.getD j 0 = 0) → V = nv den * nv q + nv num → nv num < B i * nv den →
    Ev (fun k => nat_Nat_Div.l0 k (s : Int) num den q ((i : Int) - 1)) (wd (V / nv den), wd (V % nv den / 2 ^ s), 0) := by
  have hDpos : 0 < nv den := by have := B_pos n; omega
  intro i
  induction i with
  | zero =>
    intro num q hi hw hl hq hql hz hV hlt
    rw [B_zero, Nat.one_mul] at hlt
    have e1 : V / nv den = nv q := by rw [hV, Nat.mul_add_div hDpos, Nat.div_eq_of_lt hlt, Nat.add_zero]
    have e2 : V % nv den = nv num := by rw [hV, Nat.mul_add_mod, Nat.mod_eq_of_lt hlt]
    have h1 := trim_ev (l := q) (by rw [hql]; clear hV hlt; omega) hq
    have h2 := ShrN_ev hw (by rw [hl]; clear hV hlt; omega) s (by clear hV hlt; omega)
    rw [e1, e2]
    refine Ev.step (fun k => by rw [nat_Nat_Div.l0]) ?_
    exact Ev.neg (by decide) (Ev.bind h1 (Ev.bind h2 (Ev.ret rfl)))
  | succ i ih =>
    intro num q hi hw hl hq hql hz hV hlt
    have hDn := nv_lt hD
    rw [hdl] at hDn
    have hbig : nv num < B (i + (n + 1)) := by
      refine Nat.lt_of_lt_of_le hlt ?_
      rw [show i + (n + 1) = i + 1 + n by omega, B_add (i + 1) n]
      exact Nat.mul_le_mul_left _ (Nat.le_of_lt hDn)
    have hfit : i + (n + 1) ≤ num.length := by rw [hl]; clear hV hlt hbig; omega
    have hcut : nv ((num.drop i).take (n + 1)) = nv num / B i := by
      rw [nv_take (hw.drop i), nv_drop hw]
      refine Nat.mod_eq_of_lt ?_
      rw [Nat.div_lt_iff_lt_mul (B_pos i), Nat.mul_comm, ← B_add]
      exact hbig
    have hcl : ((num.drop i).take (n + 1)).length = n + 1 := by rw [List.length_take, List.length_drop]; clear hV hlt hbig; omega
    have hNi : nv num / B i < 4294967296 * nv den := by
      rw [Nat.div_lt_iff_lt_mul (B_pos i)]
      rw [B_succ] at hlt
      have e : 4294967296 * nv den * B i = 4294967296 * B i * nv den := by ac_rfl
      rw [e]
      exact hlt
    obtain ⟨x2, h1, h2, h3, h4⟩ := step_ev ((hw.drop i).take (n + 1)) hD hn hdl hcl (by clear hV hlt hbig hNi; omega) hnorm (by rw [hcut]; exact hNi)
    rw [hcut] at h1 h4
    have hdig : nv num / B i / nv den < 4294967296 := by rw [Nat.div_lt_iff_lt_mul hDpos]; exact hNi
    have hzero : nv (num.drop (i + (n + 1))) = 0 := by rw [nv_drop hw, Nat.div_eq_of_lt hbig]
    have hnew : nv (num.take i ++ x2 ++ num.drop (i + (n + 1))) = nv num % B i + B i * (nv num / B i % nv den) := by
      rw [List.append_assoc, nv_append, nv_append, hzero, Nat.mul_zero, Nat.add_zero, h4, List.length_take, Nat.min_eq_left (by clear hV hlt hbig hNi; omega), nv_take hw]
    have q0 : i < q.length := by rw [hql]; clear hV hlt hbig hNi; omega
    have hqs : nv (q.set i ((nv num / B i / nv den : Nat) : Int)) = nv q + B i * (nv num / B i / nv den) := nv_set0 q0 (hz i (Nat.lt_succ_self i)) rfl
    have hV2 : V = nv den * nv (q.set i ((nv num / B i / nv den : Nat) : Int)) + nv (num.take i ++ x2 ++ num.drop (i + (n + 1))) := by
      rw [hqs]
      exact div_alg (Nat.div_add_mod _ _).symm (Nat.div_add_mod _ _).symm hnew hV
    have hlt2 : nv (num.take i ++ x2 ++ num.drop (i + (n + 1))) < B i * nv den := by
      rw [hnew]
      exact rem_lt (Nat.mod_lt _ (B_pos i)) (Nat.mod_lt _ hDpos)
    have hrec := ih (num.take i ++ x2 ++ num.drop (i + (n + 1))) (q.set i ((nv num / B i / nv den : Nat) : Int)) (by clear hV hlt hbig hNi hV2 hlt2; omega) (((hw.take i).append h2).append (hw.drop _))
      (by rw [List.length_append, List.length_append, List.length_take, List.length_drop, h3, hl]; clear hV hlt hbig hNi hV2 hlt2; omega) (hq.set _ (Int.natCast_nonneg _) (Int.ofNat_lt.2 hdig)) (by rw [List.length_set, hql])
      (by
        intro j hj
        have := hz j (Nat.lt_succ_of_lt hj)
        rw [List.getD_eq_getElem?_getD] at this ⊢
        rw [List.getElem?_set_ne (by clear hV hlt hbig hNi hV2 hlt2; omega)]
        exact this) hV2 hlt2
    have e0 : (((i + 1 : Nat) : Int) - 1) = (i : Int) := by clear hV hlt hbig hNi hV2 hlt2; omega
    have e1 : wrap64 ((i : Int) - 1) = (i : Int) - 1 := by clear hV hlt hbig hNi hV2 hlt2; rw [w64] <;> omega
    rw [e0]
    refine Ev.step (fun k => by rw [nat_Nat_Div.l0]) ?_
    rw [Int.toNat_natCast, hdl, e1]
    refine Ev.pos (Int.natCast_nonneg _) (Ev.pos hfit (Ev.bind h1 (Ev.pos (Int.natCast_nonneg _) (Ev.pos (Int.ofNat_lt.2 q0) ?_))))
    exact hrec

theorem blen_mono {a b : Nat} (h : a ≤ b) : blen a ≤ blen b := blen_lt_iff.2 (Nat.lt_of_le_of_lt h (lt_blen b))
/-- A number's first word. -/
theorem blen_top {n : Nat} (h0 : n ≠ 0) : blen (wd1 n ((wd n).length - 1)) = blen n - 32 * ((wd n).length - 1) ∧ 0 < (wd n).length ∧ 32 * ((wd n).length - 1) < blen n ∧ blen n ≤ 32 * (wd n).length := by
  have hlen := wd_length n
  have hb0 : blen n ≠ 0 := by rw [Ne, blen_eq_zero]; exact h0
  have hpos : 0 < (wd n).length := by omega
  have h1 := lt_blen n
  have h2 := blen_le n h0
  generalize (wd n).length = L at *
  have hlo : 32 * (L - 1) < blen n := by omega
  have hhi : blen n ≤ 32 * L := by omega
  refine ⟨?_, hpos, hlo, hhi⟩
  have hd : n / B (L - 1) < 4294967296 := by
    rw [Nat.div_lt_iff_lt_mul (B_pos _), ← B_succ, show L - 1 + 1 = L by omega, B_two]
    exact Nat.lt_of_lt_of_le h1 (Nat.pow_le_pow_right (by decide) hhi)
  have hw1 : wd1 n (L - 1) = n / 2 ^ (32 * (L - 1)) := by
    unfold wd1
    rw [Nat.mod_eq_of_lt hd, B_two]
  rw [hw1]
  have e : blen (n / 2 ^ (32 * (L - 1))) = (blen n - 32 * (L - 1) - 1) + 1 := by
    refine blen_of ?_ ?_
    · rw [Nat.le_div_iff_mul_le (Nat.two_pow_pos _), ← Nat.pow_add]
      rwa [show blen n - 32 * (L - 1) - 1 + 32 * (L - 1) = blen n - 1 by omega]
    · rw [Nat.div_lt_iff_lt_mul (Nat.two_pow_pos _), ← Nat.pow_add]
      rwa [show blen n - 32 * (L - 1) - 1 + 1 + 32 * (L - 1) = blen n by omega]
  omega
theorem clone_some {l : List Int} (h : l.length < 900000) : nat_Nat_uint32_96.f l = some l := by
  unfold nat_Nat_uint32_96.f
  rw [if_pos (by omega)]
theorem wd_len_le {l : List Int} (hl : W32 l) : (wd (nv l)).length ≤ l.length := by
  rw [wd_length]
  have := nv_lt hl
  rw [B_two] at this
  have := blen_lt_iff.2 this
  omega
theorem div_facts {n LA s bl : Nat} (hn2 : 2 ≤ n) (hs : s = 32 * n - bl) (h3 : 32 * (n - 1) < bl) (h4 : bl ≤ 32 * n) (hlen : n ≤ LA) (hLA : LA < 190000) :
    bl + s = 32 * n ∧ bl - 1 + s + 1 = 32 * n ∧ LA - n + 1 + (n - 1) = LA ∧ 32 * (n - 1) ≤ bl - 1 ∧ LA - n + n < 400000 ∧ LA + 1 = LA - n + n + 1 ∧ LA - n + 1 ≤ 70368744177664 ∧ LA + 1 < 900000 ∧ n < 900000 := by omega
theorem div_wraps {n LA : Nat} (hlen : n ≤ LA) (hLA : LA < 190000) : wrap64 ((LA : Int) - (n : Int)) = ((LA - n : Nat) : Int) ∧ wrap64 (((LA - n : Nat) : Int) + 1) = ((LA - n + 1 : Nat) : Int) ∧ wrap64 (((LA - n + 1 : Nat) : Int) - 1) = (((LA - n + 1 : Nat) : Int) - 1) := by
  refine ⟨?_, ?_, ?_⟩
  · rw [w64] <;> omega
  · rw [w64] <;> omega
  · rw [w64] <;> omega
theorem DivN_ev {a b : List Int} (ha : W32 a) (hb : W32 b) (hl : a.length < 190000) (hl2 : b.length < 190000) :
    Ev (fun k => nat_Nat_Div.f k a b) (if nv b = 0 then ([], [], 21) else (wd (nv a / nv b), wd (nv a % nv b), 0)) := by
  unfold nat_Nat_Div.f
  have la := wd_len_le ha
  have lb := wd_len_le hb
  refine Ev.bind (trim_ev (by omega) ha) (Ev.bind (trim_ev (by omega) hb) ?_)
  generalize nv a = A at *
  generalize nv b = D at *
  by_cases h0 : D = 0
  · subst h0
    rw [if_pos rfl]
    exact Ev.pos (by rw [wd_zero]; rfl) (Ev.ret rfl)
  rw [if_neg h0]
  obtain ⟨bt1, bt2, bt3, bt4⟩ := blen_top h0
  refine Ev.neg (by omega) ?_
  have hc := CmpN_ev (W32_wd A) (W32_wd D) (by omega)
  rw [nv_wd, nv_wd] at hc
  refine Ev.bind hc ?_
  by_cases hlt : A < D
  · refine Ev.pos (cmpN_neg.2 hlt) (Ev.bind0 (clone_some (by omega)) (Ev.ret ?_))
    rw [Nat.div_eq_of_lt hlt, Nat.mod_eq_of_lt hlt, wd_zero]
  refine Ev.neg (fun h => hlt (cmpN_neg.1 h)) ?_
  by_cases h1 : (wd D).length = 1
  · refine Ev.pos (by omega) (Ev.pos (by omega) ?_)
    have hD : D < 4294967296 := by
      have := nv_lt (W32_wd D)
      rw [nv_wd, h1] at this
      simpa [B] using this
    have e : rd (wd D) 0 = (D : Int) := by
      have := rd_nat (wd D) 0
      rw [nv_getD (W32_wd D), nv_wd] at this
      unfold wd1 at this
      rw [B_zero, Nat.div_one, Nat.mod_eq_of_lt hD] at this
      exact this
    rw [e]
    have := shortN_ev (W32_wd A) (by omega) (b := D) (by omega) hD
    rw [nv_wd] at this
    exact Ev.bind this (Ev.ret rfl)
  refine Ev.neg (by omega) ?_
  generalize hn : (wd D).length = n at *
  have hn2 : 2 ≤ n := by omega
  have e1 : wrap64 ((n : Int) - 1) = ((n - 1 : Nat) : Int) := by rw [w64] <;> omega
  rw [e1, rd_nat]
  have hx := wd1_lt D (n - 1)
  have gx := nv_getD (W32_wd D) (n - 1)
  rw [nv_wd] at gx
  rw [gx]
  refine Ev.pos (Int.natCast_nonneg _) (Ev.pos (by omega) ?_)
  obtain ⟨s, hs⟩ : ∃ s, s = 32 * n - blen D := ⟨_, rfl⟩
  have hs32 : s < 32 := by omega
  refine Ev.bind0 (a := (s : Int)) ?_ ?_
  · unfold bits_LeadingZeros32.f bits_Len32.f
    rw [if_pos (by omega), Int.toNat_natCast, bitLen_blen _ (by omega), bt1]
    simp only [Option.bind_some]
    rw [w64 (by omega) (by omega)]
    congr 1
    omega
  have hlenA : n ≤ (wd A).length := by
    have h := blen_mono (Nat.le_of_not_lt hlt)
    rw [wd_length] at hn ⊢
    omega
  generalize hm : (wd A).length = LA at *
  have e2 : wrap64 ((LA : Int) + 1) = ((LA + 1 : Nat) : Int) := by rw [w64] <;> omega
  have hAl : A < B LA := by have := nv_lt (W32_wd A); rwa [nv_wd, hm] at this
  have hp32 : (2 : Nat) ^ s ≤ 4294967296 := by
    have : (2 : Nat) ^ s ≤ 2 ^ 32 := Nat.pow_le_pow_right (by decide) (Nat.le_of_lt hs32)
    simpa using this
  have hb1 := lt_blen D
  have hb2 := blen_le D h0
  obtain ⟨x1, x2, x3, x4, x5, x6, x7, x8, x9⟩ := div_facts hn2 hs bt3 bt4 hlenA (Nat.lt_of_le_of_lt la hl)
  obtain ⟨e3, e4, e5⟩ := div_wraps hlenA (Nat.lt_of_le_of_lt la hl)
  obtain ⟨num, n1, n2, n3, n4⟩ := shiftedN_ev (W32_wd A) hs32 (LA + 1) x8
  obtain ⟨den, d1, d2, d3, d4⟩ := shiftedN_ev (W32_wd D) hs32 n x9
  rw [nv_wd] at n4 d4
  have hnum : nv num = A * 2 ^ s := by
    rw [n4]
    refine Nat.mod_eq_of_lt ?_
    rw [B_succ, Nat.mul_comm 4294967296]
    exact Nat.lt_of_lt_of_le (Nat.mul_lt_mul_of_pos_right hAl (Nat.two_pow_pos s)) (Nat.mul_le_mul_left _ hp32)
  have hden : nv den = D * 2 ^ s := by
    rw [d4]
    refine Nat.mod_eq_of_lt ?_
    have e : B n = 2 ^ blen D * 2 ^ s := by rw [B_two, ← Nat.pow_add, x1]
    rw [e]
    exact Nat.mul_lt_mul_of_pos_right hb1 (Nat.two_pow_pos s)
  have hnorm : B n ≤ 2 * nv den := by
    have e : B n = 2 * (2 ^ (blen D - 1) * 2 ^ s) := by
      rw [B_two, ← Nat.pow_add, ← Nat.pow_succ', Nat.succ_eq_add_one, x2]
    rw [e, hden]
    exact Nat.mul_le_mul_left 2 (Nat.mul_le_mul_right _ hb2)
  rw [e2]
  refine Ev.bind n1 (Ev.bind d1 ?_)
  rw [e3, e4, Int.toNat_natCast]
  refine Ev.pos (Int.natCast_nonneg _) (Ev.pos x7 (Ev.bind0 rfl ?_))
  rw [List.length_replicate, e5]
  have fin := Div_l0_ev d2 (n := n) (m := LA - n) (s := s) (V := A * 2 ^ s) hn2 d3 x5 hs32 hnorm (LA - n + 1) num (List.replicate (LA - n + 1) 0) (Nat.le_refl _) n2 (n3.trans x6) (W32.replicate _) (by rw [List.length_replicate])
    (fun j _ => by rw [List.getD_eq_getElem?_getD, List.getElem?_replicate]; split <;> rfl) (by rw [nv_replicate, Nat.mul_zero, Nat.zero_add, hnum]) (by
      rw [hnum, hden, ← Nat.mul_assoc]
      refine Nat.mul_lt_mul_of_pos_right ?_ (Nat.two_pow_pos s)
      refine Nat.lt_of_lt_of_le hAl ?_
      have e : B LA = B (LA - n + 1) * B (n - 1) := by rw [← B_add, x3]
      rw [e]
      refine Nat.mul_le_mul_left _ ?_
      rw [B_two]
      exact Nat.le_trans (Nat.pow_le_pow_right (by decide) x4) hb2)
  rw [hden, Nat.mul_div_mul_right _ _ (Nat.two_pow_pos s), Nat.mul_mod_mul_right, Nat.mul_div_cancel _ (Nat.two_pow_pos s)] at fin
  exact fin

/-! ### Gcd -/
theorem wd_len_B {n k : Nat} (h : n < B k) : (wd n).length ≤ k := wd_length_le (by rw [← B_two]; exact h)
theorem GcdN_l0_ev : ∀ (m A D : Nat), D ≤ m → A < B 187500 → D < B 187500 → Ev (fun k => nat_Nat_Gcd.l0 k (wd A) (wd D)) (wd (Nat.gcd A D)) := by
  intro m
  induction m using Nat.strongRecOn with
  | _ m ih =>
    intro A D hm hA hD
    refine Ev.step (fun k => by rw [nat_Nat_Gcd.l0]) ?_
    by_cases h0 : D = 0
    · subst h0
      refine Ev.neg (by rw [wd_zero]; decide) (Ev.ret ?_)
      rw [Nat.gcd_zero_right]
    · have hpos : 0 < (wd D).length := List.length_pos_iff.2 (fun h => h0 (wd_nil.1 h))
      have l1 := wd_len_B hA
      have l2 := wd_len_B hD
      have hd := DivN_ev (W32_wd A) (W32_wd D) (by omega) (by omega)
      rw [nv_wd, nv_wd, if_neg h0] at hd
      refine Ev.pos (by omega) (Ev.bind hd ?_)
      have hlt : A % D < D := Nat.mod_lt _ (by omega)
      have := ih (A % D) (by omega) D (A % D) (Nat.le_refl _) hD (Nat.lt_trans hlt hD)
      rw [Nat.gcd_comm A D, Nat.gcd_rec D A, Nat.gcd_comm]
      exact this
theorem GcdN_ev {a b : List Int} (ha : W32 a) (hb : W32 b) (hl : a.length < 187500) (hl2 : b.length < 187500) : Ev (fun k => nat_Nat_Gcd.f k a b) (wd (Nat.gcd (nv a) (nv b))) := by
  unfold nat_Nat_Gcd.f
  have la := wd_len_le ha
  have lb := wd_len_le hb
  have h1 := nv_lt ha
  have h2 := nv_lt hb
  refine Ev.bind (trim_ev (by omega) ha) (Ev.bind0 (clone_some (by omega)) (Ev.bind (trim_ev (by omega) hb) (Ev.bind0 (clone_some (by omega)) ?_)))
  exact GcdN_l0_ev _ _ _ (Nat.le_refl _) (Nat.lt_of_lt_of_le h1 (B_mono (Nat.le_of_lt hl))) (Nat.lt_of_lt_of_le h2 (B_mono (Nat.le_of_lt hl2)))
theorem mul_lt_B {a b m n : Nat} (ha : a < B m) (hb : b < B n) : a * b < B (m + n) := by
  rw [B_add]
  rcases Nat.eq_zero_or_pos b with h | h
  · subst h
    rw [Nat.mul_zero]
    exact Nat.mul_pos (B_pos _) (B_pos _)
  · exact Nat.lt_of_lt_of_le (Nat.mul_lt_mul_of_pos_right ha h) (Nat.mul_le_mul_left _ (Nat.le_of_lt hb))
end Go.Proofs.Ytfglpaaeipblcaa.Pure
