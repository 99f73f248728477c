/- The program's rounding, in numbers. -/
import Derived.Test.YtfglpaaeipblcaaPPattern1
import Derived.Test.YtfglpaaeipblcaaPRound1
import Derived.Test.YtfglpaaeipblcaaS5
import Derived.Test.YtfglpaaeipblcaaM1
namespace Go.Proofs.Ytfglpaaeipblcaa.Pure
open Go.RowKit Go.Proofs.Ytfglpaaeipblcaa.P Go.Proofs.YtfglpaaeipblcaaW.PrintWords Go.Proofs.YtfglpaaeipblcaaW.PrintLast

theorem away_some (neg : Bool) (h l e : Int) (rest : Bool) (mode : Int) : round_number_away.f neg h l e rest mode = some (decide (wayOf neg mode = 1)) := by
  unfold round_number_away.f wayOf
  by_cases m1 : mode = 1
  · subst m1
    cases neg <;> simp
  · rw [if_neg m1]
    by_cases m2 : mode = 2
    · subst m2
      cases neg <;> simp
    · rw [if_neg m2]
      cases neg <;> simp [m1, m2]
theorem towards_some (neg : Bool) (h l e : Int) (rest : Bool) (mode : Int) : round_number_towards.f neg h l e rest mode = some (decide (wayOf neg mode = 2)) := by
  unfold round_number_towards.f wayOf
  by_cases m1 : mode = 1
  · subst m1
    cases neg <;> simp
  · rw [if_neg m1]
    by_cases m2 : mode = 2
    · subst m2
      cases neg <;> simp
    · rw [if_neg m2]
      cases neg <;> simp [m1, m2]
theorem up_some (neg : Bool) (h l e : Int) (rest : Bool) (mode : Int) (odd half rr : Bool) : round_number_up.f neg h l e rest mode odd half rr = some (upP (wayOf neg mode) odd half rr) := by
  unfold round_number_up.f upP
  rw [away_some, towards_some]
  simp only [Option.bind_some]
  by_cases w1 : wayOf neg mode = 1
  · rw [decide_eq_true w1, if_pos rfl, if_pos w1]
    cases half <;> simp
  · rw [decide_eq_false w1, if_neg (by simp), if_neg w1]
    by_cases w2 : wayOf neg mode = 2
    · rw [decide_eq_true w2, if_pos rfl, if_pos w2]
    · rw [decide_eq_false w2, if_neg (by simp), if_neg w2]
      cases half <;> cases rr <;> simp
theorem Inf_ev (neg : Bool) : Ev (fun k => pattern_Inf.f k neg) (sgn neg 9218868437227405312) := by
  unfold pattern_Inf.f
  refine Ev.bind (MakeP neg 2047 0 (by omega) (by omega)) (Ev.ret ?_)
  cases neg <;> simp [sgn]
theorem over_ev (neg : Bool) (h l e : Int) (rest : Bool) (mode : Int) :
    Ev (fun k => round_number_over.f k neg h l e rest mode) (sgn neg (if wayOf neg mode = 2 then 9218868437227405311 else 9218868437227405312), 5) := by
  unfold round_number_over.f
  refine Ev.bind (Inf_ev neg) (Ev.bind0 (towards_some neg h l e rest mode) ?_)
  by_cases w2 : wayOf neg mode = 2
  · rw [decide_eq_true w2]
    refine Ev.pos rfl (Ev.ret ?_)
    rw [if_pos w2]
    cases neg
    · simp only [sgn, Bool.false_eq_true, if_false]; rw [u64i (by omega) (by omega)]; rfl
    · simp only [sgn, if_true]; rw [u64i (by omega) (by omega)]; rfl
  · rw [decide_eq_false w2]
    refine Ev.neg (by simp) (Ev.ret ?_)
    rw [if_neg w2]
theorem and52 (x : Nat) (h : x < 18446744073709551616) : Go.bits .and .u64 (x : Int) 4503599627370495 = ((x % 4503599627370496 : Nat) : Int) := by
  have := bits_mask .u64 64 (by decide) wraps_u64 52 (by decide) (x : Int) (by omega) (by simpa using (by omega : (x : Int) < 18446744073709551616))
  have e : (x : Int) % 4503599627370496 = ((x % 4503599627370496 : Nat) : Int) := by omega
  rw [← e]
  simpa using this
theorem and1 (x : Nat) (h : x < 18446744073709551616) : (Go.bits .and .u64 (x : Int) 1 == 1) = decide (x % 2 = 1) := by
  have := bits_mask .u64 64 (by decide) wraps_u64 1 (by decide) (x : Int) (by omega) (by simpa using (by omega : (x : Int) < 18446744073709551616))
  simp only [Int.pow_one, Int.reduceSub] at this
  rw [this]
  by_cases hb : x % 2 = 1
  · rw [decide_eq_true hb]
    exact beq_iff_eq.2 (by omega)
  · rw [decide_eq_false hb]
    exact beq_eq_false_iff_ne.2 (by omega)
theorem fj3_ev (n e : Int) (hn : 0 ≤ n ∧ n ≤ 128) (he : -5000 ≤ e ∧ e ≤ 5000) (Q w : Nat) (hw : w < 9007199254740992) (hQw : Q = 0 ∨ 4503599627370496 ≤ w) (hQ : Q ≤ 2045) (inex neg : Bool) (h l : Int) (rest : Bool) :
    Ev (fun k => round_number_float.j3 k n ((Q : Int) - 1074) w 0 inex neg h l e rest) (sgn neg ((4503599627370496 * Q + w : Nat) : Int), if inex = true then (if n + e ≤ -1022 then 3 else 1) else 0) := by
  have hmk : ∀ fl : Int, Ev (fun k => if ((w : Nat) : Int) / 4503599627370496 = 1 then ((pattern_Make.f k neg (wrap64 ((wrap64 (((Q : Int) - 1074) - (-1074))) + 1)) (Go.bits .and .u64 (w : Int) 4503599627370495)).bind fun bt => (some (bt.1, fl))) else ((pattern_Make.f k neg 0 (Go.bits .and .u64 (w : Int) 4503599627370495)).bind fun bt => (some (bt.1, fl))))
      (sgn neg ((4503599627370496 * Q + w : Nat) : Int), fl) := by
    intro fl
    rw [and52 w (by omega), w64 (x := ((Q : Int) - 1074) - (-1074)) (by omega) (by omega), w64 (x := ((Q : Int) - 1074) - (-1074) + 1) (by omega) (by omega)]
    by_cases h1 : 4503599627370496 ≤ w
    · refine Ev.pos (by omega) ?_
      rw [show ((Q : Int) - 1074) - (-1074) + 1 = ((Q + 1 : Nat) : Int) by omega]
      refine Ev.bind (MakeP neg (Q + 1) (w % 4503599627370496) (by omega) (by omega)) (Ev.ret ?_)
      rw [show 4503599627370496 * (Q + 1) + w % 4503599627370496 = 4503599627370496 * Q + w by omega]
      cases neg <;> simp [sgn]
    · refine Ev.neg (by omega) ?_
      refine Ev.bind (MakeP neg 0 (w % 4503599627370496) (by omega) (by omega)) (Ev.ret ?_)
      rw [show 4503599627370496 * 0 + w % 4503599627370496 = 4503599627370496 * Q + w by omega]
      cases neg <;> simp [sgn]
  refine Ev.step (fun k => by rw [round_number_float.j3]) ?_
  rw [w64 (x := n + e) (by omega) (by omega)]
  cases inex
  · exact Ev.neg (by simp) (hmk 0)
  · refine Ev.pos rfl ?_
    rw [if_pos rfl]
    by_cases hu : n + e ≤ -1022
    · refine Ev.pos hu ?_
      rw [if_pos hu, show Go.bits .or .u8 1 2 = 3 by decide]
      exact hmk 3
    · refine Ev.neg hu ?_
      rw [if_neg hu]
      exact hmk 1
theorem fj2_ev (n e mode : Int) (hn : 0 ≤ n ∧ n ≤ 128) (he : -5000 ≤ e ∧ e ≤ 5000) (Q w : Nat) (hw : w < 9007199254740992) (hQw : Q = 0 ∨ 4503599627370496 ≤ w) (half rr neg : Bool) (h l : Int) (rest : Bool) :
    Ev (fun k => round_number_float.j2 k mode n ((Q : Int) - 1074) half rr w neg h l e rest)
      (if 9218868437227405312 ≤ 4503599627370496 * Q + w then (sgn neg (if wayOf neg mode = 2 then 9218868437227405311 else 9218868437227405312), 5) else (sgn neg ((4503599627370496 * Q + w : Nat) : Int), if (half || rr) = true then (if n + e ≤ -1022 then 3 else 1) else 0)) := by
  refine Ev.step (fun k => by rw [round_number_float.j2]) ?_
  by_cases hov : 2045 < Q
  · refine Ev.pos (by omega) ?_
    rw [if_pos (by omega)]
    exact Ev.bind (over_ev neg h l e rest mode) (Ev.ret rfl)
  · refine Ev.neg (by omega) ?_
    rw [if_neg (by omega)]
    cases half
    · exact Ev.neg (by simp) (fj3_ev n e hn he Q w hw hQw (by omega) rr neg h l rest)
    · exact Ev.pos rfl (fj3_ev n e hn he Q w hw hQw (by omega) true neg h l rest)
theorem fj1_ev (n e mode : Int) (hn : 0 ≤ n ∧ n ≤ 128) (he : -5000 ≤ e ∧ e ≤ 5000) (Q w : Nat) (hw : w ≤ 9007199254740992) (hQ : Q < 1000000) (hQw : Q = 0 ∨ 4503599627370496 ≤ w) (half rr neg : Bool) (h l : Int) (rest : Bool) :
    Ev (fun k => round_number_float.j1 k mode n ((Q : Int) - 1074) half rr w neg h l e rest)
      (if 9218868437227405312 ≤ 4503599627370496 * Q + w then (sgn neg (if wayOf neg mode = 2 then 9218868437227405311 else 9218868437227405312), 5) else (sgn neg ((4503599627370496 * Q + w : Nat) : Int), if (half || rr) = true then (if n + e ≤ -1022 then 3 else 1) else 0)) := by
  refine Ev.step (fun k => by rw [round_number_float.j1]) ?_
  by_cases hc : w = 9007199254740992
  · refine Ev.pos (by omega) ?_
    rw [w64 (by omega) (by omega), show ((Q : Int) - 1074) + 1 = ((Q + 1 : Nat) : Int) - 1074 by omega, show (w : Int) / 2 = ((4503599627370496 : Nat) : Int) by omega]
    have := fj2_ev n e mode hn he (Q + 1) 4503599627370496 (by omega) (by omega) half rr neg h l rest
    rw [show 4503599627370496 * (Q + 1) + 4503599627370496 = 4503599627370496 * Q + w by omega] at this
    exact this
  · refine Ev.neg (by omega) ?_
    exact fj2_ev n e mode hn he Q w (by omega) hQw half rr neg h l rest
theorem fj0_ev (n e mode : Int) (hn : 0 ≤ n ∧ n ≤ 128) (he : -5000 ≤ e ∧ e ≤ 5000) (Q w : Nat) (hw : w < 9007199254740992) (hQ : Q < 1000000) (hQw : Q = 0 ∨ 4503599627370496 ≤ w) (half rr neg : Bool) (h l : Int) (rest : Bool) (kh : Int) :
    Ev (fun k => round_number_float.j0 k mode n ((Q : Int) - 1074) half rr neg h l e rest kh w)
      (sgn neg (roundOut w Q half rr (decide (n + e ≤ -1022)) (wayOf neg mode)).1, (roundOut w Q half rr (decide (n + e ≤ -1022)) (wayOf neg mode)).2) := by
  refine Ev.step (fun k => by rw [round_number_float.j0]) ?_
  rw [and1 w (by omega)]
  refine Ev.bind0 (up_some neg h l e rest mode (decide (w % 2 = 1)) half rr) ?_
  unfold roundOut
  generalize hup : upP (wayOf neg mode) (decide (w % 2 = 1)) half rr = up
  cases up
  · refine Ev.neg (by simp) ?_
    refine Ev.as (fj1_ev n e mode hn he Q w (by omega) hQ hQw half rr neg h l rest) ?_
    simp only [Bool.false_eq_true, if_false, decide_eq_true_eq]
    split <;> rfl
  · refine Ev.pos rfl ?_
    rw [u64i (by omega) (by omega), show (w : Int) + 1 = ((w + 1 : Nat) : Int) by omega]
    refine Ev.as (fj1_ev n e mode hn he Q (w + 1) (by omega) hQ (by omega) half rr neg h l rest) ?_
    simp only [if_true, decide_eq_true_eq]
    split <;> rfl
theorem blen_mul (m s : Nat) (h : m ≠ 0) : blen (m * 2 ^ s) = blen m + s := by
  have hb : blen m ≠ 0 := fun e => h (blen_eq_zero.1 e)
  have h1 := blen_le m h
  have h2 := lt_blen m
  generalize hj : blen m - 1 = j at h1
  have hj2 : blen m = j + 1 := by omega
  rw [hj2] at h2 ⊢
  rw [show j + 1 + s = (j + s) + 1 by omega]
  refine blen_of ?_ ?_
  · rw [Nat.pow_add]
    exact Nat.mul_le_mul_right _ h1
  · rw [show j + s + 1 = (j + 1) + s by omega, Nat.pow_add 2 (j + 1) s]
    exact Nat.mul_lt_mul_of_pos_right h2 (Nat.two_pow_pos s)
theorem lt_c78 (X : Nat) : X < c78 ↔ blen X ≤ 4978 := by
  have := @blen_lt_iff X 4978
  rw [pow78] at this
  exact this.symm
theorem qmax (n e : Int) (hn : 0 ≤ n ∧ n ≤ 128) (he : -5000 ≤ e ∧ e ≤ 5000) : ∃ Q : Nat, mx (wrap64 (wrap64 (n - 53) + e)) (-1074) = (Q : Int) - 1074 ∧ n - 53 + e ≤ (Q : Int) - 1074 ∧ (Q = 0 ∨ (Q : Int) - 1074 = n - 53 + e) ∧ Q < 10000 := by
  rw [w64 (x := n - 53) (by omega) (by omega), w64 (by omega) (by omega)]
  refine ⟨(mx (n - 53 + e) (-1074) + 1074).toNat, ?_⟩
  unfold mx
  split <;> omega
theorem float_ev (neg : Bool) (m : Nat) (hm0 : m ≠ 0) (hm : m < 340282366920938463463374607431768211456) (e : Int) (he : -5000 ≤ e ∧ e ≤ 5000) (rest : Bool) (hrest : rest = true → 54 ≤ blen m) (mode : Int)
    (K : Nat) (hK : K ≤ 9218868437227405312) (h1 : kv K * c26 ≤ m * 2 ^ (e + 6000).toNat) (h2 : K = 9218868437227405312 ∨ m * 2 ^ (e + 6000).toNat < kv (K + 1) * c26) :
    Ev (fun k => round_number_float.f k neg ((m / 18446744073709551616 : Nat) : Int) ((m % 18446744073709551616 : Nat) : Int) e rest mode)
      (sgn neg (magOut (m * 2 ^ (e + 6000).toNat) c26 1 rest K (wayOf neg mode)).1, (magOut (m * 2 ^ (e + 6000).toNat) c26 1 rest K (wayOf neg mode)).2) := by
  have hn1 : blen m ≤ 128 := blen_lt_iff.2 (by simpa using hm)
  have hn0 : blen m ≠ 0 := fun h => hm0 (blen_eq_zero.1 h)
  have hlo := blen_le m hm0
  have hhi := lt_blen m
  have hX : blen (m * 2 ^ (e + 6000).toNat) = blen m + (e + 6000).toNat := blen_mul m _ hm0
  have huf : decide (m * 2 ^ (e + 6000).toNat < c78) = decide (((blen m : Nat) : Int) + e ≤ -1022) := decide_eq_decide.2 (by rw [lt_c78, hX]; omega)
  unfold round_number_float.f
  refine Ev.bind0 (ULen m hm) ?_
  obtain ⟨Q, hq, hq1, hq2, hq3⟩ := qmax (blen m : Nat) e (by omega) he
  rw [hq, w64 (x := (Q : Int) - 1074 - e) (by omega) (by omega)]
  have hbig : ∀ w : Nat, w < 9007199254740992 → 9218868437227405311 ≤ 4503599627370496 * Q + w → ¬ m * 2 ^ (e + 6000).toNat < c78 := by
    intro w hw hT hlt
    have := (lt_c78 _).1 hlt
    rw [hX] at this
    omega
  by_cases hd : (Q : Int) - 1074 - e > 0
  · obtain ⟨D, hD⟩ : ∃ D : Nat, (Q : Int) - 1074 - e = ((D + 1 : Nat) : Int) := ⟨((Q : Int) - 1074 - e - 1).toNat, by omega⟩
    refine Ev.pos hd ?_
    have e1 : wrap64 ((Q : Int) - 1074 - e - 1) = (D : Nat) := by rw [w64] <;> omega
    rw [e1]
    refine Ev.bind (UShr m D (by omega) hm) ?_
    have hk : m / 2 ^ D < 340282366920938463463374607431768211456 := Nat.lt_of_le_of_lt (Nat.div_le_self _ _) hm
    have s2 := UShr (m / 2 ^ D) 1 (by omega) hk
    simp only [and1 _ (Nat.mod_lt _ (by decide : 18446744073709551616 > 0))]
    have hw : m / 2 ^ D / 2 ^ 1 < 9007199254740992 := by
      rw [Nat.div_div_eq_div_mul, ← Nat.pow_succ]
      refine (Nat.div_lt_iff_lt_mul (Nat.two_pow_pos _)).2 (Nat.lt_of_lt_of_le hhi ?_)
      have : 9007199254740992 * 2 ^ D.succ = 2 ^ (53 + D.succ) := by rw [Nat.pow_add]
      rw [this]
      exact Nat.pow_le_pow_right (by decide) (by omega)
    have hQw : Q = 0 ∨ 4503599627370496 ≤ m / 2 ^ D / 2 ^ 1 := by
      rcases hq2 with hq2 | hq2
      · exact .inl hq2
      · right
        rw [Nat.div_div_eq_div_mul, ← Nat.pow_succ]
        refine (Nat.le_div_iff_mul_le (Nat.two_pow_pos _)).2 (Nat.le_trans ?_ hlo)
        have : 4503599627370496 * 2 ^ D.succ = 2 ^ (52 + D.succ) := by rw [Nat.pow_add]
        rw [this]
        exact Nat.pow_le_pow_right (by decide) (by omega)
    have hodd : decide (m / 2 ^ D % 18446744073709551616 % 2 = 1) = decide (m / 2 ^ D % 2 = 1) := decide_eq_decide.2 (by omega)
    have hM : m = (m / 2 ^ D / 2 ^ 1) * 2 ^ (D + 1) + (decide (m / 2 ^ D % 2 = 1)).toNat * 2 ^ (D + 1 - 1) + m % 2 ^ D := by
      have a := Nat.div_add_mod m (2 ^ D)
      have b := Nat.div_add_mod (m / 2 ^ D) 2
      have c : (decide (m / 2 ^ D % 2 = 1)).toNat = m / 2 ^ D % 2 := by
        by_cases h : m / 2 ^ D % 2 = 1
        · rw [decide_eq_true h, h]; rfl
        · rw [decide_eq_false h, show m / 2 ^ D % 2 = 0 by omega]; rfl
      rw [c, Nat.add_sub_cancel, Nat.pow_one, Nat.pow_succ 2 D, ← Nat.mul_assoc, Nat.mul_right_comm, ← Nat.add_mul, Nat.mul_comm _ 2, b, Nat.mul_comm]
      exact a.symm
    have hmo := fun rr => magOut_eq (m * 2 ^ (e + 6000).toNat) (m / 2 ^ D / 2 ^ 1) Q (D + 1) (2 ^ (e + 6000).toNat) (m % 2 ^ D) (decide (m / 2 ^ D % 2 = 1)) rr (wayOf neg mode) K (by rw [← hM]) (by omega) (Nat.mod_lt _ (Nat.two_pow_pos _)) (Nat.two_pow_pos _)
      (by rw [← pow_c26, ← Nat.pow_add]; congr 1; omega) hw hQw (hbig _ hw) hK h1 h2
    have hlo2 : m / 2 ^ D / 2 ^ 1 % 18446744073709551616 = m / 2 ^ D / 2 ^ 1 := Nat.mod_eq_of_lt (by omega)
    rw [hlo2] at s2
    have fin := fun rr => fj0_ev (blen m : Nat) e mode (by omega) he Q (m / 2 ^ D / 2 ^ 1) hw (by omega) hQw (decide (m / 2 ^ D % 2 = 1)) rr neg ((m / 18446744073709551616 : Nat) : Int) ((m % 18446744073709551616 : Nat) : Int) rest ((m / 2 ^ D / 2 ^ 1 / 18446744073709551616 : Nat) : Int)
    rw [hodd]
    cases rest
    · refine Ev.neg (by simp) (Ev.bind s2 ?_)
      rw [hmo false, huf, Bool.false_or]
      exact fin _
    · refine Ev.pos rfl (Ev.bind s2 ?_)
      rw [hmo true, huf, Bool.true_or]
      exact fin true
  · refine Ev.neg hd ?_
    obtain ⟨D, hD⟩ : ∃ D : Nat, (Q : Int) - 1074 - e = -(D : Int) := ⟨(-((Q : Int) - 1074 - e)).toNat, by omega⟩
    have hr : rest = false := by
      cases rest
      · rfl
      · have := hrest rfl
        omega
    subst hr
    rw [hD, Int.neg_neg, w64 (x := (D : Int)) (by omega) (by omega)]
    have hw : m * 2 ^ D < 9007199254740992 := by
      have := Nat.mul_lt_mul_of_pos_right hhi (Nat.two_pow_pos D)
      rw [← Nat.pow_add] at this
      exact Nat.lt_of_lt_of_le this (show 2 ^ (blen m + D) ≤ 2 ^ 53 from Nat.pow_le_pow_right (by decide) (by omega))
    have hQw : Q = 0 ∨ 4503599627370496 ≤ m * 2 ^ D := by
      rcases hq2 with hq2 | hq2
      · exact .inl hq2
      · right
        have := Nat.mul_le_mul_right (2 ^ D) hlo
        rw [← Nat.pow_add] at this
        exact Nat.le_trans (show 2 ^ 52 ≤ 2 ^ (blen m - 1 + D) from Nat.pow_le_pow_right (by decide) (by omega)) this
    have s := UShl m D (by omega) hm
    rw [Nat.mod_eq_of_lt (a := m * 2 ^ D) (by omega)] at s
    refine Ev.bind s ?_
    have hmo := magOut_eq (m * 2 ^ (e + 6000).toNat) (m * 2 ^ D) Q 1 (2 ^ (Q + 4925)) 0 false false (wayOf neg mode) K (by
      simp only [Bool.toNat_false, Nat.zero_mul, Nat.add_zero, Nat.pow_one]
      rw [Nat.mul_assoc, Nat.mul_assoc, ← Nat.pow_succ', ← Nat.pow_add]
      congr 2
      omega) (by omega) (by simp) (Nat.two_pow_pos _) (by rw [← pow_c26, Nat.pow_one, ← Nat.pow_succ']) hw hQw (hbig _ hw) hK h1 h2
    rw [hmo, huf]
    exact fj0_ev (blen m : Nat) e mode (by omega) he Q (m * 2 ^ D) hw (by omega) hQw false false neg _ _ false _
end Go.Proofs.Ytfglpaaeipblcaa.Pure
