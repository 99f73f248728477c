/- The program's rounding, in numbers. -/
import Derived.Test.YtfglpaaeipblcaaPPattern1
import Derived.Test.YtfglpaaeipblcaaPRound1
import Derived.Test.YtfglpaaeipblcaaS5
import Derived.Test.YtfglpaaeipblcaaM1
namespace Go.Proofs.Ytfglpaaeipblcaa.Pure
open Go.RowKit Go.Proofs.Ytfglpaaeipblcaa.P Go.Proofs.YtfglpaaeipblcaaW.PrintWords Go.Proofs.YtfglpaaeipblcaaW.PrintLast

theorem away_some (neg : Bool) (h l e : Int) (rest : Bool) (mode : Int) : round_number_away.f neg h l e rest mode = some (decide (wayOf neg mode = 1)) := by
  unfold round_number_away.f wayOf
  by_cases m1 : mode = 1
  · subst m1
    cases neg <;> simp
  · rw [if_neg m1]
    by_cases m2 : mode = 2
    · subst m2
      cases neg <;> simp
    · rw [if_neg m2]
      cases neg <;> simp [m1, m2]
theorem towards_some (neg : Bool) (h l e : Int) (rest : Bool) (mode : Int) : round_number_towards.f neg h l e rest mode = some (decide (wayOf neg mode = 2)) := by
  unfold round_number_towards.f wayOf
  by_cases m1 : mode = 1
  · subst m1
    cases neg <;> simp
  · rw [if_neg m1]
    by_cases m2 : mode = 2
    · subst m2
      cases neg <;> simp
    · rw [if_neg m2]
      cases neg <;> simp [m1, m2]
theorem up_some (neg : Bool) (h l e : Int) (rest : Bool) (mode : Int) (odd half rr : Bool) : round_number_up.f neg h l e rest mode odd half rr = some (upP (wayOf neg mode) odd half rr) := by
  unfold round_number_up.f upP
  rw [away_some, towards_some]
  simp only [Option.bind_some]
  by_cases w1 : wayOf neg mode = 1
  · rw [decide_eq_true w1, if_pos rfl, if_pos w1]
    cases half <;> simp
  · rw [decide_eq_false w1, if_neg (by simp), if_neg w1]
    by_cases w2 : wayOf neg mode = 2
    · rw [decide_eq_true w2, if_pos rfl, if_pos w2]
    · rw [decide_eq_false w2, if_neg (by simp), if_neg w2]
      cases half <;> cases rr <;> simp
theorem Inf_ev (neg : Bool) : Ev (fun k => pattern_Inf.f k neg) (sgn neg 9218868437227405312) := by
  unfold pattern_Inf.f
  refine Ev.bind (MakeP neg 2047 0 (by omega) (by omega)) (Ev.ret ?_)
  cases neg <;> simp [sgn]
theorem over_ev (neg : Bool) (h l e : Int) (rest : Bool) (mode : Int) :
    Ev (fun k => round_number_over.f k neg h l e rest mode) (sgn neg (if wayOf neg mode = 2 then 9218868437227405311 else 9218868437227405312), 5) := by
  unfold round_number_over.f
  refine Ev.bind (Inf_ev neg) (Ev.bind0 (towards_some neg h l e rest mode) ?_)
  by_cases w2 : wayOf neg mode = 2
  · rw [decide_eq_true w2]
    refine Ev.pos rfl (Ev.ret ?_)
    rw [if_pos w2]
    cases neg
    · simp only [sgn, Bool.false_eq_true, if_false]; rw [u64i (by omega) (by omega)]; rfl
    · simp only [sgn, if_true]; rw [u64i (by omega) (by omega)]; rfl
  · rw [decide_eq_false w2]
    refine Ev.neg (by simp) (Ev.ret ?_)
    rw [if_neg w2]
theorem and52 (x : Nat) (h : x < 18446744073709551616) : Go.bits .and .u64 (x : Int) 4503599627370495 = ((x % 4503599627370496 : Nat) : Int) := by
  have := bits_mask .u64 64 (by decide) wraps_u64 52 (by decide) (x : Int) (by omega) (by simpa using (by omega : (x : Int) < 18446744073709551616))
  have e : (x : Int) % 4503599627370496 = ((x % 4503599627370496 : Nat) : Int) := by omega
  rw [← e]
  simpa using this
theorem and1 (x : Nat) (h : x < 18446744073709551616) : (Go.bits .and .u64 (x : Int) 1 == 1) = decide (x % 2 = 1) := by
  have := bits_mask .u64 64 (by decide) wraps_u64 1 (by decide) (x : Int) (by omega) (by simpa using (by omega : (x : Int) < 18446744073709551616))
  simp only [Int.pow_one, Int.reduceSub] at this
  rw [this]
  by_cases hb : x % 2 = 1
  · rw [decide_eq_true hb]
    exact beq_iff_eq.2 (by omega)
  · rw [decide_eq_false hb]
    exact beq_eq_false_iff_ne.2 (by omega)
theorem fj3_ev (n e : Int) (hn : 0 ≤ n ∧ n ≤ 128) (he : -5000 ≤ e ∧ e ≤ 5000) (Q w : Nat) (hw : w < 9007199254740992) (hQw : Q = 0 ∨ 4503599627370496 ≤ w) (hQ : Q ≤ 2045) (inex neg : Bool) (h l : Int) (rest : Bool) :
    Ev (fun k => round_number_float.j3 k n ((Q : Int) - 1074) w 0 inex neg h l e rest) (sgn neg ((4503599627370496 * Q + w : Nat) : Int), if inex = true then (if n + e ≤ -1022 then 3 else 1) else 0) := by
  have hmk : ∀ fl : Int, Ev (fun k => if ((w : Nat) : Int) / 4503599627370496 = 1 then ((pattern_Make.f k neg (wrap64 ((wrap64 (((Q : Int) - 1074) - (-1074))) + 1)) (Go.bits .and .u64 (w : Int) 4503599627370495)).bind fun bt => (some (bt.1, fl))) else ((pattern_Make.f k neg 0 (Go.bits .and .u64 (w : Int) 4503599627370495)).bind fun bt => (some (bt.1, fl))))
      (sgn neg ((4503599627370496 * Q + w : Nat) : Int), fl) := by
    intro fl
    rw [and52 w (by omega), w64 (x := ((Q : Int) - 1074) - (-1074)) (by omega) (by omega), w64 (x := ((Q : Int) - 1074) - (-1074) + 1) (by omega) (by omega)]
    by_cases h1 : 4503599627370496 ≤ w
    · refine Ev.pos (by omega) ?_
      rw [show ((Q : Int) - 1074) - (-1074) + 1 = ((Q + 1 : Nat) : Int) by omega]
      refine Ev.bind (MakeP neg (Q + 1) (w % 4503599627370496) (by omega) (by omega)) (Ev.ret ?_)
      rw [show 4503599627370496 * (Q + 1) + w % 4503599627370496 = 4503599627370496 * Q + w by omega]
      cases neg <;> simp [sgn]
    · refine Ev.neg (by omega) ?_
      refine Ev.bind (MakeP neg 0 (w % 4503599627370496) (by omega) (by omega)) (Ev.ret ?_)
      rw [show 4503599627370496 * 0 + w % 4503599627370496 = 4503599627370496 * Q + w by omega]
      cases neg <;> simp [sgn]
  refine Ev.step (fun k => by rw [round_number_float.j3]) ?_
  rw [w64 (x := n + e) (by omega) (by omega)]
  cases inex
  · exact Ev.neg (by simp) (hmk 0)
  · refine Ev.pos rfl ?_
    rw [if_pos rfl]
    by_cases hu : n + e ≤ -1022
    · refine Ev.pos hu ?_
      rw [if_pos hu, show Go.bits .or .u8 1 2 = 3 by decide]
      exact hmk 3
    · refine Ev.neg hu ?_
      rw [if_neg hu]
      exact hmk 1
theorem fj2_ev (n e mode : Int) (hn : 0 ≤ n ∧ n ≤ 128) (he : -5000 ≤ e ∧ e ≤ 5000) (Q w : Nat) (hw : w < 9007199254740992) (hQw : Q = 0 ∨ 4503599627370496 ≤ w) (half rr neg : Bool) (h l : Int) (rest : Bool) :
    Ev (fun k => round_number_float.j2 k mode n ((Q : Int) - 1074) half rr w neg h l e rest)
      (if 9218868437227405312 ≤ 4503599627370496 * Q + w then (sgn neg (if wayOf neg mode = 2 then 9218868437227405311 else 9218868437227405312), 5) else (sgn neg ((4503599627370496 * Q + w : Nat) : Int), if (half || rr) = true then (if n + e ≤ -1022 then 3 else 1) else 0)) := by
  refine Ev.step (fun k => by rw [round_number_float.j2]) ?_
  by_cases hov : 2045 < Q
  · refine Ev.pos (by omega) ?_
    rw [if_pos (by omega)]
    exact Ev.bind (over_ev neg h l e rest mode) (Ev.ret rfl)
  · refine Ev.neg (by omega) ?_
    rw [if_neg (by omega)]
    cases half
    · exact Ev.neg (by simp) (fj3_ev n e hn he Q w hw hQw (by omega) rr neg h l rest)
    · exact Ev.pos rfl (fj3_ev n e hn he Q w hw hQw (by omega) true neg h l rest)
theorem fj1_ev (n e mode : Int) (hn : 0 ≤ n ∧ n ≤ 128) (he : -5000 ≤ e ∧ e ≤ 5000) (Q w : Nat) (hw : w ≤ 9007199254740992) (hQ : Q < 1000000) (hQw : Q = 0 ∨ 4503599627370496 ≤ w) (half rr neg : Bool) (h l : Int) (rest : Bool) :
    Ev (fun k => round_number_float.j1 k mode n ((Q : Int) - 1074) half rr w neg h l e rest)
      (if 9218868437227405312 ≤ 4503599627370496 * Q + w then (sgn neg (if wayOf neg mode = 2 then 9218868437227405311 else 9218868437227405312), 5) else (sgn neg ((4503599627370496 * Q + w : Nat) : Int), if (half || rr) = true then (if n + e ≤ -1022 then 3 else 1) else 0)) := by
  refine Ev.step (fun k => by rw [round_number_float.j1]) ?_
  by_cases hc : w = 9007199254740992
  · refine Ev.pos (by omega) ?_
    rw [w64 (by omega) (by omega), show ((Q : Int) - 1074) + 1 = ((Q + 1 : Nat) : Int) - 1074 by omega, show (w : Int) / 2 = ((4503599627370496 : Nat) : Int) by omega]
    have := fj2_ev n e mode hn he (Q + 1) 4503599627370496 (by omega) (by omega) half rr neg h l rest
    rw [show 4503599627370496 * (Q + 1) + 4503599627370496 = 4503599627370496 * Q + w by omega] at this
    exact this
  · refine Ev.neg (by omega) ?_
    exact fj2_ev n e mode hn he Q w (by omega) hQw half rr neg h l rest
theorem fj0_ev (n e mode : Int) (hn : 0 ≤ n ∧ n ≤ 128) (he : -5000 ≤ e ∧ e ≤ 5000) (Q w : Nat) (hw : w < 9007199254740992) (hQ : Q < 1000000) (hQw : Q = 0 ∨ 4503599627370496 ≤ w) (half rr neg : Bool) (h l : Int) (rest : Bool) (kh : Int) :
    Ev (fun k => round_number_float.j0 k mode n ((Q : Int) - 1074) half rr neg h l e rest kh w)
      (sgn neg (roundOut w Q half rr (decide (n + e ≤ -1022)) (wayOf neg mode)).1, (roundOut w Q half rr (decide (n + e ≤ -1022)) (wayOf neg mode)).2) := by
  refine Ev.step (fun k => by rw [round_number_float.j0]) ?_
  rw [and1 w (by omega)]
  refine Ev.bind0 (up_some neg h l e rest mode (decide (w % 2 = 1)) half rr) ?_
  unfold roundOut
  generalize hup : upP (wayOf neg mode) (decide (w % 2 = 1)) half rr = up
  cases up
  · refine Ev.neg (by simp) ?_
    refine Ev.as (fj1_ev n e mode hn he Q w (by omega) hQ hQw half rr neg h l rest) ?_
    simp only [Bool.false_eq_true, if_false, decide_eq_true_eq]
    split <;> rfl
  · refine Ev.pos rfl ?_
    rw [u64i (by omega) (by omega), show (w : Int) + 1 = ((w + 1 : Nat) : Int) by omega]
    refine Ev.as (fj1_ev n e mode hn he Q (w + 1) (by omega) hQ (by omega) half rr neg h l rest) ?_
    simp only [if_true, decide_eq_true_eq]
    split <;> rfl
end Go.Proofs.Ytfglpaaeipblcaa.Pure
