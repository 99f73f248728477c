/- The order of floats, in the program. -/
import Derived.Test.YtfglpaaeipblcaaPPattern3
import Derived.Test.YtfglpaaeipblcaaQ1
import Derived.Test.YtfglpaaeipblcaaP1
namespace Go.Proofs.Ytfglpaaeipblcaa.Pure
open Go.RowKit Go.Proofs.Ytfglpaaeipblcaa.P Go.Proofs.YtfglpaaeipblcaaW.PrintWords Go.Proofs.YtfglpaaeipblcaaW.PrintLast

theorem off_sign (x : Nat) (h : x < 18446744073709551616) : Go.bits .andNot .u64 (x : Int) 9223372036854775808 = ((x % 9223372036854775808 : Nat) : Int) := by
  have e := u64_andNot_nat x 9223372036854775808 h (by omega)
  have m := Nat.and_two_pow_sub_one_eq_mod x 63
  have e2 : (18446744073709551615 - 9223372036854775808 : Nat) = 2 ^ 63 - 1 := by decide
  rw [e2, m] at e
  exact e
theorem keyP (neg : Bool) (K : Nat) (hK : K < 9223372036854775808) : pattern_key.f (sgn neg K) = some (sg neg K) := by
  have hs := sgn_neg neg K hK
  unfold pattern_key.f
  have ho : Go.bits .andNot .u64 (sgn neg K) 9223372036854775808 = (K : Int) := by
    rw [sgn_nat, off_sign _ (by cases neg <;> simp <;> omega)]
    congr 1
    cases neg <;> simp <;> omega
  rw [ho, w64 (x := (K : Int)) (by omega) (by omega)]
  unfold sg
  cases neg
  · rw [if_neg (beq_eq_false_iff_ne.1 hs), if_neg (by simp)]
  · rw [if_pos (beq_iff_eq.1 hs), if_pos rfl, w64 (by omega) (by omega)]
theorem nanP (neg : Bool) (K : Nat) (hK : K ≤ 9218868437227405312) : Ev (fun k => pattern_nan.f k (sgn neg K)) false := by
  unfold pattern_nan.f
  refine Ev.bind (ClassP neg K (by omega)) (Ev.ret ?_)
  rw [beq_eq_false_iff_ne]
  unfold cls
  repeat' split
  all_goals omega
/-- The order of two whole numbers. -/
def cmpZ (x y : Int) : Int := if x < y then -1 else if x > y then 1 else 0
theorem CmpP (neg1 neg2 : Bool) (K L : Nat) (hK : K ≤ 9218868437227405312) (hL : L ≤ 9218868437227405312) :
    Ev (fun k => pattern_Cmp.f k (sgn neg1 K) (sgn neg2 L)) (cmpZ (sg neg1 K) (sg neg2 L), true) := by
  unfold pattern_Cmp.f
  refine Ev.bind (nanP neg1 K hK) (Ev.neg (by simp) (Ev.bind (nanP neg2 L hL) ?_))
  refine Ev.step (fun k => by rw [pattern_Cmp.j0]) ?_
  refine Ev.neg (by simp) (Ev.bind0 (keyP neg1 K (by omega)) (Ev.bind0 (keyP neg2 L (by omega)) ?_))
  unfold cmpZ
  by_cases h1 : sg neg1 K < sg neg2 L
  · exact Ev.pos h1 (Ev.ret (by rw [if_pos h1]))
  · refine Ev.neg h1 ?_
    rw [if_neg h1]
    by_cases h2 : sg neg1 K > sg neg2 L
    · exact Ev.pos h2 (Ev.ret (by rw [if_pos h2]))
    · exact Ev.neg h2 (Ev.ret (by rw [if_neg h2]))
end Go.Proofs.Ytfglpaaeipblcaa.Pure
