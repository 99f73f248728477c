/- The reference's rounding, in numbers: the float's key, and the flags. -/
import Derived.Test.YtfglpaaeipblcaaPFlyballref041
import Derived.Test.YtfglpaaeipblcaaPFlyballref051
import Derived.Test.YtfglpaaeipblcaaS3
namespace Go.Proofs.Ytfglpaaeipblcaa.Pure
open Go.RowKit Go.Proofs.Ytfglpaaeipblcaa.P Go.Proofs.YtfglpaaeipblcaaW.PrintWords Go.Proofs.YtfglpaaeipblcaaW.PrintLast
theorem j3_ev (way f0 : Int) (K : Nat) : Ev (fun k => flyballref05_Magnitude.j3 k way f0 K) (magEnd K f0 way) := by
  refine Ev.step (fun k => by rw [flyballref05_Magnitude.j3]) ?_
  unfold magEnd
  by_cases h : 9218868437227405311 < K
  · refine Ev.pos (by omega) ?_
    rw [if_pos h]
    by_cases h2 : way = 2
    · exact Ev.pos h2 (Ev.ret (by rw [if_pos h2]))
    · exact Ev.neg h2 (Ev.ret (by rw [if_neg h2]))
  · exact Ev.neg (by omega) (Ev.ret (by rw [if_neg h]))
theorem j2_ev (way f0 : Int) (K : Nat) (hK : K ≤ 9218868437227405312) (b : Bool) : Ev (fun k => flyballref05_Magnitude.j2 k way f0 K b) (magEnd (if b = true then K + 1 else K) f0 way) := by
  refine Ev.step (fun k => by rw [flyballref05_Magnitude.j2]) ?_
  cases b
  · exact Ev.neg (by simp) (j3_ev way f0 K)
  · refine Ev.pos rfl ?_
    rw [show wrap64 ((K : Int) + 1) = ((K + 1 : Nat) : Int) by rw [w64] <;> omega]
    exact j3_ev way f0 (K + 1)
theorem j1_ev (way f0 : Int) (K : Nat) (hK : K ≤ 9218868437227405312) (b : Bool) :
    Ev (fun k => flyballref05_Magnitude.j1 k way f0 K b) (magEnd (if K < 9218868437227405312 ∧ b = true then K + 1 else K) f0 way) := by
  refine Ev.step (fun k => by rw [flyballref05_Magnitude.j1]) ?_
  by_cases h : K < 9218868437227405312
  · refine Ev.pos (by omega) ?_
    have := j2_ev way f0 K hK b
    simpa [h] using this
  · refine Ev.neg (by omega) ?_
    have := j2_ev way f0 K hK false
    simpa [h] using this
theorem j0_ev (A B one : List Bool) (E : Int) (rest : Bool) (hE : -5000 ≤ E ∧ E ≤ 5000) (hA : A.length < 1000000) (hB : B.length < 1000000) (h1 : bv one = 1) (h1l : one.length = 64)
    (way f0 : Int) (K : Nat) (hK : K ≤ 9218868437227405312) (ex : Bool) :
    Ev (fun k => flyballref05_Magnitude.j0 k way f0 K ex one A B E rest) (magEnd (if K < 9218868437227405312 ∧ upB (bv A * 2 ^ (E + 6000).toNat) (bv B) rest K ex way = true then K + 1 else K) f0 way) := by
  refine Ev.step (fun k => by rw [flyballref05_Magnitude.j0]) ?_
  unfold upB
  by_cases hw1 : way = 1
  · refine Ev.pos hw1 ?_
    rw [if_pos hw1]
    exact j1_ev way f0 K hK (!ex)
  refine Ev.neg hw1 ?_
  rw [if_neg hw1]
  by_cases hw2 : way = 2
  · refine Ev.pos hw2 ?_
    rw [if_pos hw2]
    exact j1_ev way f0 K hK false
  refine Ev.neg hw2 ?_
  rw [if_neg hw2]
  obtain ⟨b, hb, hbv, hbl⟩ := split_ev K hK
  have hse := se_bd K hK
  refine Ev.bind hb ?_
  by_cases hT : K < 9218868437227405312
  · refine Ev.neg (by omega) ?_
    obtain ⟨c, hc, hcv, hcl⟩ := Add_ev (List.replicate 1 false ++ b) one (by simp; omega) (by omega)
    rw [bv_shl, hbv, h1] at hcv
    simp only [List.length_append, List.length_replicate] at hcl
    have hcm := cmp_ev A B c E (se K - 1) rest hE (by omega) hA hB (by omega)
    rw [hcv, show (se K - 1 + 6000).toNat = (se K + 5999).toNat by omega, show sm K * 2 ^ 1 + 1 = 2 * sm K + 1 by omega] at hcm
    have hs := Shl_ev b 1 (by omega) (by omega)
    refine Ev.bind hs (Ev.bind hc ?_)
    simp only [show wrap64 (se K - 1) = se K - 1 from w64 (by omega) (by omega)]
    refine Ev.bind hcm ?_
    generalize cm (bv A * 2 ^ (E + 6000).toNat) ((2 * sm K + 1) * bv B * 2 ^ (se K + 5999).toNat) rest = c0
    by_cases g1 : c0 > 0
    · refine Ev.pos g1 ?_
      have := j1_ev way f0 K hK true
      rw [decide_eq_true (show 0 < c0 from g1)]
      simpa using this
    · refine Ev.neg g1 ?_
      rw [decide_eq_false (show ¬ 0 < c0 from g1)]
      by_cases g2 : c0 = 0
      · refine Ev.pos g2 ?_
        rw [decide_eq_true g2, tmod2]
        simpa using j1_ev way f0 K hK (decide (K % 2 = 1))
      · refine Ev.neg g2 ?_
        rw [decide_eq_false g2]
        simpa using j1_ev way f0 K hK false
  · refine Ev.pos (by omega) ?_
    obtain ⟨b2, hb2, hbv2, hbl2⟩ := split_ev 9218868437227405311 (by omega)
    obtain ⟨a1, ha1, ha1v, ha1l⟩ := Add_ev b2 one (by omega) (by omega)
    obtain ⟨a2, ha2, ha2v, ha2l⟩ := Add_ev (List.replicate 1 false ++ a1) one (by simp; omega) (by omega)
    simp only [List.length_append, List.length_replicate] at ha2l
    have hse2 := se_bd 9218868437227405311 (by omega)
    have hcm := cmp_ev A B a2 E (se 9218868437227405311 - 1) rest hE (by omega) hA hB (by omega)
    have hs := Shl_ev a1 1 (by omega) (by omega)
    refine Ev.bind hb2 (Ev.bind ha1 (Ev.bind hs (Ev.bind ha2 ?_)))
    simp only [show wrap64 (se 9218868437227405311 - 1) = se 9218868437227405311 - 1 from w64 (by omega) (by omega)]
    refine Ev.bind hcm ?_
    generalize cm (bv A * 2 ^ (E + 6000).toNat) (bv a2 * bv B * 2 ^ (se 9218868437227405311 - 1 + 6000).toNat) rest = c0
    have all : ∀ b : Bool, Ev (fun k => flyballref05_Magnitude.j1 k way f0 K b) (magEnd K f0 way) := fun b => by
      have := j1_ev way f0 K hK b
      simpa [hT] using this
    simp only [hT, false_and, if_false]
    by_cases g1 : c0 > 0
    · exact Ev.pos g1 (all _)
    · refine Ev.neg g1 ?_
      by_cases g2 : c0 = 0
      · exact Ev.pos g2 (all _)
      · exact Ev.neg g2 (all _)
theorem Magnitude_ev (A B : List Bool) (E : Int) (rest : Bool) (hE : -5000 ≤ E ∧ E ≤ 5000) (hA : A.length < 1000000) (hB : B.length < 1000000) (way : Int) (X U : Nat)
    (hX : X = bv A * 2 ^ (E + 6000).toNat) (hU : U = bv B * c26) :
    ∃ K : Nat, K ≤ 9218868437227405312 ∧ kv K * U ≤ X ∧ (K = 9218868437227405312 ∨ X < kv (K + 1) * U) ∧ Ev (fun k => flyballref05_Magnitude.f k A B E rest way) (magOut X U (bv B) rest K way) := by
  obtain ⟨K, hf, hK, h1, h2⟩ := floor_ev A B E rest hE hA hB X U hX hU
  refine ⟨K, hK, h1, h2, ?_⟩
  obtain ⟨b, hb, hbv, hbl⟩ := split_ev K hK
  have hse := se_bd K hK
  have hc := cmp_ev A B b E (se K) rest hE (by omega) hA hB (by omega)
  rw [hbv, kv_scale K _ hK, ← hU, ← hX] at hc
  have ho := Of1_ev 1 (by omega) (by omega)
  have ho1 : bv (wbits (1 : Int).toNat 64) = 1 := by rw [bv_wbits]; decide
  have hol := wbits_length (1 : Int).toNat 64
  unfold flyballref05_Magnitude.f
  refine Ev.bind hf (Ev.bind hb (Ev.bind hc (Ev.bind ho ?_)))
  unfold magOut
  have hj := fun f0 ex => j0_ev A B (wbits (1 : Int).toNat 64) E rest hE hA hB ho1 hol way f0 K hK ex
  rw [← hX] at hj
  generalize cm X (kv K * U) rest = c0
  by_cases h0 : c0 = 0
  · refine Ev.pos h0 ?_
    rw [if_pos h0, show (c0 == 0) = decide (c0 = 0) by simp [h0]]
    exact hj 0 _
  · refine Ev.neg h0 ?_
    rw [if_neg h0]
    have hu := cmp_ev A B (wbits (1 : Int).toNat 64) E (-1022) rest hE (by omega) hA hB (by omega)
    rw [ho1, Nat.one_mul, ← hX, show ((-1022 : Int) + 6000).toNat = 4978 from rfl, pow78] at hu
    refine Ev.bind hu ?_
    generalize cm X (bv B * c78) rest = c1
    rw [show (c0 == 0) = decide (c0 = 0) by simp [h0]]
    by_cases h3 : c1 < 0
    · refine Ev.pos h3 ?_
      rw [if_pos h3]
      exact hj _ _
    · refine Ev.neg h3 ?_
      rw [if_neg h3]
      exact hj _ _
theorem Make4 (K : Nat) (h : K ≤ 9218868437227405312) (neg : Bool) : flyballref04_Make.f neg ((K / 4503599627370496 : Nat) : Int) ((K % 4503599627370496 : Nat) : Int) = some (if neg = true then (K : Int) + 9223372036854775808 else K) := by
  unfold flyballref04_Make.f
  have e1 : IntKind.u64.wrap ((K / 4503599627370496 : Nat) : Int) = ((K / 4503599627370496 : Nat) : Int) := u64i (by omega) (by omega)
  rw [e1, u64i (x := ((K / 4503599627370496 : Nat) : Int) * 4503599627370496) (by omega) (by omega)]
  have e2 : ((K / 4503599627370496 : Nat) : Int) * 4503599627370496 + ((K % 4503599627370496 : Nat) : Int) = K := by omega
  rw [e2, u64i (x := (K : Int)) (by omega) (by omega)]
  cases neg
  · simp
  · rw [u64i (by omega) (by omega)]
    rfl
theorem Of4_pos (K : Nat) (h : K ≤ 9218868437227405312) : Ev (fun k => flyballref04_Of.f k K false) (K : Int) := by
  have hj : Ev (fun k => flyballref04_Of.j0 k K false) (K : Int) := by
    refine Ev.step (fun k => by rw [flyballref04_Of.j0]) ?_
    refine Ev.neg (by simp) ?_
    rw [td K h, tm K h, Make4 K h false]
    exact Ev.ret rfl
  unfold flyballref04_Of.f
  refine Ev.neg (by omega) ?_
  by_cases h0 : (K : Int) = 0
  · exact Ev.pos h0 hj
  · exact Ev.neg h0 hj
theorem Of4_neg (K : Nat) (h : K ≤ 9218868437227405312) : Ev (fun k => flyballref04_Of.f k (-K) true) ((K : Int) + 9223372036854775808) := by
  have hj : Ev (fun k => flyballref04_Of.j0 k (-K) true) ((K : Int) + 9223372036854775808) := by
    refine Ev.step (fun k => by rw [flyballref04_Of.j0]) ?_
    refine Ev.pos rfl ?_
    rw [Int.neg_neg, w64 (x := (K : Int)) (by omega) (by omega), td K h, tm K h, Make4 K h true]
    exact Ev.ret rfl
  unfold flyballref04_Of.f
  by_cases h0 : (-K : Int) < 0
  · exact Ev.pos h0 hj
  · exact Ev.neg h0 (Ev.pos (by omega) hj)
theorem Signed_ev (neg : Bool) (A B : List Bool) (E : Int) (rest : Bool) (hE : -5000 ≤ E ∧ E ≤ 5000) (hA : A.length < 1000000) (hB : B.length < 1000000) (mode : Int) (X U : Nat)
    (hX : X = bv A * 2 ^ (E + 6000).toNat) (hU : U = bv B * c26) :
    ∃ K : Nat, K ≤ 9218868437227405312 ∧ kv K * U ≤ X ∧ (K = 9218868437227405312 ∨ X < kv (K + 1) * U) ∧
      Ev (fun k => flyballref05_Signed.f k neg A B E rest mode) (sgn neg (magOut X U (bv B) rest K (wayOf neg mode)).1, (magOut X U (bv B) rest K (wayOf neg mode)).2) := by
  obtain ⟨K, hK, h1, h2, hm⟩ := Magnitude_ev A B E rest hE hA hB (wayOf neg mode) X U hX hU
  refine ⟨K, hK, h1, h2, ?_⟩
  obtain ⟨L, hL, hLb⟩ := magOut_bd X U (bv B) rest K (wayOf neg mode) hK
  have hj1 : Ev (fun k => flyballref05_Signed.j1 k neg (wayOf neg mode) A B E rest) (sgn neg (magOut X U (bv B) rest K (wayOf neg mode)).1, (magOut X U (bv B) rest K (wayOf neg mode)).2) := by
    refine Ev.step (fun k => by rw [flyballref05_Signed.j1]) ?_
    refine Ev.bind hm ?_
    rw [hL]
    cases neg
    · exact Ev.neg (by simp) (Ev.bind (Of4_pos L hLb) (Ev.ret (by simp [sgn])))
    · refine Ev.pos rfl ?_
      rw [w64 (by omega) (by omega)]
      exact Ev.bind (Of4_neg L hLb) (Ev.ret (by simp [sgn]))
  unfold flyballref05_Signed.f
  unfold wayOf at hj1 ⊢
  cases neg
  · refine Ev.neg (by simp) ?_
    refine Ev.step (fun k => by rw [flyballref05_Signed.j0]) ?_
    refine Ev.neg (by simp) (Ev.neg (by simp) ?_)
    simpa using hj1
  · refine Ev.pos rfl ?_
    refine Ev.step (fun k => by rw [flyballref05_Signed.j0]) ?_
    by_cases m1 : mode = 1
    · refine Ev.pos (by simp [m1]) ?_
      simpa [m1] using hj1
    · refine Ev.neg (by simp [m1]) (Ev.pos rfl ?_)
      by_cases m2 : mode = 2
      · refine Ev.pos m2 ?_
        simpa [m2] using hj1
      · refine Ev.neg m2 ?_
        simpa [m1, m2] using hj1
end Go.Proofs.Ytfglpaaeipblcaa.Pure
