import Derived.Test.YtjaolddgnijgiaaDoorPureA
import Derived.Test.YtjaolddgnijgiaaDoorPrint30
namespace Go.Proofs.YtjaolddgnijgiaaDoor.Pure
open Go.RowKit Go.Proofs.YtjaolddgnijgiaaDoor.Print Go.Proofs.YtjaolddgnijgiaaDoorW.PrintWords Go.Proofs.YtjaolddgnijgiaaDoorW.PrintLast Go.Proofs.YtjaolddgnijgiaaDoorW.PrintMore
set_option linter.unusedVariables false
set_option linter.unusedSimpArgs false
/-- Where the product has one word: what is scaled is the quotient, cut off. -/
theorem scaled_small (k : Nat) (neg : Bool) (a b c : Int) (a0 : 0 ≤ a) (a1 : a < 18446744073709551616) (b0 : 0 ≤ b) (b1 : b < 18446744073709551616) (c0 : 0 < c) (m0 : 0 ≤ a * b) (m1 : a * b < 18446744073709551616) (q1 : a * b / c ≤ 9223372036854775807) :
    fix_scaled.f k neg a b c = some (false, if neg then -(a * b / c) else a * b / c) := by
  unfold fix_scaled.f bits_Mul64.f
  rw [if_pos ⟨a0, a1, b0, b1⟩, Option.bind_some]
  have h0 : a * b / 18446744073709551616 = 0 := by omega
  have h1 : a * b % 18446744073709551616 = a * b := by omega
  simp only [h0, h1]
  have q0 : 0 ≤ a * b / c := Int.ediv_nonneg m0 (by omega)
  have e : Int.tdiv (a * b) c = a * b / c := Int.tdiv_eq_ediv_of_nonneg m0
  rw [if_neg (by omega)]
  unfold bits_Div64.f
  rw [if_neg (by omega), if_neg (by omega), if_pos rfl, Option.bind_some]
  simp only [e, u64_mod]
  generalize a * b / c = q at *
  have g : q % 18446744073709551616 = q := by omega
  have w1 : wrap64 q = q := wrap_id (by omega) (by omega)
  have w2 : wrap64 (-q) = -q := wrap_id (by omega) (by omega)
  rw [g, if_neg (by omega), w1, w2]
  cases neg <;> simp
theorem size_eq (n : Int) (h : -9223372036854775808 ≤ n) (h2 : n ≤ 9223372036854775807) : fix_size.f n = some (if n < 0 then -n else n) := by
  unfold fix_size.f
  simp only [u64_mod]
  by_cases c : n < 0
  · rw [if_pos c, if_pos c]
    congr 1
    omega
  · rw [if_neg c, if_neg c]
    congr 1
    omega
theorem sgn_mul (a b : Int) : (if a < 0 then -a else a) * (if b < 0 then -b else b) = (if (decide (a < 0) != decide (b < 0)) = true then -(a * b) else a * b) := by
  by_cases c1 : a < 0 <;> by_cases c2 : b < 0 <;> simp [c1, c2, Int.neg_mul, Int.mul_neg]
theorem abs_le (a b : Int) (ha : -2147483648 ≤ a ∧ a ≤ 2147483647) (hb : 0 ≤ b ∧ b ≤ 2147483648) : 0 ≤ (if a < 0 then -a else a) * b ∧ (if a < 0 then -a else a) * b ≤ 2147483648 * 2147483648 := by
  have h1 : 0 ≤ (if a < 0 then -a else a) ∧ (if a < 0 then -a else a) ≤ 2147483648 := by split <;> omega
  exact ⟨Int.mul_nonneg h1.1 hb.1, Int.mul_le_mul h1.2 hb.2 hb.1 (by omega)⟩
theorem mul_small (k : Nat) (a b : Int) (ha : -2147483648 ≤ a ∧ a ≤ 2147483647) (hb : -2147483648 ≤ b ∧ b ≤ 2147483647) : fix_Mul.f (k + 1) false a false b = some (false, Int.tdiv (a * b) 1000000) := by
  unfold fix_Mul.f
  have o1 : isOver ⟨false, a⟩ = false := by unfold isOver; simp; omega
  have o2 : isOver ⟨false, b⟩ = false := by unfold isOver; simp; omega
  simp only [over_eq, Option.bind_some, o1, o2, Bool.false_eq_true, if_false, fix_Mul.j0]
  rw [size_eq a (by omega) (by omega), Option.bind_some, size_eq b (by omega) (by omega), Option.bind_some]
  have hbb : 0 ≤ (if b < 0 then -b else b) ∧ (if b < 0 then -b else b) ≤ 2147483648 := by split <;> omega
  have hm := abs_le a (if b < 0 then -b else b) ha hbb
  have haa : 0 ≤ (if a < 0 then -a else a) ∧ (if a < 0 then -a else a) ≤ 2147483648 := by split <;> omega
  rw [scaled_small k _ _ _ 1000000 haa.1 (by omega) hbb.1 (by omega) (by omega) hm.1 (by omega) (by omega), Option.bind_some]
  have hs := sgn_mul a b
  rw [hs] at hm ⊢
  by_cases c : (decide (a < 0) != decide (b < 0)) = true
  · simp only [c, if_true] at hm ⊢
    rw [← Int.tdiv_eq_ediv_of_nonneg hm.1, Int.neg_tdiv, Int.neg_neg]
  · simp only [c, if_false] at hm ⊢
    simp only [Bool.not_eq_true] at c
    rw [Int.tdiv_eq_ediv_of_nonneg (by simpa using hm.1)]
    simp
theorem div_small (k : Nat) (a b : Int) (ha : -2147483648 ≤ a ∧ a ≤ 2147483647) (hb : -2147483648 ≤ b ∧ b ≤ 2147483647) (hb0 : b ≠ 0) : fix_Div.f (k + 1) false a false b = some (false, Int.tdiv (a * 1000000) b) := by
  unfold fix_Div.f
  have o1 : isOver ⟨false, a⟩ = false := by unfold isOver; simp; omega
  have o2 : isOver ⟨false, b⟩ = false := by unfold isOver; simp; omega
  have o3 : (b == 0) = false := beq_eq_false_iff_ne.mpr hb0
  simp only [over_eq, Option.bind_some, o1, o2, o3, Bool.false_eq_true, if_false, fix_Div.j0]
  rw [size_eq a (by omega) (by omega), Option.bind_some, size_eq b (by omega) (by omega), Option.bind_some]
  obtain ⟨c, hc⟩ : ∃ c, (if b < 0 then -b else b) = c := ⟨_, rfl⟩
  obtain ⟨e, he⟩ : ∃ e, (if a < 0 then -a else a) = e := ⟨_, rfl⟩
  have hc0 : 0 < c ∧ c ≤ 2147483648 := by rw [← hc]; split <;> omega
  have he0 : 0 ≤ e ∧ e ≤ 2147483648 := by rw [← he]; split <;> omega
  rw [hc, he]
  have hq : e * 1000000 / c ≤ e * 1000000 := Int.ediv_le_self _ (by omega)
  rw [scaled_small k _ e 1000000 c (by omega) (by omega) (by omega) (by omega) hc0.1 (by omega) (by omega) (by omega), Option.bind_some]
  rw [← Int.tdiv_eq_ediv_of_nonneg (show 0 ≤ e * 1000000 by omega)]
  by_cases c1 : a < 0 <;> by_cases c2 : b < 0
  · rw [if_pos c1] at he
    rw [if_pos c2] at hc
    subst he hc
    simp [c1, c2, Int.neg_mul, Int.neg_tdiv, Int.tdiv_neg]
  · rw [if_pos c1] at he
    rw [if_neg c2] at hc
    subst he hc
    simp [c1, c2, Int.neg_mul, Int.neg_tdiv, Int.tdiv_neg]
  · rw [if_neg c1] at he
    rw [if_pos c2] at hc
    subst he hc
    simp [c1, c2, Int.neg_mul, Int.neg_tdiv, Int.tdiv_neg]
  · rw [if_neg c1] at he
    rw [if_neg c2] at hc
    subst he hc
    simp [c1, c2]
theorem tdiv_bound (a b : Int) (ha : -2147483648 ≤ a ∧ a ≤ 2147483647) (hb0 : b ≠ 0) : -9223372036854775808 ≤ Int.tdiv (a * 1000000) b ∧ Int.tdiv (a * 1000000) b ≤ 9223372036854775807 := by
  have h : (Int.tdiv (a * 1000000) b).natAbs ≤ (a * 1000000).natAbs := by rw [Int.natAbs_tdiv]; exact Nat.div_le_self _ _
  omega
theorem FixCuts (a b : Int) (ha : -2147483648 ≤ a ∧ a ≤ 2147483647) (hb : -2147483648 ≤ b ∧ b ≤ 2147483647) : spillwaylaw2_FixCuts.f 20 a b = some true := by
  obtain ⟨J, hJ⟩ : ∃ J : Nat, J = 18 := ⟨_, rfl⟩
  rw [show (20 : Nat) = J + 1 + 1 by omega]
  have w1 : wrap64 a = a := wrap_id (by omega) (by omega)
  have w2 : wrap64 b = b := wrap_id (by omega) (by omega)
  have hab : -4611686018427387904 ≤ a * b ∧ a * b ≤ 4611686018427387904 := by
    have h : (a * b).natAbs ≤ 2147483648 * 2147483648 := by rw [Int.natAbs_mul]; exact Nat.mul_le_mul (by omega) (by omega)
    omega
  have w3 : wrap64 (a * b) = a * b := wrap_id (by omega) (by omega)
  have w4 : wrap64 (a * 1000000) = a * 1000000 := wrap_id (by omega) (by omega)
  have q1 : -9223372036854775808 ≤ Int.tdiv (a * b) 1000000 ∧ Int.tdiv (a * b) 1000000 ≤ 9223372036854775807 := by
    have h : (Int.tdiv (a * b) 1000000).natAbs ≤ (a * b).natAbs := by rw [Int.natAbs_tdiv]; exact Nat.div_le_self _ _
    omega
  have w5 : wrap64 (Int.tdiv (a * b) 1000000) = Int.tdiv (a * b) 1000000 := wrap_id q1.1 q1.2
  unfold spillwaylaw2_FixCuts.f spillwaylaw2_known.f
  rw [Option.bind_some, if_pos rfl, w1, w2, mul_small (J + 1) a b ha hb, Option.bind_some, if_neg (show ¬ (false = true) by decide), w3, w5]
  simp only [bne_self_eq_false, spillwaylaw2_FixCuts.j0, Bool.false_eq_true, if_false]
  by_cases hb0 : b = 0
  · subst hb0
    have o1 : isOver ⟨false, a⟩ = false := by unfold isOver; simp; omega
    have o2 : isOver ⟨false, 0⟩ = false := rfl
    unfold fix_Div.f
    simp only [over_eq, Option.bind_some, o1, o2, Bool.false_eq_true, if_false]
    obtain ⟨I, rfl⟩ : ∃ I, J = I + 1 := ⟨17, hJ⟩
    simp only [fix_Div.j0, beq_self_eq_true, if_true, fix_ovf.f, Option.bind_some]
  · rw [div_small J a b ha hb hb0, Option.bind_some, if_neg hb0, if_neg (show ¬ (false = true) by decide), w2, if_neg hb0, w1, w4]
    have tb := tdiv_bound a b ha hb0
    rw [wrap_id tb.1 tb.2]
    simp
end Go.Proofs.YtjaolddgnijgiaaDoor.Pure
