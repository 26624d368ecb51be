import Derived.Test.YtjaolddgnijgiaaDoorPureDiv
import Derived.Test.YtjaolddgnijgiaaDoorPureA
import Derived.Test.YtjaolddgnijgiaaDoorPrint26
import Derived.Test.YtjaolddgnijgiaaDoorPrint28
import Derived.Test.YtjaolddgnijgiaaDoorPrint29
import Derived.Test.YtjaolddgnijgiaaDoorPrint31
import Derived.Test.YtjaolddgnijgiaaDoorPrint32
import Derived.Test.YtjaolddgnijgiaaDoorPrint34
import Derived.Test.YtjaolddgnijgiaaDoorIs
namespace Go.Proofs.YtjaolddgnijgiaaDoor.PureN
open Go.RowKit Go.Proofs.YtjaolddgnijgiaaDoor.Print Go.Proofs.YtjaolddgnijgiaaDoor.Pure Go.Proofs.YtjaolddgnijgiaaDoorW.PrintWords Go.Proofs.YtjaolddgnijgiaaDoorW.PrintLast Go.Proofs.YtjaolddgnijgiaaDoorW.PrintMore
set_option linter.unusedVariables false
set_option linter.unusedSimpArgs false

/-! What the number functions come to, in whole numbers. -/
def R (n : Int) : Prop := -9223372036854775808 ≤ n ∧ n ≤ 9223372036854775807
def ab (n : Int) : Int := if n < 0 then -n else n
def over (a : Bool) (n : Int) : Bool := isOver ⟨a, n⟩
/-- A quotient cut off, with a sign; overflow, if it is too great. -/
def sgn (neg : Bool) (q : Int) : Bool × Int := if 9223372036854775807 < q then (true, 0) else (false, if neg then -q else q)
def mulS (a : Bool) (n : Int) (b : Bool) (m : Int) : Bool × Int := if over a n || over b m then (true, 0) else sgn (decide (n < 0) != decide (m < 0)) (ab n * ab m / 1000000)
def divS (a : Bool) (n : Int) (b : Bool) (m : Int) : Bool × Int := if over a n || over b m || m == 0 then (true, 0) else sgn (decide (n < 0) != decide (m < 0)) (ab n * 1000000 / ab m)
def negS (a : Bool) (n : Int) : Bool × Int := if over a n then (true, 0) else (false, -n)
def addS (a : Bool) (n : Int) (b : Bool) (m : Int) : Bool × Int := if over a n || over b m then (true, 0) else told (n + m)

theorem scaled_eq (k : Nat) (neg : Bool) (a b c : Int) (hk : 20 < k) (a0 : 0 ≤ a) (a1 : a < 18446744073709551616) (b0 : 0 ≤ b) (b1 : b < 18446744073709551616) (c0 : 0 < c) (c1 : c < 18446744073709551616) :
    fix_scaled.f k neg a b c = some (sgn neg (a * b / c)) := by
  have m0 : 0 ≤ a * b := Int.mul_nonneg a0 b0
  unfold fix_scaled.f bits_Mul64.f
  rw [if_pos ⟨a0, a1, b0, b1⟩, Option.bind_some]
  generalize a * b = p at *
  simp only
  by_cases h : p / 18446744073709551616 ≥ c
  · rw [if_pos h]
    have : 18446744073709551616 ≤ p / c := by
      rw [Int.le_ediv_iff_mul_le c0]
      omega
    unfold sgn
    rw [if_pos (by omega)]
    rfl
  · rw [if_neg h]
    obtain ⟨rem, e⟩ := div64 k (p / 18446744073709551616) (p % 18446744073709551616) c hk (by omega) (by omega) c1 (by omega) (by omega)
    rw [e, Option.bind_some, show p / 18446744073709551616 * 18446744073709551616 + p % 18446744073709551616 = p by omega]
    have q0 : 0 ≤ p / c := Int.ediv_nonneg m0 (by omega)
    generalize p / c = q at *
    unfold sgn
    simp only
    by_cases g : q > 9223372036854775807
    · rw [if_pos g, if_pos (by omega)]
      rfl
    · have w1 : wrap64 q = q := wrap_id (by omega) (by omega)
      have w2 : wrap64 (-q) = -q := wrap_id (by omega) (by omega)
      have g2 : ¬ 9223372036854775807 < q := by omega
      rw [if_neg g, if_neg g2, w1, w2]
      cases neg <;> rfl
theorem size_eq (n : Int) (h : R n) : fix_size.f n = some (ab n) := by
  obtain ⟨h1, h2⟩ := h
  unfold fix_size.f ab
  simp only [u64_mod]
  by_cases c : n < 0
  · rw [if_pos c, if_pos c]
    congr 1
    omega
  · rw [if_neg c, if_neg c]
    congr 1
    omega
theorem ab_R {n : Int} (h : R n) : 0 ≤ ab n ∧ ab n < 18446744073709551616 := by
  obtain ⟨h1, h2⟩ := h
  unfold ab
  split <;> omega
theorem mul_eq (k : Nat) (a : Bool) (n : Int) (b : Bool) (m : Int) (hk : 21 < k) (hn : R n) (hm : R m) : fix_Mul.f k a n b m = some (mulS a n b m) := by
  obtain ⟨k, rfl⟩ : ∃ j, k = j + 1 := ⟨k - 1, by omega⟩
  unfold fix_Mul.f mulS over
  simp only [over_eq, Option.bind_some, fix_Mul.j0]
  cases h1 : isOver ⟨a, n⟩ <;> cases h2 : isOver ⟨b, m⟩
  · simp only [Bool.false_eq_true, if_false, Bool.or_self]
    rw [size_eq n hn, Option.bind_some, size_eq m hm, Option.bind_some, scaled_eq k _ _ _ _ (by omega) (ab_R hn).1 (ab_R hn).2 (ab_R hm).1 (ab_R hm).2 (by omega) (by omega), Option.bind_some]
  · rfl
  · rfl
  · rfl
theorem div_eq (k : Nat) (a : Bool) (n : Int) (b : Bool) (m : Int) (hk : 21 < k) (hn : R n) (hm : R m) : fix_Div.f k a n b m = some (divS a n b m) := by
  obtain ⟨k, rfl⟩ : ∃ j, k = j + 1 := ⟨k - 1, by omega⟩
  unfold fix_Div.f divS over
  simp only [over_eq, Option.bind_some, fix_Div.j0]
  cases h1 : isOver ⟨a, n⟩ <;> cases h2 : isOver ⟨b, m⟩
  · simp only [Bool.false_eq_true, if_false, Bool.or_self, Bool.false_or]
    cases h3 : (m == 0)
    · simp only [Bool.false_eq_true, if_false]
      have hm0 : m ≠ 0 := by simpa using h3
      have hpos : 0 < ab m := by
        unfold ab
        split <;> omega
      rw [size_eq n hn, Option.bind_some, size_eq m hm, Option.bind_some, scaled_eq k _ _ _ _ (by omega) (ab_R hn).1 (ab_R hn).2 (by omega) (by omega) hpos (ab_R hm).2, Option.bind_some]
    · rfl
  · rfl
  · rfl
  · rfl
theorem not_over {a : Bool} {n : Int} (h : over a n = false) : a = false ∧ n ≠ -9223372036854775808 := by
  unfold over isOver at h
  simpa using h
theorem neg_eq (a : Bool) (n : Int) (hn : R n) : fix_Neg.f a n = some (negS a n) := by
  unfold fix_Neg.f negS
  rw [over_eq, Option.bind_some]
  cases h : over a n
  · obtain ⟨_, h2⟩ := not_over h
    unfold over at h
    obtain ⟨n1, n2⟩ := hn
    rw [h, wrap_id (by omega) (by omega)]
    rfl
  · unfold over at h
    rw [h]
    rfl
theorem of_eq (k : Nat) (n : Int) (hk : 20 < k) (hn : R n) : fix_Of.f k n = some (sgn (decide (n < 0)) (ab n * 1000000 / 1)) := by
  unfold fix_Of.f
  rw [size_eq n hn, Option.bind_some, scaled_eq k _ _ _ _ hk (ab_R hn).1 (ab_R hn).2 (by omega) (by omega) (by omega) (by omega), Option.bind_some]
theorem add_sum (a : Bool) (n : Int) (b : Bool) (m : Int) : sumS [⟨a, n⟩, ⟨b, m⟩] = addS a n b m := by
  unfold sumS sums addS over
  simp
theorem add_eq2 (k : Nat) (a : Bool) (n : Int) (b : Bool) (m : Int) (hk : 1001 < k) (hn : R n) (hm : R m) : fix_Add.f k a n b m = some (addS a n b m) := by
  unfold fix_Add.f
  rw [sum_eq k _ (by intro s hs; simp at hs; rcases hs with rfl | rfl <;> assumption) (by simp) hk, Option.bind_some, add_sum]
theorem neg_R (a : Bool) (n : Int) (hn : R n) : R (negS a n).2 := by
  unfold negS
  cases h : over a n
  · obtain ⟨_, h2⟩ := not_over h
    obtain ⟨n1, n2⟩ := hn
    simp only [Bool.false_eq_true, if_false]
    constructor <;> omega
  · simp only [if_true]
    constructor <;> decide
theorem told_R (s : Int) : R (told s).2 := by
  unfold told R
  split
  · constructor <;> (simp only; omega)
  · simp
theorem add_R (a : Bool) (n : Int) (b : Bool) (m : Int) : R (addS a n b m).2 := by
  unfold addS
  split
  · simp [R]
  · exact told_R _
theorem sgn_R (neg : Bool) (q : Int) (h : 0 ≤ q) : R (sgn neg q).2 := by
  unfold sgn R
  split
  · simp
  · cases neg <;> (constructor <;> (simp; omega))
theorem ab0 (n : Int) : 0 ≤ ab n := by
  unfold ab
  split <;> omega
theorem mul_R (a : Bool) (n : Int) (b : Bool) (m : Int) : R (mulS a n b m).2 := by
  unfold mulS
  split
  · simp [R]
  · exact sgn_R _ _ (Int.ediv_nonneg (Int.mul_nonneg (ab0 _) (ab0 _)) (by omega))
theorem sub_eq (k : Nat) (a : Bool) (n : Int) (b : Bool) (m : Int) (hk : 1001 < k) (hn : R n) (hm : R m) : fix_Sub.f k a n b m = some (addS a n (negS b m).1 (negS b m).2) := by
  unfold fix_Sub.f
  have h2 := neg_R b m hm
  rw [neg_eq b m hm, Option.bind_some, sum_eq k _ (by intro s hs; simp at hs; rcases hs with rfl | rfl <;> assumption) (by simp) hk, Option.bind_some, add_sum]
theorem sgn_zero (neg : Bool) : sgn neg 0 = (false, 0) := by cases neg <;> rfl
end Go.Proofs.YtjaolddgnijgiaaDoor.PureN
