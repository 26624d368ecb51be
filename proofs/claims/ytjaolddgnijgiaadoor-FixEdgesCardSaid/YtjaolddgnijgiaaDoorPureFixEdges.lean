import Derived.Test.YtjaolddgnijgiaaDoorPureNum
import Derived.Test.YtjaolddgnijgiaaDoorH
namespace Go.Proofs.YtjaolddgnijgiaaDoor.PureN
open Go.RowKit Go.Proofs.YtjaolddgnijgiaaDoor.Print Go.Proofs.YtjaolddgnijgiaaDoor.Pure Go.Proofs.YtjaolddgnijgiaaDoorW.PrintWords Go.Proofs.YtjaolddgnijgiaaDoorW.PrintLast Go.Proofs.YtjaolddgnijgiaaDoorW.PrintMore
set_option linter.unusedVariables false
set_option linter.unusedSimpArgs false

/-! The ends of the range. -/
theorem over_no {n : Int} (h : n ≠ -9223372036854775808) : over false n = false := by
  unfold over isOver
  simpa using h
theorem add_in {n m : Int} (hn : n ≠ -9223372036854775808) (hm : m ≠ -9223372036854775808) : addS false n false m = told (n + m) := by
  unfold addS
  rw [over_no hn, over_no hm]
  rfl
theorem neg_in {n : Int} (hn : n ≠ -9223372036854775808) : negS false n = (false, -n) := by
  unfold negS
  rw [over_no hn]
  rfl
theorem edges_f (d : Int) (a : Bool) (n : Int) (hd : 0 ≤ d ∧ d ≤ 4294967295) : H.spillwaylaw2_FixEdges.f 1200 d a n = some true := by
  have wd : wrap64 d = d := wrap_id (by omega) (by omega)
  have rt : R 9223372036854775807 := by constructor <;> decide
  have rb : R (-9223372036854775807) := by constructor <;> decide
  have rd : R d := ⟨by omega, by omega⟩
  have d0 : d ≠ -9223372036854775808 := by omega
  have t1 : (addS false 9223372036854775807 false d).1 = decide (d > 0) := by
    rw [add_in (by decide) d0]
    unfold told
    by_cases c : d > 0
    · rw [if_neg (by omega), decide_eq_true c]
    · rw [if_pos (by omega), decide_eq_false c]
  have t2 : (addS false (-9223372036854775807) (negS false d).1 (negS false d).2).1 = decide (d > 0) := by
    rw [neg_in d0]
    simp only
    rw [add_in (by decide) (by omega)]
    unfold told
    by_cases c : d > 0
    · rw [if_neg (by omega), decide_eq_true c]
    · rw [if_pos (by omega), decide_eq_false c]
  have t3 : (addS false 9223372036854775807 (negS false d).1 (negS false d).2).1 = false := by
    rw [neg_in d0]
    simp only
    rw [add_in (by decide) (by omega)]
    unfold told
    rw [if_pos (by omega)]
  have t4 : sumS [⟨false, 9223372036854775807⟩, ⟨false, d⟩, ⟨false, -9223372036854775807⟩] = (false, d) := by
    have o1 : isOver ⟨false, d⟩ = false := over_no d0
    unfold sumS sums
    simp only [List.any_cons, List.any_nil, o1, List.map_cons, List.map_nil, List.sum_cons, List.sum_nil]
    rw [show (isOver ⟨false, 9223372036854775807⟩ || (false || (isOver ⟨false, -9223372036854775807⟩ || false))) = false from rfl]
    simp only [Bool.false_eq_true, if_false]
    unfold told
    rw [if_pos (by omega)]
    congr 1
    omega
  have i3 : Pure.I64 [⟨false, 9223372036854775807⟩, ⟨false, d⟩, ⟨false, -9223372036854775807⟩] := by intro s hs; simp at hs; rcases hs with rfl | rfl | rfl <;> assumption
  have nt : negS false 9223372036854775807 = (false, -9223372036854775807) := rfl
  unfold H.spillwaylaw2_FixEdges.f Print.spillwaylaw2_known.f
  rw [Option.bind_some, if_pos rfl, wd, add_eq2 1200 false _ false d (by omega) rt rd, Option.bind_some, t1, if_neg (by simp), neg_eq false _ rt, Option.bind_some, nt]
  simp only
  rw [sub_eq 1200 false _ false d (by omega) rb rd, Option.bind_some, t2, if_neg (by simp), sub_eq 1200 false _ false d (by omega) rt rd, Option.bind_some, t3, if_neg (by decide)]
  rw [show fix_Is.f false 9223372036854775807 = some true from rfl, Option.bind_some, if_pos rfl, show fix_Is.f false (-9223372036854775808) = some false from rfl, Option.bind_some, if_neg (by decide), Option.bind_some]
  rw [sum_eq 1200 _ i3 (by simp) (by omega), Option.bind_some, t4, if_pos (by simp)]
  rw [of_eq 1200 2 (by omega) (by constructor <;> decide), Option.bind_some, show sgn (decide ((2 : Int) < 0)) (ab 2 * 1000000 / 1) = (false, 2000000) from by decide]
  rw [mul_eq 1200 false _ false _ (by omega) rt (by constructor <;> decide), Option.bind_some, show mulS false 9223372036854775807 false 2000000 = (true, 0) from by decide, if_pos (by rfl)]
  rw [div_eq 1200 false _ false _ (by omega) rt (by constructor <;> decide), Option.bind_some, show divS false 9223372036854775807 false 500000 = (true, 0) from by decide]
  rfl
theorem FixEdges (d : Int) (a : Bool) (n : Int) (w : World) (hg : LaidW w) (hd : 0 ≤ d ∧ d ≤ 4294967295) (hn : R n) :
    Calls Tryd.prog 9 #[.int .u32 d, .agg #[.bool a, .int .i64 n]] w fun e w' => e = .returned (.bool true) ∧ Below w.heap.size w w' := by
  have r0 : R 0 := by constructor <;> decide
  have ot : over true 0 = true := rfl
  refine H.spillwaylaw2_FixEdges.calls 1200 d a n true w hg ⟨?_⟩ ⟨?_⟩ ⟨?_⟩ ⟨?_⟩ ⟨?_⟩ (edges_f d a n hd) rfl
  · rw [add_eq2 1200 true 0 a n (by omega) r0 hn]
    unfold addS
    rw [ot]
    rfl
  · rw [sub_eq 1200 a n true 0 (by omega) hn r0, show negS true 0 = (true, 0) from rfl]
    unfold addS
    rw [ot, Bool.or_true]
    rfl
  · rw [mul_eq 1200 true 0 a n (by omega) r0 hn]
    unfold mulS
    rw [ot]
    rfl
  · rw [div_eq 1200 a n true 0 (by omega) hn r0]
    unfold divS
    rw [ot, Bool.or_true, Bool.true_or]
    rfl
  · rw [neg_eq true 0 r0]
    rfl
end Go.Proofs.YtjaolddgnijgiaaDoor.PureN
