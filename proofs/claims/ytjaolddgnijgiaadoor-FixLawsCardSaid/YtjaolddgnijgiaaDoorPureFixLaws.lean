import Derived.Test.YtjaolddgnijgiaaDoorPureNum
import Derived.Test.YtjaolddgnijgiaaDoorE
import Derived.Test.YtjaolddgnijgiaaDoorF
namespace Go.Proofs.YtjaolddgnijgiaaDoor.PureN
open Go.RowKit Go.Proofs.YtjaolddgnijgiaaDoor.Print Go.Proofs.YtjaolddgnijgiaaDoor.Pure Go.Proofs.YtjaolddgnijgiaaDoorW.PrintWords Go.Proofs.YtjaolddgnijgiaaDoorW.PrintLast Go.Proofs.YtjaolddgnijgiaaDoorW.PrintMore
set_option linter.unusedVariables false
set_option linter.unusedSimpArgs false
def isS (a : Bool) (n : Int) : Bool := if a = true then n == 0 else n != -9223372036854775808
theorem is_eq2 (a : Bool) (n : Int) : fix_Is.f a n = some (isS a n) := rfl
theorem isS_cases {a : Bool} {n : Int} (h : isS a n = true) : (a = true ∧ n = 0 ∧ over a n = true) ∨ (a = false ∧ n ≠ -9223372036854775808 ∧ over a n = false) := by
  unfold isS at h
  unfold over isOver
  cases a
  · right
    simp only [Bool.false_eq_true, if_false, bne_iff_ne] at h
    exact ⟨rfl, h, by simpa using h⟩
  · left
    simp only [if_true, beq_iff_eq] at h
    exact ⟨rfl, h, rfl⟩
theorem addS_comm (a : Bool) (n : Int) (b : Bool) (m : Int) : addS a n b m = addS b m a n := by
  unfold addS
  rw [Bool.or_comm, Int.add_comm]
theorem mulS_comm (a : Bool) (n : Int) (b : Bool) (m : Int) : mulS a n b m = mulS b m a n := by
  unfold mulS
  have hb : ∀ x y : Bool, (x != y) = (y != x) := by decide
  rw [Bool.or_comm, Int.mul_comm (ab n), hb]
theorem over_t : over true 0 = true := rfl
theorem over_f {n : Int} (h : n ≠ -9223372036854775808) : over false n = false := by
  unfold over isOver
  simpa using h
theorem neg_neg {a : Bool} {n : Int} (hn : R n) (h : isS a n = true) : negS (negS a n).1 (negS a n).2 = (a, n) := by
  obtain ⟨n1, n2⟩ := hn
  rcases isS_cases h with ⟨rfl, rfl, _⟩ | ⟨rfl, h1, h2⟩
  · rfl
  · unfold negS
    rw [h2]
    simp only [Bool.false_eq_true, if_false]
    rw [over_f (by omega)]
    simp
theorem ab_le {n : Int} (hn : R n) (h : n ≠ -9223372036854775808) : ab n ≤ 9223372036854775807 := by
  obtain ⟨n1, n2⟩ := hn
  unfold ab
  split <;> omega
theorem sgn_ab {n : Int} (hn : R n) (h : n ≠ -9223372036854775808) : sgn (decide (n < 0)) (ab n) = (false, n) := by
  have h2 := ab_le hn h
  have g2 : ¬ 9223372036854775807 < ab n := by omega
  unfold sgn
  rw [if_neg g2]
  unfold ab
  by_cases c : n < 0
  · simp [c]
  · simp [c]
theorem one_is : sgn (decide ((1 : Int) < 0)) (ab 1 * 1000000 / 1) = (false, 1000000) := by decide
theorem mul_one {a : Bool} {n : Int} (hn : R n) (h : isS a n = true) : mulS a n false 1000000 = (a, n) := by
  rcases isS_cases h with ⟨rfl, rfl, h2⟩ | ⟨rfl, h1, h2⟩
  · rfl
  · unfold mulS
    rw [h2, over_f (by decide), show ab 1000000 = 1000000 from rfl, Int.mul_ediv_cancel _ (by decide), show (decide (n < 0) != decide ((1000000 : Int) < 0)) = decide (n < 0) by simp]
    exact sgn_ab hn h1
theorem div_one {a : Bool} {n : Int} (hn : R n) (h : isS a n = true) : divS a n false 1000000 = (a, n) := by
  rcases isS_cases h with ⟨rfl, rfl, h2⟩ | ⟨rfl, h1, h2⟩
  · rfl
  · unfold divS
    rw [h2, over_f (by decide), show ab 1000000 = 1000000 from rfl, Int.mul_ediv_cancel _ (by decide), show (decide (n < 0) != decide ((1000000 : Int) < 0)) = decide (n < 0) by simp]
    exact sgn_ab hn h1
theorem told_of {n : Int} (hn : R n) (h : n ≠ -9223372036854775808) : told n = (false, n) := by
  obtain ⟨n1, n2⟩ := hn
  unfold told
  rw [if_pos (by omega)]
theorem add_zero {a : Bool} {n : Int} (hn : R n) (h : isS a n = true) : addS a n false 0 = (a, n) := by
  rcases isS_cases h with ⟨rfl, rfl, h2⟩ | ⟨rfl, h1, h2⟩
  · rfl
  · unfold addS
    rw [h2, over_f (by decide), Int.add_zero]
    exact told_of hn h1
theorem sub_back {a : Bool} {n : Int} {b : Bool} {m : Int} (hn : R n) (hm : R m) (h : isS a n = true) (g : isS b m = true) :
    (addS (addS a n b m).1 (addS a n b m).2 (negS b m).1 (negS b m).2).1 = true ∨ addS (addS a n b m).1 (addS a n b m).2 (negS b m).1 (negS b m).2 = (a, n) := by
  rcases isS_cases h with ⟨rfl, rfl, h2⟩ | ⟨rfl, h1, h2⟩
  · left
    rfl
  · rcases isS_cases g with ⟨rfl, rfl, g2⟩ | ⟨rfl, g1, g2⟩
    · left
      unfold addS
      simp [over, isOver]
    · unfold negS
      rw [g2]
      obtain ⟨n1, n2⟩ := hn
      obtain ⟨m1, m2⟩ := hm
      simp only [Bool.false_eq_true, if_false]
      have e1 : addS false n false m = told (n + m) := by
        unfold addS
        rw [h2, g2]
        rfl
      rw [e1]
      unfold told
      by_cases c : -9223372036854775808 < n + m ∧ n + m < 9223372036854775808
      · rw [if_pos c]
        right
        unfold addS
        rw [over_f (by simp only; omega), over_f (by omega)]
        simp only [Bool.or_self, Bool.false_eq_true, if_false]
        rw [show n + m + -m = n by omega]
        exact told_of ⟨n1, n2⟩ h1
      · rw [if_neg c]
        left
        rfl
theorem mul_neg {a : Bool} {n : Int} {b : Bool} {m : Int} (hn : R n) (hm : R m) : mulS (negS a n).1 (negS a n).2 b m = negS (mulS a n b m).1 (mulS a n b m).2 := by
  cases h : over a n
  · obtain ⟨ha, hn0⟩ := not_over h
    unfold negS
    rw [h]
    simp only [Bool.false_eq_true, if_false]
    unfold mulS
    rw [over_f (by have := hn.1; have := hn.2; omega), h]
    cases g : over b m
    · simp only [Bool.or_self, Bool.false_eq_true, if_false]
      have e : ab (-n) = ab n := by
        unfold ab
        split <;> split <;> omega
      rw [e]
      have q0 : 0 ≤ ab n * ab m / 1000000 := Int.ediv_nonneg (Int.mul_nonneg (ab0 _) (ab0 _)) (by omega)
      have z : n = 0 → ab n * ab m / 1000000 = 0 := by
        rintro rfl
        simp [ab]
      generalize ab n * ab m / 1000000 = q at *
      unfold sgn
      by_cases c : 9223372036854775807 < q
      · rw [if_pos c, if_pos c]
        rfl
      · rw [if_neg c, if_neg c]
        by_cases n0 : n = 0
        · obtain rfl := z n0
          simp [over, isOver]
        · have d : decide (-n < 0) = !decide (n < 0) := by
            by_cases s : n < 0
            · rw [decide_eq_true s, decide_eq_false (by omega)]
              rfl
            · rw [decide_eq_false s, decide_eq_true (by omega)]
              rfl
          rw [d]
          cases decide (n < 0) <;> cases decide (m < 0)
          · simp only [Bool.not_false, bne_self_eq_false, Bool.false_eq_true, if_false, Bool.true_bne, Bool.not_false, if_true]
            rw [over_f (by omega)]
            rfl
          · simp only [Bool.not_false, bne_self_eq_false, Bool.false_eq_true, if_false, Bool.false_bne, if_true]
            rw [over_f (by omega)]
            simp
          · simp only [Bool.not_true, bne_self_eq_false, Bool.false_eq_true, if_false, Bool.true_bne, Bool.not_false, if_true]
            rw [over_f (by omega)]
            simp
          · simp only [Bool.not_true, bne_self_eq_false, Bool.false_eq_true, if_false, Bool.false_bne, if_true]
            rw [over_f (by omega)]
            rfl
    · rfl
  · unfold negS
    rw [h]
    unfold mulS
    rw [h]
    rfl
theorem sum_turn (a : Bool) (n : Int) (b : Bool) (m : Int) (c : Bool) (z : Int) : sumS [⟨a, n⟩, ⟨b, m⟩, ⟨c, z⟩] = sumS [⟨c, z⟩, ⟨a, n⟩, ⟨b, m⟩] := by
  unfold sumS sums
  have e1 : [(⟨a, n⟩ : S25), ⟨b, m⟩, ⟨c, z⟩].any isOver = [(⟨c, z⟩ : S25), ⟨a, n⟩, ⟨b, m⟩].any isOver := by
    simp only [List.any_cons, List.any_nil, Bool.or_false]
    cases isOver ⟨a, n⟩ <;> cases isOver ⟨b, m⟩ <;> cases isOver ⟨c, z⟩ <;> rfl
  have e2 : (([(⟨a, n⟩ : S25), ⟨b, m⟩, ⟨c, z⟩].map fun s => s.f1).sum) = (([(⟨c, z⟩ : S25), ⟨a, n⟩, ⟨b, m⟩].map fun s => s.f1).sum) := by
    simp only [List.map_cons, List.map_nil, List.sum_cons, List.sum_nil]
    omega
  rw [e1, e2]
theorem same_t (x : Bool) (y : Int) : ¬ ((!(x == x) || !(y == y)) = true) := by simp
theorem same_f (x : Bool) (y : Int) : (x == x && (y == y)) = true := by simp

theorem laws_E (a : Bool) (n : Int) (b : Bool) (m : Int) (c : Bool) (z : Int) (hn : R n) (hm : R m) (hz : R z) (hs : (isS a n && isS b m && isS c z) = false ∨ (addS (addS a n b m).1 (addS a n b m).2 (negS b m).1 (negS b m).2).1 = true) :
    E.spillwaylaw2_FixLaws.f 1200 a n b m c z = some true := by
  obtain ⟨K, hK⟩ : ∃ K : Nat, K = 1100 := ⟨_, rfl⟩
  rw [show (1200 : Nat) = K + 98 + 1 + 1 by omega]
  unfold E.spillwaylaw2_FixLaws.f Print.spillwaylaw2_known.f
  rw [Option.bind_some, if_pos rfl, is_eq2, Option.bind_some]
  cases ha : isS a n
  · rw [if_neg (by simp)]
    simp only [E.spillwaylaw2_FixLaws.j0, if_true]
  rw [if_pos rfl, is_eq2, Option.bind_some]
  cases hb : isS b m
  · rw [if_neg (by simp)]
    simp only [E.spillwaylaw2_FixLaws.j0, if_true]
  rw [if_pos rfl, is_eq2, Option.bind_some]
  cases hc : isS c z
  · simp only [E.spillwaylaw2_FixLaws.j0, Bool.not_false, if_true]
  have hs : (addS (addS a n b m).1 (addS a n b m).2 (negS b m).1 (negS b m).2).1 = true := by simpa [ha, hb, hc] using hs
  have k1 : 1001 < K + 98 + 1 := by omega
  have k2 : 21 < K + 98 + 1 := by omega
  have k3 : 20 < K + 98 + 1 := by omega
  have k4 : 1001 < K + 98 := by omega
  have k5 : 21 < K + 98 := by omega
  have rb := neg_R b m hm
  have ra := neg_R a n hn
  have l3 : Pure.I64 [⟨a, n⟩, ⟨b, m⟩, ⟨c, z⟩] := by intro s hs; simp at hs; rcases hs with rfl | rfl | rfl <;> assumption
  have l4 : Pure.I64 [⟨c, z⟩, ⟨a, n⟩, ⟨b, m⟩] := by intro s hs; simp at hs; rcases hs with rfl | rfl | rfl <;> assumption
  have l2 : Pure.I64 [⟨a, n⟩, ⟨b, m⟩] := by intro s hs; simp at hs; rcases hs with rfl | rfl <;> assumption
  simp only [Bool.not_true, E.spillwaylaw2_FixLaws.j0, Bool.false_eq_true, if_false]
  rw [add_eq2 _ a n b m k1 hn hm, Option.bind_some, add_eq2 _ b m a n k1 hm hn, Option.bind_some, addS_comm b m a n, if_neg (same_t _ _)]
  rw [mul_eq _ a n b m k2 hn hm, Option.bind_some, mul_eq _ b m a n k2 hm hn, Option.bind_some, mulS_comm b m a n, if_neg (same_t _ _)]
  rw [sub_eq _ a n b m k1 hn hm, Option.bind_some, neg_eq b m hm, Option.bind_some, add_eq2 _ a n _ _ k1 hn rb, Option.bind_some, if_neg (same_t _ _)]
  rw [neg_eq a n hn, Option.bind_some, neg_eq _ _ ra, Option.bind_some, neg_neg hn ha, if_neg (same_t _ _)]
  rw [of_eq _ 1 k3 (by constructor <;> decide), Option.bind_some, one_is, mul_eq _ a n _ _ k2 hn (by constructor <;> decide), Option.bind_some, mul_one hn ha, if_neg (same_t _ _)]
  rw [Option.bind_some, div_eq _ a n _ _ k2 hn (by constructor <;> decide), Option.bind_some, div_one hn ha, if_neg (same_t _ _)]
  rw [add_eq2 _ a n false 0 k1 hn (by constructor <;> decide), Option.bind_some, add_zero hn ha]
  rw [show (!(a == a) || !(n == n)) = false by simp]
  simp only [E.spillwaylaw2_FixLaws.j1, Bool.false_eq_true, if_false]
  rw [add_eq2 _ a n b m k4 hn hm, Option.bind_some, sub_eq _ _ _ b m k4 (add_R a n b m) hm, Option.bind_some, hs, if_pos rfl]
  rw [neg_eq a n hn, Option.bind_some, mul_eq _ _ _ b m k5 ra hm, Option.bind_some, mul_eq _ a n b m k5 hn hm, Option.bind_some, neg_eq _ _ (mul_R a n b m), Option.bind_some, mul_neg hn hm, if_pos (same_f _ _)]
  rw [sum_eq _ _ l3 (by simp) k4, Option.bind_some, sum_eq _ _ l4 (by simp) k4, Option.bind_some, sum_turn, if_pos (same_f _ _)]
  rw [sum_eq _ _ l2 (by simp) k4, Option.bind_some, Option.bind_some, add_sum, same_f]
theorem laws_F (a : Bool) (n : Int) (b : Bool) (m : Int) (c : Bool) (z : Int) (hn : R n) (hm : R m) (hz : R z) (hs : (isS a n && isS b m && isS c z) = false ∨ (addS (addS a n b m).1 (addS a n b m).2 (negS b m).1 (negS b m).2).1 = false) :
    F.spillwaylaw2_FixLaws.f 1200 a n b m c z = some true := by
  obtain ⟨K, hK⟩ : ∃ K : Nat, K = 1100 := ⟨_, rfl⟩
  rw [show (1200 : Nat) = K + 98 + 1 + 1 by omega]
  unfold F.spillwaylaw2_FixLaws.f Print.spillwaylaw2_known.f
  rw [Option.bind_some, if_pos rfl, is_eq2, Option.bind_some]
  cases ha : isS a n
  · rw [if_neg (by simp)]
    simp only [F.spillwaylaw2_FixLaws.j0, if_true]
  rw [if_pos rfl, is_eq2, Option.bind_some]
  cases hb : isS b m
  · rw [if_neg (by simp)]
    simp only [F.spillwaylaw2_FixLaws.j0, if_true]
  rw [if_pos rfl, is_eq2, Option.bind_some]
  cases hc : isS c z
  · simp only [F.spillwaylaw2_FixLaws.j0, Bool.not_false, if_true]
  have hs : (addS (addS a n b m).1 (addS a n b m).2 (negS b m).1 (negS b m).2).1 = false := by simpa [ha, hb, hc] using hs
  have hsb := (sub_back hn hm ha hb).resolve_left (by rw [hs]; decide)
  have k1 : 1001 < K + 98 + 1 := by omega
  have k2 : 21 < K + 98 + 1 := by omega
  have k3 : 20 < K + 98 + 1 := by omega
  have k4 : 1001 < K + 98 := by omega
  have k5 : 21 < K + 98 := by omega
  have rb := neg_R b m hm
  have ra := neg_R a n hn
  have l3 : Pure.I64 [⟨a, n⟩, ⟨b, m⟩, ⟨c, z⟩] := by intro s hs; simp at hs; rcases hs with rfl | rfl | rfl <;> assumption
  have l4 : Pure.I64 [⟨c, z⟩, ⟨a, n⟩, ⟨b, m⟩] := by intro s hs; simp at hs; rcases hs with rfl | rfl | rfl <;> assumption
  have l2 : Pure.I64 [⟨a, n⟩, ⟨b, m⟩] := by intro s hs; simp at hs; rcases hs with rfl | rfl <;> assumption
  simp only [Bool.not_true, F.spillwaylaw2_FixLaws.j0, Bool.false_eq_true, if_false]
  rw [add_eq2 _ a n b m k1 hn hm, Option.bind_some, add_eq2 _ b m a n k1 hm hn, Option.bind_some, addS_comm b m a n, if_neg (same_t _ _)]
  rw [mul_eq _ a n b m k2 hn hm, Option.bind_some, mul_eq _ b m a n k2 hm hn, Option.bind_some, mulS_comm b m a n, if_neg (same_t _ _)]
  rw [sub_eq _ a n b m k1 hn hm, Option.bind_some, neg_eq b m hm, Option.bind_some, add_eq2 _ a n _ _ k1 hn rb, Option.bind_some, if_neg (same_t _ _)]
  rw [neg_eq a n hn, Option.bind_some, neg_eq _ _ ra, Option.bind_some, neg_neg hn ha, if_neg (same_t _ _)]
  rw [of_eq _ 1 k3 (by constructor <;> decide), Option.bind_some, one_is, mul_eq _ a n _ _ k2 hn (by constructor <;> decide), Option.bind_some, mul_one hn ha, if_neg (same_t _ _)]
  rw [Option.bind_some, div_eq _ a n _ _ k2 hn (by constructor <;> decide), Option.bind_some, div_one hn ha, if_neg (same_t _ _)]
  rw [add_eq2 _ a n false 0 k1 hn (by constructor <;> decide), Option.bind_some, add_zero hn ha]
  rw [show (!(a == a) || !(n == n)) = false by simp]
  simp only [F.spillwaylaw2_FixLaws.j1, Bool.false_eq_true, if_false]
  rw [add_eq2 _ a n b m k4 hn hm, Option.bind_some, sub_eq _ _ _ b m k4 (add_R a n b m) hm, Option.bind_some, hs, if_neg (by decide)]
  have fin : (false == a && ((addS (addS a n b m).1 (addS a n b m).2 (negS b m).1 (negS b m).2).2 == n)) = true := by
    rw [hsb] at hs ⊢
    simp only at hs ⊢
    rw [hs]
    simp
  rw [if_pos fin]
  rw [neg_eq a n hn, Option.bind_some, mul_eq _ _ _ b m k5 ra hm, Option.bind_some, mul_eq _ a n b m k5 hn hm, Option.bind_some, neg_eq _ _ (mul_R a n b m), Option.bind_some, mul_neg hn hm, if_pos (same_f _ _)]
  rw [sum_eq _ _ l3 (by simp) k4, Option.bind_some, sum_eq _ _ l4 (by simp) k4, Option.bind_some, sum_turn, if_pos (same_f _ _)]
  rw [sum_eq _ _ l2 (by simp) k4, Option.bind_some, Option.bind_some, add_sum, same_f]
end Go.Proofs.YtjaolddgnijgiaaDoor.PureN
namespace Go.Proofs.YtjaolddgnijgiaaDoor.fixLaws
open Go.RowKit Go.Proofs.YtjaolddgnijgiaaDoorX Go.Proofs.YtjaolddgnijgiaaDoor.Print Go.Proofs.YtjaolddgnijgiaaDoorW.PrintWords Go.Proofs.YtjaolddgnijgiaaDoorW.PrintLast Go.Proofs.YtjaolddgnijgiaaDoorW.PrintMore
theorem walked (a : Bool) (n : Int) (b : Bool) (m : Int) (c : Bool) (z : Int) (w : World) (hg : Print.LaidW w) (hn : PureN.R n) (hm : PureN.R m) (hz : PureN.R z) :
    Calls Tryd.prog 8 #[.agg #[.bool a, .int .i64 n], .agg #[.bool b, .int .i64 m], .agg #[.bool c, .int .i64 z]] w fun e w' => e = .returned (.bool true) ∧ Below w.heap.size w w' := by
  by_cases h : (PureN.addS (PureN.addS a n b m).1 (PureN.addS a n b m).2 (PureN.negS b m).1 (PureN.negS b m).2).1 = true
  · exact E.spillwaylaw2_FixLaws.calls 1200 a n b m c z true w hg (PureN.laws_E a n b m c z hn hm hz (.inr h)) rfl
  · exact F.spillwaylaw2_FixLaws.calls 1200 a n b m c z true w hg (PureN.laws_F a n b m c z hn hm hz (.inr (by simpa using h))) rfl
end Go.Proofs.YtjaolddgnijgiaaDoor.fixLaws
