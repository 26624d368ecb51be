import Derived.Test.YtjaolddgnijgiaaDoorKnown
import Derived.Test.YtjaolddgnijgiaaDoorPrint19
import Derived.Test.YtjaolddgnijgiaaDoorIs
namespace Go.Proofs.YtjaolddgnijgiaaDoor.Print
open Go.RowKit Go.Proofs.YtjaolddgnijgiaaDoorX Go.Proofs.YtjaolddgnijgiaaDoorW.PrintWords Go.Proofs.YtjaolddgnijgiaaDoorW.PrintLast Go.Proofs.YtjaolddgnijgiaaDoorW.PrintMore
attribute [local go_sem] max2_int min2_int max_two min_two max_three min_three max_four min_four
set_option linter.unusedVariables false
set_option linter.unusedSimpArgs false

/-! FixReads, walked in one line of calls, its tests known. -/
theorem reads_long (s : ByteArray) (a : Bool) (n : Int) (w : World) (hg_ : LaidW w) (h : 60 < s.size) :
    Calls Tryd.prog 4 #[.string s, .agg #[.bool a, .int .i64 n]] w fun e w' => e = .returned (.bool true) ∧ Below w.heap.size w w' := by
  have HB := Aside0.mk (Below.refl w.heap.size w)
  have HLW := Aside0.mk hg_
  clear hg_
  have d1 : decide ((60 : Int) < (s.size : Int)) = true := decide_eq_true (by omega)
  have d2 : decide (60 < s.size) = true := decide_eq_true h
  go_enter Tryd.func4, Tryd.ntmps4
  go_wp2_with (fail)
  refine (spillwaylaw2_known.calls true _ (HLW.out.below (below_alloc (Below.refl _ _) _)) rfl).mono ?_
  rintro e w1 ⟨rfl, hb⟩
  have HB := Aside0.mk (below_step (below_alloc HB.out _) hb)
  clear hb
  go_wp2
  go_ret
  exact ⟨rfl, HB.out⟩
set_option maxHeartbeats 8000000 in
set_option maxRecDepth 100000 in
theorem reads_walk (k : Nat) (s : ByteArray) (a : Bool) (n : Int) (b : Bool) (m e0 : Int) (t : ByteArray) (x : Bool) (y : Int) (w : World) (hg_ : LaidW w) (h : s.size ≤ 60)
    (hP : fix_Parse.f k s = some (b, m, e0)) (hR : spillwayref2_Parse.f k s = some (b, m, e0 == 0)) (he : e0 = 0 ∨ e0 = 20) (hpr : fix_Print.f a n = some t) (hpt : fix_Parse.f k t = some (x, y, 0))
    (hfin : (x == a && (y == n)) = true) :
    Calls Tryd.prog 4 #[.string s, .agg #[.bool a, .int .i64 n]] w fun e w' => e = .returned (.bool true) ∧ Below w.heap.size w w' := by
  have HB := Aside0.mk (Below.refl w.heap.size w)
  have HLW := Aside0.mk hg_
  clear hg_
  have d1 : decide ((60 : Int) < (s.size : Int)) = false := decide_eq_false (by omega)
  have d2 : decide (60 < s.size) = false := decide_eq_false (by omega)
  have HP := Aside0.mk hP
  have HR := Aside0.mk hR
  have HPR := Aside0.mk hpr
  have HPT := Aside0.mk hpt
  have q1 : ∀ W, (Op.equalIn 10000 25 (.agg #[.bool b, .int .i64 m]) (.agg #[.bool b, .int .i64 m])).run Tryd.prog W = .ok true W := fun W => (eqA25 9998 W b b m m).trans (by simp)
  have q2 : ∀ W, (Op.equalIn 10000 25 (.agg #[.bool x, .int .i64 y]) (.agg #[.bool a, .int .i64 n])).run Tryd.prog W = .ok true W := fun W => (eqA25 9998 W x a y n).trans (by rw [hfin])
  clear hP hR hpr hpt hfin h
  have Q1 := Aside0.mk q1
  have Q2 := Aside0.mk q2
  clear q1 q2
  go_enter Tryd.func4, Tryd.ntmps4
  go_wp2_with (fail)
  refine (spillwaylaw2_known.calls true _ (HLW.out.below (below_alloc (Below.refl _ _) _)) rfl).mono ?_
  rintro e w1 ⟨rfl, hb⟩
  have n0 := Aside0.mk (keep hb (g := w.heap.size) (o := 0) (v := .bool a) (alloc_cell w _ _ 0 _ rfl))
  have n1 := Aside0.mk (keep hb (g := w.heap.size) (o := 1) (v := .int .i64 n) (alloc_cell w _ _ 1 _ rfl))
  have HLW := Aside0.mk ((HLW.out.below (below_alloc (Below.refl _ _) _)).below hb)
  have HB := Aside0.mk (below_step (below_alloc HB.out _) hb)
  clear hb
  go_wp2_with (fail)
  refine (fix_Parse.calls k s b m e0 _ HLW.out HP.out).mono ?_
  rintro e w2 ⟨rfl, hb⟩
  have n0 := Aside0.mk (keep hb n0.out)
  have n1 := Aside0.mk (keep hb n1.out)
  have HLW := Aside0.mk (HLW.out.below hb)
  have HB := Aside0.mk (below_step HB.out hb)
  clear hb
  go_wp2_with (fail)
  refine (spillwayref2_Parse.calls k s b m (e0 == 0) _ HR.out).mono ?_
  rintro e w3 ⟨rfl, hb⟩
  have n0 := Aside0.mk (keep hb (keep (below_alloc (Below.refl w2.heap.size w2) _) n0.out))
  have n1 := Aside0.mk (keep hb (keep (below_alloc (Below.refl w2.heap.size w2) _) n1.out))
  have m0 := Aside0.mk (keep hb (g := w2.heap.size) (o := 0) (v := .bool b) (alloc_cell w2 _ _ 0 _ rfl))
  have m1 := Aside0.mk (keep hb (g := w2.heap.size) (o := 1) (v := .int .i64 m) (alloc_cell w2 _ _ 1 _ rfl))
  have HLW := Aside0.mk ((HLW.out.below (below_alloc (Below.refl _ _) _)).below hb)
  have HB := Aside0.mk (below_step (below_alloc HB.out _) hb)
  clear hb
  have a0 := keep (below_alloc (Below.refl w3.heap.size w3) (.cells #[.bool b, .int .i64 m] 25 (0, 0))) n0.out
  have a1 := keep (below_alloc (Below.refl w3.heap.size w3) (.cells #[.bool b, .int .i64 m] 25 (0, 0))) n1.out
  go_wp2_with (fail)
  clear a0 a1
  refine (fix_Print.calls a n t _ (HLW.out.below (below_alloc (Below.refl _ _) _)) HPR.out).mono ?_
  rintro e w4 ⟨rfl, hb⟩
  have n0 := Aside0.mk (keep hb (keep (below_alloc (Below.refl w3.heap.size w3) _) n0.out))
  have n1 := Aside0.mk (keep hb (keep (below_alloc (Below.refl w3.heap.size w3) _) n1.out))
  have m0 := Aside0.mk (keep hb (keep (below_alloc (Below.refl w3.heap.size w3) _) m0.out))
  have m1 := Aside0.mk (keep hb (keep (below_alloc (Below.refl w3.heap.size w3) _) m1.out))
  have l0 := Aside0.mk (keep hb (g := w3.heap.size) (o := 0) (v := .bool b) (alloc_cell w3 _ _ 0 _ rfl))
  have l1 := Aside0.mk (keep hb (g := w3.heap.size) (o := 1) (v := .int .i64 m) (alloc_cell w3 _ _ 1 _ rfl))
  have HLW := Aside0.mk ((HLW.out.below (below_alloc (Below.refl _ _) _)).below hb)
  have HB := Aside0.mk (below_step (below_alloc HB.out _) hb)
  clear hb
  go_wp2_with (fail)
  refine (fix_Parse.calls k t x y 0 _ HLW.out HPT.out).mono ?_
  rintro e w5 ⟨rfl, hb⟩
  have n0 := keep (below_alloc (Below.refl w5.heap.size w5) (.cells #[.bool x, .int .i64 y] 25 (0, 0))) (keep hb n0.out)
  have n1 := keep (below_alloc (Below.refl w5.heap.size w5) (.cells #[.bool x, .int .i64 y] 25 (0, 0))) (keep hb n1.out)
  have m0 := keep (below_alloc (Below.refl w5.heap.size w5) (.cells #[.bool x, .int .i64 y] 25 (0, 0))) (keep hb m0.out)
  have m1 := keep (below_alloc (Below.refl w5.heap.size w5) (.cells #[.bool x, .int .i64 y] 25 (0, 0))) (keep hb m1.out)
  have l0 := keep (below_alloc (Below.refl w5.heap.size w5) (.cells #[.bool x, .int .i64 y] 25 (0, 0))) (keep hb l0.out)
  have l1 := keep (below_alloc (Below.refl w5.heap.size w5) (.cells #[.bool x, .int .i64 y] 25 (0, 0))) (keep hb l1.out)
  have HB := Aside0.mk (below_alloc (below_step HB.out hb) (.cells #[.bool x, .int .i64 y] 25 (0, 0)))
  clear hb
  have q1 := Q1.out
  have q2 := Q2.out
  rcases he with rfl | rfl
  · go_wp2
    go_ret
    exact ⟨rfl, HB.out⟩
  · go_wp2
    go_ret
    exact ⟨rfl, HB.out⟩
set_option maxHeartbeats 8000000 in
set_option maxRecDepth 100000 in
theorem reads_over (k : Nat) (s : ByteArray) (a : Bool) (n : Int) (b : Bool) (m e0 : Int) (t : ByteArray) (y : Int) (w : World) (hg_ : LaidW w) (h : s.size ≤ 60)
    (hP : fix_Parse.f k s = some (b, m, e0)) (hR : spillwayref2_Parse.f k s = some (b, m, e0 == 0)) (he : e0 = 0 ∨ e0 = 20) (hpr : fix_Print.f a n = some t) (hpt : fix_Parse.f k t = some (true, y, 0))
    (hfin : (true == a && (y == n)) = false) (hi : fix_Is.f a n = some false) :
    Calls Tryd.prog 4 #[.string s, .agg #[.bool a, .int .i64 n]] w fun e w' => e = .returned (.bool true) ∧ Below w.heap.size w w' := by
  have HB := Aside0.mk (Below.refl w.heap.size w)
  have HLW := Aside0.mk hg_
  clear hg_
  have d1 : decide ((60 : Int) < (s.size : Int)) = false := decide_eq_false (by omega)
  have d2 : decide (60 < s.size) = false := decide_eq_false (by omega)
  have HP := Aside0.mk hP
  have HR := Aside0.mk hR
  have HPR := Aside0.mk hpr
  have HPT := Aside0.mk hpt
  have q1 : ∀ W, (Op.equalIn 10000 25 (.agg #[.bool b, .int .i64 m]) (.agg #[.bool b, .int .i64 m])).run Tryd.prog W = .ok true W := fun W => (eqA25 9998 W b b m m).trans (by simp)
  have q2 : ∀ W, (Op.equalIn 10000 25 (.agg #[.bool true, .int .i64 y]) (.agg #[.bool a, .int .i64 n])).run Tryd.prog W = .ok false W := fun W => (eqA25 9998 W true a y n).trans (by rw [hfin])
  have HI := Aside0.mk hi
  clear hP hR hpr hpt hfin h hi
  have Q1 := Aside0.mk q1
  have Q2 := Aside0.mk q2
  clear q1 q2
  go_enter Tryd.func4, Tryd.ntmps4
  go_wp2_with (fail)
  refine (spillwaylaw2_known.calls true _ (HLW.out.below (below_alloc (Below.refl _ _) _)) rfl).mono ?_
  rintro e w1 ⟨rfl, hb⟩
  have n0 := Aside0.mk (keep hb (g := w.heap.size) (o := 0) (v := .bool a) (alloc_cell w _ _ 0 _ rfl))
  have n1 := Aside0.mk (keep hb (g := w.heap.size) (o := 1) (v := .int .i64 n) (alloc_cell w _ _ 1 _ rfl))
  have HLW := Aside0.mk ((HLW.out.below (below_alloc (Below.refl _ _) _)).below hb)
  have HB := Aside0.mk (below_step (below_alloc HB.out _) hb)
  clear hb
  go_wp2_with (fail)
  refine (fix_Parse.calls k s b m e0 _ HLW.out HP.out).mono ?_
  rintro e w2 ⟨rfl, hb⟩
  have n0 := Aside0.mk (keep hb n0.out)
  have n1 := Aside0.mk (keep hb n1.out)
  have HLW := Aside0.mk (HLW.out.below hb)
  have HB := Aside0.mk (below_step HB.out hb)
  clear hb
  go_wp2_with (fail)
  refine (spillwayref2_Parse.calls k s b m (e0 == 0) _ HR.out).mono ?_
  rintro e w3 ⟨rfl, hb⟩
  have n0 := Aside0.mk (keep hb (keep (below_alloc (Below.refl w2.heap.size w2) _) n0.out))
  have n1 := Aside0.mk (keep hb (keep (below_alloc (Below.refl w2.heap.size w2) _) n1.out))
  have m0 := Aside0.mk (keep hb (g := w2.heap.size) (o := 0) (v := .bool b) (alloc_cell w2 _ _ 0 _ rfl))
  have m1 := Aside0.mk (keep hb (g := w2.heap.size) (o := 1) (v := .int .i64 m) (alloc_cell w2 _ _ 1 _ rfl))
  have HLW := Aside0.mk ((HLW.out.below (below_alloc (Below.refl _ _) _)).below hb)
  have HB := Aside0.mk (below_step (below_alloc HB.out _) hb)
  clear hb
  have a0 := keep (below_alloc (Below.refl w3.heap.size w3) (.cells #[.bool b, .int .i64 m] 25 (0, 0))) n0.out
  have a1 := keep (below_alloc (Below.refl w3.heap.size w3) (.cells #[.bool b, .int .i64 m] 25 (0, 0))) n1.out
  go_wp2_with (fail)
  clear a0 a1
  refine (fix_Print.calls a n t _ (HLW.out.below (below_alloc (Below.refl _ _) _)) HPR.out).mono ?_
  rintro e w4 ⟨rfl, hb⟩
  have n0 := Aside0.mk (keep hb (keep (below_alloc (Below.refl w3.heap.size w3) _) n0.out))
  have n1 := Aside0.mk (keep hb (keep (below_alloc (Below.refl w3.heap.size w3) _) n1.out))
  have m0 := Aside0.mk (keep hb (keep (below_alloc (Below.refl w3.heap.size w3) _) m0.out))
  have m1 := Aside0.mk (keep hb (keep (below_alloc (Below.refl w3.heap.size w3) _) m1.out))
  have l0 := Aside0.mk (keep hb (g := w3.heap.size) (o := 0) (v := .bool b) (alloc_cell w3 _ _ 0 _ rfl))
  have l1 := Aside0.mk (keep hb (g := w3.heap.size) (o := 1) (v := .int .i64 m) (alloc_cell w3 _ _ 1 _ rfl))
  have HLW := Aside0.mk ((HLW.out.below (below_alloc (Below.refl _ _) _)).below hb)
  have HB := Aside0.mk (below_step (below_alloc HB.out _) hb)
  clear hb
  go_wp2_with (fail)
  refine (fix_Parse.calls k t true y 0 _ HLW.out HPT.out).mono ?_
  rintro e w5 ⟨rfl, hb⟩
  have n0 := keep (below_alloc (Below.refl w5.heap.size w5) (.cells #[.bool true, .int .i64 y] 25 (0, 0))) (keep hb n0.out)
  have n1 := keep (below_alloc (Below.refl w5.heap.size w5) (.cells #[.bool true, .int .i64 y] 25 (0, 0))) (keep hb n1.out)
  have m0 := keep (below_alloc (Below.refl w5.heap.size w5) (.cells #[.bool true, .int .i64 y] 25 (0, 0))) (keep hb m0.out)
  have m1 := keep (below_alloc (Below.refl w5.heap.size w5) (.cells #[.bool true, .int .i64 y] 25 (0, 0))) (keep hb m1.out)
  have l0 := keep (below_alloc (Below.refl w5.heap.size w5) (.cells #[.bool true, .int .i64 y] 25 (0, 0))) (keep hb l0.out)
  have l1 := keep (below_alloc (Below.refl w5.heap.size w5) (.cells #[.bool true, .int .i64 y] 25 (0, 0))) (keep hb l1.out)
  have HB := Aside0.mk (below_alloc (below_step HB.out hb) (.cells #[.bool true, .int .i64 y] 25 (0, 0)))
  clear hb
  have q1 := Q1.out
  have q2 := Q2.out
  rcases he with rfl | rfl
  · go_wp2_with (fail)
    refine (fix_Is.calls a n false _ HI.out).mono ?_
    rintro e w6 ⟨rfl, hb⟩
    have c0 := keep hb (g := w5.heap.size) (o := 0) (v := .bool true) (alloc_cell w5 _ _ 0 _ rfl)
    have HB := Aside0.mk (below_step HB.out hb)
    clear hb q1 q2
    go_wp2
    go_ret
    exact ⟨rfl, HB.out⟩
  · go_wp2_with (fail)
    refine (fix_Is.calls a n false _ HI.out).mono ?_
    rintro e w6 ⟨rfl, hb⟩
    have c0 := keep hb (g := w5.heap.size) (o := 0) (v := .bool true) (alloc_cell w5 _ _ 0 _ rfl)
    have HB := Aside0.mk (below_step HB.out hb)
    clear hb q1 q2
    go_wp2
    go_ret
    exact ⟨rfl, HB.out⟩
end Go.Proofs.YtjaolddgnijgiaaDoor.Print
