-- PRINTED by print.py (a twelfth state) out of the translation. Not trusted: Lean checks it.
import Derived.Test.YtjaolddgnijgiaaDoorQ0
import Derived.Test.YtjaolddgnijgiaaDoorKnown
import Derived.Test.YtjaolddgnijgiaaDoorPrint25
import Derived.Test.YtjaolddgnijgiaaDoorPrint26
namespace Go.Proofs.YtjaolddgnijgiaaDoor.Q
open Go.RowKit Go.Proofs.YtjaolddgnijgiaaDoorX Go.Proofs.YtjaolddgnijgiaaDoor.Print Go.Proofs.YtjaolddgnijgiaaDoorW.PrintWords Go.Proofs.YtjaolddgnijgiaaDoorW.PrintLast Go.Proofs.YtjaolddgnijgiaaDoorW.PrintMore
attribute [local go_sem] max2_int min2_int max_two min_two max_three min_three max_four min_four   -- for this text's walks alone
set_option linter.unusedVariables false
set_option linter.unusedSimpArgs false

/-! ### spillwaylaw2_FixOrder: function 5 -/
def spillwaylaw2_FixOrder.j0 : Nat → Int → Bool → Bool → Int → Bool → Int → Bool → Int → Option (Bool)
  | 0, _, _, _, _, _, _, _, _ => none
  | k + 1, x7, x50, x102000, x102001, x103000, x103001, x104000, x104001 => if x50 = true then (some false) else ((fix_Add.f k x102000 x102001 x104000 x104001).bind fun bt112 => ((fix_Add.f k x103000 x103001 x104000 x104001).bind fun bt114 => (if bt112.1 = true then (some true) else (if bt114.1 = true then (some true) else ((fix_Cmp.f k bt112.1 bt112.2 bt114.1 bt114.2).bind fun t118 => (some (t118 == x7)))))))
def spillwaylaw2_FixOrder.f (k : Nat) (a0_0 : Bool) (a0_1 : Int) (a1_0 : Bool) (a1_1 : Int) (a2_0 : Bool) (a2_1 : Int) : Option (Bool) := (spillwaylaw2_known.f).bind fun t104 => (if t104 = true then ((fix_Cmp.f k a0_0 a0_1 a1_0 a1_1).bind fun t105 => ((fix_Cmp.f k a1_0 a1_1 a0_0 a0_1).bind fun t107 => (if t107 = (wrap64 (-t105)) then ((fix_Cmp.f k a0_0 a0_1 a0_0 a0_1).bind fun t108 => (if t108 = 0 then ((fix_Cmp.f k true 0 a0_0 a0_1).bind fun t109 => (if t109 < 0 then (spillwaylaw2_FixOrder.j0 k t105 true a0_0 a0_1 a1_0 a1_1 a2_0 a2_1) else (if t105 ≤ 0 then ((fix_Cmp.f k a1_0 a1_1 a2_0 a2_1).bind fun t110 => (if t110 ≤ 0 then ((fix_Cmp.f k a0_0 a0_1 a2_0 a2_1).bind fun t111 => (spillwaylaw2_FixOrder.j0 k t105 (decide (t111 > 0)) a0_0 a0_1 a1_0 a1_1 a2_0 a2_1)) else (spillwaylaw2_FixOrder.j0 k t105 false a0_0 a0_1 a1_0 a1_1 a2_0 a2_1))) else (spillwaylaw2_FixOrder.j0 k t105 false a0_0 a0_1 a1_0 a1_1 a2_0 a2_1)))) else (spillwaylaw2_FixOrder.j0 k t105 true a0_0 a0_1 a1_0 a1_1 a2_0 a2_1))) else (spillwaylaw2_FixOrder.j0 k t105 true a0_0 a0_1 a1_0 a1_1 a2_0 a2_1)))) else (some false))
theorem spillwaylaw2_FixOrder.mono_l : ∀ k, (∀ y0 y1 y2 y3 y4 y5 y6 y7, LeO (spillwaylaw2_FixOrder.j0 k y0 y1 y2 y3 y4 y5 y6 y7) (spillwaylaw2_FixOrder.j0 (k + 1) y0 y1 y2 y3 y4 y5 y6 y7))
  | 0 => fun _ _ _ _ _ _ _ _ r h => by simp [spillwaylaw2_FixOrder.j0] at h
  | k + 1 => by
    have ih0 := spillwaylaw2_FixOrder.mono_l k
    · intro y0 y1 y2 y3 y4 y5 y6 y7
      unfold spillwaylaw2_FixOrder.j0
      repeat' first
      | (with_reducible exact ih0 _ _ _ _ _ _ _ _)
      | (with_reducible exact fix_Add.mono _ _ _ _ _)
      | (with_reducible exact fix_Cmp.mono _ _ _ _ _)
      | (with_reducible exact LeO.refl _)
      | (with_reducible exact LeO.none _)
      | (with_reducible refine LeO.ite ?_ ?_)
      | (with_reducible refine LeO.bind ?_ (fun _ => ?_))
      | exact ih0 _ _ _ _ _ _ _ _
      | exact fix_Add.mono _ _ _ _ _
      | exact fix_Cmp.mono _ _ _ _ _
      | exact LeO.none _
      | refine LeO.ite ?_ ?_
      | refine LeO.bind ?_ (fun _ => ?_)
theorem spillwaylaw2_FixOrder.mono : ∀ a0 a1 a2 a3 a4 a5 k, LeO (spillwaylaw2_FixOrder.f k a0 a1 a2 a3 a4 a5) (spillwaylaw2_FixOrder.f (k + 1) a0 a1 a2 a3 a4 a5) := by
  intro a0 a1 a2 a3 a4 a5 k
  have ih0 := spillwaylaw2_FixOrder.mono_l k
  unfold spillwaylaw2_FixOrder.f
  repeat' first
      | (with_reducible exact ih0 _ _ _ _ _ _ _ _)
      | (with_reducible exact fix_Add.mono _ _ _ _ _)
      | (with_reducible exact fix_Cmp.mono _ _ _ _ _)
      | (with_reducible exact LeO.refl _)
      | (with_reducible exact LeO.none _)
      | (with_reducible refine LeO.ite ?_ ?_)
      | (with_reducible refine LeO.bind ?_ (fun _ => ?_))
      | exact ih0 _ _ _ _ _ _ _ _
      | exact fix_Add.mono _ _ _ _ _
      | exact fix_Cmp.mono _ _ _ _ _
      | exact LeO.none _
      | refine LeO.ite ?_ ?_
      | refine LeO.bind ?_ (fun _ => ?_)
def spillwaylaw2_FixOrder.T7 : Bool × List (List Nat × List Nat) := (true, [([], []), ([], []), ([0, 1], [0, 1]), ([], []), ([], []), ([3, 4, 2], [3, 4]), ([], []), ([], []), ([6, 2, 5, 0, 1, 2, 6, 7], [2, 6]), ([7, 5, 8, 0, 1, 2, 3, 4, 5, 6, 7, 8], [5, 7])])
def spillwaylaw2_FixOrder.B7 : List Nat := [0, 0, 3, 0, 0, 31, 0, 0, 255, 511]
theorem spillwaylaw2_FixOrder.tab7 : rtab .any (opsOf Tryd.f5 7) = spillwaylaw2_FixOrder.T7 := by kernel_rfl
theorem spillwaylaw2_FixOrder.bits7 : waitsOk spillwaylaw2_FixOrder.T7.2 spillwaylaw2_FixOrder.B7 = true := by kernel_rfl
set_option maxHeartbeats 8000000 in
set_option maxRecDepth 100000 in
theorem spillwaylaw2_FixOrder.calls (k : Nat) (a0_0 : Bool) (a0_1 : Int) (a1_0 : Bool) (a1_1 : Int) (a2_0 : Bool) (a2_1 : Int) (r : Bool) (w : World) (hg_ : LaidW w) (h : spillwaylaw2_FixOrder.f k a0_0 a0_1 a1_0 a1_1 a2_0 a2_1 = some r) (hr_ : r = true) :
    Calls Tryd.prog 5 #[.agg #[.bool a0_0, .int .i64 a0_1], .agg #[.bool a1_0, .int .i64 a1_1], .agg #[.bool a2_0, .int .i64 a2_1]] w fun e w' => e = .returned (.bool r) ∧ Below w.heap.size w w' := by
  have HRT := Aside0.mk hr_
  clear hr_
  have HLW := Aside0.mk hg_
  clear hg_
  have hu25 := Tryd.underlying25
  have HB := Aside0.mk (Below.refl w.heap.size w)
  have H : ((spillwaylaw2_known.f).bind fun t104 => (if t104 = true then ((fix_Cmp.f k a0_0 a0_1 a1_0 a1_1).bind fun t105 => ((fix_Cmp.f k a1_0 a1_1 a0_0 a0_1).bind fun t107 => (if t107 = (wrap64 (-t105)) then ((fix_Cmp.f k a0_0 a0_1 a0_0 a0_1).bind fun t108 => (if t108 = 0 then ((fix_Cmp.f k true 0 a0_0 a0_1).bind fun t109 => (if t109 < 0 then (spillwaylaw2_FixOrder.j0 k t105 true a0_0 a0_1 a1_0 a1_1 a2_0 a2_1) else (if t105 ≤ 0 then ((fix_Cmp.f k a1_0 a1_1 a2_0 a2_1).bind fun t110 => (if t110 ≤ 0 then ((fix_Cmp.f k a0_0 a0_1 a2_0 a2_1).bind fun t111 => (spillwaylaw2_FixOrder.j0 k t105 (decide (t111 > 0)) a0_0 a0_1 a1_0 a1_1 a2_0 a2_1)) else (spillwaylaw2_FixOrder.j0 k t105 false a0_0 a0_1 a1_0 a1_1 a2_0 a2_1))) else (spillwaylaw2_FixOrder.j0 k t105 false a0_0 a0_1 a1_0 a1_1 a2_0 a2_1)))) else (spillwaylaw2_FixOrder.j0 k t105 true a0_0 a0_1 a1_0 a1_1 a2_0 a2_1))) else (spillwaylaw2_FixOrder.j0 k t105 true a0_0 a0_1 a1_0 a1_1 a2_0 a2_1)))) else (some false))) = some r := h
  clear h
  replace H := Option.bind_eq_some_iff.mp H
  obtain ⟨t104, A40, H⟩ := H
  replace H : (if t104 = true then ((fix_Cmp.f k a0_0 a0_1 a1_0 a1_1).bind fun t105 => ((fix_Cmp.f k a1_0 a1_1 a0_0 a0_1).bind fun t107 => (if t107 = (wrap64 (-t105)) then ((fix_Cmp.f k a0_0 a0_1 a0_0 a0_1).bind fun t108 => (if t108 = 0 then ((fix_Cmp.f k true 0 a0_0 a0_1).bind fun t109 => (if t109 < 0 then (spillwaylaw2_FixOrder.j0 k t105 true a0_0 a0_1 a1_0 a1_1 a2_0 a2_1) else (if t105 ≤ 0 then ((fix_Cmp.f k a1_0 a1_1 a2_0 a2_1).bind fun t110 => (if t110 ≤ 0 then ((fix_Cmp.f k a0_0 a0_1 a2_0 a2_1).bind fun t111 => (spillwaylaw2_FixOrder.j0 k t105 (decide (t111 > 0)) a0_0 a0_1 a1_0 a1_1 a2_0 a2_1)) else (spillwaylaw2_FixOrder.j0 k t105 false a0_0 a0_1 a1_0 a1_1 a2_0 a2_1))) else (spillwaylaw2_FixOrder.j0 k t105 false a0_0 a0_1 a1_0 a1_1 a2_0 a2_1)))) else (spillwaylaw2_FixOrder.j0 k t105 true a0_0 a0_1 a1_0 a1_1 a2_0 a2_1))) else (spillwaylaw2_FixOrder.j0 k t105 true a0_0 a0_1 a1_0 a1_1 a2_0 a2_1)))) else (some false)) = some r := H
  have A4 := Aside0.mk A40
  clear A40
  by_cases c5 : t104 = true
  · subst c5
    have H1 : ((fix_Cmp.f k a0_0 a0_1 a1_0 a1_1).bind fun t105 => ((fix_Cmp.f k a1_0 a1_1 a0_0 a0_1).bind fun t107 => (if t107 = (wrap64 (-t105)) then ((fix_Cmp.f k a0_0 a0_1 a0_0 a0_1).bind fun t108 => (if t108 = 0 then ((fix_Cmp.f k true 0 a0_0 a0_1).bind fun t109 => (if t109 < 0 then (spillwaylaw2_FixOrder.j0 k t105 true a0_0 a0_1 a1_0 a1_1 a2_0 a2_1) else (if t105 ≤ 0 then ((fix_Cmp.f k a1_0 a1_1 a2_0 a2_1).bind fun t110 => (if t110 ≤ 0 then ((fix_Cmp.f k a0_0 a0_1 a2_0 a2_1).bind fun t111 => (spillwaylaw2_FixOrder.j0 k t105 (decide (t111 > 0)) a0_0 a0_1 a1_0 a1_1 a2_0 a2_1)) else (spillwaylaw2_FixOrder.j0 k t105 false a0_0 a0_1 a1_0 a1_1 a2_0 a2_1))) else (spillwaylaw2_FixOrder.j0 k t105 false a0_0 a0_1 a1_0 a1_1 a2_0 a2_1)))) else (spillwaylaw2_FixOrder.j0 k t105 true a0_0 a0_1 a1_0 a1_1 a2_0 a2_1))) else (spillwaylaw2_FixOrder.j0 k t105 true a0_0 a0_1 a1_0 a1_1 a2_0 a2_1)))) = some r := by rw [if_pos rfl] at H; exact H
    clear H
    have H := H1
    clear H1
    replace H := Option.bind_eq_some_iff.mp H
    obtain ⟨t105, A60, H⟩ := H
    replace H : ((fix_Cmp.f k a1_0 a1_1 a0_0 a0_1).bind fun t107 => (if t107 = (wrap64 (-t105)) then ((fix_Cmp.f k a0_0 a0_1 a0_0 a0_1).bind fun t108 => (if t108 = 0 then ((fix_Cmp.f k true 0 a0_0 a0_1).bind fun t109 => (if t109 < 0 then (spillwaylaw2_FixOrder.j0 k t105 true a0_0 a0_1 a1_0 a1_1 a2_0 a2_1) else (if t105 ≤ 0 then ((fix_Cmp.f k a1_0 a1_1 a2_0 a2_1).bind fun t110 => (if t110 ≤ 0 then ((fix_Cmp.f k a0_0 a0_1 a2_0 a2_1).bind fun t111 => (spillwaylaw2_FixOrder.j0 k t105 (decide (t111 > 0)) a0_0 a0_1 a1_0 a1_1 a2_0 a2_1)) else (spillwaylaw2_FixOrder.j0 k t105 false a0_0 a0_1 a1_0 a1_1 a2_0 a2_1))) else (spillwaylaw2_FixOrder.j0 k t105 false a0_0 a0_1 a1_0 a1_1 a2_0 a2_1)))) else (spillwaylaw2_FixOrder.j0 k t105 true a0_0 a0_1 a1_0 a1_1 a2_0 a2_1))) else (spillwaylaw2_FixOrder.j0 k t105 true a0_0 a0_1 a1_0 a1_1 a2_0 a2_1))) = some r := H
    have A6 := Aside0.mk A60
    clear A60
    have HC7 := Aside0.mk H
    clear H
    go_enter Tryd.func5, Tryd.ntmps5
    go_upto_region 5 with (first | ((with_reducible refine gate_dst (N := 3) rfl ?_); refine box_event ?hg (N := 3) ?hd (cs := #[.bool a0_0, .int .i64 a0_1]) (t := 25) ?hr ?_; (case hd => rfl); (case hg => rfl); (case hr => first | (go_simp; done) | (go_simp; rfl)); intro gb101 hg w8 hbox hb; have n0_ := Aside0.mk (below_step (by repeat (first | (with_reducible first | exact HB.out | apply below_alloc | apply pw_below_drewN | apply below_drew1) | exact HB.out)) hb); have n1_ := Aside0.mk (hbox); have n2_ := Aside0.mk ((by rw [hg]; exact (below_size (by repeat (first | (with_reducible first | exact HB.out | apply below_alloc | apply pw_below_drewN | apply below_drew1) | exact HB.out))) : w.heap.size ≤ gb101)); have n3_ := Aside0.mk ((by rw [hg]; exact (below_size (by repeat (first | (with_reducible first | exact HB.out | apply below_alloc | apply pw_below_drewN | apply below_drew1) | exact HB.out))) : w.heap.size ≤ gb101)); clear HB; have HB := n0_; have BK101 := n1_; have GW101 := n2_; have GE101 := n3_; clear n0_ n1_ n2_ n3_; clear hb hbox hg) | ((with_reducible refine gate_dst (N := 4) rfl ?_); refine box_event ?hg (N := 4) ?hd (cs := #[.bool a1_0, .int .i64 a1_1]) (t := 25) ?hr ?_; (case hd => rfl); (case hg => rfl); (case hr => first | (go_simp; done) | (go_simp; rfl)); intro gb102 hg w9 hbox hb; have n0_ := Aside0.mk (blk_below (g := gb101) (o := .cells #[.bool a0_0, .int .i64 a0_1] 25 (0, 0)) (by (with_reducible repeat (first | refine blk_drewN ?_ _ | refine blk_drew ?_ | refine blk_alloc ?_ _)); exact BK101.out) hb); have n1_ := Aside0.mk (below_step (by repeat (first | (with_reducible first | exact HB.out | apply below_alloc | apply pw_below_drewN | apply below_drew1 | refine below_set ?_ GE101.out) | exact HB.out)) hb); have n2_ := Aside0.mk (hbox); have n3_ := Aside0.mk ((by rw [hg]; exact (below_size (by repeat (first | (with_reducible first | exact HB.out | apply below_alloc | apply pw_below_drewN | apply below_drew1 | refine below_set ?_ GE101.out) | exact HB.out))) : w.heap.size ≤ gb102)); have n4_ := Aside0.mk ((by rw [hg]; exact (below_size (by repeat (first | (with_reducible first | exact HB.out | apply below_alloc | apply pw_below_drewN | apply below_drew1 | refine below_set ?_ GE101.out) | exact HB.out))) : w.heap.size ≤ gb102)); have n5_ := Aside0.mk ((by rw [hg]; exact Nat.ne_of_lt (blk_lt (g := gb101) (o := .cells #[.bool a0_0, .int .i64 a0_1] 25 (0, 0)) (by (with_reducible repeat (first | refine blk_drewN ?_ _ | refine blk_drew ?_ | refine blk_alloc ?_ _)); exact BK101.out)) : gb101 ≠ gb102)); have n6_ := Aside0.mk ((by rw [hg]; exact Nat.ne_of_gt (blk_lt (g := gb101) (o := .cells #[.bool a0_0, .int .i64 a0_1] 25 (0, 0)) (by (with_reducible repeat (first | refine blk_drewN ?_ _ | refine blk_drew ?_ | refine blk_alloc ?_ _)); exact BK101.out)) : gb102 ≠ gb101)); clear BK101; clear HB; have BK101 := n0_; have HB := n1_; have BK102 := n2_; have GW102 := n3_; have GE102 := n4_; have NB101_102 := n5_; have NB102_101 := n6_; clear n0_ n1_ n2_ n3_ n4_ n5_ n6_; clear hb hbox hg) | ((with_reducible refine gate_dst (N := 5) rfl ?_); refine box_event ?hg (N := 5) ?hd (cs := #[.bool a2_0, .int .i64 a2_1]) (t := 25) ?hr ?_; (case hd => rfl); (case hg => rfl); (case hr => first | (go_simp; done) | (go_simp; rfl)); intro gb103 hg w10 hbox hb; have n0_ := Aside0.mk (blk_below (g := gb101) (o := .cells #[.bool a0_0, .int .i64 a0_1] 25 (0, 0)) (by (with_reducible repeat (first | refine blk_drewN ?_ _ | refine blk_drew ?_ | refine blk_alloc ?_ _)); exact BK101.out) hb); have n1_ := Aside0.mk (blk_below (g := gb102) (o := .cells #[.bool a1_0, .int .i64 a1_1] 25 (0, 0)) (by (with_reducible repeat (first | refine blk_drewN ?_ _ | refine blk_drew ?_ | refine blk_alloc ?_ _)); exact BK102.out) hb); have n2_ := Aside0.mk (below_step (by repeat (first | (with_reducible first | exact HB.out | apply below_alloc | apply pw_below_drewN | apply below_drew1 | refine below_set ?_ GE101.out | refine below_set ?_ GE102.out) | exact HB.out)) hb); have n3_ := Aside0.mk (hbox); have n4_ := Aside0.mk ((by rw [hg]; exact (below_size (by repeat (first | (with_reducible first | exact HB.out | apply below_alloc | apply pw_below_drewN | apply below_drew1 | refine below_set ?_ GE101.out | refine below_set ?_ GE102.out) | exact HB.out))) : w.heap.size ≤ gb103)); have n5_ := Aside0.mk ((by rw [hg]; exact (below_size (by repeat (first | (with_reducible first | exact HB.out | apply below_alloc | apply pw_below_drewN | apply below_drew1 | refine below_set ?_ GE101.out | refine below_set ?_ GE102.out) | exact HB.out))) : w.heap.size ≤ gb103)); have n6_ := Aside0.mk ((by rw [hg]; exact Nat.ne_of_lt (blk_lt (g := gb101) (o := .cells #[.bool a0_0, .int .i64 a0_1] 25 (0, 0)) (by (with_reducible repeat (first | refine blk_drewN ?_ _ | refine blk_drew ?_ | refine blk_alloc ?_ _)); exact BK101.out)) : gb101 ≠ gb103)); have n7_ := Aside0.mk ((by rw [hg]; exact Nat.ne_of_gt (blk_lt (g := gb101) (o := .cells #[.bool a0_0, .int .i64 a0_1] 25 (0, 0)) (by (with_reducible repeat (first | refine blk_drewN ?_ _ | refine blk_drew ?_ | refine blk_alloc ?_ _)); exact BK101.out)) : gb103 ≠ gb101)); have n8_ := Aside0.mk ((by rw [hg]; exact Nat.ne_of_lt (blk_lt (g := gb102) (o := .cells #[.bool a1_0, .int .i64 a1_1] 25 (0, 0)) (by (with_reducible repeat (first | refine blk_drewN ?_ _ | refine blk_drew ?_ | refine blk_alloc ?_ _)); exact BK102.out)) : gb102 ≠ gb103)); have n9_ := Aside0.mk ((by rw [hg]; exact Nat.ne_of_gt (blk_lt (g := gb102) (o := .cells #[.bool a1_0, .int .i64 a1_1] 25 (0, 0)) (by (with_reducible repeat (first | refine blk_drewN ?_ _ | refine blk_drew ?_ | refine blk_alloc ?_ _)); exact BK102.out)) : gb103 ≠ gb102)); clear BK101; clear BK102; clear HB; have BK101 := n0_; have BK102 := n1_; have HB := n2_; have BK103 := n3_; have GW103 := n4_; have GE103 := n5_; have NB101_103 := n6_; have NB103_101 := n7_; have NB102_103 := n8_; have NB103_102 := n9_; clear n0_ n1_ n2_ n3_ n4_ n5_ n6_ n7_ n8_ n9_; clear hb hbox hg) | ((with_reducible refine gate_callee (f := 10) rfl ?_); refine goesL_ (some 11) rfl rfl Tryd.func10 (by kernel_rfl) rfl #[] rfl (by (try simp only [List.map_toArray, List.map_cons, List.map_nil]); first | done | rfl | (simp only [List.length_drop, List.length_take]; rfl)) ?_; (with_reducible refine (spillwaylaw2_known.calls  true _ ?side1 A4.out).mono ?_); (case side1 => exact LaidW.below HLW.out (by repeat (first | (with_reducible first | exact HB.out | apply below_alloc | apply pw_below_drewN | apply below_drew1) | exact HB.out))); rintro e w11 ⟨rfl, hb⟩; refine ⟨_, rfl, ?_⟩; have n0_ := Aside0.mk (blk_below (g := gb101) (o := .cells #[.bool a0_0, .int .i64 a0_1] 25 (0, 0)) (by (with_reducible repeat (first | refine blk_drewN ?_ _ | refine blk_drew ?_ | refine blk_alloc ?_ _)); exact BK101.out) hb); have n1_ := Aside0.mk (blk_below (g := gb102) (o := .cells #[.bool a1_0, .int .i64 a1_1] 25 (0, 0)) (by (with_reducible repeat (first | refine blk_drewN ?_ _ | refine blk_drew ?_ | refine blk_alloc ?_ _)); exact BK102.out) hb); have n2_ := Aside0.mk (blk_below (g := gb103) (o := .cells #[.bool a2_0, .int .i64 a2_1] 25 (0, 0)) (by (with_reducible repeat (first | refine blk_drewN ?_ _ | refine blk_drew ?_ | refine blk_alloc ?_ _)); exact BK103.out) hb); have n3_ := Aside0.mk (below_step (by repeat (first | (with_reducible first | exact HB.out | apply below_alloc | apply pw_below_drewN | apply below_drew1 | refine below_set ?_ GE101.out | refine below_set ?_ GE102.out | refine below_set ?_ GE103.out) | exact HB.out)) hb); clear BK101; clear BK102; clear BK103; clear HB; have BK101 := n0_; have BK102 := n1_; have BK103 := n2_; have HB := n3_; clear n0_ n1_ n2_ n3_; (try clear hb); (try clear hb2); (try clear hk); (try clear hi); have hnb12 := NB101_102.out; have hnc12 := NB102_101.out; have hnb13 := NB101_103.out; have hnc13 := NB103_101.out; have hcz14_0 : w11.cell? ⟨gb101, 0, none⟩ = some (.bool a0_0) := (blk_cell BK101.out 0).trans rfl; have hcz14_1 : w11.cell? ⟨gb101, 1, none⟩ = some (.int .i64 a0_1) := (blk_cell BK101.out 1).trans rfl; have hfz14_0 := blk_frozen BK101.out 0; have hfz14_1 := blk_frozen BK101.out 1; have hnb15 := NB102_103.out; have hnc15 := NB103_102.out; have hcz16_0 : w11.cell? ⟨gb102, 0, none⟩ = some (.bool a1_0) := (blk_cell BK102.out 0).trans rfl; have hcz16_1 : w11.cell? ⟨gb102, 1, none⟩ = some (.int .i64 a1_1) := (blk_cell BK102.out 1).trans rfl; have hfz16_0 := blk_frozen BK102.out 0; have hfz16_1 := blk_frozen BK102.out 1) | ((with_reducible refine gate_callee (f := 17) rfl ?_); refine goesL_ (some 15) rfl rfl Tryd.func17 (by kernel_rfl) rfl #[.agg #[.bool a0_0, .int .i64 a0_1], .agg #[.bool a1_0, .int .i64 a1_1]] rfl (by (try simp only [List.map_toArray, List.map_cons, List.map_nil]); first | done | rfl | (simp only [List.length_drop, List.length_take]; rfl)) ?_; (with_reducible refine (fix_Cmp.calls k a0_0 a0_1 a1_0 a1_1 t105 _ A6.out).mono ?_); rintro e w17 ⟨rfl, hb⟩; refine ⟨_, rfl, ?_⟩; have n0_ := Aside0.mk (blk_below (g := gb101) (o := .cells #[.bool a0_0, .int .i64 a0_1] 25 (0, 0)) (by (with_reducible repeat (first | refine blk_drewN ?_ _ | refine blk_drew ?_ | refine blk_alloc ?_ _)); exact BK101.out) hb); have n1_ := Aside0.mk (blk_below (g := gb102) (o := .cells #[.bool a1_0, .int .i64 a1_1] 25 (0, 0)) (by (with_reducible repeat (first | refine blk_drewN ?_ _ | refine blk_drew ?_ | refine blk_alloc ?_ _)); exact BK102.out) hb); have n2_ := Aside0.mk (blk_below (g := gb103) (o := .cells #[.bool a2_0, .int .i64 a2_1] 25 (0, 0)) (by (with_reducible repeat (first | refine blk_drewN ?_ _ | refine blk_drew ?_ | refine blk_alloc ?_ _)); exact BK103.out) hb); have n3_ := Aside0.mk (below_step (by repeat (first | (with_reducible first | exact HB.out | apply below_alloc | apply pw_below_drewN | apply below_drew1 | refine below_set ?_ GE101.out | refine below_set ?_ GE102.out | refine below_set ?_ GE103.out) | exact HB.out)) hb); clear BK101; clear BK102; clear BK103; clear HB; have BK101 := n0_; have BK102 := n1_; have BK103 := n2_; have HB := n3_; clear n0_ n1_ n2_ n3_; (try clear hb); (try clear hb2); (try clear hk); (try clear hi)) | ((with_reducible refine gate_dst (N := 8) rfl ?_); refine box_event ?hg (N := 8) ?hd (cs := #[.bool false, .int .i64 0]) (t := 25) ?hr ?_; (case hd => rfl); (case hg => rfl); (case hr => first | (go_simp; done) | (go_simp; rfl)); intro gb106 hg w18 hbox hb; have n0_ := Aside0.mk (blk_below (g := gb101) (o := .cells #[.bool a0_0, .int .i64 a0_1] 25 (0, 0)) (by (with_reducible repeat (first | refine blk_drewN ?_ _ | refine blk_drew ?_ | refine blk_alloc ?_ _)); exact BK101.out) hb); have n1_ := Aside0.mk (blk_below (g := gb102) (o := .cells #[.bool a1_0, .int .i64 a1_1] 25 (0, 0)) (by (with_reducible repeat (first | refine blk_drewN ?_ _ | refine blk_drew ?_ | refine blk_alloc ?_ _)); exact BK102.out) hb); have n2_ := Aside0.mk (blk_below (g := gb103) (o := .cells #[.bool a2_0, .int .i64 a2_1] 25 (0, 0)) (by (with_reducible repeat (first | refine blk_drewN ?_ _ | refine blk_drew ?_ | refine blk_alloc ?_ _)); exact BK103.out) hb); have n3_ := Aside0.mk (below_step (by repeat (first | (with_reducible first | exact HB.out | apply below_alloc | apply pw_below_drewN | apply below_drew1 | refine below_set ?_ GE101.out | refine below_set ?_ GE102.out | refine below_set ?_ GE103.out) | exact HB.out)) hb); have n4_ := Aside0.mk (hbox); have n5_ := Aside0.mk ((by rw [hg]; exact (below_size (by repeat (first | (with_reducible first | exact HB.out | apply below_alloc | apply pw_below_drewN | apply below_drew1 | refine below_set ?_ GE101.out | refine below_set ?_ GE102.out | refine below_set ?_ GE103.out) | exact HB.out))) : w.heap.size ≤ gb106)); have n6_ := Aside0.mk ((by rw [hg]; exact (below_size (by repeat (first | (with_reducible first | exact HB.out | apply below_alloc | apply pw_below_drewN | apply below_drew1 | refine below_set ?_ GE101.out | refine below_set ?_ GE102.out | refine below_set ?_ GE103.out) | exact HB.out))) : w.heap.size ≤ gb106)); have n7_ := Aside0.mk ((by rw [hg]; exact Nat.ne_of_lt (blk_lt (g := gb101) (o := .cells #[.bool a0_0, .int .i64 a0_1] 25 (0, 0)) (by (with_reducible repeat (first | refine blk_drewN ?_ _ | refine blk_drew ?_ | refine blk_alloc ?_ _)); exact BK101.out)) : gb101 ≠ gb106)); have n8_ := Aside0.mk ((by rw [hg]; exact Nat.ne_of_gt (blk_lt (g := gb101) (o := .cells #[.bool a0_0, .int .i64 a0_1] 25 (0, 0)) (by (with_reducible repeat (first | refine blk_drewN ?_ _ | refine blk_drew ?_ | refine blk_alloc ?_ _)); exact BK101.out)) : gb106 ≠ gb101)); have n9_ := Aside0.mk ((by rw [hg]; exact Nat.ne_of_lt (blk_lt (g := gb102) (o := .cells #[.bool a1_0, .int .i64 a1_1] 25 (0, 0)) (by (with_reducible repeat (first | refine blk_drewN ?_ _ | refine blk_drew ?_ | refine blk_alloc ?_ _)); exact BK102.out)) : gb102 ≠ gb106)); have n10_ := Aside0.mk ((by rw [hg]; exact Nat.ne_of_gt (blk_lt (g := gb102) (o := .cells #[.bool a1_0, .int .i64 a1_1] 25 (0, 0)) (by (with_reducible repeat (first | refine blk_drewN ?_ _ | refine blk_drew ?_ | refine blk_alloc ?_ _)); exact BK102.out)) : gb106 ≠ gb102)); have n11_ := Aside0.mk ((by rw [hg]; exact Nat.ne_of_lt (blk_lt (g := gb103) (o := .cells #[.bool a2_0, .int .i64 a2_1] 25 (0, 0)) (by (with_reducible repeat (first | refine blk_drewN ?_ _ | refine blk_drew ?_ | refine blk_alloc ?_ _)); exact BK103.out)) : gb103 ≠ gb106)); have n12_ := Aside0.mk ((by rw [hg]; exact Nat.ne_of_gt (blk_lt (g := gb103) (o := .cells #[.bool a2_0, .int .i64 a2_1] 25 (0, 0)) (by (with_reducible repeat (first | refine blk_drewN ?_ _ | refine blk_drew ?_ | refine blk_alloc ?_ _)); exact BK103.out)) : gb106 ≠ gb103)); clear BK101; clear BK102; clear BK103; clear HB; have BK101 := n0_; have BK102 := n1_; have BK103 := n2_; have HB := n3_; have BK106 := n4_; have GW106 := n5_; have GE106 := n6_; have NB101_106 := n7_; have NB106_101 := n8_; have NB102_106 := n9_; have NB106_102 := n10_; have NB103_106 := n11_; have NB106_103 := n12_; clear n0_ n1_ n2_ n3_ n4_ n5_ n6_ n7_ n8_ n9_ n10_ n11_ n12_; clear hb hbox hg; have hnb19 := NB106_101.out; have hnc19 := NB101_106.out; have hnb20 := NB106_102.out; have hnc20 := NB102_106.out; have hnb21 := NB106_103.out; have hnc21 := NB103_106.out; have hcz22_0 : w18.cell? ⟨gb106, 0, none⟩ = some (.bool false) := (blk_cell BK106.out 0).trans rfl; have hcz22_1 : w18.cell? ⟨gb106, 1, none⟩ = some (.int .i64 0) := (blk_cell BK106.out 1).trans rfl; have hfz22_0 := blk_frozen BK106.out 0; have hfz22_1 := blk_frozen BK106.out 1))
    (try simp only [Act.put, List.setIfInBounds_toArray, List.set_cons_zero, List.set_cons_succ])
    go_cut [50] (fun v50 wc => ∃ (kq : Nat) (x50_6 : Bool), v50 = .bool x50_6 ∧ Aside0 (spillwaylaw2_FixOrder.j0 kq t105 x50_6 a0_0 a0_1 a1_0 a1_1 a2_0 a2_1 = some r) ∧ Aside0 (kq ≤ k) ∧ Aside0 (wc.heap[gb101]? = some (.cells #[.bool a0_0, .int .i64 a0_1] 25 (0, 0))) ∧ Aside0 (wc.heap[gb102]? = some (.cells #[.bool a1_0, .int .i64 a1_1] 25 (0, 0))) ∧ Aside0 (wc.heap[gb103]? = some (.cells #[.bool a2_0, .int .i64 a2_1] 25 (0, 0))) ∧ Aside0 (wc.heap[gb106]? = some (.cells #[.bool true, .int .i64 0] 25 (0, 0))) ∧ Aside0 (Below w.heap.size w wc))
    case first =>
      have H := HC7.out
      clear HC7
      replace H := Option.bind_eq_some_iff.mp H
      obtain ⟨t107, A230, H⟩ := H
      replace H : (if t107 = (wrap64 (-t105)) then ((fix_Cmp.f k a0_0 a0_1 a0_0 a0_1).bind fun t108 => (if t108 = 0 then ((fix_Cmp.f k true 0 a0_0 a0_1).bind fun t109 => (if t109 < 0 then (spillwaylaw2_FixOrder.j0 k t105 true a0_0 a0_1 a1_0 a1_1 a2_0 a2_1) else (if t105 ≤ 0 then ((fix_Cmp.f k a1_0 a1_1 a2_0 a2_1).bind fun t110 => (if t110 ≤ 0 then ((fix_Cmp.f k a0_0 a0_1 a2_0 a2_1).bind fun t111 => (spillwaylaw2_FixOrder.j0 k t105 (decide (t111 > 0)) a0_0 a0_1 a1_0 a1_1 a2_0 a2_1)) else (spillwaylaw2_FixOrder.j0 k t105 false a0_0 a0_1 a1_0 a1_1 a2_0 a2_1))) else (spillwaylaw2_FixOrder.j0 k t105 false a0_0 a0_1 a1_0 a1_1 a2_0 a2_1)))) else (spillwaylaw2_FixOrder.j0 k t105 true a0_0 a0_1 a1_0 a1_1 a2_0 a2_1))) else (spillwaylaw2_FixOrder.j0 k t105 true a0_0 a0_1 a1_0 a1_1 a2_0 a2_1)) = some r := H
      have A23 := Aside0.mk A230
      clear A230
      by_cases c24 : t107 = (wrap64 (-t105))
      · rw [if_pos c24] at H
        have c24b0 : (t107 == (wrap64 (-t105))) = true := beq_iff_eq.mpr c24
        have c24b1 : (t107 != (wrap64 (-t105))) = false := bne_eq_false_iff_eq.mpr c24
        clear c24
        (first | rw [c24b0] | (simp only [i64_w, i32_w]; rw [c24b0]) | skip)
        replace H := Option.bind_eq_some_iff.mp H
        obtain ⟨t108, A250, H⟩ := H
        replace H : (if t108 = 0 then ((fix_Cmp.f k true 0 a0_0 a0_1).bind fun t109 => (if t109 < 0 then (spillwaylaw2_FixOrder.j0 k t105 true a0_0 a0_1 a1_0 a1_1 a2_0 a2_1) else (if t105 ≤ 0 then ((fix_Cmp.f k a1_0 a1_1 a2_0 a2_1).bind fun t110 => (if t110 ≤ 0 then ((fix_Cmp.f k a0_0 a0_1 a2_0 a2_1).bind fun t111 => (spillwaylaw2_FixOrder.j0 k t105 (decide (t111 > 0)) a0_0 a0_1 a1_0 a1_1 a2_0 a2_1)) else (spillwaylaw2_FixOrder.j0 k t105 false a0_0 a0_1 a1_0 a1_1 a2_0 a2_1))) else (spillwaylaw2_FixOrder.j0 k t105 false a0_0 a0_1 a1_0 a1_1 a2_0 a2_1)))) else (spillwaylaw2_FixOrder.j0 k t105 true a0_0 a0_1 a1_0 a1_1 a2_0 a2_1)) = some r := H
        have A25 := Aside0.mk A250
        clear A250
        by_cases c26 : t108 = 0
        · rw [if_pos c26] at H
          have c26b0 : (t108 == 0) = true := beq_iff_eq.mpr c26
          have c26b1 : (t108 != 0) = false := bne_eq_false_iff_eq.mpr c26
          clear c26
          replace H := Option.bind_eq_some_iff.mp H
          obtain ⟨t109, A270, H⟩ := H
          replace H : (if t109 < 0 then (spillwaylaw2_FixOrder.j0 k t105 true a0_0 a0_1 a1_0 a1_1 a2_0 a2_1) else (if t105 ≤ 0 then ((fix_Cmp.f k a1_0 a1_1 a2_0 a2_1).bind fun t110 => (if t110 ≤ 0 then ((fix_Cmp.f k a0_0 a0_1 a2_0 a2_1).bind fun t111 => (spillwaylaw2_FixOrder.j0 k t105 (decide (t111 > 0)) a0_0 a0_1 a1_0 a1_1 a2_0 a2_1)) else (spillwaylaw2_FixOrder.j0 k t105 false a0_0 a0_1 a1_0 a1_1 a2_0 a2_1))) else (spillwaylaw2_FixOrder.j0 k t105 false a0_0 a0_1 a1_0 a1_1 a2_0 a2_1))) = some r := H
          have A27 := Aside0.mk A270
          clear A270
          by_cases c28 : t109 < 0
          · rw [if_pos c28] at H
            have c28b0 : decide (t109 < 0) = true := decide_eq_true c28
            clear c28
            have H' := Aside0.mk H
            clear H
            have hnb29 := NB102_101.out
            have hnc29 := NB101_102.out
            have hnb30 := NB102_103.out
            have hnc30 := NB103_102.out
            have hnb31 := NB102_106.out
            have hnc31 := NB106_102.out
            have hcz32_0 : w18.cell? ⟨gb102, 0, none⟩ = some (.bool a1_0) := (blk_cell BK102.out 0).trans rfl
            have hcz32_1 : w18.cell? ⟨gb102, 1, none⟩ = some (.int .i64 a1_1) := (blk_cell BK102.out 1).trans rfl
            have hfz32_0 := blk_frozen BK102.out 0
            have hfz32_1 := blk_frozen BK102.out 1
            have hnb33 := NB101_103.out
            have hnc33 := NB103_101.out
            have hnb34 := NB101_106.out
            have hnc34 := NB106_101.out
            have hcz35_0 : w18.cell? ⟨gb101, 0, none⟩ = some (.bool a0_0) := (blk_cell BK101.out 0).trans rfl
            have hcz35_1 : w18.cell? ⟨gb101, 1, none⟩ = some (.int .i64 a0_1) := (blk_cell BK101.out 1).trans rfl
            have hfz35_0 := blk_frozen BK101.out 0
            have hfz35_1 := blk_frozen BK101.out 1
            go_wp2_with (first | ((with_reducible refine gate_callee (f := 17) rfl ?_); refine goesL_ (some 19) rfl rfl Tryd.func17 (by kernel_rfl) rfl #[.agg #[.bool a1_0, .int .i64 a1_1], .agg #[.bool a0_0, .int .i64 a0_1]] rfl (by (try simp only [List.map_toArray, List.map_cons, List.map_nil]); first | done | rfl | (simp only [List.length_drop, List.length_take]; rfl)) ?_; (with_reducible refine (fix_Cmp.calls k a1_0 a1_1 a0_0 a0_1 t107 _ A23.out).mono ?_); rintro e w36 ⟨rfl, hb⟩; refine ⟨_, rfl, ?_⟩; have n0_ := Aside0.mk (blk_below (g := gb101) (o := .cells #[.bool a0_0, .int .i64 a0_1] 25 (0, 0)) (by (with_reducible repeat (first | refine blk_drewN ?_ _ | refine blk_drew ?_ | refine blk_alloc ?_ _)); refine blk_far ?_ NB101_106.out _; (with_reducible repeat (first | refine blk_drewN ?_ _ | refine blk_drew ?_ | refine blk_alloc ?_ _)); refine blk_far ?_ NB101_106.out _; (with_reducible repeat (first | refine blk_drewN ?_ _ | refine blk_drew ?_ | refine blk_alloc ?_ _)); exact BK101.out) hb); have n1_ := Aside0.mk (blk_below (g := gb102) (o := .cells #[.bool a1_0, .int .i64 a1_1] 25 (0, 0)) (by (with_reducible repeat (first | refine blk_drewN ?_ _ | refine blk_drew ?_ | refine blk_alloc ?_ _)); refine blk_far ?_ NB102_106.out _; (with_reducible repeat (first | refine blk_drewN ?_ _ | refine blk_drew ?_ | refine blk_alloc ?_ _)); refine blk_far ?_ NB102_106.out _; (with_reducible repeat (first | refine blk_drewN ?_ _ | refine blk_drew ?_ | refine blk_alloc ?_ _)); exact BK102.out) hb); have n2_ := Aside0.mk (blk_below (g := gb103) (o := .cells #[.bool a2_0, .int .i64 a2_1] 25 (0, 0)) (by (with_reducible repeat (first | refine blk_drewN ?_ _ | refine blk_drew ?_ | refine blk_alloc ?_ _)); refine blk_far ?_ NB103_106.out _; (with_reducible repeat (first | refine blk_drewN ?_ _ | refine blk_drew ?_ | refine blk_alloc ?_ _)); refine blk_far ?_ NB103_106.out _; (with_reducible repeat (first | refine blk_drewN ?_ _ | refine blk_drew ?_ | refine blk_alloc ?_ _)); exact BK103.out) hb); have n3_ := Aside0.mk (blk_below (g := gb106) (o := .cells #[.bool true, .int .i64 0] 25 (0, 0)) (by (with_reducible repeat (first | refine blk_drewN ?_ _ | refine blk_drew ?_ | refine blk_alloc ?_ _)); refine blk_put (cs := #[.bool true, .int .i64 0]) ?_ 1 _ rfl; (with_reducible repeat (first | refine blk_drewN ?_ _ | refine blk_drew ?_ | refine blk_alloc ?_ _)); refine blk_put (cs := #[.bool false, .int .i64 0]) ?_ 0 _ rfl; (with_reducible repeat (first | refine blk_drewN ?_ _ | refine blk_drew ?_ | refine blk_alloc ?_ _)); exact BK106.out) hb); have n4_ := Aside0.mk (below_step (by repeat (first | (with_reducible first | exact HB.out | apply below_alloc | apply pw_below_drewN | apply below_drew1 | refine below_set ?_ GE101.out | refine below_set ?_ GE102.out | refine below_set ?_ GE103.out | refine below_set ?_ GE106.out) | exact HB.out)) hb); clear BK101; clear BK102; clear BK103; clear BK106; clear HB; have BK101 := n0_; have BK102 := n1_; have BK103 := n2_; have BK106 := n3_; have HB := n4_; clear n0_ n1_ n2_ n3_ n4_; (try clear hb); (try clear hb2); (try clear hk); (try clear hi); have hcz37_0 : w36.cell? ⟨gb101, 0, none⟩ = some (.bool a0_0) := (blk_cell BK101.out 0).trans rfl; have hcz37_1 : w36.cell? ⟨gb101, 1, none⟩ = some (.int .i64 a0_1) := (blk_cell BK101.out 1).trans rfl; have hfz37_0 := blk_frozen BK101.out 0; have hfz37_1 := blk_frozen BK101.out 1) | (go_at_call 17; (with_reducible refine (fix_Cmp.calls k a0_0 a0_1 a0_0 a0_1 t108 _ A25.out).mono ?_); rintro e w38 ⟨rfl, hb⟩; have n0_ := Aside0.mk (blk_below (g := gb101) (o := .cells #[.bool a0_0, .int .i64 a0_1] 25 (0, 0)) (by (with_reducible repeat (first | refine blk_drewN ?_ _ | refine blk_drew ?_ | refine blk_alloc ?_ _)); exact BK101.out) hb); have n1_ := Aside0.mk (blk_below (g := gb102) (o := .cells #[.bool a1_0, .int .i64 a1_1] 25 (0, 0)) (by (with_reducible repeat (first | refine blk_drewN ?_ _ | refine blk_drew ?_ | refine blk_alloc ?_ _)); exact BK102.out) hb); have n2_ := Aside0.mk (blk_below (g := gb103) (o := .cells #[.bool a2_0, .int .i64 a2_1] 25 (0, 0)) (by (with_reducible repeat (first | refine blk_drewN ?_ _ | refine blk_drew ?_ | refine blk_alloc ?_ _)); exact BK103.out) hb); have n3_ := Aside0.mk (blk_below (g := gb106) (o := .cells #[.bool true, .int .i64 0] 25 (0, 0)) (by (with_reducible repeat (first | refine blk_drewN ?_ _ | refine blk_drew ?_ | refine blk_alloc ?_ _)); exact BK106.out) hb); have n4_ := Aside0.mk (below_step (by repeat (first | (with_reducible first | exact HB.out | apply below_alloc | apply pw_below_drewN | apply below_drew1 | refine below_set ?_ GE101.out | refine below_set ?_ GE102.out | refine below_set ?_ GE103.out | refine below_set ?_ GE106.out) | exact HB.out)) hb); clear BK101; clear BK102; clear BK103; clear BK106; clear HB; have BK101 := n0_; have BK102 := n1_; have BK103 := n2_; have BK106 := n3_; have HB := n4_; clear n0_ n1_ n2_ n3_ n4_; (try clear hb); (try clear hb2); (try clear hk); (try clear hi); have hnb39 := NB106_103.out; have hnc39 := NB103_106.out; have hcz40_0 : w38.cell? ⟨gb106, 0, none⟩ = some (.bool true) := (blk_cell BK106.out 0).trans rfl; have hcz40_1 : w38.cell? ⟨gb106, 1, none⟩ = some (.int .i64 0) := (blk_cell BK106.out 1).trans rfl; have hfz40_0 := blk_frozen BK106.out 0; have hfz40_1 := blk_frozen BK106.out 1; have hcz41_0 : w38.cell? ⟨gb101, 0, none⟩ = some (.bool a0_0) := (blk_cell BK101.out 0).trans rfl; have hcz41_1 : w38.cell? ⟨gb101, 1, none⟩ = some (.int .i64 a0_1) := (blk_cell BK101.out 1).trans rfl; have hfz41_0 := blk_frozen BK101.out 0; have hfz41_1 := blk_frozen BK101.out 1) | (go_at_call 17; (with_reducible refine (fix_Cmp.calls k true 0 a0_0 a0_1 t109 _ A27.out).mono ?_); rintro e w42 ⟨rfl, hb⟩; have n0_ := Aside0.mk (blk_below (g := gb101) (o := .cells #[.bool a0_0, .int .i64 a0_1] 25 (0, 0)) (by (with_reducible repeat (first | refine blk_drewN ?_ _ | refine blk_drew ?_ | refine blk_alloc ?_ _)); exact BK101.out) hb); have n1_ := Aside0.mk (blk_below (g := gb102) (o := .cells #[.bool a1_0, .int .i64 a1_1] 25 (0, 0)) (by (with_reducible repeat (first | refine blk_drewN ?_ _ | refine blk_drew ?_ | refine blk_alloc ?_ _)); exact BK102.out) hb); have n2_ := Aside0.mk (blk_below (g := gb103) (o := .cells #[.bool a2_0, .int .i64 a2_1] 25 (0, 0)) (by (with_reducible repeat (first | refine blk_drewN ?_ _ | refine blk_drew ?_ | refine blk_alloc ?_ _)); exact BK103.out) hb); have n3_ := Aside0.mk (blk_below (g := gb106) (o := .cells #[.bool true, .int .i64 0] 25 (0, 0)) (by (with_reducible repeat (first | refine blk_drewN ?_ _ | refine blk_drew ?_ | refine blk_alloc ?_ _)); exact BK106.out) hb); have n4_ := Aside0.mk (below_step (by repeat (first | (with_reducible first | exact HB.out | apply below_alloc | apply pw_below_drewN | apply below_drew1 | refine below_set ?_ GE101.out | refine below_set ?_ GE102.out | refine below_set ?_ GE103.out | refine below_set ?_ GE106.out) | exact HB.out)) hb); clear BK101; clear BK102; clear BK103; clear BK106; clear HB; have BK101 := n0_; have BK102 := n1_; have BK103 := n2_; have BK106 := n3_; have HB := n4_; clear n0_ n1_ n2_ n3_ n4_; (try clear hb); (try clear hb2); (try clear hk); (try clear hi)))
            go_meet
            case rel => exact ⟨_, (true), (by first | rfl | (simp; done) | (simp [*]; done)), H', ⟨by first | omega | exact Nat.le_refl _⟩, ⟨by (with_reducible repeat (first | refine blk_drewN ?_ _ | refine blk_drew ?_ | refine blk_alloc ?_ _)); exact BK101.out⟩, ⟨by (with_reducible repeat (first | refine blk_drewN ?_ _ | refine blk_drew ?_ | refine blk_alloc ?_ _)); exact BK102.out⟩, ⟨by (with_reducible repeat (first | refine blk_drewN ?_ _ | refine blk_drew ?_ | refine blk_alloc ?_ _)); exact BK103.out⟩, ⟨by (with_reducible repeat (first | refine blk_drewN ?_ _ | refine blk_drew ?_ | refine blk_alloc ?_ _)); exact BK106.out⟩, ⟨by repeat (first | (with_reducible first | exact HB.out | apply below_alloc | apply pw_below_drewN | apply below_drew1 | refine below_set ?_ GE101.out | refine below_set ?_ GE102.out | refine below_set ?_ GE103.out | refine below_set ?_ GE106.out) | exact HB.out)⟩⟩
          · rw [if_neg c28] at H
            have c28b0 : decide (t109 < 0) = false := decide_eq_false c28
            clear c28
            by_cases c43 : t105 ≤ 0
            · rw [if_pos c43] at H
              have c43b0 : decide (t105 ≤ 0) = true := decide_eq_true c43
              clear c43
              replace H := Option.bind_eq_some_iff.mp H
              obtain ⟨t110, A440, H⟩ := H
              replace H : (if t110 ≤ 0 then ((fix_Cmp.f k a0_0 a0_1 a2_0 a2_1).bind fun t111 => (spillwaylaw2_FixOrder.j0 k t105 (decide (t111 > 0)) a0_0 a0_1 a1_0 a1_1 a2_0 a2_1)) else (spillwaylaw2_FixOrder.j0 k t105 false a0_0 a0_1 a1_0 a1_1 a2_0 a2_1)) = some r := H
              have A44 := Aside0.mk A440
              clear A440
              by_cases c45 : t110 ≤ 0
              · rw [if_pos c45] at H
                have c45b0 : decide (t110 ≤ 0) = true := decide_eq_true c45
                clear c45
                replace H := Option.bind_eq_some_iff.mp H
                obtain ⟨t111, A460, H⟩ := H
                replace H : (spillwaylaw2_FixOrder.j0 k t105 (decide (t111 > 0)) a0_0 a0_1 a1_0 a1_1 a2_0 a2_1) = some r := H
                have A46 := Aside0.mk A460
                clear A460
                have H' := Aside0.mk H
                clear H
                have hnb47 := NB102_101.out
                have hnc47 := NB101_102.out
                have hnb48 := NB102_103.out
                have hnc48 := NB103_102.out
                have hnb49 := NB102_106.out
                have hnc49 := NB106_102.out
                have hcz50_0 : w18.cell? ⟨gb102, 0, none⟩ = some (.bool a1_0) := (blk_cell BK102.out 0).trans rfl
                have hcz50_1 : w18.cell? ⟨gb102, 1, none⟩ = some (.int .i64 a1_1) := (blk_cell BK102.out 1).trans rfl
                have hfz50_0 := blk_frozen BK102.out 0
                have hfz50_1 := blk_frozen BK102.out 1
                have hnb51 := NB101_103.out
                have hnc51 := NB103_101.out
                have hnb52 := NB101_106.out
                have hnc52 := NB106_101.out
                have hcz53_0 : w18.cell? ⟨gb101, 0, none⟩ = some (.bool a0_0) := (blk_cell BK101.out 0).trans rfl
                have hcz53_1 : w18.cell? ⟨gb101, 1, none⟩ = some (.int .i64 a0_1) := (blk_cell BK101.out 1).trans rfl
                have hfz53_0 := blk_frozen BK101.out 0
                have hfz53_1 := blk_frozen BK101.out 1
                go_wp2_with (first | ((with_reducible refine gate_callee (f := 17) rfl ?_); refine goesL_ (some 19) rfl rfl Tryd.func17 (by kernel_rfl) rfl #[.agg #[.bool a1_0, .int .i64 a1_1], .agg #[.bool a0_0, .int .i64 a0_1]] rfl (by (try simp only [List.map_toArray, List.map_cons, List.map_nil]); first | done | rfl | (simp only [List.length_drop, List.length_take]; rfl)) ?_; (with_reducible refine (fix_Cmp.calls k a1_0 a1_1 a0_0 a0_1 t107 _ A23.out).mono ?_); rintro e w54 ⟨rfl, hb⟩; refine ⟨_, rfl, ?_⟩; have n0_ := Aside0.mk (blk_below (g := gb101) (o := .cells #[.bool a0_0, .int .i64 a0_1] 25 (0, 0)) (by (with_reducible repeat (first | refine blk_drewN ?_ _ | refine blk_drew ?_ | refine blk_alloc ?_ _)); refine blk_far ?_ NB101_106.out _; (with_reducible repeat (first | refine blk_drewN ?_ _ | refine blk_drew ?_ | refine blk_alloc ?_ _)); refine blk_far ?_ NB101_106.out _; (with_reducible repeat (first | refine blk_drewN ?_ _ | refine blk_drew ?_ | refine blk_alloc ?_ _)); exact BK101.out) hb); have n1_ := Aside0.mk (blk_below (g := gb102) (o := .cells #[.bool a1_0, .int .i64 a1_1] 25 (0, 0)) (by (with_reducible repeat (first | refine blk_drewN ?_ _ | refine blk_drew ?_ | refine blk_alloc ?_ _)); refine blk_far ?_ NB102_106.out _; (with_reducible repeat (first | refine blk_drewN ?_ _ | refine blk_drew ?_ | refine blk_alloc ?_ _)); refine blk_far ?_ NB102_106.out _; (with_reducible repeat (first | refine blk_drewN ?_ _ | refine blk_drew ?_ | refine blk_alloc ?_ _)); exact BK102.out) hb); have n2_ := Aside0.mk (blk_below (g := gb103) (o := .cells #[.bool a2_0, .int .i64 a2_1] 25 (0, 0)) (by (with_reducible repeat (first | refine blk_drewN ?_ _ | refine blk_drew ?_ | refine blk_alloc ?_ _)); refine blk_far ?_ NB103_106.out _; (with_reducible repeat (first | refine blk_drewN ?_ _ | refine blk_drew ?_ | refine blk_alloc ?_ _)); refine blk_far ?_ NB103_106.out _; (with_reducible repeat (first | refine blk_drewN ?_ _ | refine blk_drew ?_ | refine blk_alloc ?_ _)); exact BK103.out) hb); have n3_ := Aside0.mk (blk_below (g := gb106) (o := .cells #[.bool true, .int .i64 0] 25 (0, 0)) (by (with_reducible repeat (first | refine blk_drewN ?_ _ | refine blk_drew ?_ | refine blk_alloc ?_ _)); refine blk_put (cs := #[.bool true, .int .i64 0]) ?_ 1 _ rfl; (with_reducible repeat (first | refine blk_drewN ?_ _ | refine blk_drew ?_ | refine blk_alloc ?_ _)); refine blk_put (cs := #[.bool false, .int .i64 0]) ?_ 0 _ rfl; (with_reducible repeat (first | refine blk_drewN ?_ _ | refine blk_drew ?_ | refine blk_alloc ?_ _)); exact BK106.out) hb); have n4_ := Aside0.mk (below_step (by repeat (first | (with_reducible first | exact HB.out | apply below_alloc | apply pw_below_drewN | apply below_drew1 | refine below_set ?_ GE101.out | refine below_set ?_ GE102.out | refine below_set ?_ GE103.out | refine below_set ?_ GE106.out) | exact HB.out)) hb); clear BK101; clear BK102; clear BK103; clear BK106; clear HB; have BK101 := n0_; have BK102 := n1_; have BK103 := n2_; have BK106 := n3_; have HB := n4_; clear n0_ n1_ n2_ n3_ n4_; (try clear hb); (try clear hb2); (try clear hk); (try clear hi); have hcz55_0 : w54.cell? ⟨gb101, 0, none⟩ = some (.bool a0_0) := (blk_cell BK101.out 0).trans rfl; have hcz55_1 : w54.cell? ⟨gb101, 1, none⟩ = some (.int .i64 a0_1) := (blk_cell BK101.out 1).trans rfl; have hfz55_0 := blk_frozen BK101.out 0; have hfz55_1 := blk_frozen BK101.out 1) | (go_at_call 17; (with_reducible refine (fix_Cmp.calls k a0_0 a0_1 a0_0 a0_1 t108 _ A25.out).mono ?_); rintro e w56 ⟨rfl, hb⟩; have n0_ := Aside0.mk (blk_below (g := gb101) (o := .cells #[.bool a0_0, .int .i64 a0_1] 25 (0, 0)) (by (with_reducible repeat (first | refine blk_drewN ?_ _ | refine blk_drew ?_ | refine blk_alloc ?_ _)); exact BK101.out) hb); have n1_ := Aside0.mk (blk_below (g := gb102) (o := .cells #[.bool a1_0, .int .i64 a1_1] 25 (0, 0)) (by (with_reducible repeat (first | refine blk_drewN ?_ _ | refine blk_drew ?_ | refine blk_alloc ?_ _)); exact BK102.out) hb); have n2_ := Aside0.mk (blk_below (g := gb103) (o := .cells #[.bool a2_0, .int .i64 a2_1] 25 (0, 0)) (by (with_reducible repeat (first | refine blk_drewN ?_ _ | refine blk_drew ?_ | refine blk_alloc ?_ _)); exact BK103.out) hb); have n3_ := Aside0.mk (blk_below (g := gb106) (o := .cells #[.bool true, .int .i64 0] 25 (0, 0)) (by (with_reducible repeat (first | refine blk_drewN ?_ _ | refine blk_drew ?_ | refine blk_alloc ?_ _)); exact BK106.out) hb); have n4_ := Aside0.mk (below_step (by repeat (first | (with_reducible first | exact HB.out | apply below_alloc | apply pw_below_drewN | apply below_drew1 | refine below_set ?_ GE101.out | refine below_set ?_ GE102.out | refine below_set ?_ GE103.out | refine below_set ?_ GE106.out) | exact HB.out)) hb); clear BK101; clear BK102; clear BK103; clear BK106; clear HB; have BK101 := n0_; have BK102 := n1_; have BK103 := n2_; have BK106 := n3_; have HB := n4_; clear n0_ n1_ n2_ n3_ n4_; (try clear hb); (try clear hb2); (try clear hk); (try clear hi); have hnb57 := NB106_103.out; have hnc57 := NB103_106.out; have hcz58_0 : w56.cell? ⟨gb106, 0, none⟩ = some (.bool true) := (blk_cell BK106.out 0).trans rfl; have hcz58_1 : w56.cell? ⟨gb106, 1, none⟩ = some (.int .i64 0) := (blk_cell BK106.out 1).trans rfl; have hfz58_0 := blk_frozen BK106.out 0; have hfz58_1 := blk_frozen BK106.out 1; have hcz59_0 : w56.cell? ⟨gb101, 0, none⟩ = some (.bool a0_0) := (blk_cell BK101.out 0).trans rfl; have hcz59_1 : w56.cell? ⟨gb101, 1, none⟩ = some (.int .i64 a0_1) := (blk_cell BK101.out 1).trans rfl; have hfz59_0 := blk_frozen BK101.out 0; have hfz59_1 := blk_frozen BK101.out 1) | (go_at_call 17; (with_reducible refine (fix_Cmp.calls k true 0 a0_0 a0_1 t109 _ A27.out).mono ?_); rintro e w60 ⟨rfl, hb⟩; have n0_ := Aside0.mk (blk_below (g := gb101) (o := .cells #[.bool a0_0, .int .i64 a0_1] 25 (0, 0)) (by (with_reducible repeat (first | refine blk_drewN ?_ _ | refine blk_drew ?_ | refine blk_alloc ?_ _)); exact BK101.out) hb); have n1_ := Aside0.mk (blk_below (g := gb102) (o := .cells #[.bool a1_0, .int .i64 a1_1] 25 (0, 0)) (by (with_reducible repeat (first | refine blk_drewN ?_ _ | refine blk_drew ?_ | refine blk_alloc ?_ _)); exact BK102.out) hb); have n2_ := Aside0.mk (blk_below (g := gb103) (o := .cells #[.bool a2_0, .int .i64 a2_1] 25 (0, 0)) (by (with_reducible repeat (first | refine blk_drewN ?_ _ | refine blk_drew ?_ | refine blk_alloc ?_ _)); exact BK103.out) hb); have n3_ := Aside0.mk (blk_below (g := gb106) (o := .cells #[.bool true, .int .i64 0] 25 (0, 0)) (by (with_reducible repeat (first | refine blk_drewN ?_ _ | refine blk_drew ?_ | refine blk_alloc ?_ _)); exact BK106.out) hb); have n4_ := Aside0.mk (below_step (by repeat (first | (with_reducible first | exact HB.out | apply below_alloc | apply pw_below_drewN | apply below_drew1 | refine below_set ?_ GE101.out | refine below_set ?_ GE102.out | refine below_set ?_ GE103.out | refine below_set ?_ GE106.out) | exact HB.out)) hb); clear BK101; clear BK102; clear BK103; clear BK106; clear HB; have BK101 := n0_; have BK102 := n1_; have BK103 := n2_; have BK106 := n3_; have HB := n4_; clear n0_ n1_ n2_ n3_ n4_; (try clear hb); (try clear hb2); (try clear hk); (try clear hi); have hcz61_0 : w60.cell? ⟨gb102, 0, none⟩ = some (.bool a1_0) := (blk_cell BK102.out 0).trans rfl; have hcz61_1 : w60.cell? ⟨gb102, 1, none⟩ = some (.int .i64 a1_1) := (blk_cell BK102.out 1).trans rfl; have hfz61_0 := blk_frozen BK102.out 0; have hfz61_1 := blk_frozen BK102.out 1; have hcz62_0 : w60.cell? ⟨gb103, 0, none⟩ = some (.bool a2_0) := (blk_cell BK103.out 0).trans rfl; have hcz62_1 : w60.cell? ⟨gb103, 1, none⟩ = some (.int .i64 a2_1) := (blk_cell BK103.out 1).trans rfl; have hfz62_0 := blk_frozen BK103.out 0; have hfz62_1 := blk_frozen BK103.out 1) | (go_at_call 17; (with_reducible refine (fix_Cmp.calls k a1_0 a1_1 a2_0 a2_1 t110 _ A44.out).mono ?_); rintro e w63 ⟨rfl, hb⟩; have n0_ := Aside0.mk (blk_below (g := gb101) (o := .cells #[.bool a0_0, .int .i64 a0_1] 25 (0, 0)) (by (with_reducible repeat (first | refine blk_drewN ?_ _ | refine blk_drew ?_ | refine blk_alloc ?_ _)); exact BK101.out) hb); have n1_ := Aside0.mk (blk_below (g := gb102) (o := .cells #[.bool a1_0, .int .i64 a1_1] 25 (0, 0)) (by (with_reducible repeat (first | refine blk_drewN ?_ _ | refine blk_drew ?_ | refine blk_alloc ?_ _)); exact BK102.out) hb); have n2_ := Aside0.mk (blk_below (g := gb103) (o := .cells #[.bool a2_0, .int .i64 a2_1] 25 (0, 0)) (by (with_reducible repeat (first | refine blk_drewN ?_ _ | refine blk_drew ?_ | refine blk_alloc ?_ _)); exact BK103.out) hb); have n3_ := Aside0.mk (blk_below (g := gb106) (o := .cells #[.bool true, .int .i64 0] 25 (0, 0)) (by (with_reducible repeat (first | refine blk_drewN ?_ _ | refine blk_drew ?_ | refine blk_alloc ?_ _)); exact BK106.out) hb); have n4_ := Aside0.mk (below_step (by repeat (first | (with_reducible first | exact HB.out | apply below_alloc | apply pw_below_drewN | apply below_drew1 | refine below_set ?_ GE101.out | refine below_set ?_ GE102.out | refine below_set ?_ GE103.out | refine below_set ?_ GE106.out) | exact HB.out)) hb); clear BK101; clear BK102; clear BK103; clear BK106; clear HB; have BK101 := n0_; have BK102 := n1_; have BK103 := n2_; have BK106 := n3_; have HB := n4_; clear n0_ n1_ n2_ n3_ n4_; (try clear hb); (try clear hb2); (try clear hk); (try clear hi); have hcz64_0 : w63.cell? ⟨gb101, 0, none⟩ = some (.bool a0_0) := (blk_cell BK101.out 0).trans rfl; have hcz64_1 : w63.cell? ⟨gb101, 1, none⟩ = some (.int .i64 a0_1) := (blk_cell BK101.out 1).trans rfl; have hfz64_0 := blk_frozen BK101.out 0; have hfz64_1 := blk_frozen BK101.out 1; have hcz65_0 : w63.cell? ⟨gb103, 0, none⟩ = some (.bool a2_0) := (blk_cell BK103.out 0).trans rfl; have hcz65_1 : w63.cell? ⟨gb103, 1, none⟩ = some (.int .i64 a2_1) := (blk_cell BK103.out 1).trans rfl; have hfz65_0 := blk_frozen BK103.out 0; have hfz65_1 := blk_frozen BK103.out 1) | (go_at_call 17; (with_reducible refine (fix_Cmp.calls k a0_0 a0_1 a2_0 a2_1 t111 _ A46.out).mono ?_); rintro e w66 ⟨rfl, hb⟩; have n0_ := Aside0.mk (blk_below (g := gb101) (o := .cells #[.bool a0_0, .int .i64 a0_1] 25 (0, 0)) (by (with_reducible repeat (first | refine blk_drewN ?_ _ | refine blk_drew ?_ | refine blk_alloc ?_ _)); exact BK101.out) hb); have n1_ := Aside0.mk (blk_below (g := gb102) (o := .cells #[.bool a1_0, .int .i64 a1_1] 25 (0, 0)) (by (with_reducible repeat (first | refine blk_drewN ?_ _ | refine blk_drew ?_ | refine blk_alloc ?_ _)); exact BK102.out) hb); have n2_ := Aside0.mk (blk_below (g := gb103) (o := .cells #[.bool a2_0, .int .i64 a2_1] 25 (0, 0)) (by (with_reducible repeat (first | refine blk_drewN ?_ _ | refine blk_drew ?_ | refine blk_alloc ?_ _)); exact BK103.out) hb); have n3_ := Aside0.mk (blk_below (g := gb106) (o := .cells #[.bool true, .int .i64 0] 25 (0, 0)) (by (with_reducible repeat (first | refine blk_drewN ?_ _ | refine blk_drew ?_ | refine blk_alloc ?_ _)); exact BK106.out) hb); have n4_ := Aside0.mk (below_step (by repeat (first | (with_reducible first | exact HB.out | apply below_alloc | apply pw_below_drewN | apply below_drew1 | refine below_set ?_ GE101.out | refine below_set ?_ GE102.out | refine below_set ?_ GE103.out | refine below_set ?_ GE106.out) | exact HB.out)) hb); clear BK101; clear BK102; clear BK103; clear BK106; clear HB; have BK101 := n0_; have BK102 := n1_; have BK103 := n2_; have BK106 := n3_; have HB := n4_; clear n0_ n1_ n2_ n3_ n4_; (try clear hb); (try clear hb2); (try clear hk); (try clear hi)))
                go_meet
                case rel => exact ⟨_, (decide (t111 > 0)), (by first | rfl | (simp; done) | (simp [*]; done)), H', ⟨by first | omega | exact Nat.le_refl _⟩, ⟨by (with_reducible repeat (first | refine blk_drewN ?_ _ | refine blk_drew ?_ | refine blk_alloc ?_ _)); exact BK101.out⟩, ⟨by (with_reducible repeat (first | refine blk_drewN ?_ _ | refine blk_drew ?_ | refine blk_alloc ?_ _)); exact BK102.out⟩, ⟨by (with_reducible repeat (first | refine blk_drewN ?_ _ | refine blk_drew ?_ | refine blk_alloc ?_ _)); exact BK103.out⟩, ⟨by (with_reducible repeat (first | refine blk_drewN ?_ _ | refine blk_drew ?_ | refine blk_alloc ?_ _)); exact BK106.out⟩, ⟨by repeat (first | (with_reducible first | exact HB.out | apply below_alloc | apply pw_below_drewN | apply below_drew1 | refine below_set ?_ GE101.out | refine below_set ?_ GE102.out | refine below_set ?_ GE103.out | refine below_set ?_ GE106.out) | exact HB.out)⟩⟩
              · rw [if_neg c45] at H
                have c45b0 : decide (t110 ≤ 0) = false := decide_eq_false c45
                clear c45
                have H' := Aside0.mk H
                clear H
                have hnb67 := NB102_101.out
                have hnc67 := NB101_102.out
                have hnb68 := NB102_103.out
                have hnc68 := NB103_102.out
                have hnb69 := NB102_106.out
                have hnc69 := NB106_102.out
                have hcz70_0 : w18.cell? ⟨gb102, 0, none⟩ = some (.bool a1_0) := (blk_cell BK102.out 0).trans rfl
                have hcz70_1 : w18.cell? ⟨gb102, 1, none⟩ = some (.int .i64 a1_1) := (blk_cell BK102.out 1).trans rfl
                have hfz70_0 := blk_frozen BK102.out 0
                have hfz70_1 := blk_frozen BK102.out 1
                have hnb71 := NB101_103.out
                have hnc71 := NB103_101.out
                have hnb72 := NB101_106.out
                have hnc72 := NB106_101.out
                have hcz73_0 : w18.cell? ⟨gb101, 0, none⟩ = some (.bool a0_0) := (blk_cell BK101.out 0).trans rfl
                have hcz73_1 : w18.cell? ⟨gb101, 1, none⟩ = some (.int .i64 a0_1) := (blk_cell BK101.out 1).trans rfl
                have hfz73_0 := blk_frozen BK101.out 0
                have hfz73_1 := blk_frozen BK101.out 1
                go_wp2_with (first | ((with_reducible refine gate_callee (f := 17) rfl ?_); refine goesL_ (some 19) rfl rfl Tryd.func17 (by kernel_rfl) rfl #[.agg #[.bool a1_0, .int .i64 a1_1], .agg #[.bool a0_0, .int .i64 a0_1]] rfl (by (try simp only [List.map_toArray, List.map_cons, List.map_nil]); first | done | rfl | (simp only [List.length_drop, List.length_take]; rfl)) ?_; (with_reducible refine (fix_Cmp.calls k a1_0 a1_1 a0_0 a0_1 t107 _ A23.out).mono ?_); rintro e w74 ⟨rfl, hb⟩; refine ⟨_, rfl, ?_⟩; have n0_ := Aside0.mk (blk_below (g := gb101) (o := .cells #[.bool a0_0, .int .i64 a0_1] 25 (0, 0)) (by (with_reducible repeat (first | refine blk_drewN ?_ _ | refine blk_drew ?_ | refine blk_alloc ?_ _)); refine blk_far ?_ NB101_106.out _; (with_reducible repeat (first | refine blk_drewN ?_ _ | refine blk_drew ?_ | refine blk_alloc ?_ _)); refine blk_far ?_ NB101_106.out _; (with_reducible repeat (first | refine blk_drewN ?_ _ | refine blk_drew ?_ | refine blk_alloc ?_ _)); exact BK101.out) hb); have n1_ := Aside0.mk (blk_below (g := gb102) (o := .cells #[.bool a1_0, .int .i64 a1_1] 25 (0, 0)) (by (with_reducible repeat (first | refine blk_drewN ?_ _ | refine blk_drew ?_ | refine blk_alloc ?_ _)); refine blk_far ?_ NB102_106.out _; (with_reducible repeat (first | refine blk_drewN ?_ _ | refine blk_drew ?_ | refine blk_alloc ?_ _)); refine blk_far ?_ NB102_106.out _; (with_reducible repeat (first | refine blk_drewN ?_ _ | refine blk_drew ?_ | refine blk_alloc ?_ _)); exact BK102.out) hb); have n2_ := Aside0.mk (blk_below (g := gb103) (o := .cells #[.bool a2_0, .int .i64 a2_1] 25 (0, 0)) (by (with_reducible repeat (first | refine blk_drewN ?_ _ | refine blk_drew ?_ | refine blk_alloc ?_ _)); refine blk_far ?_ NB103_106.out _; (with_reducible repeat (first | refine blk_drewN ?_ _ | refine blk_drew ?_ | refine blk_alloc ?_ _)); refine blk_far ?_ NB103_106.out _; (with_reducible repeat (first | refine blk_drewN ?_ _ | refine blk_drew ?_ | refine blk_alloc ?_ _)); exact BK103.out) hb); have n3_ := Aside0.mk (blk_below (g := gb106) (o := .cells #[.bool true, .int .i64 0] 25 (0, 0)) (by (with_reducible repeat (first | refine blk_drewN ?_ _ | refine blk_drew ?_ | refine blk_alloc ?_ _)); refine blk_put (cs := #[.bool true, .int .i64 0]) ?_ 1 _ rfl; (with_reducible repeat (first | refine blk_drewN ?_ _ | refine blk_drew ?_ | refine blk_alloc ?_ _)); refine blk_put (cs := #[.bool false, .int .i64 0]) ?_ 0 _ rfl; (with_reducible repeat (first | refine blk_drewN ?_ _ | refine blk_drew ?_ | refine blk_alloc ?_ _)); exact BK106.out) hb); have n4_ := Aside0.mk (below_step (by repeat (first | (with_reducible first | exact HB.out | apply below_alloc | apply pw_below_drewN | apply below_drew1 | refine below_set ?_ GE101.out | refine below_set ?_ GE102.out | refine below_set ?_ GE103.out | refine below_set ?_ GE106.out) | exact HB.out)) hb); clear BK101; clear BK102; clear BK103; clear BK106; clear HB; have BK101 := n0_; have BK102 := n1_; have BK103 := n2_; have BK106 := n3_; have HB := n4_; clear n0_ n1_ n2_ n3_ n4_; (try clear hb); (try clear hb2); (try clear hk); (try clear hi); have hcz75_0 : w74.cell? ⟨gb101, 0, none⟩ = some (.bool a0_0) := (blk_cell BK101.out 0).trans rfl; have hcz75_1 : w74.cell? ⟨gb101, 1, none⟩ = some (.int .i64 a0_1) := (blk_cell BK101.out 1).trans rfl; have hfz75_0 := blk_frozen BK101.out 0; have hfz75_1 := blk_frozen BK101.out 1) | (go_at_call 17; (with_reducible refine (fix_Cmp.calls k a0_0 a0_1 a0_0 a0_1 t108 _ A25.out).mono ?_); rintro e w76 ⟨rfl, hb⟩; have n0_ := Aside0.mk (blk_below (g := gb101) (o := .cells #[.bool a0_0, .int .i64 a0_1] 25 (0, 0)) (by (with_reducible repeat (first | refine blk_drewN ?_ _ | refine blk_drew ?_ | refine blk_alloc ?_ _)); exact BK101.out) hb); have n1_ := Aside0.mk (blk_below (g := gb102) (o := .cells #[.bool a1_0, .int .i64 a1_1] 25 (0, 0)) (by (with_reducible repeat (first | refine blk_drewN ?_ _ | refine blk_drew ?_ | refine blk_alloc ?_ _)); exact BK102.out) hb); have n2_ := Aside0.mk (blk_below (g := gb103) (o := .cells #[.bool a2_0, .int .i64 a2_1] 25 (0, 0)) (by (with_reducible repeat (first | refine blk_drewN ?_ _ | refine blk_drew ?_ | refine blk_alloc ?_ _)); exact BK103.out) hb); have n3_ := Aside0.mk (blk_below (g := gb106) (o := .cells #[.bool true, .int .i64 0] 25 (0, 0)) (by (with_reducible repeat (first | refine blk_drewN ?_ _ | refine blk_drew ?_ | refine blk_alloc ?_ _)); exact BK106.out) hb); have n4_ := Aside0.mk (below_step (by repeat (first | (with_reducible first | exact HB.out | apply below_alloc | apply pw_below_drewN | apply below_drew1 | refine below_set ?_ GE101.out | refine below_set ?_ GE102.out | refine below_set ?_ GE103.out | refine below_set ?_ GE106.out) | exact HB.out)) hb); clear BK101; clear BK102; clear BK103; clear BK106; clear HB; have BK101 := n0_; have BK102 := n1_; have BK103 := n2_; have BK106 := n3_; have HB := n4_; clear n0_ n1_ n2_ n3_ n4_; (try clear hb); (try clear hb2); (try clear hk); (try clear hi); have hnb77 := NB106_103.out; have hnc77 := NB103_106.out; have hcz78_0 : w76.cell? ⟨gb106, 0, none⟩ = some (.bool true) := (blk_cell BK106.out 0).trans rfl; have hcz78_1 : w76.cell? ⟨gb106, 1, none⟩ = some (.int .i64 0) := (blk_cell BK106.out 1).trans rfl; have hfz78_0 := blk_frozen BK106.out 0; have hfz78_1 := blk_frozen BK106.out 1; have hcz79_0 : w76.cell? ⟨gb101, 0, none⟩ = some (.bool a0_0) := (blk_cell BK101.out 0).trans rfl; have hcz79_1 : w76.cell? ⟨gb101, 1, none⟩ = some (.int .i64 a0_1) := (blk_cell BK101.out 1).trans rfl; have hfz79_0 := blk_frozen BK101.out 0; have hfz79_1 := blk_frozen BK101.out 1) | (go_at_call 17; (with_reducible refine (fix_Cmp.calls k true 0 a0_0 a0_1 t109 _ A27.out).mono ?_); rintro e w80 ⟨rfl, hb⟩; have n0_ := Aside0.mk (blk_below (g := gb101) (o := .cells #[.bool a0_0, .int .i64 a0_1] 25 (0, 0)) (by (with_reducible repeat (first | refine blk_drewN ?_ _ | refine blk_drew ?_ | refine blk_alloc ?_ _)); exact BK101.out) hb); have n1_ := Aside0.mk (blk_below (g := gb102) (o := .cells #[.bool a1_0, .int .i64 a1_1] 25 (0, 0)) (by (with_reducible repeat (first | refine blk_drewN ?_ _ | refine blk_drew ?_ | refine blk_alloc ?_ _)); exact BK102.out) hb); have n2_ := Aside0.mk (blk_below (g := gb103) (o := .cells #[.bool a2_0, .int .i64 a2_1] 25 (0, 0)) (by (with_reducible repeat (first | refine blk_drewN ?_ _ | refine blk_drew ?_ | refine blk_alloc ?_ _)); exact BK103.out) hb); have n3_ := Aside0.mk (blk_below (g := gb106) (o := .cells #[.bool true, .int .i64 0] 25 (0, 0)) (by (with_reducible repeat (first | refine blk_drewN ?_ _ | refine blk_drew ?_ | refine blk_alloc ?_ _)); exact BK106.out) hb); have n4_ := Aside0.mk (below_step (by repeat (first | (with_reducible first | exact HB.out | apply below_alloc | apply pw_below_drewN | apply below_drew1 | refine below_set ?_ GE101.out | refine below_set ?_ GE102.out | refine below_set ?_ GE103.out | refine below_set ?_ GE106.out) | exact HB.out)) hb); clear BK101; clear BK102; clear BK103; clear BK106; clear HB; have BK101 := n0_; have BK102 := n1_; have BK103 := n2_; have BK106 := n3_; have HB := n4_; clear n0_ n1_ n2_ n3_ n4_; (try clear hb); (try clear hb2); (try clear hk); (try clear hi); have hcz81_0 : w80.cell? ⟨gb102, 0, none⟩ = some (.bool a1_0) := (blk_cell BK102.out 0).trans rfl; have hcz81_1 : w80.cell? ⟨gb102, 1, none⟩ = some (.int .i64 a1_1) := (blk_cell BK102.out 1).trans rfl; have hfz81_0 := blk_frozen BK102.out 0; have hfz81_1 := blk_frozen BK102.out 1; have hcz82_0 : w80.cell? ⟨gb103, 0, none⟩ = some (.bool a2_0) := (blk_cell BK103.out 0).trans rfl; have hcz82_1 : w80.cell? ⟨gb103, 1, none⟩ = some (.int .i64 a2_1) := (blk_cell BK103.out 1).trans rfl; have hfz82_0 := blk_frozen BK103.out 0; have hfz82_1 := blk_frozen BK103.out 1) | (go_at_call 17; (with_reducible refine (fix_Cmp.calls k a1_0 a1_1 a2_0 a2_1 t110 _ A44.out).mono ?_); rintro e w83 ⟨rfl, hb⟩; have n0_ := Aside0.mk (blk_below (g := gb101) (o := .cells #[.bool a0_0, .int .i64 a0_1] 25 (0, 0)) (by (with_reducible repeat (first | refine blk_drewN ?_ _ | refine blk_drew ?_ | refine blk_alloc ?_ _)); exact BK101.out) hb); have n1_ := Aside0.mk (blk_below (g := gb102) (o := .cells #[.bool a1_0, .int .i64 a1_1] 25 (0, 0)) (by (with_reducible repeat (first | refine blk_drewN ?_ _ | refine blk_drew ?_ | refine blk_alloc ?_ _)); exact BK102.out) hb); have n2_ := Aside0.mk (blk_below (g := gb103) (o := .cells #[.bool a2_0, .int .i64 a2_1] 25 (0, 0)) (by (with_reducible repeat (first | refine blk_drewN ?_ _ | refine blk_drew ?_ | refine blk_alloc ?_ _)); exact BK103.out) hb); have n3_ := Aside0.mk (blk_below (g := gb106) (o := .cells #[.bool true, .int .i64 0] 25 (0, 0)) (by (with_reducible repeat (first | refine blk_drewN ?_ _ | refine blk_drew ?_ | refine blk_alloc ?_ _)); exact BK106.out) hb); have n4_ := Aside0.mk (below_step (by repeat (first | (with_reducible first | exact HB.out | apply below_alloc | apply pw_below_drewN | apply below_drew1 | refine below_set ?_ GE101.out | refine below_set ?_ GE102.out | refine below_set ?_ GE103.out | refine below_set ?_ GE106.out) | exact HB.out)) hb); clear BK101; clear BK102; clear BK103; clear BK106; clear HB; have BK101 := n0_; have BK102 := n1_; have BK103 := n2_; have BK106 := n3_; have HB := n4_; clear n0_ n1_ n2_ n3_ n4_; (try clear hb); (try clear hb2); (try clear hk); (try clear hi)))
                go_meet
                case rel => exact ⟨_, (false), (by first | rfl | (simp; done) | (simp [*]; done)), H', ⟨by first | omega | exact Nat.le_refl _⟩, ⟨by (with_reducible repeat (first | refine blk_drewN ?_ _ | refine blk_drew ?_ | refine blk_alloc ?_ _)); exact BK101.out⟩, ⟨by (with_reducible repeat (first | refine blk_drewN ?_ _ | refine blk_drew ?_ | refine blk_alloc ?_ _)); exact BK102.out⟩, ⟨by (with_reducible repeat (first | refine blk_drewN ?_ _ | refine blk_drew ?_ | refine blk_alloc ?_ _)); exact BK103.out⟩, ⟨by (with_reducible repeat (first | refine blk_drewN ?_ _ | refine blk_drew ?_ | refine blk_alloc ?_ _)); exact BK106.out⟩, ⟨by repeat (first | (with_reducible first | exact HB.out | apply below_alloc | apply pw_below_drewN | apply below_drew1 | refine below_set ?_ GE101.out | refine below_set ?_ GE102.out | refine below_set ?_ GE103.out | refine below_set ?_ GE106.out) | exact HB.out)⟩⟩
            · rw [if_neg c43] at H
              have c43b0 : decide (t105 ≤ 0) = false := decide_eq_false c43
              clear c43
              have H' := Aside0.mk H
              clear H
              have hnb84 := NB102_101.out
              have hnc84 := NB101_102.out
              have hnb85 := NB102_103.out
              have hnc85 := NB103_102.out
              have hnb86 := NB102_106.out
              have hnc86 := NB106_102.out
              have hcz87_0 : w18.cell? ⟨gb102, 0, none⟩ = some (.bool a1_0) := (blk_cell BK102.out 0).trans rfl
              have hcz87_1 : w18.cell? ⟨gb102, 1, none⟩ = some (.int .i64 a1_1) := (blk_cell BK102.out 1).trans rfl
              have hfz87_0 := blk_frozen BK102.out 0
              have hfz87_1 := blk_frozen BK102.out 1
              have hnb88 := NB101_103.out
              have hnc88 := NB103_101.out
              have hnb89 := NB101_106.out
              have hnc89 := NB106_101.out
              have hcz90_0 : w18.cell? ⟨gb101, 0, none⟩ = some (.bool a0_0) := (blk_cell BK101.out 0).trans rfl
              have hcz90_1 : w18.cell? ⟨gb101, 1, none⟩ = some (.int .i64 a0_1) := (blk_cell BK101.out 1).trans rfl
              have hfz90_0 := blk_frozen BK101.out 0
              have hfz90_1 := blk_frozen BK101.out 1
              go_wp2_with (first | ((with_reducible refine gate_callee (f := 17) rfl ?_); refine goesL_ (some 19) rfl rfl Tryd.func17 (by kernel_rfl) rfl #[.agg #[.bool a1_0, .int .i64 a1_1], .agg #[.bool a0_0, .int .i64 a0_1]] rfl (by (try simp only [List.map_toArray, List.map_cons, List.map_nil]); first | done | rfl | (simp only [List.length_drop, List.length_take]; rfl)) ?_; (with_reducible refine (fix_Cmp.calls k a1_0 a1_1 a0_0 a0_1 t107 _ A23.out).mono ?_); rintro e w91 ⟨rfl, hb⟩; refine ⟨_, rfl, ?_⟩; have n0_ := Aside0.mk (blk_below (g := gb101) (o := .cells #[.bool a0_0, .int .i64 a0_1] 25 (0, 0)) (by (with_reducible repeat (first | refine blk_drewN ?_ _ | refine blk_drew ?_ | refine blk_alloc ?_ _)); refine blk_far ?_ NB101_106.out _; (with_reducible repeat (first | refine blk_drewN ?_ _ | refine blk_drew ?_ | refine blk_alloc ?_ _)); refine blk_far ?_ NB101_106.out _; (with_reducible repeat (first | refine blk_drewN ?_ _ | refine blk_drew ?_ | refine blk_alloc ?_ _)); exact BK101.out) hb); have n1_ := Aside0.mk (blk_below (g := gb102) (o := .cells #[.bool a1_0, .int .i64 a1_1] 25 (0, 0)) (by (with_reducible repeat (first | refine blk_drewN ?_ _ | refine blk_drew ?_ | refine blk_alloc ?_ _)); refine blk_far ?_ NB102_106.out _; (with_reducible repeat (first | refine blk_drewN ?_ _ | refine blk_drew ?_ | refine blk_alloc ?_ _)); refine blk_far ?_ NB102_106.out _; (with_reducible repeat (first | refine blk_drewN ?_ _ | refine blk_drew ?_ | refine blk_alloc ?_ _)); exact BK102.out) hb); have n2_ := Aside0.mk (blk_below (g := gb103) (o := .cells #[.bool a2_0, .int .i64 a2_1] 25 (0, 0)) (by (with_reducible repeat (first | refine blk_drewN ?_ _ | refine blk_drew ?_ | refine blk_alloc ?_ _)); refine blk_far ?_ NB103_106.out _; (with_reducible repeat (first | refine blk_drewN ?_ _ | refine blk_drew ?_ | refine blk_alloc ?_ _)); refine blk_far ?_ NB103_106.out _; (with_reducible repeat (first | refine blk_drewN ?_ _ | refine blk_drew ?_ | refine blk_alloc ?_ _)); exact BK103.out) hb); have n3_ := Aside0.mk (blk_below (g := gb106) (o := .cells #[.bool true, .int .i64 0] 25 (0, 0)) (by (with_reducible repeat (first | refine blk_drewN ?_ _ | refine blk_drew ?_ | refine blk_alloc ?_ _)); refine blk_put (cs := #[.bool true, .int .i64 0]) ?_ 1 _ rfl; (with_reducible repeat (first | refine blk_drewN ?_ _ | refine blk_drew ?_ | refine blk_alloc ?_ _)); refine blk_put (cs := #[.bool false, .int .i64 0]) ?_ 0 _ rfl; (with_reducible repeat (first | refine blk_drewN ?_ _ | refine blk_drew ?_ | refine blk_alloc ?_ _)); exact BK106.out) hb); have n4_ := Aside0.mk (below_step (by repeat (first | (with_reducible first | exact HB.out | apply below_alloc | apply pw_below_drewN | apply below_drew1 | refine below_set ?_ GE101.out | refine below_set ?_ GE102.out | refine below_set ?_ GE103.out | refine below_set ?_ GE106.out) | exact HB.out)) hb); clear BK101; clear BK102; clear BK103; clear BK106; clear HB; have BK101 := n0_; have BK102 := n1_; have BK103 := n2_; have BK106 := n3_; have HB := n4_; clear n0_ n1_ n2_ n3_ n4_; (try clear hb); (try clear hb2); (try clear hk); (try clear hi); have hcz92_0 : w91.cell? ⟨gb101, 0, none⟩ = some (.bool a0_0) := (blk_cell BK101.out 0).trans rfl; have hcz92_1 : w91.cell? ⟨gb101, 1, none⟩ = some (.int .i64 a0_1) := (blk_cell BK101.out 1).trans rfl; have hfz92_0 := blk_frozen BK101.out 0; have hfz92_1 := blk_frozen BK101.out 1) | (go_at_call 17; (with_reducible refine (fix_Cmp.calls k a0_0 a0_1 a0_0 a0_1 t108 _ A25.out).mono ?_); rintro e w93 ⟨rfl, hb⟩; have n0_ := Aside0.mk (blk_below (g := gb101) (o := .cells #[.bool a0_0, .int .i64 a0_1] 25 (0, 0)) (by (with_reducible repeat (first | refine blk_drewN ?_ _ | refine blk_drew ?_ | refine blk_alloc ?_ _)); exact BK101.out) hb); have n1_ := Aside0.mk (blk_below (g := gb102) (o := .cells #[.bool a1_0, .int .i64 a1_1] 25 (0, 0)) (by (with_reducible repeat (first | refine blk_drewN ?_ _ | refine blk_drew ?_ | refine blk_alloc ?_ _)); exact BK102.out) hb); have n2_ := Aside0.mk (blk_below (g := gb103) (o := .cells #[.bool a2_0, .int .i64 a2_1] 25 (0, 0)) (by (with_reducible repeat (first | refine blk_drewN ?_ _ | refine blk_drew ?_ | refine blk_alloc ?_ _)); exact BK103.out) hb); have n3_ := Aside0.mk (blk_below (g := gb106) (o := .cells #[.bool true, .int .i64 0] 25 (0, 0)) (by (with_reducible repeat (first | refine blk_drewN ?_ _ | refine blk_drew ?_ | refine blk_alloc ?_ _)); exact BK106.out) hb); have n4_ := Aside0.mk (below_step (by repeat (first | (with_reducible first | exact HB.out | apply below_alloc | apply pw_below_drewN | apply below_drew1 | refine below_set ?_ GE101.out | refine below_set ?_ GE102.out | refine below_set ?_ GE103.out | refine below_set ?_ GE106.out) | exact HB.out)) hb); clear BK101; clear BK102; clear BK103; clear BK106; clear HB; have BK101 := n0_; have BK102 := n1_; have BK103 := n2_; have BK106 := n3_; have HB := n4_; clear n0_ n1_ n2_ n3_ n4_; (try clear hb); (try clear hb2); (try clear hk); (try clear hi); have hnb94 := NB106_103.out; have hnc94 := NB103_106.out; have hcz95_0 : w93.cell? ⟨gb106, 0, none⟩ = some (.bool true) := (blk_cell BK106.out 0).trans rfl; have hcz95_1 : w93.cell? ⟨gb106, 1, none⟩ = some (.int .i64 0) := (blk_cell BK106.out 1).trans rfl; have hfz95_0 := blk_frozen BK106.out 0; have hfz95_1 := blk_frozen BK106.out 1; have hcz96_0 : w93.cell? ⟨gb101, 0, none⟩ = some (.bool a0_0) := (blk_cell BK101.out 0).trans rfl; have hcz96_1 : w93.cell? ⟨gb101, 1, none⟩ = some (.int .i64 a0_1) := (blk_cell BK101.out 1).trans rfl; have hfz96_0 := blk_frozen BK101.out 0; have hfz96_1 := blk_frozen BK101.out 1) | (go_at_call 17; (with_reducible refine (fix_Cmp.calls k true 0 a0_0 a0_1 t109 _ A27.out).mono ?_); rintro e w97 ⟨rfl, hb⟩; have n0_ := Aside0.mk (blk_below (g := gb101) (o := .cells #[.bool a0_0, .int .i64 a0_1] 25 (0, 0)) (by (with_reducible repeat (first | refine blk_drewN ?_ _ | refine blk_drew ?_ | refine blk_alloc ?_ _)); exact BK101.out) hb); have n1_ := Aside0.mk (blk_below (g := gb102) (o := .cells #[.bool a1_0, .int .i64 a1_1] 25 (0, 0)) (by (with_reducible repeat (first | refine blk_drewN ?_ _ | refine blk_drew ?_ | refine blk_alloc ?_ _)); exact BK102.out) hb); have n2_ := Aside0.mk (blk_below (g := gb103) (o := .cells #[.bool a2_0, .int .i64 a2_1] 25 (0, 0)) (by (with_reducible repeat (first | refine blk_drewN ?_ _ | refine blk_drew ?_ | refine blk_alloc ?_ _)); exact BK103.out) hb); have n3_ := Aside0.mk (blk_below (g := gb106) (o := .cells #[.bool true, .int .i64 0] 25 (0, 0)) (by (with_reducible repeat (first | refine blk_drewN ?_ _ | refine blk_drew ?_ | refine blk_alloc ?_ _)); exact BK106.out) hb); have n4_ := Aside0.mk (below_step (by repeat (first | (with_reducible first | exact HB.out | apply below_alloc | apply pw_below_drewN | apply below_drew1 | refine below_set ?_ GE101.out | refine below_set ?_ GE102.out | refine below_set ?_ GE103.out | refine below_set ?_ GE106.out) | exact HB.out)) hb); clear BK101; clear BK102; clear BK103; clear BK106; clear HB; have BK101 := n0_; have BK102 := n1_; have BK103 := n2_; have BK106 := n3_; have HB := n4_; clear n0_ n1_ n2_ n3_ n4_; (try clear hb); (try clear hb2); (try clear hk); (try clear hi)))
              go_meet
              case rel => exact ⟨_, (false), (by first | rfl | (simp; done) | (simp [*]; done)), H', ⟨by first | omega | exact Nat.le_refl _⟩, ⟨by (with_reducible repeat (first | refine blk_drewN ?_ _ | refine blk_drew ?_ | refine blk_alloc ?_ _)); exact BK101.out⟩, ⟨by (with_reducible repeat (first | refine blk_drewN ?_ _ | refine blk_drew ?_ | refine blk_alloc ?_ _)); exact BK102.out⟩, ⟨by (with_reducible repeat (first | refine blk_drewN ?_ _ | refine blk_drew ?_ | refine blk_alloc ?_ _)); exact BK103.out⟩, ⟨by (with_reducible repeat (first | refine blk_drewN ?_ _ | refine blk_drew ?_ | refine blk_alloc ?_ _)); exact BK106.out⟩, ⟨by repeat (first | (with_reducible first | exact HB.out | apply below_alloc | apply pw_below_drewN | apply below_drew1 | refine below_set ?_ GE101.out | refine below_set ?_ GE102.out | refine below_set ?_ GE103.out | refine below_set ?_ GE106.out) | exact HB.out)⟩⟩
        · rw [if_neg c26] at H
          have c26b0 : (t108 == 0) = false := beq_eq_false_iff_ne.mpr c26
          have c26b1 : (t108 != 0) = true := bne_iff_ne.mpr c26
          have H' := Aside0.mk H
          clear H
          have hnb98 := NB102_101.out
          have hnc98 := NB101_102.out
          have hnb99 := NB102_103.out
          have hnc99 := NB103_102.out
          have hnb100 := NB102_106.out
          have hnc100 := NB106_102.out
          have hcz101_0 : w18.cell? ⟨gb102, 0, none⟩ = some (.bool a1_0) := (blk_cell BK102.out 0).trans rfl
          have hcz101_1 : w18.cell? ⟨gb102, 1, none⟩ = some (.int .i64 a1_1) := (blk_cell BK102.out 1).trans rfl
          have hfz101_0 := blk_frozen BK102.out 0
          have hfz101_1 := blk_frozen BK102.out 1
          have hnb102 := NB101_103.out
          have hnc102 := NB103_101.out
          have hnb103 := NB101_106.out
          have hnc103 := NB106_101.out
          have hcz104_0 : w18.cell? ⟨gb101, 0, none⟩ = some (.bool a0_0) := (blk_cell BK101.out 0).trans rfl
          have hcz104_1 : w18.cell? ⟨gb101, 1, none⟩ = some (.int .i64 a0_1) := (blk_cell BK101.out 1).trans rfl
          have hfz104_0 := blk_frozen BK101.out 0
          have hfz104_1 := blk_frozen BK101.out 1
          go_wp2_with (first | ((with_reducible refine gate_callee (f := 17) rfl ?_); refine goesL_ (some 19) rfl rfl Tryd.func17 (by kernel_rfl) rfl #[.agg #[.bool a1_0, .int .i64 a1_1], .agg #[.bool a0_0, .int .i64 a0_1]] rfl (by (try simp only [List.map_toArray, List.map_cons, List.map_nil]); first | done | rfl | (simp only [List.length_drop, List.length_take]; rfl)) ?_; (with_reducible refine (fix_Cmp.calls k a1_0 a1_1 a0_0 a0_1 t107 _ A23.out).mono ?_); rintro e w105 ⟨rfl, hb⟩; refine ⟨_, rfl, ?_⟩; have n0_ := Aside0.mk (blk_below (g := gb101) (o := .cells #[.bool a0_0, .int .i64 a0_1] 25 (0, 0)) (by (with_reducible repeat (first | refine blk_drewN ?_ _ | refine blk_drew ?_ | refine blk_alloc ?_ _)); refine blk_far ?_ NB101_106.out _; (with_reducible repeat (first | refine blk_drewN ?_ _ | refine blk_drew ?_ | refine blk_alloc ?_ _)); refine blk_far ?_ NB101_106.out _; (with_reducible repeat (first | refine blk_drewN ?_ _ | refine blk_drew ?_ | refine blk_alloc ?_ _)); exact BK101.out) hb); have n1_ := Aside0.mk (blk_below (g := gb102) (o := .cells #[.bool a1_0, .int .i64 a1_1] 25 (0, 0)) (by (with_reducible repeat (first | refine blk_drewN ?_ _ | refine blk_drew ?_ | refine blk_alloc ?_ _)); refine blk_far ?_ NB102_106.out _; (with_reducible repeat (first | refine blk_drewN ?_ _ | refine blk_drew ?_ | refine blk_alloc ?_ _)); refine blk_far ?_ NB102_106.out _; (with_reducible repeat (first | refine blk_drewN ?_ _ | refine blk_drew ?_ | refine blk_alloc ?_ _)); exact BK102.out) hb); have n2_ := Aside0.mk (blk_below (g := gb103) (o := .cells #[.bool a2_0, .int .i64 a2_1] 25 (0, 0)) (by (with_reducible repeat (first | refine blk_drewN ?_ _ | refine blk_drew ?_ | refine blk_alloc ?_ _)); refine blk_far ?_ NB103_106.out _; (with_reducible repeat (first | refine blk_drewN ?_ _ | refine blk_drew ?_ | refine blk_alloc ?_ _)); refine blk_far ?_ NB103_106.out _; (with_reducible repeat (first | refine blk_drewN ?_ _ | refine blk_drew ?_ | refine blk_alloc ?_ _)); exact BK103.out) hb); have n3_ := Aside0.mk (blk_below (g := gb106) (o := .cells #[.bool true, .int .i64 0] 25 (0, 0)) (by (with_reducible repeat (first | refine blk_drewN ?_ _ | refine blk_drew ?_ | refine blk_alloc ?_ _)); refine blk_put (cs := #[.bool true, .int .i64 0]) ?_ 1 _ rfl; (with_reducible repeat (first | refine blk_drewN ?_ _ | refine blk_drew ?_ | refine blk_alloc ?_ _)); refine blk_put (cs := #[.bool false, .int .i64 0]) ?_ 0 _ rfl; (with_reducible repeat (first | refine blk_drewN ?_ _ | refine blk_drew ?_ | refine blk_alloc ?_ _)); exact BK106.out) hb); have n4_ := Aside0.mk (below_step (by repeat (first | (with_reducible first | exact HB.out | apply below_alloc | apply pw_below_drewN | apply below_drew1 | refine below_set ?_ GE101.out | refine below_set ?_ GE102.out | refine below_set ?_ GE103.out | refine below_set ?_ GE106.out) | exact HB.out)) hb); clear BK101; clear BK102; clear BK103; clear BK106; clear HB; have BK101 := n0_; have BK102 := n1_; have BK103 := n2_; have BK106 := n3_; have HB := n4_; clear n0_ n1_ n2_ n3_ n4_; (try clear hb); (try clear hb2); (try clear hk); (try clear hi); have hcz106_0 : w105.cell? ⟨gb101, 0, none⟩ = some (.bool a0_0) := (blk_cell BK101.out 0).trans rfl; have hcz106_1 : w105.cell? ⟨gb101, 1, none⟩ = some (.int .i64 a0_1) := (blk_cell BK101.out 1).trans rfl; have hfz106_0 := blk_frozen BK101.out 0; have hfz106_1 := blk_frozen BK101.out 1) | (go_at_call 17; (with_reducible refine (fix_Cmp.calls k a0_0 a0_1 a0_0 a0_1 t108 _ A25.out).mono ?_); rintro e w107 ⟨rfl, hb⟩; have n0_ := Aside0.mk (blk_below (g := gb101) (o := .cells #[.bool a0_0, .int .i64 a0_1] 25 (0, 0)) (by (with_reducible repeat (first | refine blk_drewN ?_ _ | refine blk_drew ?_ | refine blk_alloc ?_ _)); exact BK101.out) hb); have n1_ := Aside0.mk (blk_below (g := gb102) (o := .cells #[.bool a1_0, .int .i64 a1_1] 25 (0, 0)) (by (with_reducible repeat (first | refine blk_drewN ?_ _ | refine blk_drew ?_ | refine blk_alloc ?_ _)); exact BK102.out) hb); have n2_ := Aside0.mk (blk_below (g := gb103) (o := .cells #[.bool a2_0, .int .i64 a2_1] 25 (0, 0)) (by (with_reducible repeat (first | refine blk_drewN ?_ _ | refine blk_drew ?_ | refine blk_alloc ?_ _)); exact BK103.out) hb); have n3_ := Aside0.mk (blk_below (g := gb106) (o := .cells #[.bool true, .int .i64 0] 25 (0, 0)) (by (with_reducible repeat (first | refine blk_drewN ?_ _ | refine blk_drew ?_ | refine blk_alloc ?_ _)); exact BK106.out) hb); have n4_ := Aside0.mk (below_step (by repeat (first | (with_reducible first | exact HB.out | apply below_alloc | apply pw_below_drewN | apply below_drew1 | refine below_set ?_ GE101.out | refine below_set ?_ GE102.out | refine below_set ?_ GE103.out | refine below_set ?_ GE106.out) | exact HB.out)) hb); clear BK101; clear BK102; clear BK103; clear BK106; clear HB; have BK101 := n0_; have BK102 := n1_; have BK103 := n2_; have BK106 := n3_; have HB := n4_; clear n0_ n1_ n2_ n3_ n4_; (try clear hb); (try clear hb2); (try clear hk); (try clear hi)))
          go_meet
          case rel => exact ⟨_, (true), (by first | rfl | (simp; done) | (simp [*]; done)), H', ⟨by first | omega | exact Nat.le_refl _⟩, ⟨by (with_reducible repeat (first | refine blk_drewN ?_ _ | refine blk_drew ?_ | refine blk_alloc ?_ _)); exact BK101.out⟩, ⟨by (with_reducible repeat (first | refine blk_drewN ?_ _ | refine blk_drew ?_ | refine blk_alloc ?_ _)); exact BK102.out⟩, ⟨by (with_reducible repeat (first | refine blk_drewN ?_ _ | refine blk_drew ?_ | refine blk_alloc ?_ _)); exact BK103.out⟩, ⟨by (with_reducible repeat (first | refine blk_drewN ?_ _ | refine blk_drew ?_ | refine blk_alloc ?_ _)); exact BK106.out⟩, ⟨by repeat (first | (with_reducible first | exact HB.out | apply below_alloc | apply pw_below_drewN | apply below_drew1 | refine below_set ?_ GE101.out | refine below_set ?_ GE102.out | refine below_set ?_ GE103.out | refine below_set ?_ GE106.out) | exact HB.out)⟩⟩
      · rw [if_neg c24] at H
        have c24b0 : (t107 == (wrap64 (-t105))) = false := beq_eq_false_iff_ne.mpr c24
        have c24b1 : (t107 != (wrap64 (-t105))) = true := bne_iff_ne.mpr c24
        (first | rw [c24b0] | (simp only [i64_w, i32_w]; rw [c24b0]) | skip)
        have H' := Aside0.mk H
        clear H
        have hnb108 := NB102_101.out
        have hnc108 := NB101_102.out
        have hnb109 := NB102_103.out
        have hnc109 := NB103_102.out
        have hnb110 := NB102_106.out
        have hnc110 := NB106_102.out
        have hcz111_0 : w18.cell? ⟨gb102, 0, none⟩ = some (.bool a1_0) := (blk_cell BK102.out 0).trans rfl
        have hcz111_1 : w18.cell? ⟨gb102, 1, none⟩ = some (.int .i64 a1_1) := (blk_cell BK102.out 1).trans rfl
        have hfz111_0 := blk_frozen BK102.out 0
        have hfz111_1 := blk_frozen BK102.out 1
        have hnb112 := NB101_103.out
        have hnc112 := NB103_101.out
        have hnb113 := NB101_106.out
        have hnc113 := NB106_101.out
        have hcz114_0 : w18.cell? ⟨gb101, 0, none⟩ = some (.bool a0_0) := (blk_cell BK101.out 0).trans rfl
        have hcz114_1 : w18.cell? ⟨gb101, 1, none⟩ = some (.int .i64 a0_1) := (blk_cell BK101.out 1).trans rfl
        have hfz114_0 := blk_frozen BK101.out 0
        have hfz114_1 := blk_frozen BK101.out 1
        go_wp2_with (first | ((with_reducible refine gate_callee (f := 17) rfl ?_); refine goesL_ (some 19) rfl rfl Tryd.func17 (by kernel_rfl) rfl #[.agg #[.bool a1_0, .int .i64 a1_1], .agg #[.bool a0_0, .int .i64 a0_1]] rfl (by (try simp only [List.map_toArray, List.map_cons, List.map_nil]); first | done | rfl | (simp only [List.length_drop, List.length_take]; rfl)) ?_; (with_reducible refine (fix_Cmp.calls k a1_0 a1_1 a0_0 a0_1 t107 _ A23.out).mono ?_); rintro e w115 ⟨rfl, hb⟩; refine ⟨_, rfl, ?_⟩; have n0_ := Aside0.mk (blk_below (g := gb101) (o := .cells #[.bool a0_0, .int .i64 a0_1] 25 (0, 0)) (by (with_reducible repeat (first | refine blk_drewN ?_ _ | refine blk_drew ?_ | refine blk_alloc ?_ _)); refine blk_far ?_ NB101_106.out _; (with_reducible repeat (first | refine blk_drewN ?_ _ | refine blk_drew ?_ | refine blk_alloc ?_ _)); refine blk_far ?_ NB101_106.out _; (with_reducible repeat (first | refine blk_drewN ?_ _ | refine blk_drew ?_ | refine blk_alloc ?_ _)); exact BK101.out) hb); have n1_ := Aside0.mk (blk_below (g := gb102) (o := .cells #[.bool a1_0, .int .i64 a1_1] 25 (0, 0)) (by (with_reducible repeat (first | refine blk_drewN ?_ _ | refine blk_drew ?_ | refine blk_alloc ?_ _)); refine blk_far ?_ NB102_106.out _; (with_reducible repeat (first | refine blk_drewN ?_ _ | refine blk_drew ?_ | refine blk_alloc ?_ _)); refine blk_far ?_ NB102_106.out _; (with_reducible repeat (first | refine blk_drewN ?_ _ | refine blk_drew ?_ | refine blk_alloc ?_ _)); exact BK102.out) hb); have n2_ := Aside0.mk (blk_below (g := gb103) (o := .cells #[.bool a2_0, .int .i64 a2_1] 25 (0, 0)) (by (with_reducible repeat (first | refine blk_drewN ?_ _ | refine blk_drew ?_ | refine blk_alloc ?_ _)); refine blk_far ?_ NB103_106.out _; (with_reducible repeat (first | refine blk_drewN ?_ _ | refine blk_drew ?_ | refine blk_alloc ?_ _)); refine blk_far ?_ NB103_106.out _; (with_reducible repeat (first | refine blk_drewN ?_ _ | refine blk_drew ?_ | refine blk_alloc ?_ _)); exact BK103.out) hb); have n3_ := Aside0.mk (blk_below (g := gb106) (o := .cells #[.bool true, .int .i64 0] 25 (0, 0)) (by (with_reducible repeat (first | refine blk_drewN ?_ _ | refine blk_drew ?_ | refine blk_alloc ?_ _)); refine blk_put (cs := #[.bool true, .int .i64 0]) ?_ 1 _ rfl; (with_reducible repeat (first | refine blk_drewN ?_ _ | refine blk_drew ?_ | refine blk_alloc ?_ _)); refine blk_put (cs := #[.bool false, .int .i64 0]) ?_ 0 _ rfl; (with_reducible repeat (first | refine blk_drewN ?_ _ | refine blk_drew ?_ | refine blk_alloc ?_ _)); exact BK106.out) hb); have n4_ := Aside0.mk (below_step (by repeat (first | (with_reducible first | exact HB.out | apply below_alloc | apply pw_below_drewN | apply below_drew1 | refine below_set ?_ GE101.out | refine below_set ?_ GE102.out | refine below_set ?_ GE103.out | refine below_set ?_ GE106.out) | exact HB.out)) hb); clear BK101; clear BK102; clear BK103; clear BK106; clear HB; have BK101 := n0_; have BK102 := n1_; have BK103 := n2_; have BK106 := n3_; have HB := n4_; clear n0_ n1_ n2_ n3_ n4_; (try clear hb); (try clear hb2); (try clear hk); (try clear hi)))
        go_meet
        case rel => exact ⟨_, (true), (by first | rfl | (simp; done) | (simp [*]; done)), H', ⟨by first | omega | exact Nat.le_refl _⟩, ⟨by (with_reducible repeat (first | refine blk_drewN ?_ _ | refine blk_drew ?_ | refine blk_alloc ?_ _)); exact BK101.out⟩, ⟨by (with_reducible repeat (first | refine blk_drewN ?_ _ | refine blk_drew ?_ | refine blk_alloc ?_ _)); exact BK102.out⟩, ⟨by (with_reducible repeat (first | refine blk_drewN ?_ _ | refine blk_drew ?_ | refine blk_alloc ?_ _)); exact BK103.out⟩, ⟨by (with_reducible repeat (first | refine blk_drewN ?_ _ | refine blk_drew ?_ | refine blk_alloc ?_ _)); exact BK106.out⟩, ⟨by repeat (first | (with_reducible first | exact HB.out | apply below_alloc | apply pw_below_drewN | apply below_drew1 | refine below_set ?_ GE101.out | refine below_set ?_ GE102.out | refine below_set ?_ GE103.out | refine below_set ?_ GE106.out) | exact HB.out)⟩⟩
    case rest =>
      clear HC7
      try clear c1
      try clear c2
      try clear p2
      try clear c3
      try clear c4
      try clear c5
      try clear c6
      try clear p6
      try clear c7
      try clear c8
      try clear c9
      try clear c10
      try clear c11
      try clear c12
      try clear c13
      try clear c15
      try clear c17
      try clear c19
      try clear c20
      try clear c21
      try clear c24
      try clear c24b0
      try clear c24b1
      try clear c26
      try clear c26b0
      try clear c26b1
      try clear c28
      try clear c28b0
      try clear c29
      try clear c30
      try clear c31
      try clear c33
      try clear c34
      try clear c39
      try clear c43
      try clear c43b0
      try clear c45
      try clear c45b0
      try clear c47
      try clear c48
      try clear c49
      try clear c51
      try clear c52
      try clear c57
      try clear p64
      try clear c67
      try clear c68
      try clear c69
      try clear c71
      try clear c72
      try clear c77
      try clear c84
      try clear c85
      try clear c86
      try clear c88
      try clear c89
      try clear c94
      try clear c98
      try clear c99
      try clear c100
      try clear c102
      try clear c103
      try clear c108
      try clear c109
      try clear c110
      try clear c112
      try clear c113
      try clear hcz101_0
      try clear hcz101_1
      try clear hcz104_0
      try clear hcz104_1
      try clear hcz106_0
      try clear hcz106_1
      try clear hcz111_0
      try clear hcz111_1
      try clear hcz114_0
      try clear hcz114_1
      try clear hcz14_0
      try clear hcz14_1
      try clear hcz16_0
      try clear hcz16_1
      try clear hcz22_0
      try clear hcz22_1
      try clear hcz32_0
      try clear hcz32_1
      try clear hcz35_0
      try clear hcz35_1
      try clear hcz37_0
      try clear hcz37_1
      try clear hcz40_0
      try clear hcz40_1
      try clear hcz41_0
      try clear hcz41_1
      try clear hcz50_0
      try clear hcz50_1
      try clear hcz53_0
      try clear hcz53_1
      try clear hcz55_0
      try clear hcz55_1
      try clear hcz58_0
      try clear hcz58_1
      try clear hcz59_0
      try clear hcz59_1
      try clear hcz61_0
      try clear hcz61_1
      try clear hcz62_0
      try clear hcz62_1
      try clear hcz64_0
      try clear hcz64_1
      try clear hcz65_0
      try clear hcz65_1
      try clear hcz70_0
      try clear hcz70_1
      try clear hcz73_0
      try clear hcz73_1
      try clear hcz75_0
      try clear hcz75_1
      try clear hcz78_0
      try clear hcz78_1
      try clear hcz79_0
      try clear hcz79_1
      try clear hcz81_0
      try clear hcz81_1
      try clear hcz82_0
      try clear hcz82_1
      try clear hcz87_0
      try clear hcz87_1
      try clear hcz90_0
      try clear hcz90_1
      try clear hcz92_0
      try clear hcz92_1
      try clear hcz95_0
      try clear hcz95_1
      try clear hcz96_0
      try clear hcz96_1
      try clear hfz101_0
      try clear hfz101_1
      try clear hfz104_0
      try clear hfz104_1
      try clear hfz106_0
      try clear hfz106_1
      try clear hfz111_0
      try clear hfz111_1
      try clear hfz114_0
      try clear hfz114_1
      try clear hfz14_0
      try clear hfz14_1
      try clear hfz16_0
      try clear hfz16_1
      try clear hfz22_0
      try clear hfz22_1
      try clear hfz32_0
      try clear hfz32_1
      try clear hfz35_0
      try clear hfz35_1
      try clear hfz37_0
      try clear hfz37_1
      try clear hfz40_0
      try clear hfz40_1
      try clear hfz41_0
      try clear hfz41_1
      try clear hfz50_0
      try clear hfz50_1
      try clear hfz53_0
      try clear hfz53_1
      try clear hfz55_0
      try clear hfz55_1
      try clear hfz58_0
      try clear hfz58_1
      try clear hfz59_0
      try clear hfz59_1
      try clear hfz61_0
      try clear hfz61_1
      try clear hfz62_0
      try clear hfz62_1
      try clear hfz64_0
      try clear hfz64_1
      try clear hfz65_0
      try clear hfz65_1
      try clear hfz70_0
      try clear hfz70_1
      try clear hfz73_0
      try clear hfz73_1
      try clear hfz75_0
      try clear hfz75_1
      try clear hfz78_0
      try clear hfz78_1
      try clear hfz79_0
      try clear hfz79_1
      try clear hfz81_0
      try clear hfz81_1
      try clear hfz82_0
      try clear hfz82_1
      try clear hfz87_0
      try clear hfz87_1
      try clear hfz90_0
      try clear hfz90_1
      try clear hfz92_0
      try clear hfz92_1
      try clear hfz95_0
      try clear hfz95_1
      try clear hfz96_0
      try clear hfz96_1
      obtain ⟨kq, x50_6, rfl, HA, HJ6, BK101, BK102, BK103, BK106, HB⟩ := hcut
      cases kq with
      | zero => exact absurd HA.out (by simp [spillwaylaw2_FixOrder.j0])
      | succ kj6 =>
        have H := HA.out
        clear HA
        simp only [spillwaylaw2_FixOrder.j0] at H
        by_cases c116 : x50_6 = true
        · subst c116
          have H1 : (some false) = some r := by rw [if_pos rfl] at H; exact H
          clear H
          have H := H1
          clear H1
          exact absurd ((Option.some.inj H).trans HRT.out) (by decide)
        · replace c116 := Bool.eq_false_iff.mpr c116
          subst c116
          have H1 : ((fix_Add.f kj6 a0_0 a0_1 a2_0 a2_1).bind fun bt112 => ((fix_Add.f kj6 a1_0 a1_1 a2_0 a2_1).bind fun bt114 => (if bt112.1 = true then (some true) else (if bt114.1 = true then (some true) else ((fix_Cmp.f kj6 bt112.1 bt112.2 bt114.1 bt114.2).bind fun t118 => (some (t118 == t105))))))) = some r := by rw [if_neg (show ¬ (false = true) by decide)] at H; exact H
          clear H
          have H := H1
          clear H1
          replace H := Option.bind_eq_some_iff.mp H
          obtain ⟨⟨t112, t113⟩, A1170, H⟩ := H
          replace H : ((fix_Add.f kj6 a1_0 a1_1 a2_0 a2_1).bind fun bt114 => (if t112 = true then (some true) else (if bt114.1 = true then (some true) else ((fix_Cmp.f kj6 t112 t113 bt114.1 bt114.2).bind fun t118 => (some (t118 == t105)))))) = some r := H
          have A117 := Aside0.mk A1170
          clear A1170
          replace H := Option.bind_eq_some_iff.mp H
          obtain ⟨⟨t114, t115⟩, A1180, H⟩ := H
          replace H : (if t112 = true then (some true) else (if t114 = true then (some true) else ((fix_Cmp.f kj6 t112 t113 t114 t115).bind fun t118 => (some (t118 == t105))))) = some r := H
          have A118 := Aside0.mk A1180
          clear A1180
          by_cases c119 : t112 = true
          · subst c119
            have H1 : (some true) = some r := by rw [if_pos rfl] at H; exact H
            clear H
            have H := H1
            clear H1
            obtain rfl := Option.some.inj H
            try go_wp2
            have n0_ := Aside0.mk (blk_drew BK101.out)
            have n1_ := Aside0.mk (blk_drew BK102.out)
            have n2_ := Aside0.mk (blk_drew BK103.out)
            have n3_ := Aside0.mk (blk_drew BK106.out)
            have n4_ := Aside0.mk (below_drew1 HB.out)
            clear BK101
            clear BK102
            clear BK103
            clear BK106
            clear HB
            have BK101 := n0_
            have BK102 := n1_
            have BK103 := n2_
            have BK106 := n3_
            have HB := n4_
            clear n0_ n1_ n2_ n3_ n4_
            refine start_ (n := 10) (S := fun w' => True) (ds := []) #[false, false, false, false, false, false, false, false, false, false] (by kernel_rfl) rfl rfl trivial (fun hHeld => ?_); refine with_tabW spillwaylaw2_FixOrder.tab7 spillwaylaw2_FixOrder.bits7 (fun HT_ HW_ => ?_)
            generalize wc.drew = w120 at BK101 BK102 BK103 BK106 HB hHeld ⊢
            refine inv_at [0, 1, 2, 3, 4, 5, 6, 7, 8, 9] (fun a0_ b a w' => ∃ (gb116 : Nat) (gb117 : Nat) (m6_ : Value) (m7_ : Value), a = putSel a0_ b [(0, 51, .agg #[.bool a0_0, .int .i64 a0_1]), (1, 52, .agg #[.bool a2_0, .int .i64 a2_1]), (2, 53, .agg #[.bool true, .int .i64 t113]), (3, 54, .agg #[.bool a1_0, .int .i64 a1_1]), (4, 55, .agg #[.bool a2_0, .int .i64 a2_1]), (5, 56, .agg #[.bool t114, .int .i64 t115]), (6, 9, m6_), (7, 10, m7_)] ∧ (w'.heap[gb101]? = some (.cells #[.bool a0_0, .int .i64 a0_1] 25 (0, 0))) ∧ (w'.heap[gb102]? = some (.cells #[.bool a1_0, .int .i64 a1_1] 25 (0, 0))) ∧ (w'.heap[gb103]? = some (.cells #[.bool a2_0, .int .i64 a2_1] 25 (0, 0))) ∧ (w'.heap[gb106]? = some (.cells #[.bool true, .int .i64 0] 25 (0, 0))) ∧ (Below w.heap.size w w') ∧ (b 6 = true → b 7 = true → gb117 ≠ gb116) ∧ (b 6 = true → b 7 = true → gb116 ≠ gb117) ∧ (b 6 = true → b 8 = false → w'.heap[gb116]? = some (.cells #[.bool false, .int .i64 0] 25 (0, 0))) ∧ (b 6 = true → w.heap.size ≤ gb116) ∧ (b 6 = true → w.heap.size ≤ gb116) ∧ (b 6 = true → gb101 ≠ gb116) ∧ (b 6 = true → gb116 ≠ gb101) ∧ (b 6 = true → gb102 ≠ gb116) ∧ (b 6 = true → gb116 ≠ gb102) ∧ (b 6 = true → gb103 ≠ gb116) ∧ (b 6 = true → gb116 ≠ gb103) ∧ (b 6 = true → gb106 ≠ gb116) ∧ (b 6 = true → gb116 ≠ gb106) ∧ (b 7 = true → b 9 = false → w'.heap[gb117]? = some (.cells #[.bool false, .int .i64 0] 25 (0, 0))) ∧ (b 7 = true → w.heap.size ≤ gb117) ∧ (b 7 = true → w.heap.size ≤ gb117) ∧ (b 7 = true → gb101 ≠ gb117) ∧ (b 7 = true → gb117 ≠ gb101) ∧ (b 7 = true → gb102 ≠ gb117) ∧ (b 7 = true → gb117 ≠ gb102) ∧ (b 7 = true → gb103 ≠ gb117) ∧ (b 7 = true → gb117 ≠ gb103) ∧ (b 7 = true → gb106 ≠ gb117) ∧ (b 7 = true → gb117 ≠ gb106) ∧ (b 8 = true → w'.heap[gb116]? = some (.cells #[.bool true, .int .i64 t113] 25 (0, 0))) ∧ (b 9 = true → w'.heap[gb117]? = some (.cells #[.bool t114, .int .i64 t115] 25 (0, 0))) ∧ (b 6 = true → (m6_ : Value) = .pointer (some ⟨gb116, 0, none⟩)) ∧ (b 7 = true → (m7_ : Value) = .pointer (some ⟨gb117, 0, none⟩))) HT_.out HW_.out (by kernel_rfl) (by kernel_rfl) ?_ ?_ ?_
            · exact ⟨0, 0, .bool false, .bool false, by simp only [putSel, Bool.false_eq_true, if_false], BK101.out, BK102.out, BK103.out, BK106.out, HB.out, fun h_ => absurd h_ (by decide), fun h_ => absurd h_ (by decide), fun h_ => absurd h_ (by decide), fun h_ => absurd h_ (by decide), fun h_ => absurd h_ (by decide), fun h_ => absurd h_ (by decide), fun h_ => absurd h_ (by decide), fun h_ => absurd h_ (by decide), fun h_ => absurd h_ (by decide), fun h_ => absurd h_ (by decide), fun h_ => absurd h_ (by decide), fun h_ => absurd h_ (by decide), fun h_ => absurd h_ (by decide), fun h_ => absurd h_ (by decide), fun h_ => absurd h_ (by decide), fun h_ => absurd h_ (by decide), fun h_ => absurd h_ (by decide), fun h_ => absurd h_ (by decide), fun h_ => absurd h_ (by decide), fun h_ => absurd h_ (by decide), fun h_ => absurd h_ (by decide), fun h_ => absurd h_ (by decide), fun h_ => absurd h_ (by decide), fun h_ => absurd h_ (by decide), fun h_ => absurd h_ (by decide), fun h_ => absurd h_ (by decide), fun h_ => absurd h_ (by decide), fun h_ => absurd h_ (by decide)⟩
            · skip
              clear BK101 BK102 BK103 BK106 HB
              refine steps_cons ?_ ?_
              · rintro b a w' ⟨gb116, gb117, m6_, m7_, ha, Q_BK101, Q_BK102, Q_BK103, Q_BK106, Q_HB, Q_NB117_116, Q_NB116_117, Q_BK116, Q_GW116, Q_GE116, Q_NB101_116, Q_NB116_101, Q_NB102_116, Q_NB116_102, Q_NB103_116, Q_NB116_103, Q_NB106_116, Q_NB116_106, Q_BK117, Q_GW117, Q_GE117, Q_NB101_117, Q_NB117_101, Q_NB102_117, Q_NB117_102, Q_NB103_117, Q_NB117_103, Q_NB106_117, Q_NB117_106, Q_BK116_e8, Q_BK117_e9, Q_X6_, Q_X7_⟩ hb_ hon hoff
                refine ⟨_, rfl, fun K hK => ?_⟩
                have e3 : a.tmps[3]? = some (.pointer (some ⟨gb101, 0, none⟩)) := by rw [ha]; exact (putSel_off rfl).trans rfl
                replace ha := Aside0.mk ha
                have BK101 := Aside0.mk Q_BK101
                have BK102 := Aside0.mk Q_BK102
                have BK103 := Aside0.mk Q_BK103
                have BK106 := Aside0.mk Q_BK106
                have HB := Aside0.mk Q_HB
                have hc0_ : w'.cell? ⟨gb101, 0, none⟩ = some (.bool a0_0) := (blk_cell BK101.out 0).trans rfl
                have hc1_ : w'.cell? ⟨gb101, 1, none⟩ = some (.int .i64 a0_1) := (blk_cell BK101.out 1).trans rfl
                refine value_ (w1 := w') (v := .agg #[.bool a0_0, .int .i64 a0_1]) (by rfl) rfl ?_ ?_
                · go_simp
                  (try simp only [i64_w])
                  try rfl
                refine hK.out _ _ ⟨gb116, gb117, m6_, m7_, (by rw [ha.out]; exact putSel_upk 0 hb_ rfl rfl rfl), Q_BK101, Q_BK102, Q_BK103, Q_BK106, Q_HB, Q_NB117_116, Q_NB116_117, Q_BK116, Q_GW116, Q_GE116, Q_NB101_116, Q_NB116_101, Q_NB102_116, Q_NB116_102, Q_NB103_116, Q_NB116_103, Q_NB106_116, Q_NB116_106, Q_BK117, Q_GW117, Q_GE117, Q_NB101_117, Q_NB117_101, Q_NB102_117, Q_NB117_102, Q_NB103_117, Q_NB117_103, Q_NB106_117, Q_NB117_106, fun h0_ => absurd ((hoff 8 (by kernel_rfl)).symm.trans h0_) (by decide), fun h0_ => absurd ((hoff 9 (by kernel_rfl)).symm.trans h0_) (by decide), Q_X6_, Q_X7_⟩
              refine steps_cons ?_ ?_
              · rintro b a w' ⟨gb116, gb117, m6_, m7_, ha, Q_BK101, Q_BK102, Q_BK103, Q_BK106, Q_HB, Q_NB117_116, Q_NB116_117, Q_BK116, Q_GW116, Q_GE116, Q_NB101_116, Q_NB116_101, Q_NB102_116, Q_NB116_102, Q_NB103_116, Q_NB116_103, Q_NB106_116, Q_NB116_106, Q_BK117, Q_GW117, Q_GE117, Q_NB101_117, Q_NB117_101, Q_NB102_117, Q_NB117_102, Q_NB103_117, Q_NB117_103, Q_NB106_117, Q_NB117_106, Q_BK116_e8, Q_BK117_e9, Q_X6_, Q_X7_⟩ hb_ hon hoff
                refine ⟨_, rfl, fun K hK => ?_⟩
                have e5 : a.tmps[5]? = some (.pointer (some ⟨gb103, 0, none⟩)) := by rw [ha]; exact (putSel_off rfl).trans rfl
                replace ha := Aside0.mk ha
                have BK101 := Aside0.mk Q_BK101
                have BK102 := Aside0.mk Q_BK102
                have BK103 := Aside0.mk Q_BK103
                have BK106 := Aside0.mk Q_BK106
                have HB := Aside0.mk Q_HB
                have hc0_ : w'.cell? ⟨gb103, 0, none⟩ = some (.bool a2_0) := (blk_cell BK103.out 0).trans rfl
                have hc1_ : w'.cell? ⟨gb103, 1, none⟩ = some (.int .i64 a2_1) := (blk_cell BK103.out 1).trans rfl
                refine value_ (w1 := w') (v := .agg #[.bool a2_0, .int .i64 a2_1]) (by rfl) rfl ?_ ?_
                · go_simp
                  (try simp only [i64_w])
                  try rfl
                refine hK.out _ _ ⟨gb116, gb117, m6_, m7_, (by rw [ha.out]; exact putSel_upk 1 hb_ rfl rfl rfl), Q_BK101, Q_BK102, Q_BK103, Q_BK106, Q_HB, Q_NB117_116, Q_NB116_117, Q_BK116, Q_GW116, Q_GE116, Q_NB101_116, Q_NB116_101, Q_NB102_116, Q_NB116_102, Q_NB103_116, Q_NB116_103, Q_NB106_116, Q_NB116_106, Q_BK117, Q_GW117, Q_GE117, Q_NB101_117, Q_NB117_101, Q_NB102_117, Q_NB117_102, Q_NB103_117, Q_NB117_103, Q_NB106_117, Q_NB117_106, fun h0_ => absurd ((hoff 8 (by kernel_rfl)).symm.trans h0_) (by decide), fun h0_ => absurd ((hoff 9 (by kernel_rfl)).symm.trans h0_) (by decide), Q_X6_, Q_X7_⟩
              refine steps_cons ?_ ?_
              · rintro b a w' ⟨gb116, gb117, m6_, m7_, ha, Q_BK101, Q_BK102, Q_BK103, Q_BK106, Q_HB, Q_NB117_116, Q_NB116_117, Q_BK116, Q_GW116, Q_GE116, Q_NB101_116, Q_NB116_101, Q_NB102_116, Q_NB116_102, Q_NB103_116, Q_NB116_103, Q_NB106_116, Q_NB116_106, Q_BK117, Q_GW117, Q_GE117, Q_NB101_117, Q_NB117_101, Q_NB102_117, Q_NB117_102, Q_NB103_117, Q_NB117_103, Q_NB106_117, Q_NB117_106, Q_BK116_e8, Q_BK117_e9, Q_X6_, Q_X7_⟩ hb_ hon hoff
                refine ⟨_, rfl, fun K hK => ?_⟩
                have e51 : a.tmps[51]? = some (.agg #[.bool a0_0, .int .i64 a0_1]) := by rw [ha]; exact putSel_on (e := (0, 51, .agg #[.bool a0_0, .int .i64 a0_1])) 0 rfl rfl (hon 0 (by kernel_rfl)) rfl
                have e52 : a.tmps[52]? = some (.agg #[.bool a2_0, .int .i64 a2_1]) := by rw [ha]; exact putSel_on (e := (1, 52, .agg #[.bool a2_0, .int .i64 a2_1])) 1 rfl rfl (hon 1 (by kernel_rfl)) rfl
                replace ha := Aside0.mk ha
                have BK101 := Aside0.mk Q_BK101
                have BK102 := Aside0.mk Q_BK102
                have BK103 := Aside0.mk Q_BK103
                have BK106 := Aside0.mk Q_BK106
                have HB := Aside0.mk Q_HB
                refine goes_ Tryd.func18 (by kernel_rfl) rfl #[.agg #[.bool a0_0, .int .i64 a0_1], .agg #[.bool a2_0, .int .i64 a2_1]] (by rfl) rfl rfl (by first | (simp only [List.map_toArray, List.map_cons, List.map_nil, Act.eval, Array.getD_eq_getD_getElem?, Option.getD_some, e51, e52]; done) | (simp only [List.map_toArray, List.map_cons, List.map_nil, Act.eval, Array.getD_eq_getD_getElem?, Option.getD_some, e51, e52]; rfl)) ?_
                with_reducible refine (fix_Add.calls kj6 a0_0 a0_1 a2_0 a2_1 true t113 _ A117.out).mono ?_
                rintro e w121 ⟨rfl, hb⟩
                refine ⟨_, rfl, ?_⟩
                have n0_ := Aside0.mk (blk_below (g := gb101) (o := .cells #[.bool a0_0, .int .i64 a0_1] 25 (0, 0)) (by (with_reducible repeat (first | refine blk_drewN ?_ _ | refine blk_drew ?_ | refine blk_alloc ?_ _)); exact BK101.out) hb)
                have n1_ := Aside0.mk (blk_below (g := gb102) (o := .cells #[.bool a1_0, .int .i64 a1_1] 25 (0, 0)) (by (with_reducible repeat (first | refine blk_drewN ?_ _ | refine blk_drew ?_ | refine blk_alloc ?_ _)); exact BK102.out) hb)
                have n2_ := Aside0.mk (blk_below (g := gb103) (o := .cells #[.bool a2_0, .int .i64 a2_1] 25 (0, 0)) (by (with_reducible repeat (first | refine blk_drewN ?_ _ | refine blk_drew ?_ | refine blk_alloc ?_ _)); exact BK103.out) hb)
                have n3_ := Aside0.mk (blk_below (g := gb106) (o := .cells #[.bool true, .int .i64 0] 25 (0, 0)) (by (with_reducible repeat (first | refine blk_drewN ?_ _ | refine blk_drew ?_ | refine blk_alloc ?_ _)); exact BK106.out) hb)
                have n4_ := Aside0.mk (below_step (by repeat (first | (with_reducible first | exact HB.out | apply below_alloc | apply pw_below_drewN | apply below_drew1 | refine below_set ?_ GE101.out | refine below_set ?_ GE102.out | refine below_set ?_ GE103.out | refine below_set ?_ GE106.out) | exact HB.out)) hb)
                have z_BK116 := fun (h0_ : b 6 = true) (h1_ : b 8 = false) => (show w121.heap[gb116]? = some (.cells #[.bool false, .int .i64 0] 25 (0, 0)) from by first | exact (blk_below (g := gb116) (o := .cells #[.bool false, .int .i64 0] 25 (0, 0)) (by (with_reducible repeat (first | refine blk_drewN ?_ _ | refine blk_drew ?_ | refine blk_alloc ?_ _)); exact (Q_BK116 h0_ h1_)) hb))
                have z_BK117 := fun (h0_ : b 7 = true) (h1_ : b 9 = false) => (show w121.heap[gb117]? = some (.cells #[.bool false, .int .i64 0] 25 (0, 0)) from by first | exact (blk_below (g := gb117) (o := .cells #[.bool false, .int .i64 0] 25 (0, 0)) (by (with_reducible repeat (first | refine blk_drewN ?_ _ | refine blk_drew ?_ | refine blk_alloc ?_ _)); exact (Q_BK117 h0_ h1_)) hb))
                clear BK101
                clear BK102
                clear BK103
                clear BK106
                clear HB
                have BK101 := n0_
                have BK102 := n1_
                have BK103 := n2_
                have BK106 := n3_
                have HB := n4_
                clear n0_ n1_ n2_ n3_ n4_
                (try clear hb)
                (try clear hb2)
                (try clear hk)
                (try clear hi)
                refine hK.out _ _ ⟨gb116, gb117, m6_, m7_, (by rw [ha.out]; exact putSel_upk 2 hb_ rfl rfl rfl), (by (with_reducible repeat (first | refine blk_drewN ?_ _ | refine blk_drew ?_ | refine blk_alloc ?_ _)); exact BK101.out), (by (with_reducible repeat (first | refine blk_drewN ?_ _ | refine blk_drew ?_ | refine blk_alloc ?_ _)); exact BK102.out), (by (with_reducible repeat (first | refine blk_drewN ?_ _ | refine blk_drew ?_ | refine blk_alloc ?_ _)); exact BK103.out), (by (with_reducible repeat (first | refine blk_drewN ?_ _ | refine blk_drew ?_ | refine blk_alloc ?_ _)); exact BK106.out), (by repeat (first | (with_reducible first | exact HB.out | apply below_alloc | apply pw_below_drewN | apply below_drew1 | refine below_set ?_ GE101.out | refine below_set ?_ GE102.out | refine below_set ?_ GE103.out | refine below_set ?_ GE106.out) | exact HB.out)), Q_NB117_116, Q_NB116_117, z_BK116, Q_GW116, Q_GE116, Q_NB101_116, Q_NB116_101, Q_NB102_116, Q_NB116_102, Q_NB103_116, Q_NB116_103, Q_NB106_116, Q_NB116_106, z_BK117, Q_GW117, Q_GE117, Q_NB101_117, Q_NB117_101, Q_NB102_117, Q_NB117_102, Q_NB103_117, Q_NB117_103, Q_NB106_117, Q_NB117_106, fun h0_ => absurd ((hoff 8 (by kernel_rfl)).symm.trans h0_) (by decide), fun h0_ => absurd ((hoff 9 (by kernel_rfl)).symm.trans h0_) (by decide), Q_X6_, Q_X7_⟩
              refine steps_cons ?_ ?_
              · rintro b a w' ⟨gb116, gb117, m6_, m7_, ha, Q_BK101, Q_BK102, Q_BK103, Q_BK106, Q_HB, Q_NB117_116, Q_NB116_117, Q_BK116, Q_GW116, Q_GE116, Q_NB101_116, Q_NB116_101, Q_NB102_116, Q_NB116_102, Q_NB103_116, Q_NB116_103, Q_NB106_116, Q_NB116_106, Q_BK117, Q_GW117, Q_GE117, Q_NB101_117, Q_NB117_101, Q_NB102_117, Q_NB117_102, Q_NB103_117, Q_NB117_103, Q_NB106_117, Q_NB117_106, Q_BK116_e8, Q_BK117_e9, Q_X6_, Q_X7_⟩ hb_ hon hoff
                refine ⟨_, rfl, fun K hK => ?_⟩
                have e4 : a.tmps[4]? = some (.pointer (some ⟨gb102, 0, none⟩)) := by rw [ha]; exact (putSel_off rfl).trans rfl
                replace ha := Aside0.mk ha
                have BK101 := Aside0.mk Q_BK101
                have BK102 := Aside0.mk Q_BK102
                have BK103 := Aside0.mk Q_BK103
                have BK106 := Aside0.mk Q_BK106
                have HB := Aside0.mk Q_HB
                have hc0_ : w'.cell? ⟨gb102, 0, none⟩ = some (.bool a1_0) := (blk_cell BK102.out 0).trans rfl
                have hc1_ : w'.cell? ⟨gb102, 1, none⟩ = some (.int .i64 a1_1) := (blk_cell BK102.out 1).trans rfl
                refine value_ (w1 := w') (v := .agg #[.bool a1_0, .int .i64 a1_1]) (by rfl) rfl ?_ ?_
                · go_simp
                  (try simp only [i64_w])
                  try rfl
                refine hK.out _ _ ⟨gb116, gb117, m6_, m7_, (by rw [ha.out]; exact putSel_upk 3 hb_ rfl rfl rfl), Q_BK101, Q_BK102, Q_BK103, Q_BK106, Q_HB, Q_NB117_116, Q_NB116_117, Q_BK116, Q_GW116, Q_GE116, Q_NB101_116, Q_NB116_101, Q_NB102_116, Q_NB116_102, Q_NB103_116, Q_NB116_103, Q_NB106_116, Q_NB116_106, Q_BK117, Q_GW117, Q_GE117, Q_NB101_117, Q_NB117_101, Q_NB102_117, Q_NB117_102, Q_NB103_117, Q_NB117_103, Q_NB106_117, Q_NB117_106, fun h0_ => absurd ((hoff 8 (by kernel_rfl)).symm.trans h0_) (by decide), fun h0_ => absurd ((hoff 9 (by kernel_rfl)).symm.trans h0_) (by decide), Q_X6_, Q_X7_⟩
              refine steps_cons ?_ ?_
              · rintro b a w' ⟨gb116, gb117, m6_, m7_, ha, Q_BK101, Q_BK102, Q_BK103, Q_BK106, Q_HB, Q_NB117_116, Q_NB116_117, Q_BK116, Q_GW116, Q_GE116, Q_NB101_116, Q_NB116_101, Q_NB102_116, Q_NB116_102, Q_NB103_116, Q_NB116_103, Q_NB106_116, Q_NB116_106, Q_BK117, Q_GW117, Q_GE117, Q_NB101_117, Q_NB117_101, Q_NB102_117, Q_NB117_102, Q_NB103_117, Q_NB117_103, Q_NB106_117, Q_NB117_106, Q_BK116_e8, Q_BK117_e9, Q_X6_, Q_X7_⟩ hb_ hon hoff
                refine ⟨_, rfl, fun K hK => ?_⟩
                have e5 : a.tmps[5]? = some (.pointer (some ⟨gb103, 0, none⟩)) := by rw [ha]; exact (putSel_off rfl).trans rfl
                replace ha := Aside0.mk ha
                have BK101 := Aside0.mk Q_BK101
                have BK102 := Aside0.mk Q_BK102
                have BK103 := Aside0.mk Q_BK103
                have BK106 := Aside0.mk Q_BK106
                have HB := Aside0.mk Q_HB
                have hc0_ : w'.cell? ⟨gb103, 0, none⟩ = some (.bool a2_0) := (blk_cell BK103.out 0).trans rfl
                have hc1_ : w'.cell? ⟨gb103, 1, none⟩ = some (.int .i64 a2_1) := (blk_cell BK103.out 1).trans rfl
                refine value_ (w1 := w') (v := .agg #[.bool a2_0, .int .i64 a2_1]) (by rfl) rfl ?_ ?_
                · go_simp
                  (try simp only [i64_w])
                  try rfl
                refine hK.out _ _ ⟨gb116, gb117, m6_, m7_, (by rw [ha.out]; exact putSel_upk 4 hb_ rfl rfl rfl), Q_BK101, Q_BK102, Q_BK103, Q_BK106, Q_HB, Q_NB117_116, Q_NB116_117, Q_BK116, Q_GW116, Q_GE116, Q_NB101_116, Q_NB116_101, Q_NB102_116, Q_NB116_102, Q_NB103_116, Q_NB116_103, Q_NB106_116, Q_NB116_106, Q_BK117, Q_GW117, Q_GE117, Q_NB101_117, Q_NB117_101, Q_NB102_117, Q_NB117_102, Q_NB103_117, Q_NB117_103, Q_NB106_117, Q_NB117_106, fun h0_ => absurd ((hoff 8 (by kernel_rfl)).symm.trans h0_) (by decide), fun h0_ => absurd ((hoff 9 (by kernel_rfl)).symm.trans h0_) (by decide), Q_X6_, Q_X7_⟩
              refine steps_cons ?_ ?_
              · rintro b a w' ⟨gb116, gb117, m6_, m7_, ha, Q_BK101, Q_BK102, Q_BK103, Q_BK106, Q_HB, Q_NB117_116, Q_NB116_117, Q_BK116, Q_GW116, Q_GE116, Q_NB101_116, Q_NB116_101, Q_NB102_116, Q_NB116_102, Q_NB103_116, Q_NB116_103, Q_NB106_116, Q_NB116_106, Q_BK117, Q_GW117, Q_GE117, Q_NB101_117, Q_NB117_101, Q_NB102_117, Q_NB117_102, Q_NB103_117, Q_NB117_103, Q_NB106_117, Q_NB117_106, Q_BK116_e8, Q_BK117_e9, Q_X6_, Q_X7_⟩ hb_ hon hoff
                refine ⟨_, rfl, fun K hK => ?_⟩
                have e54 : a.tmps[54]? = some (.agg #[.bool a1_0, .int .i64 a1_1]) := by rw [ha]; exact putSel_on (e := (3, 54, .agg #[.bool a1_0, .int .i64 a1_1])) 3 rfl rfl (hon 3 (by kernel_rfl)) rfl
                have e55 : a.tmps[55]? = some (.agg #[.bool a2_0, .int .i64 a2_1]) := by rw [ha]; exact putSel_on (e := (4, 55, .agg #[.bool a2_0, .int .i64 a2_1])) 4 rfl rfl (hon 4 (by kernel_rfl)) rfl
                replace ha := Aside0.mk ha
                have BK101 := Aside0.mk Q_BK101
                have BK102 := Aside0.mk Q_BK102
                have BK103 := Aside0.mk Q_BK103
                have BK106 := Aside0.mk Q_BK106
                have HB := Aside0.mk Q_HB
                refine goes_ Tryd.func18 (by kernel_rfl) rfl #[.agg #[.bool a1_0, .int .i64 a1_1], .agg #[.bool a2_0, .int .i64 a2_1]] (by rfl) rfl rfl (by first | (simp only [List.map_toArray, List.map_cons, List.map_nil, Act.eval, Array.getD_eq_getD_getElem?, Option.getD_some, e54, e55]; done) | (simp only [List.map_toArray, List.map_cons, List.map_nil, Act.eval, Array.getD_eq_getD_getElem?, Option.getD_some, e54, e55]; rfl)) ?_
                with_reducible refine (fix_Add.calls kj6 a1_0 a1_1 a2_0 a2_1 t114 t115 _ A118.out).mono ?_
                rintro e w123 ⟨rfl, hb⟩
                refine ⟨_, rfl, ?_⟩
                have n0_ := Aside0.mk (blk_below (g := gb101) (o := .cells #[.bool a0_0, .int .i64 a0_1] 25 (0, 0)) (by (with_reducible repeat (first | refine blk_drewN ?_ _ | refine blk_drew ?_ | refine blk_alloc ?_ _)); exact BK101.out) hb)
                have n1_ := Aside0.mk (blk_below (g := gb102) (o := .cells #[.bool a1_0, .int .i64 a1_1] 25 (0, 0)) (by (with_reducible repeat (first | refine blk_drewN ?_ _ | refine blk_drew ?_ | refine blk_alloc ?_ _)); exact BK102.out) hb)
                have n2_ := Aside0.mk (blk_below (g := gb103) (o := .cells #[.bool a2_0, .int .i64 a2_1] 25 (0, 0)) (by (with_reducible repeat (first | refine blk_drewN ?_ _ | refine blk_drew ?_ | refine blk_alloc ?_ _)); exact BK103.out) hb)
                have n3_ := Aside0.mk (blk_below (g := gb106) (o := .cells #[.bool true, .int .i64 0] 25 (0, 0)) (by (with_reducible repeat (first | refine blk_drewN ?_ _ | refine blk_drew ?_ | refine blk_alloc ?_ _)); exact BK106.out) hb)
                have n4_ := Aside0.mk (below_step (by repeat (first | (with_reducible first | exact HB.out | apply below_alloc | apply pw_below_drewN | apply below_drew1 | refine below_set ?_ GE101.out | refine below_set ?_ GE102.out | refine below_set ?_ GE103.out | refine below_set ?_ GE106.out) | exact HB.out)) hb)
                have z_BK116 := fun (h0_ : b 6 = true) (h1_ : b 8 = false) => (show w123.heap[gb116]? = some (.cells #[.bool false, .int .i64 0] 25 (0, 0)) from by first | exact (blk_below (g := gb116) (o := .cells #[.bool false, .int .i64 0] 25 (0, 0)) (by (with_reducible repeat (first | refine blk_drewN ?_ _ | refine blk_drew ?_ | refine blk_alloc ?_ _)); exact (Q_BK116 h0_ h1_)) hb))
                have z_BK117 := fun (h0_ : b 7 = true) (h1_ : b 9 = false) => (show w123.heap[gb117]? = some (.cells #[.bool false, .int .i64 0] 25 (0, 0)) from by first | exact (blk_below (g := gb117) (o := .cells #[.bool false, .int .i64 0] 25 (0, 0)) (by (with_reducible repeat (first | refine blk_drewN ?_ _ | refine blk_drew ?_ | refine blk_alloc ?_ _)); exact (Q_BK117 h0_ h1_)) hb))
                clear BK101
                clear BK102
                clear BK103
                clear BK106
                clear HB
                have BK101 := n0_
                have BK102 := n1_
                have BK103 := n2_
                have BK106 := n3_
                have HB := n4_
                clear n0_ n1_ n2_ n3_ n4_
                (try clear hb)
                (try clear hb2)
                (try clear hk)
                (try clear hi)
                refine hK.out _ _ ⟨gb116, gb117, m6_, m7_, (by rw [ha.out]; exact putSel_upk 5 hb_ rfl rfl rfl), (by (with_reducible repeat (first | refine blk_drewN ?_ _ | refine blk_drew ?_ | refine blk_alloc ?_ _)); exact BK101.out), (by (with_reducible repeat (first | refine blk_drewN ?_ _ | refine blk_drew ?_ | refine blk_alloc ?_ _)); exact BK102.out), (by (with_reducible repeat (first | refine blk_drewN ?_ _ | refine blk_drew ?_ | refine blk_alloc ?_ _)); exact BK103.out), (by (with_reducible repeat (first | refine blk_drewN ?_ _ | refine blk_drew ?_ | refine blk_alloc ?_ _)); exact BK106.out), (by repeat (first | (with_reducible first | exact HB.out | apply below_alloc | apply pw_below_drewN | apply below_drew1 | refine below_set ?_ GE101.out | refine below_set ?_ GE102.out | refine below_set ?_ GE103.out | refine below_set ?_ GE106.out) | exact HB.out)), Q_NB117_116, Q_NB116_117, z_BK116, Q_GW116, Q_GE116, Q_NB101_116, Q_NB116_101, Q_NB102_116, Q_NB116_102, Q_NB103_116, Q_NB116_103, Q_NB106_116, Q_NB116_106, z_BK117, Q_GW117, Q_GE117, Q_NB101_117, Q_NB117_101, Q_NB102_117, Q_NB117_102, Q_NB103_117, Q_NB117_103, Q_NB106_117, Q_NB117_106, fun h0_ => absurd ((hoff 8 (by kernel_rfl)).symm.trans h0_) (by decide), fun h0_ => absurd ((hoff 9 (by kernel_rfl)).symm.trans h0_) (by decide), Q_X6_, Q_X7_⟩
              refine steps_cons ?_ ?_
              · rintro b a w' ⟨gb116, gb117, m6_, m7_, ha, Q_BK101, Q_BK102, Q_BK103, Q_BK106, Q_HB, Q_NB117_116, Q_NB116_117, Q_BK116, Q_GW116, Q_GE116, Q_NB101_116, Q_NB116_101, Q_NB102_116, Q_NB116_102, Q_NB103_116, Q_NB116_103, Q_NB106_116, Q_NB116_106, Q_BK117, Q_GW117, Q_GE117, Q_NB101_117, Q_NB117_101, Q_NB102_117, Q_NB117_102, Q_NB103_117, Q_NB117_103, Q_NB106_117, Q_NB117_106, Q_BK116_e8, Q_BK117_e9, Q_X6_, Q_X7_⟩ hb_ hon hoff
                refine ⟨_, rfl, fun K hK => ?_⟩
                replace ha := Aside0.mk ha
                have BK101 := Aside0.mk Q_BK101
                have BK102 := Aside0.mk Q_BK102
                have BK103 := Aside0.mk Q_BK103
                have BK106 := Aside0.mk Q_BK106
                have HB := Aside0.mk Q_HB
                refine box_step ?hg (N := 9) ?hd (cs := #[.bool false, .int .i64 0]) (t := 25) ?hr ?_; (case hd => rfl); (case hg => rfl); (case hr => first | (go_simp; done) | (go_simp; rfl))
                intro gb116 hg w121 hbox hb
                have n0_ := Aside0.mk (blk_below (g := gb101) (o := .cells #[.bool a0_0, .int .i64 a0_1] 25 (0, 0)) (by (with_reducible repeat (first | refine blk_drewN ?_ _ | refine blk_drew ?_ | refine blk_alloc ?_ _)); exact BK101.out) hb)
                have n1_ := Aside0.mk (blk_below (g := gb102) (o := .cells #[.bool a1_0, .int .i64 a1_1] 25 (0, 0)) (by (with_reducible repeat (first | refine blk_drewN ?_ _ | refine blk_drew ?_ | refine blk_alloc ?_ _)); exact BK102.out) hb)
                have n2_ := Aside0.mk (blk_below (g := gb103) (o := .cells #[.bool a2_0, .int .i64 a2_1] 25 (0, 0)) (by (with_reducible repeat (first | refine blk_drewN ?_ _ | refine blk_drew ?_ | refine blk_alloc ?_ _)); exact BK103.out) hb)
                have n3_ := Aside0.mk (blk_below (g := gb106) (o := .cells #[.bool true, .int .i64 0] 25 (0, 0)) (by (with_reducible repeat (first | refine blk_drewN ?_ _ | refine blk_drew ?_ | refine blk_alloc ?_ _)); exact BK106.out) hb)
                have n4_ := Aside0.mk (below_step (by repeat (first | (with_reducible first | exact HB.out | apply below_alloc | apply pw_below_drewN | apply below_drew1 | refine below_set ?_ GE101.out | refine below_set ?_ GE102.out | refine below_set ?_ GE103.out | refine below_set ?_ GE106.out) | exact HB.out)) hb)
                have n5_ := Aside0.mk (hbox)
                have n6_ := Aside0.mk ((by rw [hg]; exact (below_size (by repeat (first | (with_reducible first | exact HB.out | apply below_alloc | apply pw_below_drewN | apply below_drew1 | refine below_set ?_ GE101.out | refine below_set ?_ GE102.out | refine below_set ?_ GE103.out | refine below_set ?_ GE106.out) | exact HB.out))) : w.heap.size ≤ gb116))
                have n7_ := Aside0.mk ((by rw [hg]; exact (below_size (by repeat (first | (with_reducible first | exact HB.out | apply below_alloc | apply pw_below_drewN | apply below_drew1 | refine below_set ?_ GE101.out | refine below_set ?_ GE102.out | refine below_set ?_ GE103.out | refine below_set ?_ GE106.out) | exact HB.out))) : w.heap.size ≤ gb116))
                have n8_ := Aside0.mk ((by rw [hg]; exact Nat.ne_of_lt (blk_lt (g := gb101) (o := .cells #[.bool a0_0, .int .i64 a0_1] 25 (0, 0)) (by (with_reducible repeat (first | refine blk_drewN ?_ _ | refine blk_drew ?_ | refine blk_alloc ?_ _)); exact BK101.out)) : gb101 ≠ gb116))
                have n9_ := Aside0.mk ((by rw [hg]; exact Nat.ne_of_gt (blk_lt (g := gb101) (o := .cells #[.bool a0_0, .int .i64 a0_1] 25 (0, 0)) (by (with_reducible repeat (first | refine blk_drewN ?_ _ | refine blk_drew ?_ | refine blk_alloc ?_ _)); exact BK101.out)) : gb116 ≠ gb101))
                have n10_ := Aside0.mk ((by rw [hg]; exact Nat.ne_of_lt (blk_lt (g := gb102) (o := .cells #[.bool a1_0, .int .i64 a1_1] 25 (0, 0)) (by (with_reducible repeat (first | refine blk_drewN ?_ _ | refine blk_drew ?_ | refine blk_alloc ?_ _)); exact BK102.out)) : gb102 ≠ gb116))
                have n11_ := Aside0.mk ((by rw [hg]; exact Nat.ne_of_gt (blk_lt (g := gb102) (o := .cells #[.bool a1_0, .int .i64 a1_1] 25 (0, 0)) (by (with_reducible repeat (first | refine blk_drewN ?_ _ | refine blk_drew ?_ | refine blk_alloc ?_ _)); exact BK102.out)) : gb116 ≠ gb102))
                have n12_ := Aside0.mk ((by rw [hg]; exact Nat.ne_of_lt (blk_lt (g := gb103) (o := .cells #[.bool a2_0, .int .i64 a2_1] 25 (0, 0)) (by (with_reducible repeat (first | refine blk_drewN ?_ _ | refine blk_drew ?_ | refine blk_alloc ?_ _)); exact BK103.out)) : gb103 ≠ gb116))
                have n13_ := Aside0.mk ((by rw [hg]; exact Nat.ne_of_gt (blk_lt (g := gb103) (o := .cells #[.bool a2_0, .int .i64 a2_1] 25 (0, 0)) (by (with_reducible repeat (first | refine blk_drewN ?_ _ | refine blk_drew ?_ | refine blk_alloc ?_ _)); exact BK103.out)) : gb116 ≠ gb103))
                have n14_ := Aside0.mk ((by rw [hg]; exact Nat.ne_of_lt (blk_lt (g := gb106) (o := .cells #[.bool true, .int .i64 0] 25 (0, 0)) (by (with_reducible repeat (first | refine blk_drewN ?_ _ | refine blk_drew ?_ | refine blk_alloc ?_ _)); exact BK106.out)) : gb106 ≠ gb116))
                have n15_ := Aside0.mk ((by rw [hg]; exact Nat.ne_of_gt (blk_lt (g := gb106) (o := .cells #[.bool true, .int .i64 0] 25 (0, 0)) (by (with_reducible repeat (first | refine blk_drewN ?_ _ | refine blk_drew ?_ | refine blk_alloc ?_ _)); exact BK106.out)) : gb116 ≠ gb106))
                have z_NB117_116 := fun (h0_ : up b 6 6 = true) (h1_ : up b 6 7 = true) => (show gb117 ≠ gb116 from ((by rw [hg]; cases h9_ : b 9 with | false => exact Nat.ne_of_lt (blk_lt (Q_BK117 h1_ h9_)) | true => exact Nat.ne_of_lt (blk_lt (Q_BK117_e9 h9_)) : gb117 ≠ gb116)))
                have z_NB116_117 := fun (h0_ : up b 6 6 = true) (h1_ : up b 6 7 = true) => (show gb116 ≠ gb117 from ((by rw [hg]; cases h9_ : b 9 with | false => exact Nat.ne_of_gt (blk_lt (Q_BK117 h1_ h9_)) | true => exact Nat.ne_of_gt (blk_lt (Q_BK117_e9 h9_)) : gb116 ≠ gb117)))
                have z_BK117 := fun (h0_ : b 7 = true) (h1_ : b 9 = false) => (show w121.heap[gb117]? = some (.cells #[.bool false, .int .i64 0] 25 (0, 0)) from by first | exact (blk_below (g := gb117) (o := .cells #[.bool false, .int .i64 0] 25 (0, 0)) (by (with_reducible repeat (first | refine blk_drewN ?_ _ | refine blk_drew ?_ | refine blk_alloc ?_ _)); exact (Q_BK117 h0_ h1_)) hb))
                clear BK101
                clear BK102
                clear BK103
                clear BK106
                clear HB
                have BK101 := n0_
                have BK102 := n1_
                have BK103 := n2_
                have BK106 := n3_
                have HB := n4_
                have BK116 := n5_
                have GW116 := n6_
                have GE116 := n7_
                have NB101_116 := n8_
                have NB116_101 := n9_
                have NB102_116 := n10_
                have NB116_102 := n11_
                have NB103_116 := n12_
                have NB116_103 := n13_
                have NB106_116 := n14_
                have NB116_106 := n15_
                clear n0_ n1_ n2_ n3_ n4_ n5_ n6_ n7_ n8_ n9_ n10_ n11_ n12_ n13_ n14_ n15_
                clear hb hbox hg
                refine hK.out _ _ ⟨gb116, gb117, (.pointer (some ⟨gb116, 0, none⟩)), m7_, (by rw [ha.out]; exact putSel_upk 6 hb_ rfl rfl rfl), (by (with_reducible repeat (first | refine blk_drewN ?_ _ | refine blk_drew ?_ | refine blk_alloc ?_ _)); exact BK101.out), (by (with_reducible repeat (first | refine blk_drewN ?_ _ | refine blk_drew ?_ | refine blk_alloc ?_ _)); exact BK102.out), (by (with_reducible repeat (first | refine blk_drewN ?_ _ | refine blk_drew ?_ | refine blk_alloc ?_ _)); exact BK103.out), (by (with_reducible repeat (first | refine blk_drewN ?_ _ | refine blk_drew ?_ | refine blk_alloc ?_ _)); exact BK106.out), (by repeat (first | (with_reducible first | exact HB.out | apply below_alloc | apply pw_below_drewN | apply below_drew1 | refine below_set ?_ GE101.out | refine below_set ?_ GE102.out | refine below_set ?_ GE103.out | refine below_set ?_ GE106.out | refine below_set ?_ GE116.out) | exact HB.out)), @z_NB117_116, @z_NB116_117, fun _ _ => (by (with_reducible repeat (first | refine blk_drewN ?_ _ | refine blk_drew ?_ | refine blk_alloc ?_ _)); exact BK116.out), fun _ => GW116.out, fun _ => GE116.out, fun _ => NB101_116.out, fun _ => NB116_101.out, fun _ => NB102_116.out, fun _ => NB116_102.out, fun _ => NB103_116.out, fun _ => NB116_103.out, fun _ => NB106_116.out, fun _ => NB116_106.out, z_BK117, Q_GW117, Q_GE117, Q_NB101_117, Q_NB117_101, Q_NB102_117, Q_NB117_102, Q_NB103_117, Q_NB117_103, Q_NB106_117, Q_NB117_106, fun h0_ => absurd ((hoff 8 (by kernel_rfl)).symm.trans h0_) (by decide), fun h0_ => absurd ((hoff 9 (by kernel_rfl)).symm.trans h0_) (by decide), fun _ => rfl, Q_X7_⟩
              refine steps_cons ?_ ?_
              · rintro b a w' ⟨gb116, gb117, m6_, m7_, ha, Q_BK101, Q_BK102, Q_BK103, Q_BK106, Q_HB, Q_NB117_116, Q_NB116_117, Q_BK116, Q_GW116, Q_GE116, Q_NB101_116, Q_NB116_101, Q_NB102_116, Q_NB116_102, Q_NB103_116, Q_NB116_103, Q_NB106_116, Q_NB116_106, Q_BK117, Q_GW117, Q_GE117, Q_NB101_117, Q_NB117_101, Q_NB102_117, Q_NB117_102, Q_NB103_117, Q_NB117_103, Q_NB106_117, Q_NB117_106, Q_BK116_e8, Q_BK117_e9, Q_X6_, Q_X7_⟩ hb_ hon hoff
                refine ⟨_, rfl, fun K hK => ?_⟩
                replace ha := Aside0.mk ha
                have BK101 := Aside0.mk Q_BK101
                have BK102 := Aside0.mk Q_BK102
                have BK103 := Aside0.mk Q_BK103
                have BK106 := Aside0.mk Q_BK106
                have HB := Aside0.mk Q_HB
                refine box_step ?hg (N := 10) ?hd (cs := #[.bool false, .int .i64 0]) (t := 25) ?hr ?_; (case hd => rfl); (case hg => rfl); (case hr => first | (go_simp; done) | (go_simp; rfl))
                intro gb117 hg w121 hbox hb
                have n0_ := Aside0.mk (blk_below (g := gb101) (o := .cells #[.bool a0_0, .int .i64 a0_1] 25 (0, 0)) (by (with_reducible repeat (first | refine blk_drewN ?_ _ | refine blk_drew ?_ | refine blk_alloc ?_ _)); exact BK101.out) hb)
                have n1_ := Aside0.mk (blk_below (g := gb102) (o := .cells #[.bool a1_0, .int .i64 a1_1] 25 (0, 0)) (by (with_reducible repeat (first | refine blk_drewN ?_ _ | refine blk_drew ?_ | refine blk_alloc ?_ _)); exact BK102.out) hb)
                have n2_ := Aside0.mk (blk_below (g := gb103) (o := .cells #[.bool a2_0, .int .i64 a2_1] 25 (0, 0)) (by (with_reducible repeat (first | refine blk_drewN ?_ _ | refine blk_drew ?_ | refine blk_alloc ?_ _)); exact BK103.out) hb)
                have n3_ := Aside0.mk (blk_below (g := gb106) (o := .cells #[.bool true, .int .i64 0] 25 (0, 0)) (by (with_reducible repeat (first | refine blk_drewN ?_ _ | refine blk_drew ?_ | refine blk_alloc ?_ _)); exact BK106.out) hb)
                have n4_ := Aside0.mk (below_step (by repeat (first | (with_reducible first | exact HB.out | apply below_alloc | apply pw_below_drewN | apply below_drew1 | refine below_set ?_ GE101.out | refine below_set ?_ GE102.out | refine below_set ?_ GE103.out | refine below_set ?_ GE106.out) | exact HB.out)) hb)
                have n5_ := Aside0.mk (hbox)
                have n6_ := Aside0.mk ((by rw [hg]; exact (below_size (by repeat (first | (with_reducible first | exact HB.out | apply below_alloc | apply pw_below_drewN | apply below_drew1 | refine below_set ?_ GE101.out | refine below_set ?_ GE102.out | refine below_set ?_ GE103.out | refine below_set ?_ GE106.out) | exact HB.out))) : w.heap.size ≤ gb117))
                have n7_ := Aside0.mk ((by rw [hg]; exact (below_size (by repeat (first | (with_reducible first | exact HB.out | apply below_alloc | apply pw_below_drewN | apply below_drew1 | refine below_set ?_ GE101.out | refine below_set ?_ GE102.out | refine below_set ?_ GE103.out | refine below_set ?_ GE106.out) | exact HB.out))) : w.heap.size ≤ gb117))
                have n8_ := Aside0.mk ((by rw [hg]; exact Nat.ne_of_lt (blk_lt (g := gb101) (o := .cells #[.bool a0_0, .int .i64 a0_1] 25 (0, 0)) (by (with_reducible repeat (first | refine blk_drewN ?_ _ | refine blk_drew ?_ | refine blk_alloc ?_ _)); exact BK101.out)) : gb101 ≠ gb117))
                have n9_ := Aside0.mk ((by rw [hg]; exact Nat.ne_of_gt (blk_lt (g := gb101) (o := .cells #[.bool a0_0, .int .i64 a0_1] 25 (0, 0)) (by (with_reducible repeat (first | refine blk_drewN ?_ _ | refine blk_drew ?_ | refine blk_alloc ?_ _)); exact BK101.out)) : gb117 ≠ gb101))
                have n10_ := Aside0.mk ((by rw [hg]; exact Nat.ne_of_lt (blk_lt (g := gb102) (o := .cells #[.bool a1_0, .int .i64 a1_1] 25 (0, 0)) (by (with_reducible repeat (first | refine blk_drewN ?_ _ | refine blk_drew ?_ | refine blk_alloc ?_ _)); exact BK102.out)) : gb102 ≠ gb117))
                have n11_ := Aside0.mk ((by rw [hg]; exact Nat.ne_of_gt (blk_lt (g := gb102) (o := .cells #[.bool a1_0, .int .i64 a1_1] 25 (0, 0)) (by (with_reducible repeat (first | refine blk_drewN ?_ _ | refine blk_drew ?_ | refine blk_alloc ?_ _)); exact BK102.out)) : gb117 ≠ gb102))
                have n12_ := Aside0.mk ((by rw [hg]; exact Nat.ne_of_lt (blk_lt (g := gb103) (o := .cells #[.bool a2_0, .int .i64 a2_1] 25 (0, 0)) (by (with_reducible repeat (first | refine blk_drewN ?_ _ | refine blk_drew ?_ | refine blk_alloc ?_ _)); exact BK103.out)) : gb103 ≠ gb117))
                have n13_ := Aside0.mk ((by rw [hg]; exact Nat.ne_of_gt (blk_lt (g := gb103) (o := .cells #[.bool a2_0, .int .i64 a2_1] 25 (0, 0)) (by (with_reducible repeat (first | refine blk_drewN ?_ _ | refine blk_drew ?_ | refine blk_alloc ?_ _)); exact BK103.out)) : gb117 ≠ gb103))
                have n14_ := Aside0.mk ((by rw [hg]; exact Nat.ne_of_lt (blk_lt (g := gb106) (o := .cells #[.bool true, .int .i64 0] 25 (0, 0)) (by (with_reducible repeat (first | refine blk_drewN ?_ _ | refine blk_drew ?_ | refine blk_alloc ?_ _)); exact BK106.out)) : gb106 ≠ gb117))
                have n15_ := Aside0.mk ((by rw [hg]; exact Nat.ne_of_gt (blk_lt (g := gb106) (o := .cells #[.bool true, .int .i64 0] 25 (0, 0)) (by (with_reducible repeat (first | refine blk_drewN ?_ _ | refine blk_drew ?_ | refine blk_alloc ?_ _)); exact BK106.out)) : gb117 ≠ gb106))
                have z_NB117_116 := fun (h0_ : up b 7 6 = true) (h1_ : up b 7 7 = true) => (show gb117 ≠ gb116 from ((by rw [hg]; cases h9_ : b 8 with | false => exact Nat.ne_of_gt (blk_lt (Q_BK116 h0_ h9_)) | true => exact Nat.ne_of_gt (blk_lt (Q_BK116_e8 h9_)) : gb117 ≠ gb116)))
                have z_NB116_117 := fun (h0_ : up b 7 6 = true) (h1_ : up b 7 7 = true) => (show gb116 ≠ gb117 from ((by rw [hg]; cases h9_ : b 8 with | false => exact Nat.ne_of_lt (blk_lt (Q_BK116 h0_ h9_)) | true => exact Nat.ne_of_lt (blk_lt (Q_BK116_e8 h9_)) : gb116 ≠ gb117)))
                have z_BK116 := fun (h0_ : b 6 = true) (h1_ : b 8 = false) => (show w121.heap[gb116]? = some (.cells #[.bool false, .int .i64 0] 25 (0, 0)) from by first | exact (blk_below (g := gb116) (o := .cells #[.bool false, .int .i64 0] 25 (0, 0)) (by (with_reducible repeat (first | refine blk_drewN ?_ _ | refine blk_drew ?_ | refine blk_alloc ?_ _)); exact (Q_BK116 h0_ h1_)) hb))
                clear BK101
                clear BK102
                clear BK103
                clear BK106
                clear HB
                have BK101 := n0_
                have BK102 := n1_
                have BK103 := n2_
                have BK106 := n3_
                have HB := n4_
                have BK117 := n5_
                have GW117 := n6_
                have GE117 := n7_
                have NB101_117 := n8_
                have NB117_101 := n9_
                have NB102_117 := n10_
                have NB117_102 := n11_
                have NB103_117 := n12_
                have NB117_103 := n13_
                have NB106_117 := n14_
                have NB117_106 := n15_
                clear n0_ n1_ n2_ n3_ n4_ n5_ n6_ n7_ n8_ n9_ n10_ n11_ n12_ n13_ n14_ n15_
                clear hb hbox hg
                refine hK.out _ _ ⟨gb116, gb117, m6_, (.pointer (some ⟨gb117, 0, none⟩)), (by rw [ha.out]; exact putSel_upk 7 hb_ rfl rfl rfl), (by (with_reducible repeat (first | refine blk_drewN ?_ _ | refine blk_drew ?_ | refine blk_alloc ?_ _)); exact BK101.out), (by (with_reducible repeat (first | refine blk_drewN ?_ _ | refine blk_drew ?_ | refine blk_alloc ?_ _)); exact BK102.out), (by (with_reducible repeat (first | refine blk_drewN ?_ _ | refine blk_drew ?_ | refine blk_alloc ?_ _)); exact BK103.out), (by (with_reducible repeat (first | refine blk_drewN ?_ _ | refine blk_drew ?_ | refine blk_alloc ?_ _)); exact BK106.out), (by repeat (first | (with_reducible first | exact HB.out | apply below_alloc | apply pw_below_drewN | apply below_drew1 | refine below_set ?_ GE101.out | refine below_set ?_ GE102.out | refine below_set ?_ GE103.out | refine below_set ?_ GE106.out | refine below_set ?_ GE117.out) | exact HB.out)), @z_NB117_116, @z_NB116_117, z_BK116, Q_GW116, Q_GE116, Q_NB101_116, Q_NB116_101, Q_NB102_116, Q_NB116_102, Q_NB103_116, Q_NB116_103, Q_NB106_116, Q_NB116_106, fun _ _ => (by (with_reducible repeat (first | refine blk_drewN ?_ _ | refine blk_drew ?_ | refine blk_alloc ?_ _)); exact BK117.out), fun _ => GW117.out, fun _ => GE117.out, fun _ => NB101_117.out, fun _ => NB117_101.out, fun _ => NB102_117.out, fun _ => NB117_102.out, fun _ => NB103_117.out, fun _ => NB117_103.out, fun _ => NB106_117.out, fun _ => NB117_106.out, fun h0_ => absurd ((hoff 8 (by kernel_rfl)).symm.trans h0_) (by decide), fun h0_ => absurd ((hoff 9 (by kernel_rfl)).symm.trans h0_) (by decide), Q_X6_, fun _ => rfl⟩
              refine steps_cons ?_ ?_
              · rintro b a w' ⟨gb116, gb117, m6_, m7_, ha, Q_BK101, Q_BK102, Q_BK103, Q_BK106, Q_HB, Q_NB117_116, Q_NB116_117, Q_BK116, Q_GW116, Q_GE116, Q_NB101_116, Q_NB116_101, Q_NB102_116, Q_NB116_102, Q_NB103_116, Q_NB116_103, Q_NB106_116, Q_NB116_106, Q_BK117, Q_GW117, Q_GE117, Q_NB101_117, Q_NB117_101, Q_NB102_117, Q_NB117_102, Q_NB103_117, Q_NB117_103, Q_NB106_117, Q_NB117_106, Q_BK116_e8, Q_BK117_e9, Q_X6_, Q_X7_⟩ hb_ hon hoff
                refine ⟨_, rfl, fun K hK => ?_⟩
                have e9 : a.tmps[9]? = some (m6_) := by rw [ha]; exact putSel_on (e := (6, 9, m6_)) 6 rfl rfl (hon 6 (by kernel_rfl)) rfl
                rw [Q_X6_ (hon 6 (by kernel_rfl))] at e9
                have e53 : a.tmps[53]? = some (.agg #[.bool true, .int .i64 t113]) := by rw [ha]; exact putSel_on (e := (2, 53, .agg #[.bool true, .int .i64 t113])) 2 rfl rfl (hon 2 (by kernel_rfl)) rfl
                replace ha := Aside0.mk ha
                have BK101 := Aside0.mk Q_BK101
                have BK102 := Aside0.mk Q_BK102
                have BK103 := Aside0.mk Q_BK103
                have BK106 := Aside0.mk Q_BK106
                have HB := Aside0.mk Q_HB
                have NB117_116 := Aside0.mk (Q_NB117_116 (hon 6 (by kernel_rfl)) (hon 7 (by kernel_rfl)))
                have NB116_117 := Aside0.mk (Q_NB116_117 (hon 6 (by kernel_rfl)) (hon 7 (by kernel_rfl)))
                have BK116 := Aside0.mk (Q_BK116 (hon 6 (by kernel_rfl)) hb_)
                have GW116 := Aside0.mk (Q_GW116 (hon 6 (by kernel_rfl)))
                have GE116 := Aside0.mk (Q_GE116 (hon 6 (by kernel_rfl)))
                have NB101_116 := Aside0.mk (Q_NB101_116 (hon 6 (by kernel_rfl)))
                have NB116_101 := Aside0.mk (Q_NB116_101 (hon 6 (by kernel_rfl)))
                have NB102_116 := Aside0.mk (Q_NB102_116 (hon 6 (by kernel_rfl)))
                have NB116_102 := Aside0.mk (Q_NB116_102 (hon 6 (by kernel_rfl)))
                have NB103_116 := Aside0.mk (Q_NB103_116 (hon 6 (by kernel_rfl)))
                have NB116_103 := Aside0.mk (Q_NB116_103 (hon 6 (by kernel_rfl)))
                have NB106_116 := Aside0.mk (Q_NB106_116 (hon 6 (by kernel_rfl)))
                have NB116_106 := Aside0.mk (Q_NB116_106 (hon 6 (by kernel_rfl)))
                have BK117 := Aside0.mk (Q_BK117 (hon 7 (by kernel_rfl)) (hoff 9 (by kernel_rfl)))
                have GW117 := Aside0.mk (Q_GW117 (hon 7 (by kernel_rfl)))
                have GE117 := Aside0.mk (Q_GE117 (hon 7 (by kernel_rfl)))
                have NB101_117 := Aside0.mk (Q_NB101_117 (hon 7 (by kernel_rfl)))
                have NB117_101 := Aside0.mk (Q_NB117_101 (hon 7 (by kernel_rfl)))
                have NB102_117 := Aside0.mk (Q_NB102_117 (hon 7 (by kernel_rfl)))
                have NB117_102 := Aside0.mk (Q_NB117_102 (hon 7 (by kernel_rfl)))
                have NB103_117 := Aside0.mk (Q_NB103_117 (hon 7 (by kernel_rfl)))
                have NB117_103 := Aside0.mk (Q_NB117_103 (hon 7 (by kernel_rfl)))
                have NB106_117 := Aside0.mk (Q_NB106_117 (hon 7 (by kernel_rfl)))
                have NB117_106 := Aside0.mk (Q_NB117_106 (hon 7 (by kernel_rfl)))
                have hs126 : w'.cell? ⟨gb116, 0, none⟩ = some (.bool false) := (blk_cell BK116.out 0).trans rfl
                have hfs126 := blk_frozen BK116.out 0
                have hns126_0 := NB101_116.out
                have hns126_1 := NB102_116.out
                have hns126_2 := NB103_116.out
                have hns126_3 := NB106_116.out
                have hns126_5 := NB117_116.out
                have hms126_0 := NB116_101.out
                have hms126_1 := NB116_102.out
                have hms126_2 := NB116_103.out
                have hms126_3 := NB116_106.out
                have hms126_5 := NB116_117.out
                have hs127 : w'.cell? ⟨gb116, 1, none⟩ = some (.int .i64 0) := (blk_cell BK116.out 1).trans rfl
                have hfs127 := blk_frozen BK116.out 1
                have hns127_0 := NB101_116.out
                have hns127_1 := NB102_116.out
                have hns127_2 := NB103_116.out
                have hns127_3 := NB106_116.out
                have hns127_5 := NB117_116.out
                have hms127_0 := NB116_101.out
                have hms127_1 := NB116_102.out
                have hms127_2 := NB116_103.out
                have hms127_3 := NB116_106.out
                have hms127_5 := NB116_117.out
                refine skip_ (w1 := ?_) (by rfl) rfl ?_ ?_
                rotate_left
                · go_simp
                  rfl
                refine hK.out _ _ ⟨gb116, gb117, m6_, m7_, (by rw [ha.out]; exact putSel_none (v := undef) rfl), (by (with_reducible repeat (first | refine blk_drewN ?_ _ | refine blk_drew ?_ | refine blk_alloc ?_ _)); refine blk_far ?_ NB101_116.out _; (with_reducible repeat (first | refine blk_drewN ?_ _ | refine blk_drew ?_ | refine blk_alloc ?_ _)); refine blk_far ?_ NB101_116.out _; (with_reducible repeat (first | refine blk_drewN ?_ _ | refine blk_drew ?_ | refine blk_alloc ?_ _)); exact BK101.out), (by (with_reducible repeat (first | refine blk_drewN ?_ _ | refine blk_drew ?_ | refine blk_alloc ?_ _)); refine blk_far ?_ NB102_116.out _; (with_reducible repeat (first | refine blk_drewN ?_ _ | refine blk_drew ?_ | refine blk_alloc ?_ _)); refine blk_far ?_ NB102_116.out _; (with_reducible repeat (first | refine blk_drewN ?_ _ | refine blk_drew ?_ | refine blk_alloc ?_ _)); exact BK102.out), (by (with_reducible repeat (first | refine blk_drewN ?_ _ | refine blk_drew ?_ | refine blk_alloc ?_ _)); refine blk_far ?_ NB103_116.out _; (with_reducible repeat (first | refine blk_drewN ?_ _ | refine blk_drew ?_ | refine blk_alloc ?_ _)); refine blk_far ?_ NB103_116.out _; (with_reducible repeat (first | refine blk_drewN ?_ _ | refine blk_drew ?_ | refine blk_alloc ?_ _)); exact BK103.out), (by (with_reducible repeat (first | refine blk_drewN ?_ _ | refine blk_drew ?_ | refine blk_alloc ?_ _)); refine blk_far ?_ NB106_116.out _; (with_reducible repeat (first | refine blk_drewN ?_ _ | refine blk_drew ?_ | refine blk_alloc ?_ _)); refine blk_far ?_ NB106_116.out _; (with_reducible repeat (first | refine blk_drewN ?_ _ | refine blk_drew ?_ | refine blk_alloc ?_ _)); exact BK106.out), (by repeat (first | (with_reducible first | exact HB.out | apply below_alloc | apply pw_below_drewN | apply below_drew1 | refine below_set ?_ GE101.out | refine below_set ?_ GE102.out | refine below_set ?_ GE103.out | refine below_set ?_ GE106.out | refine below_set ?_ GE116.out | refine below_set ?_ GE117.out) | exact HB.out)), fun _ _ => NB117_116.out, fun _ _ => NB116_117.out, fun _ h1_ => absurd ((up_self b 8).symm.trans h1_) (by decide), fun _ => GW116.out, fun _ => GE116.out, fun _ => NB101_116.out, fun _ => NB116_101.out, fun _ => NB102_116.out, fun _ => NB116_102.out, fun _ => NB103_116.out, fun _ => NB116_103.out, fun _ => NB106_116.out, fun _ => NB116_106.out, fun _ _ => (by (with_reducible repeat (first | refine blk_drewN ?_ _ | refine blk_drew ?_ | refine blk_alloc ?_ _)); refine blk_far ?_ NB117_116.out _; (with_reducible repeat (first | refine blk_drewN ?_ _ | refine blk_drew ?_ | refine blk_alloc ?_ _)); refine blk_far ?_ NB117_116.out _; (with_reducible repeat (first | refine blk_drewN ?_ _ | refine blk_drew ?_ | refine blk_alloc ?_ _)); exact BK117.out), fun _ => GW117.out, fun _ => GE117.out, fun _ => NB101_117.out, fun _ => NB117_101.out, fun _ => NB102_117.out, fun _ => NB117_102.out, fun _ => NB103_117.out, fun _ => NB117_103.out, fun _ => NB106_117.out, fun _ => NB117_106.out, fun _ => (by (with_reducible repeat (first | refine blk_drewN ?_ _ | refine blk_drew ?_ | refine blk_alloc ?_ _)); refine blk_put (cs := #[.bool true, .int .i64 0]) ?_ 1 _ rfl; (with_reducible repeat (first | refine blk_drewN ?_ _ | refine blk_drew ?_ | refine blk_alloc ?_ _)); refine blk_put (cs := #[.bool false, .int .i64 0]) ?_ 0 _ rfl; (with_reducible repeat (first | refine blk_drewN ?_ _ | refine blk_drew ?_ | refine blk_alloc ?_ _)); exact BK116.out), fun h0_ => absurd ((hoff 9 (by kernel_rfl)).symm.trans h0_) (by decide), Q_X6_, Q_X7_⟩
              refine steps_cons ?_ ?_
              · rintro b a w' ⟨gb116, gb117, m6_, m7_, ha, Q_BK101, Q_BK102, Q_BK103, Q_BK106, Q_HB, Q_NB117_116, Q_NB116_117, Q_BK116, Q_GW116, Q_GE116, Q_NB101_116, Q_NB116_101, Q_NB102_116, Q_NB116_102, Q_NB103_116, Q_NB116_103, Q_NB106_116, Q_NB116_106, Q_BK117, Q_GW117, Q_GE117, Q_NB101_117, Q_NB117_101, Q_NB102_117, Q_NB117_102, Q_NB103_117, Q_NB117_103, Q_NB106_117, Q_NB117_106, Q_BK116_e8, Q_BK117_e9, Q_X6_, Q_X7_⟩ hb_ hon hoff
                refine ⟨_, rfl, fun K hK => ?_⟩
                have e10 : a.tmps[10]? = some (m7_) := by rw [ha]; exact putSel_on (e := (7, 10, m7_)) 7 rfl rfl (hon 7 (by kernel_rfl)) rfl
                rw [Q_X7_ (hon 7 (by kernel_rfl))] at e10
                have e56 : a.tmps[56]? = some (.agg #[.bool t114, .int .i64 t115]) := by rw [ha]; exact putSel_on (e := (5, 56, .agg #[.bool t114, .int .i64 t115])) 5 rfl rfl (hon 5 (by kernel_rfl)) rfl
                replace ha := Aside0.mk ha
                have BK101 := Aside0.mk Q_BK101
                have BK102 := Aside0.mk Q_BK102
                have BK103 := Aside0.mk Q_BK103
                have BK106 := Aside0.mk Q_BK106
                have HB := Aside0.mk Q_HB
                have NB117_116 := Aside0.mk (Q_NB117_116 (hon 6 (by kernel_rfl)) (hon 7 (by kernel_rfl)))
                have NB116_117 := Aside0.mk (Q_NB116_117 (hon 6 (by kernel_rfl)) (hon 7 (by kernel_rfl)))
                have GW116 := Aside0.mk (Q_GW116 (hon 6 (by kernel_rfl)))
                have GE116 := Aside0.mk (Q_GE116 (hon 6 (by kernel_rfl)))
                have NB101_116 := Aside0.mk (Q_NB101_116 (hon 6 (by kernel_rfl)))
                have NB116_101 := Aside0.mk (Q_NB116_101 (hon 6 (by kernel_rfl)))
                have NB102_116 := Aside0.mk (Q_NB102_116 (hon 6 (by kernel_rfl)))
                have NB116_102 := Aside0.mk (Q_NB116_102 (hon 6 (by kernel_rfl)))
                have NB103_116 := Aside0.mk (Q_NB103_116 (hon 6 (by kernel_rfl)))
                have NB116_103 := Aside0.mk (Q_NB116_103 (hon 6 (by kernel_rfl)))
                have NB106_116 := Aside0.mk (Q_NB106_116 (hon 6 (by kernel_rfl)))
                have NB116_106 := Aside0.mk (Q_NB116_106 (hon 6 (by kernel_rfl)))
                have BK117 := Aside0.mk (Q_BK117 (hon 7 (by kernel_rfl)) hb_)
                have GW117 := Aside0.mk (Q_GW117 (hon 7 (by kernel_rfl)))
                have GE117 := Aside0.mk (Q_GE117 (hon 7 (by kernel_rfl)))
                have NB101_117 := Aside0.mk (Q_NB101_117 (hon 7 (by kernel_rfl)))
                have NB117_101 := Aside0.mk (Q_NB117_101 (hon 7 (by kernel_rfl)))
                have NB102_117 := Aside0.mk (Q_NB102_117 (hon 7 (by kernel_rfl)))
                have NB117_102 := Aside0.mk (Q_NB117_102 (hon 7 (by kernel_rfl)))
                have NB103_117 := Aside0.mk (Q_NB103_117 (hon 7 (by kernel_rfl)))
                have NB117_103 := Aside0.mk (Q_NB117_103 (hon 7 (by kernel_rfl)))
                have NB106_117 := Aside0.mk (Q_NB106_117 (hon 7 (by kernel_rfl)))
                have NB117_106 := Aside0.mk (Q_NB117_106 (hon 7 (by kernel_rfl)))
                have BK116 := Aside0.mk (Q_BK116_e8 (hon 8 (by kernel_rfl)))
                have hs128 : w'.cell? ⟨gb117, 0, none⟩ = some (.bool false) := (blk_cell BK117.out 0).trans rfl
                have hfs128 := blk_frozen BK117.out 0
                have hns128_0 := NB101_117.out
                have hns128_1 := NB102_117.out
                have hns128_2 := NB103_117.out
                have hns128_3 := NB106_117.out
                have hns128_4 := NB116_117.out
                have hms128_0 := NB117_101.out
                have hms128_1 := NB117_102.out
                have hms128_2 := NB117_103.out
                have hms128_3 := NB117_106.out
                have hms128_4 := NB117_116.out
                have hs129 : w'.cell? ⟨gb117, 1, none⟩ = some (.int .i64 0) := (blk_cell BK117.out 1).trans rfl
                have hfs129 := blk_frozen BK117.out 1
                have hns129_0 := NB101_117.out
                have hns129_1 := NB102_117.out
                have hns129_2 := NB103_117.out
                have hns129_3 := NB106_117.out
                have hns129_4 := NB116_117.out
                have hms129_0 := NB117_101.out
                have hms129_1 := NB117_102.out
                have hms129_2 := NB117_103.out
                have hms129_3 := NB117_106.out
                have hms129_4 := NB117_116.out
                refine skip_ (w1 := ?_) (by rfl) rfl ?_ ?_
                rotate_left
                · go_simp
                  rfl
                refine hK.out _ _ ⟨gb116, gb117, m6_, m7_, (by rw [ha.out]; exact putSel_none (v := undef) rfl), (by (with_reducible repeat (first | refine blk_drewN ?_ _ | refine blk_drew ?_ | refine blk_alloc ?_ _)); refine blk_far ?_ NB101_117.out _; (with_reducible repeat (first | refine blk_drewN ?_ _ | refine blk_drew ?_ | refine blk_alloc ?_ _)); refine blk_far ?_ NB101_117.out _; (with_reducible repeat (first | refine blk_drewN ?_ _ | refine blk_drew ?_ | refine blk_alloc ?_ _)); exact BK101.out), (by (with_reducible repeat (first | refine blk_drewN ?_ _ | refine blk_drew ?_ | refine blk_alloc ?_ _)); refine blk_far ?_ NB102_117.out _; (with_reducible repeat (first | refine blk_drewN ?_ _ | refine blk_drew ?_ | refine blk_alloc ?_ _)); refine blk_far ?_ NB102_117.out _; (with_reducible repeat (first | refine blk_drewN ?_ _ | refine blk_drew ?_ | refine blk_alloc ?_ _)); exact BK102.out), (by (with_reducible repeat (first | refine blk_drewN ?_ _ | refine blk_drew ?_ | refine blk_alloc ?_ _)); refine blk_far ?_ NB103_117.out _; (with_reducible repeat (first | refine blk_drewN ?_ _ | refine blk_drew ?_ | refine blk_alloc ?_ _)); refine blk_far ?_ NB103_117.out _; (with_reducible repeat (first | refine blk_drewN ?_ _ | refine blk_drew ?_ | refine blk_alloc ?_ _)); exact BK103.out), (by (with_reducible repeat (first | refine blk_drewN ?_ _ | refine blk_drew ?_ | refine blk_alloc ?_ _)); refine blk_far ?_ NB106_117.out _; (with_reducible repeat (first | refine blk_drewN ?_ _ | refine blk_drew ?_ | refine blk_alloc ?_ _)); refine blk_far ?_ NB106_117.out _; (with_reducible repeat (first | refine blk_drewN ?_ _ | refine blk_drew ?_ | refine blk_alloc ?_ _)); exact BK106.out), (by repeat (first | (with_reducible first | exact HB.out | apply below_alloc | apply pw_below_drewN | apply below_drew1 | refine below_set ?_ GE101.out | refine below_set ?_ GE102.out | refine below_set ?_ GE103.out | refine below_set ?_ GE106.out | refine below_set ?_ GE116.out | refine below_set ?_ GE117.out) | exact HB.out)), fun _ _ => NB117_116.out, fun _ _ => NB116_117.out, fun _ h1_ => absurd ((hon 8 (by kernel_rfl)).symm.trans h1_) (by decide), fun _ => GW116.out, fun _ => GE116.out, fun _ => NB101_116.out, fun _ => NB116_101.out, fun _ => NB102_116.out, fun _ => NB116_102.out, fun _ => NB103_116.out, fun _ => NB116_103.out, fun _ => NB106_116.out, fun _ => NB116_106.out, fun _ h1_ => absurd ((up_self b 9).symm.trans h1_) (by decide), fun _ => GW117.out, fun _ => GE117.out, fun _ => NB101_117.out, fun _ => NB117_101.out, fun _ => NB102_117.out, fun _ => NB117_102.out, fun _ => NB103_117.out, fun _ => NB117_103.out, fun _ => NB106_117.out, fun _ => NB117_106.out, fun _ => (by (with_reducible repeat (first | refine blk_drewN ?_ _ | refine blk_drew ?_ | refine blk_alloc ?_ _)); refine blk_far ?_ NB116_117.out _; (with_reducible repeat (first | refine blk_drewN ?_ _ | refine blk_drew ?_ | refine blk_alloc ?_ _)); refine blk_far ?_ NB116_117.out _; (with_reducible repeat (first | refine blk_drewN ?_ _ | refine blk_drew ?_ | refine blk_alloc ?_ _)); exact BK116.out), fun _ => (by (with_reducible repeat (first | refine blk_drewN ?_ _ | refine blk_drew ?_ | refine blk_alloc ?_ _)); refine blk_put (cs := #[.bool t114, .int .i64 0]) ?_ 1 _ rfl; (with_reducible repeat (first | refine blk_drewN ?_ _ | refine blk_drew ?_ | refine blk_alloc ?_ _)); refine blk_put (cs := #[.bool false, .int .i64 0]) ?_ 0 _ rfl; (with_reducible repeat (first | refine blk_drewN ?_ _ | refine blk_drew ?_ | refine blk_alloc ?_ _)); exact BK117.out), Q_X6_, Q_X7_⟩
              exact steps_nil
            rintro b a w129 hall ⟨gb116, gb117, m6_, m7_, ha, Q_BK101, Q_BK102, Q_BK103, Q_BK106, Q_HB, Q_NB117_116, Q_NB116_117, Q_BK116, Q_GW116, Q_GE116, Q_NB101_116, Q_NB116_101, Q_NB102_116, Q_NB116_102, Q_NB103_116, Q_NB116_103, Q_NB106_116, Q_NB116_106, Q_BK117, Q_GW117, Q_GE117, Q_NB101_117, Q_NB117_101, Q_NB102_117, Q_NB117_102, Q_NB103_117, Q_NB117_103, Q_NB106_117, Q_NB117_106, Q_BK116_e8, Q_BK117_e9, Q_X6_, Q_X7_⟩
            clear BK101 BK102 BK103 BK106 HB
            have hb0_ := hall 0 (by kernel_rfl)
            have hb1_ := hall 1 (by kernel_rfl)
            have hb2_ := hall 2 (by kernel_rfl)
            have hb3_ := hall 3 (by kernel_rfl)
            have hb4_ := hall 4 (by kernel_rfl)
            have hb5_ := hall 5 (by kernel_rfl)
            have hb6_ := hall 6 (by kernel_rfl)
            have hb7_ := hall 7 (by kernel_rfl)
            have hb8_ := hall 8 (by kernel_rfl)
            have hb9_ := hall 9 (by kernel_rfl)
            subst ha
            obtain rfl := Q_X6_ hb6_
            obtain rfl := Q_X7_ hb7_
            simp only [putSel, hb0_, hb1_, hb2_, hb3_, hb4_, hb5_, hb6_, hb7_, hb8_, hb9_, if_true, Act.put, List.setIfInBounds_toArray, List.set_cons_zero, List.set_cons_succ]
            have BK101 := Aside0.mk Q_BK101
            clear Q_BK101
            have BK102 := Aside0.mk Q_BK102
            clear Q_BK102
            have BK103 := Aside0.mk Q_BK103
            clear Q_BK103
            have BK106 := Aside0.mk Q_BK106
            clear Q_BK106
            have HB := Aside0.mk Q_HB
            clear Q_HB
            have NB117_116 := Aside0.mk (Q_NB117_116 hb6_ hb7_)
            clear Q_NB117_116
            have NB116_117 := Aside0.mk (Q_NB116_117 hb6_ hb7_)
            clear Q_NB116_117
            clear Q_BK116
            have GW116 := Aside0.mk (Q_GW116 hb6_)
            clear Q_GW116
            have GE116 := Aside0.mk (Q_GE116 hb6_)
            clear Q_GE116
            have NB101_116 := Aside0.mk (Q_NB101_116 hb6_)
            clear Q_NB101_116
            have NB116_101 := Aside0.mk (Q_NB116_101 hb6_)
            clear Q_NB116_101
            have NB102_116 := Aside0.mk (Q_NB102_116 hb6_)
            clear Q_NB102_116
            have NB116_102 := Aside0.mk (Q_NB116_102 hb6_)
            clear Q_NB116_102
            have NB103_116 := Aside0.mk (Q_NB103_116 hb6_)
            clear Q_NB103_116
            have NB116_103 := Aside0.mk (Q_NB116_103 hb6_)
            clear Q_NB116_103
            have NB106_116 := Aside0.mk (Q_NB106_116 hb6_)
            clear Q_NB106_116
            have NB116_106 := Aside0.mk (Q_NB116_106 hb6_)
            clear Q_NB116_106
            clear Q_BK117
            have GW117 := Aside0.mk (Q_GW117 hb7_)
            clear Q_GW117
            have GE117 := Aside0.mk (Q_GE117 hb7_)
            clear Q_GE117
            have NB101_117 := Aside0.mk (Q_NB101_117 hb7_)
            clear Q_NB101_117
            have NB117_101 := Aside0.mk (Q_NB117_101 hb7_)
            clear Q_NB117_101
            have NB102_117 := Aside0.mk (Q_NB102_117 hb7_)
            clear Q_NB102_117
            have NB117_102 := Aside0.mk (Q_NB117_102 hb7_)
            clear Q_NB117_102
            have NB103_117 := Aside0.mk (Q_NB103_117 hb7_)
            clear Q_NB103_117
            have NB117_103 := Aside0.mk (Q_NB117_103 hb7_)
            clear Q_NB117_103
            have NB106_117 := Aside0.mk (Q_NB106_117 hb7_)
            clear Q_NB106_117
            have NB117_106 := Aside0.mk (Q_NB117_106 hb7_)
            clear Q_NB117_106
            have BK116 := Aside0.mk (Q_BK116_e8 hb8_)
            clear Q_BK116_e8
            have BK117 := Aside0.mk (Q_BK117_e9 hb9_)
            clear Q_BK117_e9
            clear hall hb0_ hb1_ hb2_ hb3_ hb4_ hb5_ hb6_ hb7_ hb8_ hb9_
            have hnb130 := NB116_101.out
            have hnc130 := NB101_116.out
            have hnb131 := NB116_102.out
            have hnc131 := NB102_116.out
            have hnb132 := NB116_103.out
            have hnc132 := NB103_116.out
            have hnb133 := NB116_106.out
            have hnc133 := NB106_116.out
            have hnb134 := NB116_117.out
            have hnc134 := NB117_116.out
            have hcz135_0 : w129.cell? ⟨gb116, 0, none⟩ = some (.bool true) := (blk_cell BK116.out 0).trans rfl
            have hcz135_1 : w129.cell? ⟨gb116, 1, none⟩ = some (.int .i64 t113) := (blk_cell BK116.out 1).trans rfl
            have hfz135_0 := blk_frozen BK116.out 0
            have hfz135_1 := blk_frozen BK116.out 1
            try go_wp2
            go_ret
            exact ⟨by first | rfl | (simp [errW_none, errW_some] <;> rfl) | (simp [*, errW_none, errW_some] <;> rfl), by repeat (first | (with_reducible first | exact HB.out | apply below_alloc | apply pw_below_drewN | apply below_drew1 | refine below_set ?_ GE101.out | refine below_set ?_ GE102.out | refine below_set ?_ GE103.out | refine below_set ?_ GE106.out | refine below_set ?_ GE116.out | refine below_set ?_ GE117.out) | exact HB.out)⟩
          · replace c119 := Bool.eq_false_iff.mpr c119
            subst c119
            have H1 : (if t114 = true then (some true) else ((fix_Cmp.f kj6 false t113 t114 t115).bind fun t118 => (some (t118 == t105)))) = some r := by rw [if_neg (show ¬ (false = true) by decide)] at H; exact H
            clear H
            have H := H1
            clear H1
            by_cases c136 : t114 = true
            · subst c136
              have H1 : (some true) = some r := by rw [if_pos rfl] at H; exact H
              clear H
              have H := H1
              clear H1
              obtain rfl := Option.some.inj H
              try go_wp2
              have n0_ := Aside0.mk (blk_drew BK101.out)
              have n1_ := Aside0.mk (blk_drew BK102.out)
              have n2_ := Aside0.mk (blk_drew BK103.out)
              have n3_ := Aside0.mk (blk_drew BK106.out)
              have n4_ := Aside0.mk (below_drew1 HB.out)
              clear BK101
              clear BK102
              clear BK103
              clear BK106
              clear HB
              have BK101 := n0_
              have BK102 := n1_
              have BK103 := n2_
              have BK106 := n3_
              have HB := n4_
              clear n0_ n1_ n2_ n3_ n4_
              refine start_ (n := 10) (S := fun w' => True) (ds := []) #[false, false, false, false, false, false, false, false, false, false] (by kernel_rfl) rfl rfl trivial (fun hHeld => ?_); refine with_tabW spillwaylaw2_FixOrder.tab7 spillwaylaw2_FixOrder.bits7 (fun HT_ HW_ => ?_)
              generalize wc.drew = w137 at BK101 BK102 BK103 BK106 HB hHeld ⊢
              refine inv_at [0, 1, 2, 3, 4, 5, 6, 7, 8, 9] (fun a0_ b a w' => ∃ (gb116 : Nat) (gb117 : Nat) (m6_ : Value) (m7_ : Value), a = putSel a0_ b [(0, 51, .agg #[.bool a0_0, .int .i64 a0_1]), (1, 52, .agg #[.bool a2_0, .int .i64 a2_1]), (2, 53, .agg #[.bool false, .int .i64 t113]), (3, 54, .agg #[.bool a1_0, .int .i64 a1_1]), (4, 55, .agg #[.bool a2_0, .int .i64 a2_1]), (5, 56, .agg #[.bool true, .int .i64 t115]), (6, 9, m6_), (7, 10, m7_)] ∧ (w'.heap[gb101]? = some (.cells #[.bool a0_0, .int .i64 a0_1] 25 (0, 0))) ∧ (w'.heap[gb102]? = some (.cells #[.bool a1_0, .int .i64 a1_1] 25 (0, 0))) ∧ (w'.heap[gb103]? = some (.cells #[.bool a2_0, .int .i64 a2_1] 25 (0, 0))) ∧ (w'.heap[gb106]? = some (.cells #[.bool true, .int .i64 0] 25 (0, 0))) ∧ (Below w.heap.size w w') ∧ (b 6 = true → b 7 = true → gb117 ≠ gb116) ∧ (b 6 = true → b 7 = true → gb116 ≠ gb117) ∧ (b 6 = true → b 8 = false → w'.heap[gb116]? = some (.cells #[.bool false, .int .i64 0] 25 (0, 0))) ∧ (b 6 = true → w.heap.size ≤ gb116) ∧ (b 6 = true → w.heap.size ≤ gb116) ∧ (b 6 = true → gb101 ≠ gb116) ∧ (b 6 = true → gb116 ≠ gb101) ∧ (b 6 = true → gb102 ≠ gb116) ∧ (b 6 = true → gb116 ≠ gb102) ∧ (b 6 = true → gb103 ≠ gb116) ∧ (b 6 = true → gb116 ≠ gb103) ∧ (b 6 = true → gb106 ≠ gb116) ∧ (b 6 = true → gb116 ≠ gb106) ∧ (b 7 = true → b 9 = false → w'.heap[gb117]? = some (.cells #[.bool false, .int .i64 0] 25 (0, 0))) ∧ (b 7 = true → w.heap.size ≤ gb117) ∧ (b 7 = true → w.heap.size ≤ gb117) ∧ (b 7 = true → gb101 ≠ gb117) ∧ (b 7 = true → gb117 ≠ gb101) ∧ (b 7 = true → gb102 ≠ gb117) ∧ (b 7 = true → gb117 ≠ gb102) ∧ (b 7 = true → gb103 ≠ gb117) ∧ (b 7 = true → gb117 ≠ gb103) ∧ (b 7 = true → gb106 ≠ gb117) ∧ (b 7 = true → gb117 ≠ gb106) ∧ (b 8 = true → w'.heap[gb116]? = some (.cells #[.bool false, .int .i64 t113] 25 (0, 0))) ∧ (b 9 = true → w'.heap[gb117]? = some (.cells #[.bool true, .int .i64 t115] 25 (0, 0))) ∧ (b 6 = true → (m6_ : Value) = .pointer (some ⟨gb116, 0, none⟩)) ∧ (b 7 = true → (m7_ : Value) = .pointer (some ⟨gb117, 0, none⟩))) HT_.out HW_.out (by kernel_rfl) (by kernel_rfl) ?_ ?_ ?_
              · exact ⟨0, 0, .bool false, .bool false, by simp only [putSel, Bool.false_eq_true, if_false], BK101.out, BK102.out, BK103.out, BK106.out, HB.out, fun h_ => absurd h_ (by decide), fun h_ => absurd h_ (by decide), fun h_ => absurd h_ (by decide), fun h_ => absurd h_ (by decide), fun h_ => absurd h_ (by decide), fun h_ => absurd h_ (by decide), fun h_ => absurd h_ (by decide), fun h_ => absurd h_ (by decide), fun h_ => absurd h_ (by decide), fun h_ => absurd h_ (by decide), fun h_ => absurd h_ (by decide), fun h_ => absurd h_ (by decide), fun h_ => absurd h_ (by decide), fun h_ => absurd h_ (by decide), fun h_ => absurd h_ (by decide), fun h_ => absurd h_ (by decide), fun h_ => absurd h_ (by decide), fun h_ => absurd h_ (by decide), fun h_ => absurd h_ (by decide), fun h_ => absurd h_ (by decide), fun h_ => absurd h_ (by decide), fun h_ => absurd h_ (by decide), fun h_ => absurd h_ (by decide), fun h_ => absurd h_ (by decide), fun h_ => absurd h_ (by decide), fun h_ => absurd h_ (by decide), fun h_ => absurd h_ (by decide), fun h_ => absurd h_ (by decide)⟩
              · skip
                clear BK101 BK102 BK103 BK106 HB
                refine steps_cons ?_ ?_
                · rintro b a w' ⟨gb116, gb117, m6_, m7_, ha, Q_BK101, Q_BK102, Q_BK103, Q_BK106, Q_HB, Q_NB117_116, Q_NB116_117, Q_BK116, Q_GW116, Q_GE116, Q_NB101_116, Q_NB116_101, Q_NB102_116, Q_NB116_102, Q_NB103_116, Q_NB116_103, Q_NB106_116, Q_NB116_106, Q_BK117, Q_GW117, Q_GE117, Q_NB101_117, Q_NB117_101, Q_NB102_117, Q_NB117_102, Q_NB103_117, Q_NB117_103, Q_NB106_117, Q_NB117_106, Q_BK116_e8, Q_BK117_e9, Q_X6_, Q_X7_⟩ hb_ hon hoff
                  refine ⟨_, rfl, fun K hK => ?_⟩
                  have e3 : a.tmps[3]? = some (.pointer (some ⟨gb101, 0, none⟩)) := by rw [ha]; exact (putSel_off rfl).trans rfl
                  replace ha := Aside0.mk ha
                  have BK101 := Aside0.mk Q_BK101
                  have BK102 := Aside0.mk Q_BK102
                  have BK103 := Aside0.mk Q_BK103
                  have BK106 := Aside0.mk Q_BK106
                  have HB := Aside0.mk Q_HB
                  have hc0_ : w'.cell? ⟨gb101, 0, none⟩ = some (.bool a0_0) := (blk_cell BK101.out 0).trans rfl
                  have hc1_ : w'.cell? ⟨gb101, 1, none⟩ = some (.int .i64 a0_1) := (blk_cell BK101.out 1).trans rfl
                  refine value_ (w1 := w') (v := .agg #[.bool a0_0, .int .i64 a0_1]) (by rfl) rfl ?_ ?_
                  · go_simp
                    (try simp only [i64_w])
                    try rfl
                  refine hK.out _ _ ⟨gb116, gb117, m6_, m7_, (by rw [ha.out]; exact putSel_upk 0 hb_ rfl rfl rfl), Q_BK101, Q_BK102, Q_BK103, Q_BK106, Q_HB, Q_NB117_116, Q_NB116_117, Q_BK116, Q_GW116, Q_GE116, Q_NB101_116, Q_NB116_101, Q_NB102_116, Q_NB116_102, Q_NB103_116, Q_NB116_103, Q_NB106_116, Q_NB116_106, Q_BK117, Q_GW117, Q_GE117, Q_NB101_117, Q_NB117_101, Q_NB102_117, Q_NB117_102, Q_NB103_117, Q_NB117_103, Q_NB106_117, Q_NB117_106, fun h0_ => absurd ((hoff 8 (by kernel_rfl)).symm.trans h0_) (by decide), fun h0_ => absurd ((hoff 9 (by kernel_rfl)).symm.trans h0_) (by decide), Q_X6_, Q_X7_⟩
                refine steps_cons ?_ ?_
                · rintro b a w' ⟨gb116, gb117, m6_, m7_, ha, Q_BK101, Q_BK102, Q_BK103, Q_BK106, Q_HB, Q_NB117_116, Q_NB116_117, Q_BK116, Q_GW116, Q_GE116, Q_NB101_116, Q_NB116_101, Q_NB102_116, Q_NB116_102, Q_NB103_116, Q_NB116_103, Q_NB106_116, Q_NB116_106, Q_BK117, Q_GW117, Q_GE117, Q_NB101_117, Q_NB117_101, Q_NB102_117, Q_NB117_102, Q_NB103_117, Q_NB117_103, Q_NB106_117, Q_NB117_106, Q_BK116_e8, Q_BK117_e9, Q_X6_, Q_X7_⟩ hb_ hon hoff
                  refine ⟨_, rfl, fun K hK => ?_⟩
                  have e5 : a.tmps[5]? = some (.pointer (some ⟨gb103, 0, none⟩)) := by rw [ha]; exact (putSel_off rfl).trans rfl
                  replace ha := Aside0.mk ha
                  have BK101 := Aside0.mk Q_BK101
                  have BK102 := Aside0.mk Q_BK102
                  have BK103 := Aside0.mk Q_BK103
                  have BK106 := Aside0.mk Q_BK106
                  have HB := Aside0.mk Q_HB
                  have hc0_ : w'.cell? ⟨gb103, 0, none⟩ = some (.bool a2_0) := (blk_cell BK103.out 0).trans rfl
                  have hc1_ : w'.cell? ⟨gb103, 1, none⟩ = some (.int .i64 a2_1) := (blk_cell BK103.out 1).trans rfl
                  refine value_ (w1 := w') (v := .agg #[.bool a2_0, .int .i64 a2_1]) (by rfl) rfl ?_ ?_
                  · go_simp
                    (try simp only [i64_w])
                    try rfl
                  refine hK.out _ _ ⟨gb116, gb117, m6_, m7_, (by rw [ha.out]; exact putSel_upk 1 hb_ rfl rfl rfl), Q_BK101, Q_BK102, Q_BK103, Q_BK106, Q_HB, Q_NB117_116, Q_NB116_117, Q_BK116, Q_GW116, Q_GE116, Q_NB101_116, Q_NB116_101, Q_NB102_116, Q_NB116_102, Q_NB103_116, Q_NB116_103, Q_NB106_116, Q_NB116_106, Q_BK117, Q_GW117, Q_GE117, Q_NB101_117, Q_NB117_101, Q_NB102_117, Q_NB117_102, Q_NB103_117, Q_NB117_103, Q_NB106_117, Q_NB117_106, fun h0_ => absurd ((hoff 8 (by kernel_rfl)).symm.trans h0_) (by decide), fun h0_ => absurd ((hoff 9 (by kernel_rfl)).symm.trans h0_) (by decide), Q_X6_, Q_X7_⟩
                refine steps_cons ?_ ?_
                · rintro b a w' ⟨gb116, gb117, m6_, m7_, ha, Q_BK101, Q_BK102, Q_BK103, Q_BK106, Q_HB, Q_NB117_116, Q_NB116_117, Q_BK116, Q_GW116, Q_GE116, Q_NB101_116, Q_NB116_101, Q_NB102_116, Q_NB116_102, Q_NB103_116, Q_NB116_103, Q_NB106_116, Q_NB116_106, Q_BK117, Q_GW117, Q_GE117, Q_NB101_117, Q_NB117_101, Q_NB102_117, Q_NB117_102, Q_NB103_117, Q_NB117_103, Q_NB106_117, Q_NB117_106, Q_BK116_e8, Q_BK117_e9, Q_X6_, Q_X7_⟩ hb_ hon hoff
                  refine ⟨_, rfl, fun K hK => ?_⟩
                  have e51 : a.tmps[51]? = some (.agg #[.bool a0_0, .int .i64 a0_1]) := by rw [ha]; exact putSel_on (e := (0, 51, .agg #[.bool a0_0, .int .i64 a0_1])) 0 rfl rfl (hon 0 (by kernel_rfl)) rfl
                  have e52 : a.tmps[52]? = some (.agg #[.bool a2_0, .int .i64 a2_1]) := by rw [ha]; exact putSel_on (e := (1, 52, .agg #[.bool a2_0, .int .i64 a2_1])) 1 rfl rfl (hon 1 (by kernel_rfl)) rfl
                  replace ha := Aside0.mk ha
                  have BK101 := Aside0.mk Q_BK101
                  have BK102 := Aside0.mk Q_BK102
                  have BK103 := Aside0.mk Q_BK103
                  have BK106 := Aside0.mk Q_BK106
                  have HB := Aside0.mk Q_HB
                  refine goes_ Tryd.func18 (by kernel_rfl) rfl #[.agg #[.bool a0_0, .int .i64 a0_1], .agg #[.bool a2_0, .int .i64 a2_1]] (by rfl) rfl rfl (by first | (simp only [List.map_toArray, List.map_cons, List.map_nil, Act.eval, Array.getD_eq_getD_getElem?, Option.getD_some, e51, e52]; done) | (simp only [List.map_toArray, List.map_cons, List.map_nil, Act.eval, Array.getD_eq_getD_getElem?, Option.getD_some, e51, e52]; rfl)) ?_
                  with_reducible refine (fix_Add.calls kj6 a0_0 a0_1 a2_0 a2_1 false t113 _ A117.out).mono ?_
                  rintro e w138 ⟨rfl, hb⟩
                  refine ⟨_, rfl, ?_⟩
                  have n0_ := Aside0.mk (blk_below (g := gb101) (o := .cells #[.bool a0_0, .int .i64 a0_1] 25 (0, 0)) (by (with_reducible repeat (first | refine blk_drewN ?_ _ | refine blk_drew ?_ | refine blk_alloc ?_ _)); exact BK101.out) hb)
                  have n1_ := Aside0.mk (blk_below (g := gb102) (o := .cells #[.bool a1_0, .int .i64 a1_1] 25 (0, 0)) (by (with_reducible repeat (first | refine blk_drewN ?_ _ | refine blk_drew ?_ | refine blk_alloc ?_ _)); exact BK102.out) hb)
                  have n2_ := Aside0.mk (blk_below (g := gb103) (o := .cells #[.bool a2_0, .int .i64 a2_1] 25 (0, 0)) (by (with_reducible repeat (first | refine blk_drewN ?_ _ | refine blk_drew ?_ | refine blk_alloc ?_ _)); exact BK103.out) hb)
                  have n3_ := Aside0.mk (blk_below (g := gb106) (o := .cells #[.bool true, .int .i64 0] 25 (0, 0)) (by (with_reducible repeat (first | refine blk_drewN ?_ _ | refine blk_drew ?_ | refine blk_alloc ?_ _)); exact BK106.out) hb)
                  have n4_ := Aside0.mk (below_step (by repeat (first | (with_reducible first | exact HB.out | apply below_alloc | apply pw_below_drewN | apply below_drew1 | refine below_set ?_ GE101.out | refine below_set ?_ GE102.out | refine below_set ?_ GE103.out | refine below_set ?_ GE106.out) | exact HB.out)) hb)
                  have z_BK116 := fun (h0_ : b 6 = true) (h1_ : b 8 = false) => (show w138.heap[gb116]? = some (.cells #[.bool false, .int .i64 0] 25 (0, 0)) from by first | exact (blk_below (g := gb116) (o := .cells #[.bool false, .int .i64 0] 25 (0, 0)) (by (with_reducible repeat (first | refine blk_drewN ?_ _ | refine blk_drew ?_ | refine blk_alloc ?_ _)); exact (Q_BK116 h0_ h1_)) hb))
                  have z_BK117 := fun (h0_ : b 7 = true) (h1_ : b 9 = false) => (show w138.heap[gb117]? = some (.cells #[.bool false, .int .i64 0] 25 (0, 0)) from by first | exact (blk_below (g := gb117) (o := .cells #[.bool false, .int .i64 0] 25 (0, 0)) (by (with_reducible repeat (first | refine blk_drewN ?_ _ | refine blk_drew ?_ | refine blk_alloc ?_ _)); exact (Q_BK117 h0_ h1_)) hb))
                  clear BK101
                  clear BK102
                  clear BK103
                  clear BK106
                  clear HB
                  have BK101 := n0_
                  have BK102 := n1_
                  have BK103 := n2_
                  have BK106 := n3_
                  have HB := n4_
                  clear n0_ n1_ n2_ n3_ n4_
                  (try clear hb)
                  (try clear hb2)
                  (try clear hk)
                  (try clear hi)
                  refine hK.out _ _ ⟨gb116, gb117, m6_, m7_, (by rw [ha.out]; exact putSel_upk 2 hb_ rfl rfl rfl), (by (with_reducible repeat (first | refine blk_drewN ?_ _ | refine blk_drew ?_ | refine blk_alloc ?_ _)); exact BK101.out), (by (with_reducible repeat (first | refine blk_drewN ?_ _ | refine blk_drew ?_ | refine blk_alloc ?_ _)); exact BK102.out), (by (with_reducible repeat (first | refine blk_drewN ?_ _ | refine blk_drew ?_ | refine blk_alloc ?_ _)); exact BK103.out), (by (with_reducible repeat (first | refine blk_drewN ?_ _ | refine blk_drew ?_ | refine blk_alloc ?_ _)); exact BK106.out), (by repeat (first | (with_reducible first | exact HB.out | apply below_alloc | apply pw_below_drewN | apply below_drew1 | refine below_set ?_ GE101.out | refine below_set ?_ GE102.out | refine below_set ?_ GE103.out | refine below_set ?_ GE106.out) | exact HB.out)), Q_NB117_116, Q_NB116_117, z_BK116, Q_GW116, Q_GE116, Q_NB101_116, Q_NB116_101, Q_NB102_116, Q_NB116_102, Q_NB103_116, Q_NB116_103, Q_NB106_116, Q_NB116_106, z_BK117, Q_GW117, Q_GE117, Q_NB101_117, Q_NB117_101, Q_NB102_117, Q_NB117_102, Q_NB103_117, Q_NB117_103, Q_NB106_117, Q_NB117_106, fun h0_ => absurd ((hoff 8 (by kernel_rfl)).symm.trans h0_) (by decide), fun h0_ => absurd ((hoff 9 (by kernel_rfl)).symm.trans h0_) (by decide), Q_X6_, Q_X7_⟩
                refine steps_cons ?_ ?_
                · rintro b a w' ⟨gb116, gb117, m6_, m7_, ha, Q_BK101, Q_BK102, Q_BK103, Q_BK106, Q_HB, Q_NB117_116, Q_NB116_117, Q_BK116, Q_GW116, Q_GE116, Q_NB101_116, Q_NB116_101, Q_NB102_116, Q_NB116_102, Q_NB103_116, Q_NB116_103, Q_NB106_116, Q_NB116_106, Q_BK117, Q_GW117, Q_GE117, Q_NB101_117, Q_NB117_101, Q_NB102_117, Q_NB117_102, Q_NB103_117, Q_NB117_103, Q_NB106_117, Q_NB117_106, Q_BK116_e8, Q_BK117_e9, Q_X6_, Q_X7_⟩ hb_ hon hoff
                  refine ⟨_, rfl, fun K hK => ?_⟩
                  have e4 : a.tmps[4]? = some (.pointer (some ⟨gb102, 0, none⟩)) := by rw [ha]; exact (putSel_off rfl).trans rfl
                  replace ha := Aside0.mk ha
                  have BK101 := Aside0.mk Q_BK101
                  have BK102 := Aside0.mk Q_BK102
                  have BK103 := Aside0.mk Q_BK103
                  have BK106 := Aside0.mk Q_BK106
                  have HB := Aside0.mk Q_HB
                  have hc0_ : w'.cell? ⟨gb102, 0, none⟩ = some (.bool a1_0) := (blk_cell BK102.out 0).trans rfl
                  have hc1_ : w'.cell? ⟨gb102, 1, none⟩ = some (.int .i64 a1_1) := (blk_cell BK102.out 1).trans rfl
                  refine value_ (w1 := w') (v := .agg #[.bool a1_0, .int .i64 a1_1]) (by rfl) rfl ?_ ?_
                  · go_simp
                    (try simp only [i64_w])
                    try rfl
                  refine hK.out _ _ ⟨gb116, gb117, m6_, m7_, (by rw [ha.out]; exact putSel_upk 3 hb_ rfl rfl rfl), Q_BK101, Q_BK102, Q_BK103, Q_BK106, Q_HB, Q_NB117_116, Q_NB116_117, Q_BK116, Q_GW116, Q_GE116, Q_NB101_116, Q_NB116_101, Q_NB102_116, Q_NB116_102, Q_NB103_116, Q_NB116_103, Q_NB106_116, Q_NB116_106, Q_BK117, Q_GW117, Q_GE117, Q_NB101_117, Q_NB117_101, Q_NB102_117, Q_NB117_102, Q_NB103_117, Q_NB117_103, Q_NB106_117, Q_NB117_106, fun h0_ => absurd ((hoff 8 (by kernel_rfl)).symm.trans h0_) (by decide), fun h0_ => absurd ((hoff 9 (by kernel_rfl)).symm.trans h0_) (by decide), Q_X6_, Q_X7_⟩
                refine steps_cons ?_ ?_
                · rintro b a w' ⟨gb116, gb117, m6_, m7_, ha, Q_BK101, Q_BK102, Q_BK103, Q_BK106, Q_HB, Q_NB117_116, Q_NB116_117, Q_BK116, Q_GW116, Q_GE116, Q_NB101_116, Q_NB116_101, Q_NB102_116, Q_NB116_102, Q_NB103_116, Q_NB116_103, Q_NB106_116, Q_NB116_106, Q_BK117, Q_GW117, Q_GE117, Q_NB101_117, Q_NB117_101, Q_NB102_117, Q_NB117_102, Q_NB103_117, Q_NB117_103, Q_NB106_117, Q_NB117_106, Q_BK116_e8, Q_BK117_e9, Q_X6_, Q_X7_⟩ hb_ hon hoff
                  refine ⟨_, rfl, fun K hK => ?_⟩
                  have e5 : a.tmps[5]? = some (.pointer (some ⟨gb103, 0, none⟩)) := by rw [ha]; exact (putSel_off rfl).trans rfl
                  replace ha := Aside0.mk ha
                  have BK101 := Aside0.mk Q_BK101
                  have BK102 := Aside0.mk Q_BK102
                  have BK103 := Aside0.mk Q_BK103
                  have BK106 := Aside0.mk Q_BK106
                  have HB := Aside0.mk Q_HB
                  have hc0_ : w'.cell? ⟨gb103, 0, none⟩ = some (.bool a2_0) := (blk_cell BK103.out 0).trans rfl
                  have hc1_ : w'.cell? ⟨gb103, 1, none⟩ = some (.int .i64 a2_1) := (blk_cell BK103.out 1).trans rfl
                  refine value_ (w1 := w') (v := .agg #[.bool a2_0, .int .i64 a2_1]) (by rfl) rfl ?_ ?_
                  · go_simp
                    (try simp only [i64_w])
                    try rfl
                  refine hK.out _ _ ⟨gb116, gb117, m6_, m7_, (by rw [ha.out]; exact putSel_upk 4 hb_ rfl rfl rfl), Q_BK101, Q_BK102, Q_BK103, Q_BK106, Q_HB, Q_NB117_116, Q_NB116_117, Q_BK116, Q_GW116, Q_GE116, Q_NB101_116, Q_NB116_101, Q_NB102_116, Q_NB116_102, Q_NB103_116, Q_NB116_103, Q_NB106_116, Q_NB116_106, Q_BK117, Q_GW117, Q_GE117, Q_NB101_117, Q_NB117_101, Q_NB102_117, Q_NB117_102, Q_NB103_117, Q_NB117_103, Q_NB106_117, Q_NB117_106, fun h0_ => absurd ((hoff 8 (by kernel_rfl)).symm.trans h0_) (by decide), fun h0_ => absurd ((hoff 9 (by kernel_rfl)).symm.trans h0_) (by decide), Q_X6_, Q_X7_⟩
                refine steps_cons ?_ ?_
                · rintro b a w' ⟨gb116, gb117, m6_, m7_, ha, Q_BK101, Q_BK102, Q_BK103, Q_BK106, Q_HB, Q_NB117_116, Q_NB116_117, Q_BK116, Q_GW116, Q_GE116, Q_NB101_116, Q_NB116_101, Q_NB102_116, Q_NB116_102, Q_NB103_116, Q_NB116_103, Q_NB106_116, Q_NB116_106, Q_BK117, Q_GW117, Q_GE117, Q_NB101_117, Q_NB117_101, Q_NB102_117, Q_NB117_102, Q_NB103_117, Q_NB117_103, Q_NB106_117, Q_NB117_106, Q_BK116_e8, Q_BK117_e9, Q_X6_, Q_X7_⟩ hb_ hon hoff
                  refine ⟨_, rfl, fun K hK => ?_⟩
                  have e54 : a.tmps[54]? = some (.agg #[.bool a1_0, .int .i64 a1_1]) := by rw [ha]; exact putSel_on (e := (3, 54, .agg #[.bool a1_0, .int .i64 a1_1])) 3 rfl rfl (hon 3 (by kernel_rfl)) rfl
                  have e55 : a.tmps[55]? = some (.agg #[.bool a2_0, .int .i64 a2_1]) := by rw [ha]; exact putSel_on (e := (4, 55, .agg #[.bool a2_0, .int .i64 a2_1])) 4 rfl rfl (hon 4 (by kernel_rfl)) rfl
                  replace ha := Aside0.mk ha
                  have BK101 := Aside0.mk Q_BK101
                  have BK102 := Aside0.mk Q_BK102
                  have BK103 := Aside0.mk Q_BK103
                  have BK106 := Aside0.mk Q_BK106
                  have HB := Aside0.mk Q_HB
                  refine goes_ Tryd.func18 (by kernel_rfl) rfl #[.agg #[.bool a1_0, .int .i64 a1_1], .agg #[.bool a2_0, .int .i64 a2_1]] (by rfl) rfl rfl (by first | (simp only [List.map_toArray, List.map_cons, List.map_nil, Act.eval, Array.getD_eq_getD_getElem?, Option.getD_some, e54, e55]; done) | (simp only [List.map_toArray, List.map_cons, List.map_nil, Act.eval, Array.getD_eq_getD_getElem?, Option.getD_some, e54, e55]; rfl)) ?_
                  with_reducible refine (fix_Add.calls kj6 a1_0 a1_1 a2_0 a2_1 true t115 _ A118.out).mono ?_
                  rintro e w140 ⟨rfl, hb⟩
                  refine ⟨_, rfl, ?_⟩
                  have n0_ := Aside0.mk (blk_below (g := gb101) (o := .cells #[.bool a0_0, .int .i64 a0_1] 25 (0, 0)) (by (with_reducible repeat (first | refine blk_drewN ?_ _ | refine blk_drew ?_ | refine blk_alloc ?_ _)); exact BK101.out) hb)
                  have n1_ := Aside0.mk (blk_below (g := gb102) (o := .cells #[.bool a1_0, .int .i64 a1_1] 25 (0, 0)) (by (with_reducible repeat (first | refine blk_drewN ?_ _ | refine blk_drew ?_ | refine blk_alloc ?_ _)); exact BK102.out) hb)
                  have n2_ := Aside0.mk (blk_below (g := gb103) (o := .cells #[.bool a2_0, .int .i64 a2_1] 25 (0, 0)) (by (with_reducible repeat (first | refine blk_drewN ?_ _ | refine blk_drew ?_ | refine blk_alloc ?_ _)); exact BK103.out) hb)
                  have n3_ := Aside0.mk (blk_below (g := gb106) (o := .cells #[.bool true, .int .i64 0] 25 (0, 0)) (by (with_reducible repeat (first | refine blk_drewN ?_ _ | refine blk_drew ?_ | refine blk_alloc ?_ _)); exact BK106.out) hb)
                  have n4_ := Aside0.mk (below_step (by repeat (first | (with_reducible first | exact HB.out | apply below_alloc | apply pw_below_drewN | apply below_drew1 | refine below_set ?_ GE101.out | refine below_set ?_ GE102.out | refine below_set ?_ GE103.out | refine below_set ?_ GE106.out) | exact HB.out)) hb)
                  have z_BK116 := fun (h0_ : b 6 = true) (h1_ : b 8 = false) => (show w140.heap[gb116]? = some (.cells #[.bool false, .int .i64 0] 25 (0, 0)) from by first | exact (blk_below (g := gb116) (o := .cells #[.bool false, .int .i64 0] 25 (0, 0)) (by (with_reducible repeat (first | refine blk_drewN ?_ _ | refine blk_drew ?_ | refine blk_alloc ?_ _)); exact (Q_BK116 h0_ h1_)) hb))
                  have z_BK117 := fun (h0_ : b 7 = true) (h1_ : b 9 = false) => (show w140.heap[gb117]? = some (.cells #[.bool false, .int .i64 0] 25 (0, 0)) from by first | exact (blk_below (g := gb117) (o := .cells #[.bool false, .int .i64 0] 25 (0, 0)) (by (with_reducible repeat (first | refine blk_drewN ?_ _ | refine blk_drew ?_ | refine blk_alloc ?_ _)); exact (Q_BK117 h0_ h1_)) hb))
                  clear BK101
                  clear BK102
                  clear BK103
                  clear BK106
                  clear HB
                  have BK101 := n0_
                  have BK102 := n1_
                  have BK103 := n2_
                  have BK106 := n3_
                  have HB := n4_
                  clear n0_ n1_ n2_ n3_ n4_
                  (try clear hb)
                  (try clear hb2)
                  (try clear hk)
                  (try clear hi)
                  refine hK.out _ _ ⟨gb116, gb117, m6_, m7_, (by rw [ha.out]; exact putSel_upk 5 hb_ rfl rfl rfl), (by (with_reducible repeat (first | refine blk_drewN ?_ _ | refine blk_drew ?_ | refine blk_alloc ?_ _)); exact BK101.out), (by (with_reducible repeat (first | refine blk_drewN ?_ _ | refine blk_drew ?_ | refine blk_alloc ?_ _)); exact BK102.out), (by (with_reducible repeat (first | refine blk_drewN ?_ _ | refine blk_drew ?_ | refine blk_alloc ?_ _)); exact BK103.out), (by (with_reducible repeat (first | refine blk_drewN ?_ _ | refine blk_drew ?_ | refine blk_alloc ?_ _)); exact BK106.out), (by repeat (first | (with_reducible first | exact HB.out | apply below_alloc | apply pw_below_drewN | apply below_drew1 | refine below_set ?_ GE101.out | refine below_set ?_ GE102.out | refine below_set ?_ GE103.out | refine below_set ?_ GE106.out) | exact HB.out)), Q_NB117_116, Q_NB116_117, z_BK116, Q_GW116, Q_GE116, Q_NB101_116, Q_NB116_101, Q_NB102_116, Q_NB116_102, Q_NB103_116, Q_NB116_103, Q_NB106_116, Q_NB116_106, z_BK117, Q_GW117, Q_GE117, Q_NB101_117, Q_NB117_101, Q_NB102_117, Q_NB117_102, Q_NB103_117, Q_NB117_103, Q_NB106_117, Q_NB117_106, fun h0_ => absurd ((hoff 8 (by kernel_rfl)).symm.trans h0_) (by decide), fun h0_ => absurd ((hoff 9 (by kernel_rfl)).symm.trans h0_) (by decide), Q_X6_, Q_X7_⟩
                refine steps_cons ?_ ?_
                · rintro b a w' ⟨gb116, gb117, m6_, m7_, ha, Q_BK101, Q_BK102, Q_BK103, Q_BK106, Q_HB, Q_NB117_116, Q_NB116_117, Q_BK116, Q_GW116, Q_GE116, Q_NB101_116, Q_NB116_101, Q_NB102_116, Q_NB116_102, Q_NB103_116, Q_NB116_103, Q_NB106_116, Q_NB116_106, Q_BK117, Q_GW117, Q_GE117, Q_NB101_117, Q_NB117_101, Q_NB102_117, Q_NB117_102, Q_NB103_117, Q_NB117_103, Q_NB106_117, Q_NB117_106, Q_BK116_e8, Q_BK117_e9, Q_X6_, Q_X7_⟩ hb_ hon hoff
                  refine ⟨_, rfl, fun K hK => ?_⟩
                  replace ha := Aside0.mk ha
                  have BK101 := Aside0.mk Q_BK101
                  have BK102 := Aside0.mk Q_BK102
                  have BK103 := Aside0.mk Q_BK103
                  have BK106 := Aside0.mk Q_BK106
                  have HB := Aside0.mk Q_HB
                  refine box_step ?hg (N := 9) ?hd (cs := #[.bool false, .int .i64 0]) (t := 25) ?hr ?_; (case hd => rfl); (case hg => rfl); (case hr => first | (go_simp; done) | (go_simp; rfl))
                  intro gb116 hg w138 hbox hb
                  have n0_ := Aside0.mk (blk_below (g := gb101) (o := .cells #[.bool a0_0, .int .i64 a0_1] 25 (0, 0)) (by (with_reducible repeat (first | refine blk_drewN ?_ _ | refine blk_drew ?_ | refine blk_alloc ?_ _)); exact BK101.out) hb)
                  have n1_ := Aside0.mk (blk_below (g := gb102) (o := .cells #[.bool a1_0, .int .i64 a1_1] 25 (0, 0)) (by (with_reducible repeat (first | refine blk_drewN ?_ _ | refine blk_drew ?_ | refine blk_alloc ?_ _)); exact BK102.out) hb)
                  have n2_ := Aside0.mk (blk_below (g := gb103) (o := .cells #[.bool a2_0, .int .i64 a2_1] 25 (0, 0)) (by (with_reducible repeat (first | refine blk_drewN ?_ _ | refine blk_drew ?_ | refine blk_alloc ?_ _)); exact BK103.out) hb)
                  have n3_ := Aside0.mk (blk_below (g := gb106) (o := .cells #[.bool true, .int .i64 0] 25 (0, 0)) (by (with_reducible repeat (first | refine blk_drewN ?_ _ | refine blk_drew ?_ | refine blk_alloc ?_ _)); exact BK106.out) hb)
                  have n4_ := Aside0.mk (below_step (by repeat (first | (with_reducible first | exact HB.out | apply below_alloc | apply pw_below_drewN | apply below_drew1 | refine below_set ?_ GE101.out | refine below_set ?_ GE102.out | refine below_set ?_ GE103.out | refine below_set ?_ GE106.out) | exact HB.out)) hb)
                  have n5_ := Aside0.mk (hbox)
                  have n6_ := Aside0.mk ((by rw [hg]; exact (below_size (by repeat (first | (with_reducible first | exact HB.out | apply below_alloc | apply pw_below_drewN | apply below_drew1 | refine below_set ?_ GE101.out | refine below_set ?_ GE102.out | refine below_set ?_ GE103.out | refine below_set ?_ GE106.out) | exact HB.out))) : w.heap.size ≤ gb116))
                  have n7_ := Aside0.mk ((by rw [hg]; exact (below_size (by repeat (first | (with_reducible first | exact HB.out | apply below_alloc | apply pw_below_drewN | apply below_drew1 | refine below_set ?_ GE101.out | refine below_set ?_ GE102.out | refine below_set ?_ GE103.out | refine below_set ?_ GE106.out) | exact HB.out))) : w.heap.size ≤ gb116))
                  have n8_ := Aside0.mk ((by rw [hg]; exact Nat.ne_of_lt (blk_lt (g := gb101) (o := .cells #[.bool a0_0, .int .i64 a0_1] 25 (0, 0)) (by (with_reducible repeat (first | refine blk_drewN ?_ _ | refine blk_drew ?_ | refine blk_alloc ?_ _)); exact BK101.out)) : gb101 ≠ gb116))
                  have n9_ := Aside0.mk ((by rw [hg]; exact Nat.ne_of_gt (blk_lt (g := gb101) (o := .cells #[.bool a0_0, .int .i64 a0_1] 25 (0, 0)) (by (with_reducible repeat (first | refine blk_drewN ?_ _ | refine blk_drew ?_ | refine blk_alloc ?_ _)); exact BK101.out)) : gb116 ≠ gb101))
                  have n10_ := Aside0.mk ((by rw [hg]; exact Nat.ne_of_lt (blk_lt (g := gb102) (o := .cells #[.bool a1_0, .int .i64 a1_1] 25 (0, 0)) (by (with_reducible repeat (first | refine blk_drewN ?_ _ | refine blk_drew ?_ | refine blk_alloc ?_ _)); exact BK102.out)) : gb102 ≠ gb116))
                  have n11_ := Aside0.mk ((by rw [hg]; exact Nat.ne_of_gt (blk_lt (g := gb102) (o := .cells #[.bool a1_0, .int .i64 a1_1] 25 (0, 0)) (by (with_reducible repeat (first | refine blk_drewN ?_ _ | refine blk_drew ?_ | refine blk_alloc ?_ _)); exact BK102.out)) : gb116 ≠ gb102))
                  have n12_ := Aside0.mk ((by rw [hg]; exact Nat.ne_of_lt (blk_lt (g := gb103) (o := .cells #[.bool a2_0, .int .i64 a2_1] 25 (0, 0)) (by (with_reducible repeat (first | refine blk_drewN ?_ _ | refine blk_drew ?_ | refine blk_alloc ?_ _)); exact BK103.out)) : gb103 ≠ gb116))
                  have n13_ := Aside0.mk ((by rw [hg]; exact Nat.ne_of_gt (blk_lt (g := gb103) (o := .cells #[.bool a2_0, .int .i64 a2_1] 25 (0, 0)) (by (with_reducible repeat (first | refine blk_drewN ?_ _ | refine blk_drew ?_ | refine blk_alloc ?_ _)); exact BK103.out)) : gb116 ≠ gb103))
                  have n14_ := Aside0.mk ((by rw [hg]; exact Nat.ne_of_lt (blk_lt (g := gb106) (o := .cells #[.bool true, .int .i64 0] 25 (0, 0)) (by (with_reducible repeat (first | refine blk_drewN ?_ _ | refine blk_drew ?_ | refine blk_alloc ?_ _)); exact BK106.out)) : gb106 ≠ gb116))
                  have n15_ := Aside0.mk ((by rw [hg]; exact Nat.ne_of_gt (blk_lt (g := gb106) (o := .cells #[.bool true, .int .i64 0] 25 (0, 0)) (by (with_reducible repeat (first | refine blk_drewN ?_ _ | refine blk_drew ?_ | refine blk_alloc ?_ _)); exact BK106.out)) : gb116 ≠ gb106))
                  have z_NB117_116 := fun (h0_ : up b 6 6 = true) (h1_ : up b 6 7 = true) => (show gb117 ≠ gb116 from ((by rw [hg]; cases h9_ : b 9 with | false => exact Nat.ne_of_lt (blk_lt (Q_BK117 h1_ h9_)) | true => exact Nat.ne_of_lt (blk_lt (Q_BK117_e9 h9_)) : gb117 ≠ gb116)))
                  have z_NB116_117 := fun (h0_ : up b 6 6 = true) (h1_ : up b 6 7 = true) => (show gb116 ≠ gb117 from ((by rw [hg]; cases h9_ : b 9 with | false => exact Nat.ne_of_gt (blk_lt (Q_BK117 h1_ h9_)) | true => exact Nat.ne_of_gt (blk_lt (Q_BK117_e9 h9_)) : gb116 ≠ gb117)))
                  have z_BK117 := fun (h0_ : b 7 = true) (h1_ : b 9 = false) => (show w138.heap[gb117]? = some (.cells #[.bool false, .int .i64 0] 25 (0, 0)) from by first | exact (blk_below (g := gb117) (o := .cells #[.bool false, .int .i64 0] 25 (0, 0)) (by (with_reducible repeat (first | refine blk_drewN ?_ _ | refine blk_drew ?_ | refine blk_alloc ?_ _)); exact (Q_BK117 h0_ h1_)) hb))
                  clear BK101
                  clear BK102
                  clear BK103
                  clear BK106
                  clear HB
                  have BK101 := n0_
                  have BK102 := n1_
                  have BK103 := n2_
                  have BK106 := n3_
                  have HB := n4_
                  have BK116 := n5_
                  have GW116 := n6_
                  have GE116 := n7_
                  have NB101_116 := n8_
                  have NB116_101 := n9_
                  have NB102_116 := n10_
                  have NB116_102 := n11_
                  have NB103_116 := n12_
                  have NB116_103 := n13_
                  have NB106_116 := n14_
                  have NB116_106 := n15_
                  clear n0_ n1_ n2_ n3_ n4_ n5_ n6_ n7_ n8_ n9_ n10_ n11_ n12_ n13_ n14_ n15_
                  clear hb hbox hg
                  refine hK.out _ _ ⟨gb116, gb117, (.pointer (some ⟨gb116, 0, none⟩)), m7_, (by rw [ha.out]; exact putSel_upk 6 hb_ rfl rfl rfl), (by (with_reducible repeat (first | refine blk_drewN ?_ _ | refine blk_drew ?_ | refine blk_alloc ?_ _)); exact BK101.out), (by (with_reducible repeat (first | refine blk_drewN ?_ _ | refine blk_drew ?_ | refine blk_alloc ?_ _)); exact BK102.out), (by (with_reducible repeat (first | refine blk_drewN ?_ _ | refine blk_drew ?_ | refine blk_alloc ?_ _)); exact BK103.out), (by (with_reducible repeat (first | refine blk_drewN ?_ _ | refine blk_drew ?_ | refine blk_alloc ?_ _)); exact BK106.out), (by repeat (first | (with_reducible first | exact HB.out | apply below_alloc | apply pw_below_drewN | apply below_drew1 | refine below_set ?_ GE101.out | refine below_set ?_ GE102.out | refine below_set ?_ GE103.out | refine below_set ?_ GE106.out | refine below_set ?_ GE116.out) | exact HB.out)), @z_NB117_116, @z_NB116_117, fun _ _ => (by (with_reducible repeat (first | refine blk_drewN ?_ _ | refine blk_drew ?_ | refine blk_alloc ?_ _)); exact BK116.out), fun _ => GW116.out, fun _ => GE116.out, fun _ => NB101_116.out, fun _ => NB116_101.out, fun _ => NB102_116.out, fun _ => NB116_102.out, fun _ => NB103_116.out, fun _ => NB116_103.out, fun _ => NB106_116.out, fun _ => NB116_106.out, z_BK117, Q_GW117, Q_GE117, Q_NB101_117, Q_NB117_101, Q_NB102_117, Q_NB117_102, Q_NB103_117, Q_NB117_103, Q_NB106_117, Q_NB117_106, fun h0_ => absurd ((hoff 8 (by kernel_rfl)).symm.trans h0_) (by decide), fun h0_ => absurd ((hoff 9 (by kernel_rfl)).symm.trans h0_) (by decide), fun _ => rfl, Q_X7_⟩
                refine steps_cons ?_ ?_
                · rintro b a w' ⟨gb116, gb117, m6_, m7_, ha, Q_BK101, Q_BK102, Q_BK103, Q_BK106, Q_HB, Q_NB117_116, Q_NB116_117, Q_BK116, Q_GW116, Q_GE116, Q_NB101_116, Q_NB116_101, Q_NB102_116, Q_NB116_102, Q_NB103_116, Q_NB116_103, Q_NB106_116, Q_NB116_106, Q_BK117, Q_GW117, Q_GE117, Q_NB101_117, Q_NB117_101, Q_NB102_117, Q_NB117_102, Q_NB103_117, Q_NB117_103, Q_NB106_117, Q_NB117_106, Q_BK116_e8, Q_BK117_e9, Q_X6_, Q_X7_⟩ hb_ hon hoff
                  refine ⟨_, rfl, fun K hK => ?_⟩
                  replace ha := Aside0.mk ha
                  have BK101 := Aside0.mk Q_BK101
                  have BK102 := Aside0.mk Q_BK102
                  have BK103 := Aside0.mk Q_BK103
                  have BK106 := Aside0.mk Q_BK106
                  have HB := Aside0.mk Q_HB
                  refine box_step ?hg (N := 10) ?hd (cs := #[.bool false, .int .i64 0]) (t := 25) ?hr ?_; (case hd => rfl); (case hg => rfl); (case hr => first | (go_simp; done) | (go_simp; rfl))
                  intro gb117 hg w138 hbox hb
                  have n0_ := Aside0.mk (blk_below (g := gb101) (o := .cells #[.bool a0_0, .int .i64 a0_1] 25 (0, 0)) (by (with_reducible repeat (first | refine blk_drewN ?_ _ | refine blk_drew ?_ | refine blk_alloc ?_ _)); exact BK101.out) hb)
                  have n1_ := Aside0.mk (blk_below (g := gb102) (o := .cells #[.bool a1_0, .int .i64 a1_1] 25 (0, 0)) (by (with_reducible repeat (first | refine blk_drewN ?_ _ | refine blk_drew ?_ | refine blk_alloc ?_ _)); exact BK102.out) hb)
                  have n2_ := Aside0.mk (blk_below (g := gb103) (o := .cells #[.bool a2_0, .int .i64 a2_1] 25 (0, 0)) (by (with_reducible repeat (first | refine blk_drewN ?_ _ | refine blk_drew ?_ | refine blk_alloc ?_ _)); exact BK103.out) hb)
                  have n3_ := Aside0.mk (blk_below (g := gb106) (o := .cells #[.bool true, .int .i64 0] 25 (0, 0)) (by (with_reducible repeat (first | refine blk_drewN ?_ _ | refine blk_drew ?_ | refine blk_alloc ?_ _)); exact BK106.out) hb)
                  have n4_ := Aside0.mk (below_step (by repeat (first | (with_reducible first | exact HB.out | apply below_alloc | apply pw_below_drewN | apply below_drew1 | refine below_set ?_ GE101.out | refine below_set ?_ GE102.out | refine below_set ?_ GE103.out | refine below_set ?_ GE106.out) | exact HB.out)) hb)
                  have n5_ := Aside0.mk (hbox)
                  have n6_ := Aside0.mk ((by rw [hg]; exact (below_size (by repeat (first | (with_reducible first | exact HB.out | apply below_alloc | apply pw_below_drewN | apply below_drew1 | refine below_set ?_ GE101.out | refine below_set ?_ GE102.out | refine below_set ?_ GE103.out | refine below_set ?_ GE106.out) | exact HB.out))) : w.heap.size ≤ gb117))
                  have n7_ := Aside0.mk ((by rw [hg]; exact (below_size (by repeat (first | (with_reducible first | exact HB.out | apply below_alloc | apply pw_below_drewN | apply below_drew1 | refine below_set ?_ GE101.out | refine below_set ?_ GE102.out | refine below_set ?_ GE103.out | refine below_set ?_ GE106.out) | exact HB.out))) : w.heap.size ≤ gb117))
                  have n8_ := Aside0.mk ((by rw [hg]; exact Nat.ne_of_lt (blk_lt (g := gb101) (o := .cells #[.bool a0_0, .int .i64 a0_1] 25 (0, 0)) (by (with_reducible repeat (first | refine blk_drewN ?_ _ | refine blk_drew ?_ | refine blk_alloc ?_ _)); exact BK101.out)) : gb101 ≠ gb117))
                  have n9_ := Aside0.mk ((by rw [hg]; exact Nat.ne_of_gt (blk_lt (g := gb101) (o := .cells #[.bool a0_0, .int .i64 a0_1] 25 (0, 0)) (by (with_reducible repeat (first | refine blk_drewN ?_ _ | refine blk_drew ?_ | refine blk_alloc ?_ _)); exact BK101.out)) : gb117 ≠ gb101))
                  have n10_ := Aside0.mk ((by rw [hg]; exact Nat.ne_of_lt (blk_lt (g := gb102) (o := .cells #[.bool a1_0, .int .i64 a1_1] 25 (0, 0)) (by (with_reducible repeat (first | refine blk_drewN ?_ _ | refine blk_drew ?_ | refine blk_alloc ?_ _)); exact BK102.out)) : gb102 ≠ gb117))
                  have n11_ := Aside0.mk ((by rw [hg]; exact Nat.ne_of_gt (blk_lt (g := gb102) (o := .cells #[.bool a1_0, .int .i64 a1_1] 25 (0, 0)) (by (with_reducible repeat (first | refine blk_drewN ?_ _ | refine blk_drew ?_ | refine blk_alloc ?_ _)); exact BK102.out)) : gb117 ≠ gb102))
                  have n12_ := Aside0.mk ((by rw [hg]; exact Nat.ne_of_lt (blk_lt (g := gb103) (o := .cells #[.bool a2_0, .int .i64 a2_1] 25 (0, 0)) (by (with_reducible repeat (first | refine blk_drewN ?_ _ | refine blk_drew ?_ | refine blk_alloc ?_ _)); exact BK103.out)) : gb103 ≠ gb117))
                  have n13_ := Aside0.mk ((by rw [hg]; exact Nat.ne_of_gt (blk_lt (g := gb103) (o := .cells #[.bool a2_0, .int .i64 a2_1] 25 (0, 0)) (by (with_reducible repeat (first | refine blk_drewN ?_ _ | refine blk_drew ?_ | refine blk_alloc ?_ _)); exact BK103.out)) : gb117 ≠ gb103))
                  have n14_ := Aside0.mk ((by rw [hg]; exact Nat.ne_of_lt (blk_lt (g := gb106) (o := .cells #[.bool true, .int .i64 0] 25 (0, 0)) (by (with_reducible repeat (first | refine blk_drewN ?_ _ | refine blk_drew ?_ | refine blk_alloc ?_ _)); exact BK106.out)) : gb106 ≠ gb117))
                  have n15_ := Aside0.mk ((by rw [hg]; exact Nat.ne_of_gt (blk_lt (g := gb106) (o := .cells #[.bool true, .int .i64 0] 25 (0, 0)) (by (with_reducible repeat (first | refine blk_drewN ?_ _ | refine blk_drew ?_ | refine blk_alloc ?_ _)); exact BK106.out)) : gb117 ≠ gb106))
                  have z_NB117_116 := fun (h0_ : up b 7 6 = true) (h1_ : up b 7 7 = true) => (show gb117 ≠ gb116 from ((by rw [hg]; cases h9_ : b 8 with | false => exact Nat.ne_of_gt (blk_lt (Q_BK116 h0_ h9_)) | true => exact Nat.ne_of_gt (blk_lt (Q_BK116_e8 h9_)) : gb117 ≠ gb116)))
                  have z_NB116_117 := fun (h0_ : up b 7 6 = true) (h1_ : up b 7 7 = true) => (show gb116 ≠ gb117 from ((by rw [hg]; cases h9_ : b 8 with | false => exact Nat.ne_of_lt (blk_lt (Q_BK116 h0_ h9_)) | true => exact Nat.ne_of_lt (blk_lt (Q_BK116_e8 h9_)) : gb116 ≠ gb117)))
                  have z_BK116 := fun (h0_ : b 6 = true) (h1_ : b 8 = false) => (show w138.heap[gb116]? = some (.cells #[.bool false, .int .i64 0] 25 (0, 0)) from by first | exact (blk_below (g := gb116) (o := .cells #[.bool false, .int .i64 0] 25 (0, 0)) (by (with_reducible repeat (first | refine blk_drewN ?_ _ | refine blk_drew ?_ | refine blk_alloc ?_ _)); exact (Q_BK116 h0_ h1_)) hb))
                  clear BK101
                  clear BK102
                  clear BK103
                  clear BK106
                  clear HB
                  have BK101 := n0_
                  have BK102 := n1_
                  have BK103 := n2_
                  have BK106 := n3_
                  have HB := n4_
                  have BK117 := n5_
                  have GW117 := n6_
                  have GE117 := n7_
                  have NB101_117 := n8_
                  have NB117_101 := n9_
                  have NB102_117 := n10_
                  have NB117_102 := n11_
                  have NB103_117 := n12_
                  have NB117_103 := n13_
                  have NB106_117 := n14_
                  have NB117_106 := n15_
                  clear n0_ n1_ n2_ n3_ n4_ n5_ n6_ n7_ n8_ n9_ n10_ n11_ n12_ n13_ n14_ n15_
                  clear hb hbox hg
                  refine hK.out _ _ ⟨gb116, gb117, m6_, (.pointer (some ⟨gb117, 0, none⟩)), (by rw [ha.out]; exact putSel_upk 7 hb_ rfl rfl rfl), (by (with_reducible repeat (first | refine blk_drewN ?_ _ | refine blk_drew ?_ | refine blk_alloc ?_ _)); exact BK101.out), (by (with_reducible repeat (first | refine blk_drewN ?_ _ | refine blk_drew ?_ | refine blk_alloc ?_ _)); exact BK102.out), (by (with_reducible repeat (first | refine blk_drewN ?_ _ | refine blk_drew ?_ | refine blk_alloc ?_ _)); exact BK103.out), (by (with_reducible repeat (first | refine blk_drewN ?_ _ | refine blk_drew ?_ | refine blk_alloc ?_ _)); exact BK106.out), (by repeat (first | (with_reducible first | exact HB.out | apply below_alloc | apply pw_below_drewN | apply below_drew1 | refine below_set ?_ GE101.out | refine below_set ?_ GE102.out | refine below_set ?_ GE103.out | refine below_set ?_ GE106.out | refine below_set ?_ GE117.out) | exact HB.out)), @z_NB117_116, @z_NB116_117, z_BK116, Q_GW116, Q_GE116, Q_NB101_116, Q_NB116_101, Q_NB102_116, Q_NB116_102, Q_NB103_116, Q_NB116_103, Q_NB106_116, Q_NB116_106, fun _ _ => (by (with_reducible repeat (first | refine blk_drewN ?_ _ | refine blk_drew ?_ | refine blk_alloc ?_ _)); exact BK117.out), fun _ => GW117.out, fun _ => GE117.out, fun _ => NB101_117.out, fun _ => NB117_101.out, fun _ => NB102_117.out, fun _ => NB117_102.out, fun _ => NB103_117.out, fun _ => NB117_103.out, fun _ => NB106_117.out, fun _ => NB117_106.out, fun h0_ => absurd ((hoff 8 (by kernel_rfl)).symm.trans h0_) (by decide), fun h0_ => absurd ((hoff 9 (by kernel_rfl)).symm.trans h0_) (by decide), Q_X6_, fun _ => rfl⟩
                refine steps_cons ?_ ?_
                · rintro b a w' ⟨gb116, gb117, m6_, m7_, ha, Q_BK101, Q_BK102, Q_BK103, Q_BK106, Q_HB, Q_NB117_116, Q_NB116_117, Q_BK116, Q_GW116, Q_GE116, Q_NB101_116, Q_NB116_101, Q_NB102_116, Q_NB116_102, Q_NB103_116, Q_NB116_103, Q_NB106_116, Q_NB116_106, Q_BK117, Q_GW117, Q_GE117, Q_NB101_117, Q_NB117_101, Q_NB102_117, Q_NB117_102, Q_NB103_117, Q_NB117_103, Q_NB106_117, Q_NB117_106, Q_BK116_e8, Q_BK117_e9, Q_X6_, Q_X7_⟩ hb_ hon hoff
                  refine ⟨_, rfl, fun K hK => ?_⟩
                  have e9 : a.tmps[9]? = some (m6_) := by rw [ha]; exact putSel_on (e := (6, 9, m6_)) 6 rfl rfl (hon 6 (by kernel_rfl)) rfl
                  rw [Q_X6_ (hon 6 (by kernel_rfl))] at e9
                  have e53 : a.tmps[53]? = some (.agg #[.bool false, .int .i64 t113]) := by rw [ha]; exact putSel_on (e := (2, 53, .agg #[.bool false, .int .i64 t113])) 2 rfl rfl (hon 2 (by kernel_rfl)) rfl
                  replace ha := Aside0.mk ha
                  have BK101 := Aside0.mk Q_BK101
                  have BK102 := Aside0.mk Q_BK102
                  have BK103 := Aside0.mk Q_BK103
                  have BK106 := Aside0.mk Q_BK106
                  have HB := Aside0.mk Q_HB
                  have NB117_116 := Aside0.mk (Q_NB117_116 (hon 6 (by kernel_rfl)) (hon 7 (by kernel_rfl)))
                  have NB116_117 := Aside0.mk (Q_NB116_117 (hon 6 (by kernel_rfl)) (hon 7 (by kernel_rfl)))
                  have BK116 := Aside0.mk (Q_BK116 (hon 6 (by kernel_rfl)) hb_)
                  have GW116 := Aside0.mk (Q_GW116 (hon 6 (by kernel_rfl)))
                  have GE116 := Aside0.mk (Q_GE116 (hon 6 (by kernel_rfl)))
                  have NB101_116 := Aside0.mk (Q_NB101_116 (hon 6 (by kernel_rfl)))
                  have NB116_101 := Aside0.mk (Q_NB116_101 (hon 6 (by kernel_rfl)))
                  have NB102_116 := Aside0.mk (Q_NB102_116 (hon 6 (by kernel_rfl)))
                  have NB116_102 := Aside0.mk (Q_NB116_102 (hon 6 (by kernel_rfl)))
                  have NB103_116 := Aside0.mk (Q_NB103_116 (hon 6 (by kernel_rfl)))
                  have NB116_103 := Aside0.mk (Q_NB116_103 (hon 6 (by kernel_rfl)))
                  have NB106_116 := Aside0.mk (Q_NB106_116 (hon 6 (by kernel_rfl)))
                  have NB116_106 := Aside0.mk (Q_NB116_106 (hon 6 (by kernel_rfl)))
                  have BK117 := Aside0.mk (Q_BK117 (hon 7 (by kernel_rfl)) (hoff 9 (by kernel_rfl)))
                  have GW117 := Aside0.mk (Q_GW117 (hon 7 (by kernel_rfl)))
                  have GE117 := Aside0.mk (Q_GE117 (hon 7 (by kernel_rfl)))
                  have NB101_117 := Aside0.mk (Q_NB101_117 (hon 7 (by kernel_rfl)))
                  have NB117_101 := Aside0.mk (Q_NB117_101 (hon 7 (by kernel_rfl)))
                  have NB102_117 := Aside0.mk (Q_NB102_117 (hon 7 (by kernel_rfl)))
                  have NB117_102 := Aside0.mk (Q_NB117_102 (hon 7 (by kernel_rfl)))
                  have NB103_117 := Aside0.mk (Q_NB103_117 (hon 7 (by kernel_rfl)))
                  have NB117_103 := Aside0.mk (Q_NB117_103 (hon 7 (by kernel_rfl)))
                  have NB106_117 := Aside0.mk (Q_NB106_117 (hon 7 (by kernel_rfl)))
                  have NB117_106 := Aside0.mk (Q_NB117_106 (hon 7 (by kernel_rfl)))
                  have hs143 : w'.cell? ⟨gb116, 0, none⟩ = some (.bool false) := (blk_cell BK116.out 0).trans rfl
                  have hfs143 := blk_frozen BK116.out 0
                  have hns143_0 := NB101_116.out
                  have hns143_1 := NB102_116.out
                  have hns143_2 := NB103_116.out
                  have hns143_3 := NB106_116.out
                  have hns143_5 := NB117_116.out
                  have hms143_0 := NB116_101.out
                  have hms143_1 := NB116_102.out
                  have hms143_2 := NB116_103.out
                  have hms143_3 := NB116_106.out
                  have hms143_5 := NB116_117.out
                  have hs144 : w'.cell? ⟨gb116, 1, none⟩ = some (.int .i64 0) := (blk_cell BK116.out 1).trans rfl
                  have hfs144 := blk_frozen BK116.out 1
                  have hns144_0 := NB101_116.out
                  have hns144_1 := NB102_116.out
                  have hns144_2 := NB103_116.out
                  have hns144_3 := NB106_116.out
                  have hns144_5 := NB117_116.out
                  have hms144_0 := NB116_101.out
                  have hms144_1 := NB116_102.out
                  have hms144_2 := NB116_103.out
                  have hms144_3 := NB116_106.out
                  have hms144_5 := NB116_117.out
                  refine skip_ (w1 := ?_) (by rfl) rfl ?_ ?_
                  rotate_left
                  · go_simp
                    rfl
                  refine hK.out _ _ ⟨gb116, gb117, m6_, m7_, (by rw [ha.out]; exact putSel_none (v := undef) rfl), (by (with_reducible repeat (first | refine blk_drewN ?_ _ | refine blk_drew ?_ | refine blk_alloc ?_ _)); refine blk_far ?_ NB101_116.out _; (with_reducible repeat (first | refine blk_drewN ?_ _ | refine blk_drew ?_ | refine blk_alloc ?_ _)); refine blk_far ?_ NB101_116.out _; (with_reducible repeat (first | refine blk_drewN ?_ _ | refine blk_drew ?_ | refine blk_alloc ?_ _)); exact BK101.out), (by (with_reducible repeat (first | refine blk_drewN ?_ _ | refine blk_drew ?_ | refine blk_alloc ?_ _)); refine blk_far ?_ NB102_116.out _; (with_reducible repeat (first | refine blk_drewN ?_ _ | refine blk_drew ?_ | refine blk_alloc ?_ _)); refine blk_far ?_ NB102_116.out _; (with_reducible repeat (first | refine blk_drewN ?_ _ | refine blk_drew ?_ | refine blk_alloc ?_ _)); exact BK102.out), (by (with_reducible repeat (first | refine blk_drewN ?_ _ | refine blk_drew ?_ | refine blk_alloc ?_ _)); refine blk_far ?_ NB103_116.out _; (with_reducible repeat (first | refine blk_drewN ?_ _ | refine blk_drew ?_ | refine blk_alloc ?_ _)); refine blk_far ?_ NB103_116.out _; (with_reducible repeat (first | refine blk_drewN ?_ _ | refine blk_drew ?_ | refine blk_alloc ?_ _)); exact BK103.out), (by (with_reducible repeat (first | refine blk_drewN ?_ _ | refine blk_drew ?_ | refine blk_alloc ?_ _)); refine blk_far ?_ NB106_116.out _; (with_reducible repeat (first | refine blk_drewN ?_ _ | refine blk_drew ?_ | refine blk_alloc ?_ _)); refine blk_far ?_ NB106_116.out _; (with_reducible repeat (first | refine blk_drewN ?_ _ | refine blk_drew ?_ | refine blk_alloc ?_ _)); exact BK106.out), (by repeat (first | (with_reducible first | exact HB.out | apply below_alloc | apply pw_below_drewN | apply below_drew1 | refine below_set ?_ GE101.out | refine below_set ?_ GE102.out | refine below_set ?_ GE103.out | refine below_set ?_ GE106.out | refine below_set ?_ GE116.out | refine below_set ?_ GE117.out) | exact HB.out)), fun _ _ => NB117_116.out, fun _ _ => NB116_117.out, fun _ h1_ => absurd ((up_self b 8).symm.trans h1_) (by decide), fun _ => GW116.out, fun _ => GE116.out, fun _ => NB101_116.out, fun _ => NB116_101.out, fun _ => NB102_116.out, fun _ => NB116_102.out, fun _ => NB103_116.out, fun _ => NB116_103.out, fun _ => NB106_116.out, fun _ => NB116_106.out, fun _ _ => (by (with_reducible repeat (first | refine blk_drewN ?_ _ | refine blk_drew ?_ | refine blk_alloc ?_ _)); refine blk_far ?_ NB117_116.out _; (with_reducible repeat (first | refine blk_drewN ?_ _ | refine blk_drew ?_ | refine blk_alloc ?_ _)); refine blk_far ?_ NB117_116.out _; (with_reducible repeat (first | refine blk_drewN ?_ _ | refine blk_drew ?_ | refine blk_alloc ?_ _)); exact BK117.out), fun _ => GW117.out, fun _ => GE117.out, fun _ => NB101_117.out, fun _ => NB117_101.out, fun _ => NB102_117.out, fun _ => NB117_102.out, fun _ => NB103_117.out, fun _ => NB117_103.out, fun _ => NB106_117.out, fun _ => NB117_106.out, fun _ => (by (with_reducible repeat (first | refine blk_drewN ?_ _ | refine blk_drew ?_ | refine blk_alloc ?_ _)); refine blk_put (cs := #[.bool false, .int .i64 0]) ?_ 1 _ rfl; (with_reducible repeat (first | refine blk_drewN ?_ _ | refine blk_drew ?_ | refine blk_alloc ?_ _)); refine blk_put (cs := #[.bool false, .int .i64 0]) ?_ 0 _ rfl; (with_reducible repeat (first | refine blk_drewN ?_ _ | refine blk_drew ?_ | refine blk_alloc ?_ _)); exact BK116.out), fun h0_ => absurd ((hoff 9 (by kernel_rfl)).symm.trans h0_) (by decide), Q_X6_, Q_X7_⟩
                refine steps_cons ?_ ?_
                · rintro b a w' ⟨gb116, gb117, m6_, m7_, ha, Q_BK101, Q_BK102, Q_BK103, Q_BK106, Q_HB, Q_NB117_116, Q_NB116_117, Q_BK116, Q_GW116, Q_GE116, Q_NB101_116, Q_NB116_101, Q_NB102_116, Q_NB116_102, Q_NB103_116, Q_NB116_103, Q_NB106_116, Q_NB116_106, Q_BK117, Q_GW117, Q_GE117, Q_NB101_117, Q_NB117_101, Q_NB102_117, Q_NB117_102, Q_NB103_117, Q_NB117_103, Q_NB106_117, Q_NB117_106, Q_BK116_e8, Q_BK117_e9, Q_X6_, Q_X7_⟩ hb_ hon hoff
                  refine ⟨_, rfl, fun K hK => ?_⟩
                  have e10 : a.tmps[10]? = some (m7_) := by rw [ha]; exact putSel_on (e := (7, 10, m7_)) 7 rfl rfl (hon 7 (by kernel_rfl)) rfl
                  rw [Q_X7_ (hon 7 (by kernel_rfl))] at e10
                  have e56 : a.tmps[56]? = some (.agg #[.bool true, .int .i64 t115]) := by rw [ha]; exact putSel_on (e := (5, 56, .agg #[.bool true, .int .i64 t115])) 5 rfl rfl (hon 5 (by kernel_rfl)) rfl
                  replace ha := Aside0.mk ha
                  have BK101 := Aside0.mk Q_BK101
                  have BK102 := Aside0.mk Q_BK102
                  have BK103 := Aside0.mk Q_BK103
                  have BK106 := Aside0.mk Q_BK106
                  have HB := Aside0.mk Q_HB
                  have NB117_116 := Aside0.mk (Q_NB117_116 (hon 6 (by kernel_rfl)) (hon 7 (by kernel_rfl)))
                  have NB116_117 := Aside0.mk (Q_NB116_117 (hon 6 (by kernel_rfl)) (hon 7 (by kernel_rfl)))
                  have GW116 := Aside0.mk (Q_GW116 (hon 6 (by kernel_rfl)))
                  have GE116 := Aside0.mk (Q_GE116 (hon 6 (by kernel_rfl)))
                  have NB101_116 := Aside0.mk (Q_NB101_116 (hon 6 (by kernel_rfl)))
                  have NB116_101 := Aside0.mk (Q_NB116_101 (hon 6 (by kernel_rfl)))
                  have NB102_116 := Aside0.mk (Q_NB102_116 (hon 6 (by kernel_rfl)))
                  have NB116_102 := Aside0.mk (Q_NB116_102 (hon 6 (by kernel_rfl)))
                  have NB103_116 := Aside0.mk (Q_NB103_116 (hon 6 (by kernel_rfl)))
                  have NB116_103 := Aside0.mk (Q_NB116_103 (hon 6 (by kernel_rfl)))
                  have NB106_116 := Aside0.mk (Q_NB106_116 (hon 6 (by kernel_rfl)))
                  have NB116_106 := Aside0.mk (Q_NB116_106 (hon 6 (by kernel_rfl)))
                  have BK117 := Aside0.mk (Q_BK117 (hon 7 (by kernel_rfl)) hb_)
                  have GW117 := Aside0.mk (Q_GW117 (hon 7 (by kernel_rfl)))
                  have GE117 := Aside0.mk (Q_GE117 (hon 7 (by kernel_rfl)))
                  have NB101_117 := Aside0.mk (Q_NB101_117 (hon 7 (by kernel_rfl)))
                  have NB117_101 := Aside0.mk (Q_NB117_101 (hon 7 (by kernel_rfl)))
                  have NB102_117 := Aside0.mk (Q_NB102_117 (hon 7 (by kernel_rfl)))
                  have NB117_102 := Aside0.mk (Q_NB117_102 (hon 7 (by kernel_rfl)))
                  have NB103_117 := Aside0.mk (Q_NB103_117 (hon 7 (by kernel_rfl)))
                  have NB117_103 := Aside0.mk (Q_NB117_103 (hon 7 (by kernel_rfl)))
                  have NB106_117 := Aside0.mk (Q_NB106_117 (hon 7 (by kernel_rfl)))
                  have NB117_106 := Aside0.mk (Q_NB117_106 (hon 7 (by kernel_rfl)))
                  have BK116 := Aside0.mk (Q_BK116_e8 (hon 8 (by kernel_rfl)))
                  have hs145 : w'.cell? ⟨gb117, 0, none⟩ = some (.bool false) := (blk_cell BK117.out 0).trans rfl
                  have hfs145 := blk_frozen BK117.out 0
                  have hns145_0 := NB101_117.out
                  have hns145_1 := NB102_117.out
                  have hns145_2 := NB103_117.out
                  have hns145_3 := NB106_117.out
                  have hns145_4 := NB116_117.out
                  have hms145_0 := NB117_101.out
                  have hms145_1 := NB117_102.out
                  have hms145_2 := NB117_103.out
                  have hms145_3 := NB117_106.out
                  have hms145_4 := NB117_116.out
                  have hs146 : w'.cell? ⟨gb117, 1, none⟩ = some (.int .i64 0) := (blk_cell BK117.out 1).trans rfl
                  have hfs146 := blk_frozen BK117.out 1
                  have hns146_0 := NB101_117.out
                  have hns146_1 := NB102_117.out
                  have hns146_2 := NB103_117.out
                  have hns146_3 := NB106_117.out
                  have hns146_4 := NB116_117.out
                  have hms146_0 := NB117_101.out
                  have hms146_1 := NB117_102.out
                  have hms146_2 := NB117_103.out
                  have hms146_3 := NB117_106.out
                  have hms146_4 := NB117_116.out
                  refine skip_ (w1 := ?_) (by rfl) rfl ?_ ?_
                  rotate_left
                  · go_simp
                    rfl
                  refine hK.out _ _ ⟨gb116, gb117, m6_, m7_, (by rw [ha.out]; exact putSel_none (v := undef) rfl), (by (with_reducible repeat (first | refine blk_drewN ?_ _ | refine blk_drew ?_ | refine blk_alloc ?_ _)); refine blk_far ?_ NB101_117.out _; (with_reducible repeat (first | refine blk_drewN ?_ _ | refine blk_drew ?_ | refine blk_alloc ?_ _)); refine blk_far ?_ NB101_117.out _; (with_reducible repeat (first | refine blk_drewN ?_ _ | refine blk_drew ?_ | refine blk_alloc ?_ _)); exact BK101.out), (by (with_reducible repeat (first | refine blk_drewN ?_ _ | refine blk_drew ?_ | refine blk_alloc ?_ _)); refine blk_far ?_ NB102_117.out _; (with_reducible repeat (first | refine blk_drewN ?_ _ | refine blk_drew ?_ | refine blk_alloc ?_ _)); refine blk_far ?_ NB102_117.out _; (with_reducible repeat (first | refine blk_drewN ?_ _ | refine blk_drew ?_ | refine blk_alloc ?_ _)); exact BK102.out), (by (with_reducible repeat (first | refine blk_drewN ?_ _ | refine blk_drew ?_ | refine blk_alloc ?_ _)); refine blk_far ?_ NB103_117.out _; (with_reducible repeat (first | refine blk_drewN ?_ _ | refine blk_drew ?_ | refine blk_alloc ?_ _)); refine blk_far ?_ NB103_117.out _; (with_reducible repeat (first | refine blk_drewN ?_ _ | refine blk_drew ?_ | refine blk_alloc ?_ _)); exact BK103.out), (by (with_reducible repeat (first | refine blk_drewN ?_ _ | refine blk_drew ?_ | refine blk_alloc ?_ _)); refine blk_far ?_ NB106_117.out _; (with_reducible repeat (first | refine blk_drewN ?_ _ | refine blk_drew ?_ | refine blk_alloc ?_ _)); refine blk_far ?_ NB106_117.out _; (with_reducible repeat (first | refine blk_drewN ?_ _ | refine blk_drew ?_ | refine blk_alloc ?_ _)); exact BK106.out), (by repeat (first | (with_reducible first | exact HB.out | apply below_alloc | apply pw_below_drewN | apply below_drew1 | refine below_set ?_ GE101.out | refine below_set ?_ GE102.out | refine below_set ?_ GE103.out | refine below_set ?_ GE106.out | refine below_set ?_ GE116.out | refine below_set ?_ GE117.out) | exact HB.out)), fun _ _ => NB117_116.out, fun _ _ => NB116_117.out, fun _ h1_ => absurd ((hon 8 (by kernel_rfl)).symm.trans h1_) (by decide), fun _ => GW116.out, fun _ => GE116.out, fun _ => NB101_116.out, fun _ => NB116_101.out, fun _ => NB102_116.out, fun _ => NB116_102.out, fun _ => NB103_116.out, fun _ => NB116_103.out, fun _ => NB106_116.out, fun _ => NB116_106.out, fun _ h1_ => absurd ((up_self b 9).symm.trans h1_) (by decide), fun _ => GW117.out, fun _ => GE117.out, fun _ => NB101_117.out, fun _ => NB117_101.out, fun _ => NB102_117.out, fun _ => NB117_102.out, fun _ => NB103_117.out, fun _ => NB117_103.out, fun _ => NB106_117.out, fun _ => NB117_106.out, fun _ => (by (with_reducible repeat (first | refine blk_drewN ?_ _ | refine blk_drew ?_ | refine blk_alloc ?_ _)); refine blk_far ?_ NB116_117.out _; (with_reducible repeat (first | refine blk_drewN ?_ _ | refine blk_drew ?_ | refine blk_alloc ?_ _)); refine blk_far ?_ NB116_117.out _; (with_reducible repeat (first | refine blk_drewN ?_ _ | refine blk_drew ?_ | refine blk_alloc ?_ _)); exact BK116.out), fun _ => (by (with_reducible repeat (first | refine blk_drewN ?_ _ | refine blk_drew ?_ | refine blk_alloc ?_ _)); refine blk_put (cs := #[.bool true, .int .i64 0]) ?_ 1 _ rfl; (with_reducible repeat (first | refine blk_drewN ?_ _ | refine blk_drew ?_ | refine blk_alloc ?_ _)); refine blk_put (cs := #[.bool false, .int .i64 0]) ?_ 0 _ rfl; (with_reducible repeat (first | refine blk_drewN ?_ _ | refine blk_drew ?_ | refine blk_alloc ?_ _)); exact BK117.out), Q_X6_, Q_X7_⟩
                exact steps_nil
              rintro b a w146 hall ⟨gb116, gb117, m6_, m7_, ha, Q_BK101, Q_BK102, Q_BK103, Q_BK106, Q_HB, Q_NB117_116, Q_NB116_117, Q_BK116, Q_GW116, Q_GE116, Q_NB101_116, Q_NB116_101, Q_NB102_116, Q_NB116_102, Q_NB103_116, Q_NB116_103, Q_NB106_116, Q_NB116_106, Q_BK117, Q_GW117, Q_GE117, Q_NB101_117, Q_NB117_101, Q_NB102_117, Q_NB117_102, Q_NB103_117, Q_NB117_103, Q_NB106_117, Q_NB117_106, Q_BK116_e8, Q_BK117_e9, Q_X6_, Q_X7_⟩
              clear BK101 BK102 BK103 BK106 HB
              have hb0_ := hall 0 (by kernel_rfl)
              have hb1_ := hall 1 (by kernel_rfl)
              have hb2_ := hall 2 (by kernel_rfl)
              have hb3_ := hall 3 (by kernel_rfl)
              have hb4_ := hall 4 (by kernel_rfl)
              have hb5_ := hall 5 (by kernel_rfl)
              have hb6_ := hall 6 (by kernel_rfl)
              have hb7_ := hall 7 (by kernel_rfl)
              have hb8_ := hall 8 (by kernel_rfl)
              have hb9_ := hall 9 (by kernel_rfl)
              subst ha
              obtain rfl := Q_X6_ hb6_
              obtain rfl := Q_X7_ hb7_
              simp only [putSel, hb0_, hb1_, hb2_, hb3_, hb4_, hb5_, hb6_, hb7_, hb8_, hb9_, if_true, Act.put, List.setIfInBounds_toArray, List.set_cons_zero, List.set_cons_succ]
              have BK101 := Aside0.mk Q_BK101
              clear Q_BK101
              have BK102 := Aside0.mk Q_BK102
              clear Q_BK102
              have BK103 := Aside0.mk Q_BK103
              clear Q_BK103
              have BK106 := Aside0.mk Q_BK106
              clear Q_BK106
              have HB := Aside0.mk Q_HB
              clear Q_HB
              have NB117_116 := Aside0.mk (Q_NB117_116 hb6_ hb7_)
              clear Q_NB117_116
              have NB116_117 := Aside0.mk (Q_NB116_117 hb6_ hb7_)
              clear Q_NB116_117
              clear Q_BK116
              have GW116 := Aside0.mk (Q_GW116 hb6_)
              clear Q_GW116
              have GE116 := Aside0.mk (Q_GE116 hb6_)
              clear Q_GE116
              have NB101_116 := Aside0.mk (Q_NB101_116 hb6_)
              clear Q_NB101_116
              have NB116_101 := Aside0.mk (Q_NB116_101 hb6_)
              clear Q_NB116_101
              have NB102_116 := Aside0.mk (Q_NB102_116 hb6_)
              clear Q_NB102_116
              have NB116_102 := Aside0.mk (Q_NB116_102 hb6_)
              clear Q_NB116_102
              have NB103_116 := Aside0.mk (Q_NB103_116 hb6_)
              clear Q_NB103_116
              have NB116_103 := Aside0.mk (Q_NB116_103 hb6_)
              clear Q_NB116_103
              have NB106_116 := Aside0.mk (Q_NB106_116 hb6_)
              clear Q_NB106_116
              have NB116_106 := Aside0.mk (Q_NB116_106 hb6_)
              clear Q_NB116_106
              clear Q_BK117
              have GW117 := Aside0.mk (Q_GW117 hb7_)
              clear Q_GW117
              have GE117 := Aside0.mk (Q_GE117 hb7_)
              clear Q_GE117
              have NB101_117 := Aside0.mk (Q_NB101_117 hb7_)
              clear Q_NB101_117
              have NB117_101 := Aside0.mk (Q_NB117_101 hb7_)
              clear Q_NB117_101
              have NB102_117 := Aside0.mk (Q_NB102_117 hb7_)
              clear Q_NB102_117
              have NB117_102 := Aside0.mk (Q_NB117_102 hb7_)
              clear Q_NB117_102
              have NB103_117 := Aside0.mk (Q_NB103_117 hb7_)
              clear Q_NB103_117
              have NB117_103 := Aside0.mk (Q_NB117_103 hb7_)
              clear Q_NB117_103
              have NB106_117 := Aside0.mk (Q_NB106_117 hb7_)
              clear Q_NB106_117
              have NB117_106 := Aside0.mk (Q_NB117_106 hb7_)
              clear Q_NB117_106
              have BK116 := Aside0.mk (Q_BK116_e8 hb8_)
              clear Q_BK116_e8
              have BK117 := Aside0.mk (Q_BK117_e9 hb9_)
              clear Q_BK117_e9
              clear hall hb0_ hb1_ hb2_ hb3_ hb4_ hb5_ hb6_ hb7_ hb8_ hb9_
              have hnb147 := NB116_101.out
              have hnc147 := NB101_116.out
              have hnb148 := NB116_102.out
              have hnc148 := NB102_116.out
              have hnb149 := NB116_103.out
              have hnc149 := NB103_116.out
              have hnb150 := NB116_106.out
              have hnc150 := NB106_116.out
              have hnb151 := NB116_117.out
              have hnc151 := NB117_116.out
              have hcz152_0 : w146.cell? ⟨gb116, 0, none⟩ = some (.bool false) := (blk_cell BK116.out 0).trans rfl
              have hcz152_1 : w146.cell? ⟨gb116, 1, none⟩ = some (.int .i64 t113) := (blk_cell BK116.out 1).trans rfl
              have hfz152_0 := blk_frozen BK116.out 0
              have hfz152_1 := blk_frozen BK116.out 1
              have hnb153 := NB117_101.out
              have hnc153 := NB101_117.out
              have hnb154 := NB117_102.out
              have hnc154 := NB102_117.out
              have hnb155 := NB117_103.out
              have hnc155 := NB103_117.out
              have hnb156 := NB117_106.out
              have hnc156 := NB106_117.out
              have hcz157_0 : w146.cell? ⟨gb117, 0, none⟩ = some (.bool true) := (blk_cell BK117.out 0).trans rfl
              have hcz157_1 : w146.cell? ⟨gb117, 1, none⟩ = some (.int .i64 t115) := (blk_cell BK117.out 1).trans rfl
              have hfz157_0 := blk_frozen BK117.out 0
              have hfz157_1 := blk_frozen BK117.out 1
              try go_wp2
              go_ret
              exact ⟨by first | rfl | (simp [errW_none, errW_some] <;> rfl) | (simp [*, errW_none, errW_some] <;> rfl), by repeat (first | (with_reducible first | exact HB.out | apply below_alloc | apply pw_below_drewN | apply below_drew1 | refine below_set ?_ GE101.out | refine below_set ?_ GE102.out | refine below_set ?_ GE103.out | refine below_set ?_ GE106.out | refine below_set ?_ GE116.out | refine below_set ?_ GE117.out) | exact HB.out)⟩
            · replace c136 := Bool.eq_false_iff.mpr c136
              subst c136
              have H1 : ((fix_Cmp.f kj6 false t113 false t115).bind fun t118 => (some (t118 == t105))) = some r := by rw [if_neg (show ¬ (false = true) by decide)] at H; exact H
              clear H
              have H := H1
              clear H1
              replace H := Option.bind_eq_some_iff.mp H
              obtain ⟨t118, A1580, H⟩ := H
              replace H : (some (t118 == t105)) = some r := H
              have A158 := Aside0.mk A1580
              clear A1580
              obtain rfl := Option.some.inj H
              try go_wp2
              have n0_ := Aside0.mk (blk_drew BK101.out)
              have n1_ := Aside0.mk (blk_drew BK102.out)
              have n2_ := Aside0.mk (blk_drew BK103.out)
              have n3_ := Aside0.mk (blk_drew BK106.out)
              have n4_ := Aside0.mk (below_drew1 HB.out)
              clear BK101
              clear BK102
              clear BK103
              clear BK106
              clear HB
              have BK101 := n0_
              have BK102 := n1_
              have BK103 := n2_
              have BK106 := n3_
              have HB := n4_
              clear n0_ n1_ n2_ n3_ n4_
              refine start_ (n := 10) (S := fun w' => True) (ds := []) #[false, false, false, false, false, false, false, false, false, false] (by kernel_rfl) rfl rfl trivial (fun hHeld => ?_); refine with_tabW spillwaylaw2_FixOrder.tab7 spillwaylaw2_FixOrder.bits7 (fun HT_ HW_ => ?_)
              generalize wc.drew = w159 at BK101 BK102 BK103 BK106 HB hHeld ⊢
              refine inv_at [0, 1, 2, 3, 4, 5, 6, 7, 8, 9] (fun a0_ b a w' => ∃ (gb116 : Nat) (gb117 : Nat) (m6_ : Value) (m7_ : Value), a = putSel a0_ b [(0, 51, .agg #[.bool a0_0, .int .i64 a0_1]), (1, 52, .agg #[.bool a2_0, .int .i64 a2_1]), (2, 53, .agg #[.bool false, .int .i64 t113]), (3, 54, .agg #[.bool a1_0, .int .i64 a1_1]), (4, 55, .agg #[.bool a2_0, .int .i64 a2_1]), (5, 56, .agg #[.bool false, .int .i64 t115]), (6, 9, m6_), (7, 10, m7_)] ∧ (w'.heap[gb101]? = some (.cells #[.bool a0_0, .int .i64 a0_1] 25 (0, 0))) ∧ (w'.heap[gb102]? = some (.cells #[.bool a1_0, .int .i64 a1_1] 25 (0, 0))) ∧ (w'.heap[gb103]? = some (.cells #[.bool a2_0, .int .i64 a2_1] 25 (0, 0))) ∧ (w'.heap[gb106]? = some (.cells #[.bool true, .int .i64 0] 25 (0, 0))) ∧ (Below w.heap.size w w') ∧ (b 6 = true → b 7 = true → gb117 ≠ gb116) ∧ (b 6 = true → b 7 = true → gb116 ≠ gb117) ∧ (b 6 = true → b 8 = false → w'.heap[gb116]? = some (.cells #[.bool false, .int .i64 0] 25 (0, 0))) ∧ (b 6 = true → w.heap.size ≤ gb116) ∧ (b 6 = true → w.heap.size ≤ gb116) ∧ (b 6 = true → gb101 ≠ gb116) ∧ (b 6 = true → gb116 ≠ gb101) ∧ (b 6 = true → gb102 ≠ gb116) ∧ (b 6 = true → gb116 ≠ gb102) ∧ (b 6 = true → gb103 ≠ gb116) ∧ (b 6 = true → gb116 ≠ gb103) ∧ (b 6 = true → gb106 ≠ gb116) ∧ (b 6 = true → gb116 ≠ gb106) ∧ (b 7 = true → b 9 = false → w'.heap[gb117]? = some (.cells #[.bool false, .int .i64 0] 25 (0, 0))) ∧ (b 7 = true → w.heap.size ≤ gb117) ∧ (b 7 = true → w.heap.size ≤ gb117) ∧ (b 7 = true → gb101 ≠ gb117) ∧ (b 7 = true → gb117 ≠ gb101) ∧ (b 7 = true → gb102 ≠ gb117) ∧ (b 7 = true → gb117 ≠ gb102) ∧ (b 7 = true → gb103 ≠ gb117) ∧ (b 7 = true → gb117 ≠ gb103) ∧ (b 7 = true → gb106 ≠ gb117) ∧ (b 7 = true → gb117 ≠ gb106) ∧ (b 8 = true → w'.heap[gb116]? = some (.cells #[.bool false, .int .i64 t113] 25 (0, 0))) ∧ (b 9 = true → w'.heap[gb117]? = some (.cells #[.bool false, .int .i64 t115] 25 (0, 0))) ∧ (b 6 = true → (m6_ : Value) = .pointer (some ⟨gb116, 0, none⟩)) ∧ (b 7 = true → (m7_ : Value) = .pointer (some ⟨gb117, 0, none⟩))) HT_.out HW_.out (by kernel_rfl) (by kernel_rfl) ?_ ?_ ?_
              · exact ⟨0, 0, .bool false, .bool false, by simp only [putSel, Bool.false_eq_true, if_false], BK101.out, BK102.out, BK103.out, BK106.out, HB.out, fun h_ => absurd h_ (by decide), fun h_ => absurd h_ (by decide), fun h_ => absurd h_ (by decide), fun h_ => absurd h_ (by decide), fun h_ => absurd h_ (by decide), fun h_ => absurd h_ (by decide), fun h_ => absurd h_ (by decide), fun h_ => absurd h_ (by decide), fun h_ => absurd h_ (by decide), fun h_ => absurd h_ (by decide), fun h_ => absurd h_ (by decide), fun h_ => absurd h_ (by decide), fun h_ => absurd h_ (by decide), fun h_ => absurd h_ (by decide), fun h_ => absurd h_ (by decide), fun h_ => absurd h_ (by decide), fun h_ => absurd h_ (by decide), fun h_ => absurd h_ (by decide), fun h_ => absurd h_ (by decide), fun h_ => absurd h_ (by decide), fun h_ => absurd h_ (by decide), fun h_ => absurd h_ (by decide), fun h_ => absurd h_ (by decide), fun h_ => absurd h_ (by decide), fun h_ => absurd h_ (by decide), fun h_ => absurd h_ (by decide), fun h_ => absurd h_ (by decide), fun h_ => absurd h_ (by decide)⟩
              · skip
                clear BK101 BK102 BK103 BK106 HB
                refine steps_cons ?_ ?_
                · rintro b a w' ⟨gb116, gb117, m6_, m7_, ha, Q_BK101, Q_BK102, Q_BK103, Q_BK106, Q_HB, Q_NB117_116, Q_NB116_117, Q_BK116, Q_GW116, Q_GE116, Q_NB101_116, Q_NB116_101, Q_NB102_116, Q_NB116_102, Q_NB103_116, Q_NB116_103, Q_NB106_116, Q_NB116_106, Q_BK117, Q_GW117, Q_GE117, Q_NB101_117, Q_NB117_101, Q_NB102_117, Q_NB117_102, Q_NB103_117, Q_NB117_103, Q_NB106_117, Q_NB117_106, Q_BK116_e8, Q_BK117_e9, Q_X6_, Q_X7_⟩ hb_ hon hoff
                  refine ⟨_, rfl, fun K hK => ?_⟩
                  have e3 : a.tmps[3]? = some (.pointer (some ⟨gb101, 0, none⟩)) := by rw [ha]; exact (putSel_off rfl).trans rfl
                  replace ha := Aside0.mk ha
                  have BK101 := Aside0.mk Q_BK101
                  have BK102 := Aside0.mk Q_BK102
                  have BK103 := Aside0.mk Q_BK103
                  have BK106 := Aside0.mk Q_BK106
                  have HB := Aside0.mk Q_HB
                  have hc0_ : w'.cell? ⟨gb101, 0, none⟩ = some (.bool a0_0) := (blk_cell BK101.out 0).trans rfl
                  have hc1_ : w'.cell? ⟨gb101, 1, none⟩ = some (.int .i64 a0_1) := (blk_cell BK101.out 1).trans rfl
                  refine value_ (w1 := w') (v := .agg #[.bool a0_0, .int .i64 a0_1]) (by rfl) rfl ?_ ?_
                  · go_simp
                    (try simp only [i64_w])
                    try rfl
                  refine hK.out _ _ ⟨gb116, gb117, m6_, m7_, (by rw [ha.out]; exact putSel_upk 0 hb_ rfl rfl rfl), Q_BK101, Q_BK102, Q_BK103, Q_BK106, Q_HB, Q_NB117_116, Q_NB116_117, Q_BK116, Q_GW116, Q_GE116, Q_NB101_116, Q_NB116_101, Q_NB102_116, Q_NB116_102, Q_NB103_116, Q_NB116_103, Q_NB106_116, Q_NB116_106, Q_BK117, Q_GW117, Q_GE117, Q_NB101_117, Q_NB117_101, Q_NB102_117, Q_NB117_102, Q_NB103_117, Q_NB117_103, Q_NB106_117, Q_NB117_106, fun h0_ => absurd ((hoff 8 (by kernel_rfl)).symm.trans h0_) (by decide), fun h0_ => absurd ((hoff 9 (by kernel_rfl)).symm.trans h0_) (by decide), Q_X6_, Q_X7_⟩
                refine steps_cons ?_ ?_
                · rintro b a w' ⟨gb116, gb117, m6_, m7_, ha, Q_BK101, Q_BK102, Q_BK103, Q_BK106, Q_HB, Q_NB117_116, Q_NB116_117, Q_BK116, Q_GW116, Q_GE116, Q_NB101_116, Q_NB116_101, Q_NB102_116, Q_NB116_102, Q_NB103_116, Q_NB116_103, Q_NB106_116, Q_NB116_106, Q_BK117, Q_GW117, Q_GE117, Q_NB101_117, Q_NB117_101, Q_NB102_117, Q_NB117_102, Q_NB103_117, Q_NB117_103, Q_NB106_117, Q_NB117_106, Q_BK116_e8, Q_BK117_e9, Q_X6_, Q_X7_⟩ hb_ hon hoff
                  refine ⟨_, rfl, fun K hK => ?_⟩
                  have e5 : a.tmps[5]? = some (.pointer (some ⟨gb103, 0, none⟩)) := by rw [ha]; exact (putSel_off rfl).trans rfl
                  replace ha := Aside0.mk ha
                  have BK101 := Aside0.mk Q_BK101
                  have BK102 := Aside0.mk Q_BK102
                  have BK103 := Aside0.mk Q_BK103
                  have BK106 := Aside0.mk Q_BK106
                  have HB := Aside0.mk Q_HB
                  have hc0_ : w'.cell? ⟨gb103, 0, none⟩ = some (.bool a2_0) := (blk_cell BK103.out 0).trans rfl
                  have hc1_ : w'.cell? ⟨gb103, 1, none⟩ = some (.int .i64 a2_1) := (blk_cell BK103.out 1).trans rfl
                  refine value_ (w1 := w') (v := .agg #[.bool a2_0, .int .i64 a2_1]) (by rfl) rfl ?_ ?_
                  · go_simp
                    (try simp only [i64_w])
                    try rfl
                  refine hK.out _ _ ⟨gb116, gb117, m6_, m7_, (by rw [ha.out]; exact putSel_upk 1 hb_ rfl rfl rfl), Q_BK101, Q_BK102, Q_BK103, Q_BK106, Q_HB, Q_NB117_116, Q_NB116_117, Q_BK116, Q_GW116, Q_GE116, Q_NB101_116, Q_NB116_101, Q_NB102_116, Q_NB116_102, Q_NB103_116, Q_NB116_103, Q_NB106_116, Q_NB116_106, Q_BK117, Q_GW117, Q_GE117, Q_NB101_117, Q_NB117_101, Q_NB102_117, Q_NB117_102, Q_NB103_117, Q_NB117_103, Q_NB106_117, Q_NB117_106, fun h0_ => absurd ((hoff 8 (by kernel_rfl)).symm.trans h0_) (by decide), fun h0_ => absurd ((hoff 9 (by kernel_rfl)).symm.trans h0_) (by decide), Q_X6_, Q_X7_⟩
                refine steps_cons ?_ ?_
                · rintro b a w' ⟨gb116, gb117, m6_, m7_, ha, Q_BK101, Q_BK102, Q_BK103, Q_BK106, Q_HB, Q_NB117_116, Q_NB116_117, Q_BK116, Q_GW116, Q_GE116, Q_NB101_116, Q_NB116_101, Q_NB102_116, Q_NB116_102, Q_NB103_116, Q_NB116_103, Q_NB106_116, Q_NB116_106, Q_BK117, Q_GW117, Q_GE117, Q_NB101_117, Q_NB117_101, Q_NB102_117, Q_NB117_102, Q_NB103_117, Q_NB117_103, Q_NB106_117, Q_NB117_106, Q_BK116_e8, Q_BK117_e9, Q_X6_, Q_X7_⟩ hb_ hon hoff
                  refine ⟨_, rfl, fun K hK => ?_⟩
                  have e51 : a.tmps[51]? = some (.agg #[.bool a0_0, .int .i64 a0_1]) := by rw [ha]; exact putSel_on (e := (0, 51, .agg #[.bool a0_0, .int .i64 a0_1])) 0 rfl rfl (hon 0 (by kernel_rfl)) rfl
                  have e52 : a.tmps[52]? = some (.agg #[.bool a2_0, .int .i64 a2_1]) := by rw [ha]; exact putSel_on (e := (1, 52, .agg #[.bool a2_0, .int .i64 a2_1])) 1 rfl rfl (hon 1 (by kernel_rfl)) rfl
                  replace ha := Aside0.mk ha
                  have BK101 := Aside0.mk Q_BK101
                  have BK102 := Aside0.mk Q_BK102
                  have BK103 := Aside0.mk Q_BK103
                  have BK106 := Aside0.mk Q_BK106
                  have HB := Aside0.mk Q_HB
                  refine goes_ Tryd.func18 (by kernel_rfl) rfl #[.agg #[.bool a0_0, .int .i64 a0_1], .agg #[.bool a2_0, .int .i64 a2_1]] (by rfl) rfl rfl (by first | (simp only [List.map_toArray, List.map_cons, List.map_nil, Act.eval, Array.getD_eq_getD_getElem?, Option.getD_some, e51, e52]; done) | (simp only [List.map_toArray, List.map_cons, List.map_nil, Act.eval, Array.getD_eq_getD_getElem?, Option.getD_some, e51, e52]; rfl)) ?_
                  with_reducible refine (fix_Add.calls kj6 a0_0 a0_1 a2_0 a2_1 false t113 _ A117.out).mono ?_
                  rintro e w160 ⟨rfl, hb⟩
                  refine ⟨_, rfl, ?_⟩
                  have n0_ := Aside0.mk (blk_below (g := gb101) (o := .cells #[.bool a0_0, .int .i64 a0_1] 25 (0, 0)) (by (with_reducible repeat (first | refine blk_drewN ?_ _ | refine blk_drew ?_ | refine blk_alloc ?_ _)); exact BK101.out) hb)
                  have n1_ := Aside0.mk (blk_below (g := gb102) (o := .cells #[.bool a1_0, .int .i64 a1_1] 25 (0, 0)) (by (with_reducible repeat (first | refine blk_drewN ?_ _ | refine blk_drew ?_ | refine blk_alloc ?_ _)); exact BK102.out) hb)
                  have n2_ := Aside0.mk (blk_below (g := gb103) (o := .cells #[.bool a2_0, .int .i64 a2_1] 25 (0, 0)) (by (with_reducible repeat (first | refine blk_drewN ?_ _ | refine blk_drew ?_ | refine blk_alloc ?_ _)); exact BK103.out) hb)
                  have n3_ := Aside0.mk (blk_below (g := gb106) (o := .cells #[.bool true, .int .i64 0] 25 (0, 0)) (by (with_reducible repeat (first | refine blk_drewN ?_ _ | refine blk_drew ?_ | refine blk_alloc ?_ _)); exact BK106.out) hb)
                  have n4_ := Aside0.mk (below_step (by repeat (first | (with_reducible first | exact HB.out | apply below_alloc | apply pw_below_drewN | apply below_drew1 | refine below_set ?_ GE101.out | refine below_set ?_ GE102.out | refine below_set ?_ GE103.out | refine below_set ?_ GE106.out) | exact HB.out)) hb)
                  have z_BK116 := fun (h0_ : b 6 = true) (h1_ : b 8 = false) => (show w160.heap[gb116]? = some (.cells #[.bool false, .int .i64 0] 25 (0, 0)) from by first | exact (blk_below (g := gb116) (o := .cells #[.bool false, .int .i64 0] 25 (0, 0)) (by (with_reducible repeat (first | refine blk_drewN ?_ _ | refine blk_drew ?_ | refine blk_alloc ?_ _)); exact (Q_BK116 h0_ h1_)) hb))
                  have z_BK117 := fun (h0_ : b 7 = true) (h1_ : b 9 = false) => (show w160.heap[gb117]? = some (.cells #[.bool false, .int .i64 0] 25 (0, 0)) from by first | exact (blk_below (g := gb117) (o := .cells #[.bool false, .int .i64 0] 25 (0, 0)) (by (with_reducible repeat (first | refine blk_drewN ?_ _ | refine blk_drew ?_ | refine blk_alloc ?_ _)); exact (Q_BK117 h0_ h1_)) hb))
                  clear BK101
                  clear BK102
                  clear BK103
                  clear BK106
                  clear HB
                  have BK101 := n0_
                  have BK102 := n1_
                  have BK103 := n2_
                  have BK106 := n3_
                  have HB := n4_
                  clear n0_ n1_ n2_ n3_ n4_
                  (try clear hb)
                  (try clear hb2)
                  (try clear hk)
                  (try clear hi)
                  refine hK.out _ _ ⟨gb116, gb117, m6_, m7_, (by rw [ha.out]; exact putSel_upk 2 hb_ rfl rfl rfl), (by (with_reducible repeat (first | refine blk_drewN ?_ _ | refine blk_drew ?_ | refine blk_alloc ?_ _)); exact BK101.out), (by (with_reducible repeat (first | refine blk_drewN ?_ _ | refine blk_drew ?_ | refine blk_alloc ?_ _)); exact BK102.out), (by (with_reducible repeat (first | refine blk_drewN ?_ _ | refine blk_drew ?_ | refine blk_alloc ?_ _)); exact BK103.out), (by (with_reducible repeat (first | refine blk_drewN ?_ _ | refine blk_drew ?_ | refine blk_alloc ?_ _)); exact BK106.out), (by repeat (first | (with_reducible first | exact HB.out | apply below_alloc | apply pw_below_drewN | apply below_drew1 | refine below_set ?_ GE101.out | refine below_set ?_ GE102.out | refine below_set ?_ GE103.out | refine below_set ?_ GE106.out) | exact HB.out)), Q_NB117_116, Q_NB116_117, z_BK116, Q_GW116, Q_GE116, Q_NB101_116, Q_NB116_101, Q_NB102_116, Q_NB116_102, Q_NB103_116, Q_NB116_103, Q_NB106_116, Q_NB116_106, z_BK117, Q_GW117, Q_GE117, Q_NB101_117, Q_NB117_101, Q_NB102_117, Q_NB117_102, Q_NB103_117, Q_NB117_103, Q_NB106_117, Q_NB117_106, fun h0_ => absurd ((hoff 8 (by kernel_rfl)).symm.trans h0_) (by decide), fun h0_ => absurd ((hoff 9 (by kernel_rfl)).symm.trans h0_) (by decide), Q_X6_, Q_X7_⟩
                refine steps_cons ?_ ?_
                · rintro b a w' ⟨gb116, gb117, m6_, m7_, ha, Q_BK101, Q_BK102, Q_BK103, Q_BK106, Q_HB, Q_NB117_116, Q_NB116_117, Q_BK116, Q_GW116, Q_GE116, Q_NB101_116, Q_NB116_101, Q_NB102_116, Q_NB116_102, Q_NB103_116, Q_NB116_103, Q_NB106_116, Q_NB116_106, Q_BK117, Q_GW117, Q_GE117, Q_NB101_117, Q_NB117_101, Q_NB102_117, Q_NB117_102, Q_NB103_117, Q_NB117_103, Q_NB106_117, Q_NB117_106, Q_BK116_e8, Q_BK117_e9, Q_X6_, Q_X7_⟩ hb_ hon hoff
                  refine ⟨_, rfl, fun K hK => ?_⟩
                  have e4 : a.tmps[4]? = some (.pointer (some ⟨gb102, 0, none⟩)) := by rw [ha]; exact (putSel_off rfl).trans rfl
                  replace ha := Aside0.mk ha
                  have BK101 := Aside0.mk Q_BK101
                  have BK102 := Aside0.mk Q_BK102
                  have BK103 := Aside0.mk Q_BK103
                  have BK106 := Aside0.mk Q_BK106
                  have HB := Aside0.mk Q_HB
                  have hc0_ : w'.cell? ⟨gb102, 0, none⟩ = some (.bool a1_0) := (blk_cell BK102.out 0).trans rfl
                  have hc1_ : w'.cell? ⟨gb102, 1, none⟩ = some (.int .i64 a1_1) := (blk_cell BK102.out 1).trans rfl
                  refine value_ (w1 := w') (v := .agg #[.bool a1_0, .int .i64 a1_1]) (by rfl) rfl ?_ ?_
                  · go_simp
                    (try simp only [i64_w])
                    try rfl
                  refine hK.out _ _ ⟨gb116, gb117, m6_, m7_, (by rw [ha.out]; exact putSel_upk 3 hb_ rfl rfl rfl), Q_BK101, Q_BK102, Q_BK103, Q_BK106, Q_HB, Q_NB117_116, Q_NB116_117, Q_BK116, Q_GW116, Q_GE116, Q_NB101_116, Q_NB116_101, Q_NB102_116, Q_NB116_102, Q_NB103_116, Q_NB116_103, Q_NB106_116, Q_NB116_106, Q_BK117, Q_GW117, Q_GE117, Q_NB101_117, Q_NB117_101, Q_NB102_117, Q_NB117_102, Q_NB103_117, Q_NB117_103, Q_NB106_117, Q_NB117_106, fun h0_ => absurd ((hoff 8 (by kernel_rfl)).symm.trans h0_) (by decide), fun h0_ => absurd ((hoff 9 (by kernel_rfl)).symm.trans h0_) (by decide), Q_X6_, Q_X7_⟩
                refine steps_cons ?_ ?_
                · rintro b a w' ⟨gb116, gb117, m6_, m7_, ha, Q_BK101, Q_BK102, Q_BK103, Q_BK106, Q_HB, Q_NB117_116, Q_NB116_117, Q_BK116, Q_GW116, Q_GE116, Q_NB101_116, Q_NB116_101, Q_NB102_116, Q_NB116_102, Q_NB103_116, Q_NB116_103, Q_NB106_116, Q_NB116_106, Q_BK117, Q_GW117, Q_GE117, Q_NB101_117, Q_NB117_101, Q_NB102_117, Q_NB117_102, Q_NB103_117, Q_NB117_103, Q_NB106_117, Q_NB117_106, Q_BK116_e8, Q_BK117_e9, Q_X6_, Q_X7_⟩ hb_ hon hoff
                  refine ⟨_, rfl, fun K hK => ?_⟩
                  have e5 : a.tmps[5]? = some (.pointer (some ⟨gb103, 0, none⟩)) := by rw [ha]; exact (putSel_off rfl).trans rfl
                  replace ha := Aside0.mk ha
                  have BK101 := Aside0.mk Q_BK101
                  have BK102 := Aside0.mk Q_BK102
                  have BK103 := Aside0.mk Q_BK103
                  have BK106 := Aside0.mk Q_BK106
                  have HB := Aside0.mk Q_HB
                  have hc0_ : w'.cell? ⟨gb103, 0, none⟩ = some (.bool a2_0) := (blk_cell BK103.out 0).trans rfl
                  have hc1_ : w'.cell? ⟨gb103, 1, none⟩ = some (.int .i64 a2_1) := (blk_cell BK103.out 1).trans rfl
                  refine value_ (w1 := w') (v := .agg #[.bool a2_0, .int .i64 a2_1]) (by rfl) rfl ?_ ?_
                  · go_simp
                    (try simp only [i64_w])
                    try rfl
                  refine hK.out _ _ ⟨gb116, gb117, m6_, m7_, (by rw [ha.out]; exact putSel_upk 4 hb_ rfl rfl rfl), Q_BK101, Q_BK102, Q_BK103, Q_BK106, Q_HB, Q_NB117_116, Q_NB116_117, Q_BK116, Q_GW116, Q_GE116, Q_NB101_116, Q_NB116_101, Q_NB102_116, Q_NB116_102, Q_NB103_116, Q_NB116_103, Q_NB106_116, Q_NB116_106, Q_BK117, Q_GW117, Q_GE117, Q_NB101_117, Q_NB117_101, Q_NB102_117, Q_NB117_102, Q_NB103_117, Q_NB117_103, Q_NB106_117, Q_NB117_106, fun h0_ => absurd ((hoff 8 (by kernel_rfl)).symm.trans h0_) (by decide), fun h0_ => absurd ((hoff 9 (by kernel_rfl)).symm.trans h0_) (by decide), Q_X6_, Q_X7_⟩
                refine steps_cons ?_ ?_
                · rintro b a w' ⟨gb116, gb117, m6_, m7_, ha, Q_BK101, Q_BK102, Q_BK103, Q_BK106, Q_HB, Q_NB117_116, Q_NB116_117, Q_BK116, Q_GW116, Q_GE116, Q_NB101_116, Q_NB116_101, Q_NB102_116, Q_NB116_102, Q_NB103_116, Q_NB116_103, Q_NB106_116, Q_NB116_106, Q_BK117, Q_GW117, Q_GE117, Q_NB101_117, Q_NB117_101, Q_NB102_117, Q_NB117_102, Q_NB103_117, Q_NB117_103, Q_NB106_117, Q_NB117_106, Q_BK116_e8, Q_BK117_e9, Q_X6_, Q_X7_⟩ hb_ hon hoff
                  refine ⟨_, rfl, fun K hK => ?_⟩
                  have e54 : a.tmps[54]? = some (.agg #[.bool a1_0, .int .i64 a1_1]) := by rw [ha]; exact putSel_on (e := (3, 54, .agg #[.bool a1_0, .int .i64 a1_1])) 3 rfl rfl (hon 3 (by kernel_rfl)) rfl
                  have e55 : a.tmps[55]? = some (.agg #[.bool a2_0, .int .i64 a2_1]) := by rw [ha]; exact putSel_on (e := (4, 55, .agg #[.bool a2_0, .int .i64 a2_1])) 4 rfl rfl (hon 4 (by kernel_rfl)) rfl
                  replace ha := Aside0.mk ha
                  have BK101 := Aside0.mk Q_BK101
                  have BK102 := Aside0.mk Q_BK102
                  have BK103 := Aside0.mk Q_BK103
                  have BK106 := Aside0.mk Q_BK106
                  have HB := Aside0.mk Q_HB
                  refine goes_ Tryd.func18 (by kernel_rfl) rfl #[.agg #[.bool a1_0, .int .i64 a1_1], .agg #[.bool a2_0, .int .i64 a2_1]] (by rfl) rfl rfl (by first | (simp only [List.map_toArray, List.map_cons, List.map_nil, Act.eval, Array.getD_eq_getD_getElem?, Option.getD_some, e54, e55]; done) | (simp only [List.map_toArray, List.map_cons, List.map_nil, Act.eval, Array.getD_eq_getD_getElem?, Option.getD_some, e54, e55]; rfl)) ?_
                  with_reducible refine (fix_Add.calls kj6 a1_0 a1_1 a2_0 a2_1 false t115 _ A118.out).mono ?_
                  rintro e w162 ⟨rfl, hb⟩
                  refine ⟨_, rfl, ?_⟩
                  have n0_ := Aside0.mk (blk_below (g := gb101) (o := .cells #[.bool a0_0, .int .i64 a0_1] 25 (0, 0)) (by (with_reducible repeat (first | refine blk_drewN ?_ _ | refine blk_drew ?_ | refine blk_alloc ?_ _)); exact BK101.out) hb)
                  have n1_ := Aside0.mk (blk_below (g := gb102) (o := .cells #[.bool a1_0, .int .i64 a1_1] 25 (0, 0)) (by (with_reducible repeat (first | refine blk_drewN ?_ _ | refine blk_drew ?_ | refine blk_alloc ?_ _)); exact BK102.out) hb)
                  have n2_ := Aside0.mk (blk_below (g := gb103) (o := .cells #[.bool a2_0, .int .i64 a2_1] 25 (0, 0)) (by (with_reducible repeat (first | refine blk_drewN ?_ _ | refine blk_drew ?_ | refine blk_alloc ?_ _)); exact BK103.out) hb)
                  have n3_ := Aside0.mk (blk_below (g := gb106) (o := .cells #[.bool true, .int .i64 0] 25 (0, 0)) (by (with_reducible repeat (first | refine blk_drewN ?_ _ | refine blk_drew ?_ | refine blk_alloc ?_ _)); exact BK106.out) hb)
                  have n4_ := Aside0.mk (below_step (by repeat (first | (with_reducible first | exact HB.out | apply below_alloc | apply pw_below_drewN | apply below_drew1 | refine below_set ?_ GE101.out | refine below_set ?_ GE102.out | refine below_set ?_ GE103.out | refine below_set ?_ GE106.out) | exact HB.out)) hb)
                  have z_BK116 := fun (h0_ : b 6 = true) (h1_ : b 8 = false) => (show w162.heap[gb116]? = some (.cells #[.bool false, .int .i64 0] 25 (0, 0)) from by first | exact (blk_below (g := gb116) (o := .cells #[.bool false, .int .i64 0] 25 (0, 0)) (by (with_reducible repeat (first | refine blk_drewN ?_ _ | refine blk_drew ?_ | refine blk_alloc ?_ _)); exact (Q_BK116 h0_ h1_)) hb))
                  have z_BK117 := fun (h0_ : b 7 = true) (h1_ : b 9 = false) => (show w162.heap[gb117]? = some (.cells #[.bool false, .int .i64 0] 25 (0, 0)) from by first | exact (blk_below (g := gb117) (o := .cells #[.bool false, .int .i64 0] 25 (0, 0)) (by (with_reducible repeat (first | refine blk_drewN ?_ _ | refine blk_drew ?_ | refine blk_alloc ?_ _)); exact (Q_BK117 h0_ h1_)) hb))
                  clear BK101
                  clear BK102
                  clear BK103
                  clear BK106
                  clear HB
                  have BK101 := n0_
                  have BK102 := n1_
                  have BK103 := n2_
                  have BK106 := n3_
                  have HB := n4_
                  clear n0_ n1_ n2_ n3_ n4_
                  (try clear hb)
                  (try clear hb2)
                  (try clear hk)
                  (try clear hi)
                  refine hK.out _ _ ⟨gb116, gb117, m6_, m7_, (by rw [ha.out]; exact putSel_upk 5 hb_ rfl rfl rfl), (by (with_reducible repeat (first | refine blk_drewN ?_ _ | refine blk_drew ?_ | refine blk_alloc ?_ _)); exact BK101.out), (by (with_reducible repeat (first | refine blk_drewN ?_ _ | refine blk_drew ?_ | refine blk_alloc ?_ _)); exact BK102.out), (by (with_reducible repeat (first | refine blk_drewN ?_ _ | refine blk_drew ?_ | refine blk_alloc ?_ _)); exact BK103.out), (by (with_reducible repeat (first | refine blk_drewN ?_ _ | refine blk_drew ?_ | refine blk_alloc ?_ _)); exact BK106.out), (by repeat (first | (with_reducible first | exact HB.out | apply below_alloc | apply pw_below_drewN | apply below_drew1 | refine below_set ?_ GE101.out | refine below_set ?_ GE102.out | refine below_set ?_ GE103.out | refine below_set ?_ GE106.out) | exact HB.out)), Q_NB117_116, Q_NB116_117, z_BK116, Q_GW116, Q_GE116, Q_NB101_116, Q_NB116_101, Q_NB102_116, Q_NB116_102, Q_NB103_116, Q_NB116_103, Q_NB106_116, Q_NB116_106, z_BK117, Q_GW117, Q_GE117, Q_NB101_117, Q_NB117_101, Q_NB102_117, Q_NB117_102, Q_NB103_117, Q_NB117_103, Q_NB106_117, Q_NB117_106, fun h0_ => absurd ((hoff 8 (by kernel_rfl)).symm.trans h0_) (by decide), fun h0_ => absurd ((hoff 9 (by kernel_rfl)).symm.trans h0_) (by decide), Q_X6_, Q_X7_⟩
                refine steps_cons ?_ ?_
                · rintro b a w' ⟨gb116, gb117, m6_, m7_, ha, Q_BK101, Q_BK102, Q_BK103, Q_BK106, Q_HB, Q_NB117_116, Q_NB116_117, Q_BK116, Q_GW116, Q_GE116, Q_NB101_116, Q_NB116_101, Q_NB102_116, Q_NB116_102, Q_NB103_116, Q_NB116_103, Q_NB106_116, Q_NB116_106, Q_BK117, Q_GW117, Q_GE117, Q_NB101_117, Q_NB117_101, Q_NB102_117, Q_NB117_102, Q_NB103_117, Q_NB117_103, Q_NB106_117, Q_NB117_106, Q_BK116_e8, Q_BK117_e9, Q_X6_, Q_X7_⟩ hb_ hon hoff
                  refine ⟨_, rfl, fun K hK => ?_⟩
                  replace ha := Aside0.mk ha
                  have BK101 := Aside0.mk Q_BK101
                  have BK102 := Aside0.mk Q_BK102
                  have BK103 := Aside0.mk Q_BK103
                  have BK106 := Aside0.mk Q_BK106
                  have HB := Aside0.mk Q_HB
                  refine box_step ?hg (N := 9) ?hd (cs := #[.bool false, .int .i64 0]) (t := 25) ?hr ?_; (case hd => rfl); (case hg => rfl); (case hr => first | (go_simp; done) | (go_simp; rfl))
                  intro gb116 hg w160 hbox hb
                  have n0_ := Aside0.mk (blk_below (g := gb101) (o := .cells #[.bool a0_0, .int .i64 a0_1] 25 (0, 0)) (by (with_reducible repeat (first | refine blk_drewN ?_ _ | refine blk_drew ?_ | refine blk_alloc ?_ _)); exact BK101.out) hb)
                  have n1_ := Aside0.mk (blk_below (g := gb102) (o := .cells #[.bool a1_0, .int .i64 a1_1] 25 (0, 0)) (by (with_reducible repeat (first | refine blk_drewN ?_ _ | refine blk_drew ?_ | refine blk_alloc ?_ _)); exact BK102.out) hb)
                  have n2_ := Aside0.mk (blk_below (g := gb103) (o := .cells #[.bool a2_0, .int .i64 a2_1] 25 (0, 0)) (by (with_reducible repeat (first | refine blk_drewN ?_ _ | refine blk_drew ?_ | refine blk_alloc ?_ _)); exact BK103.out) hb)
                  have n3_ := Aside0.mk (blk_below (g := gb106) (o := .cells #[.bool true, .int .i64 0] 25 (0, 0)) (by (with_reducible repeat (first | refine blk_drewN ?_ _ | refine blk_drew ?_ | refine blk_alloc ?_ _)); exact BK106.out) hb)
                  have n4_ := Aside0.mk (below_step (by repeat (first | (with_reducible first | exact HB.out | apply below_alloc | apply pw_below_drewN | apply below_drew1 | refine below_set ?_ GE101.out | refine below_set ?_ GE102.out | refine below_set ?_ GE103.out | refine below_set ?_ GE106.out) | exact HB.out)) hb)
                  have n5_ := Aside0.mk (hbox)
                  have n6_ := Aside0.mk ((by rw [hg]; exact (below_size (by repeat (first | (with_reducible first | exact HB.out | apply below_alloc | apply pw_below_drewN | apply below_drew1 | refine below_set ?_ GE101.out | refine below_set ?_ GE102.out | refine below_set ?_ GE103.out | refine below_set ?_ GE106.out) | exact HB.out))) : w.heap.size ≤ gb116))
                  have n7_ := Aside0.mk ((by rw [hg]; exact (below_size (by repeat (first | (with_reducible first | exact HB.out | apply below_alloc | apply pw_below_drewN | apply below_drew1 | refine below_set ?_ GE101.out | refine below_set ?_ GE102.out | refine below_set ?_ GE103.out | refine below_set ?_ GE106.out) | exact HB.out))) : w.heap.size ≤ gb116))
                  have n8_ := Aside0.mk ((by rw [hg]; exact Nat.ne_of_lt (blk_lt (g := gb101) (o := .cells #[.bool a0_0, .int .i64 a0_1] 25 (0, 0)) (by (with_reducible repeat (first | refine blk_drewN ?_ _ | refine blk_drew ?_ | refine blk_alloc ?_ _)); exact BK101.out)) : gb101 ≠ gb116))
                  have n9_ := Aside0.mk ((by rw [hg]; exact Nat.ne_of_gt (blk_lt (g := gb101) (o := .cells #[.bool a0_0, .int .i64 a0_1] 25 (0, 0)) (by (with_reducible repeat (first | refine blk_drewN ?_ _ | refine blk_drew ?_ | refine blk_alloc ?_ _)); exact BK101.out)) : gb116 ≠ gb101))
                  have n10_ := Aside0.mk ((by rw [hg]; exact Nat.ne_of_lt (blk_lt (g := gb102) (o := .cells #[.bool a1_0, .int .i64 a1_1] 25 (0, 0)) (by (with_reducible repeat (first | refine blk_drewN ?_ _ | refine blk_drew ?_ | refine blk_alloc ?_ _)); exact BK102.out)) : gb102 ≠ gb116))
                  have n11_ := Aside0.mk ((by rw [hg]; exact Nat.ne_of_gt (blk_lt (g := gb102) (o := .cells #[.bool a1_0, .int .i64 a1_1] 25 (0, 0)) (by (with_reducible repeat (first | refine blk_drewN ?_ _ | refine blk_drew ?_ | refine blk_alloc ?_ _)); exact BK102.out)) : gb116 ≠ gb102))
                  have n12_ := Aside0.mk ((by rw [hg]; exact Nat.ne_of_lt (blk_lt (g := gb103) (o := .cells #[.bool a2_0, .int .i64 a2_1] 25 (0, 0)) (by (with_reducible repeat (first | refine blk_drewN ?_ _ | refine blk_drew ?_ | refine blk_alloc ?_ _)); exact BK103.out)) : gb103 ≠ gb116))
                  have n13_ := Aside0.mk ((by rw [hg]; exact Nat.ne_of_gt (blk_lt (g := gb103) (o := .cells #[.bool a2_0, .int .i64 a2_1] 25 (0, 0)) (by (with_reducible repeat (first | refine blk_drewN ?_ _ | refine blk_drew ?_ | refine blk_alloc ?_ _)); exact BK103.out)) : gb116 ≠ gb103))
                  have n14_ := Aside0.mk ((by rw [hg]; exact Nat.ne_of_lt (blk_lt (g := gb106) (o := .cells #[.bool true, .int .i64 0] 25 (0, 0)) (by (with_reducible repeat (first | refine blk_drewN ?_ _ | refine blk_drew ?_ | refine blk_alloc ?_ _)); exact BK106.out)) : gb106 ≠ gb116))
                  have n15_ := Aside0.mk ((by rw [hg]; exact Nat.ne_of_gt (blk_lt (g := gb106) (o := .cells #[.bool true, .int .i64 0] 25 (0, 0)) (by (with_reducible repeat (first | refine blk_drewN ?_ _ | refine blk_drew ?_ | refine blk_alloc ?_ _)); exact BK106.out)) : gb116 ≠ gb106))
                  have z_NB117_116 := fun (h0_ : up b 6 6 = true) (h1_ : up b 6 7 = true) => (show gb117 ≠ gb116 from ((by rw [hg]; cases h9_ : b 9 with | false => exact Nat.ne_of_lt (blk_lt (Q_BK117 h1_ h9_)) | true => exact Nat.ne_of_lt (blk_lt (Q_BK117_e9 h9_)) : gb117 ≠ gb116)))
                  have z_NB116_117 := fun (h0_ : up b 6 6 = true) (h1_ : up b 6 7 = true) => (show gb116 ≠ gb117 from ((by rw [hg]; cases h9_ : b 9 with | false => exact Nat.ne_of_gt (blk_lt (Q_BK117 h1_ h9_)) | true => exact Nat.ne_of_gt (blk_lt (Q_BK117_e9 h9_)) : gb116 ≠ gb117)))
                  have z_BK117 := fun (h0_ : b 7 = true) (h1_ : b 9 = false) => (show w160.heap[gb117]? = some (.cells #[.bool false, .int .i64 0] 25 (0, 0)) from by first | exact (blk_below (g := gb117) (o := .cells #[.bool false, .int .i64 0] 25 (0, 0)) (by (with_reducible repeat (first | refine blk_drewN ?_ _ | refine blk_drew ?_ | refine blk_alloc ?_ _)); exact (Q_BK117 h0_ h1_)) hb))
                  clear BK101
                  clear BK102
                  clear BK103
                  clear BK106
                  clear HB
                  have BK101 := n0_
                  have BK102 := n1_
                  have BK103 := n2_
                  have BK106 := n3_
                  have HB := n4_
                  have BK116 := n5_
                  have GW116 := n6_
                  have GE116 := n7_
                  have NB101_116 := n8_
                  have NB116_101 := n9_
                  have NB102_116 := n10_
                  have NB116_102 := n11_
                  have NB103_116 := n12_
                  have NB116_103 := n13_
                  have NB106_116 := n14_
                  have NB116_106 := n15_
                  clear n0_ n1_ n2_ n3_ n4_ n5_ n6_ n7_ n8_ n9_ n10_ n11_ n12_ n13_ n14_ n15_
                  clear hb hbox hg
                  refine hK.out _ _ ⟨gb116, gb117, (.pointer (some ⟨gb116, 0, none⟩)), m7_, (by rw [ha.out]; exact putSel_upk 6 hb_ rfl rfl rfl), (by (with_reducible repeat (first | refine blk_drewN ?_ _ | refine blk_drew ?_ | refine blk_alloc ?_ _)); exact BK101.out), (by (with_reducible repeat (first | refine blk_drewN ?_ _ | refine blk_drew ?_ | refine blk_alloc ?_ _)); exact BK102.out), (by (with_reducible repeat (first | refine blk_drewN ?_ _ | refine blk_drew ?_ | refine blk_alloc ?_ _)); exact BK103.out), (by (with_reducible repeat (first | refine blk_drewN ?_ _ | refine blk_drew ?_ | refine blk_alloc ?_ _)); exact BK106.out), (by repeat (first | (with_reducible first | exact HB.out | apply below_alloc | apply pw_below_drewN | apply below_drew1 | refine below_set ?_ GE101.out | refine below_set ?_ GE102.out | refine below_set ?_ GE103.out | refine below_set ?_ GE106.out | refine below_set ?_ GE116.out) | exact HB.out)), @z_NB117_116, @z_NB116_117, fun _ _ => (by (with_reducible repeat (first | refine blk_drewN ?_ _ | refine blk_drew ?_ | refine blk_alloc ?_ _)); exact BK116.out), fun _ => GW116.out, fun _ => GE116.out, fun _ => NB101_116.out, fun _ => NB116_101.out, fun _ => NB102_116.out, fun _ => NB116_102.out, fun _ => NB103_116.out, fun _ => NB116_103.out, fun _ => NB106_116.out, fun _ => NB116_106.out, z_BK117, Q_GW117, Q_GE117, Q_NB101_117, Q_NB117_101, Q_NB102_117, Q_NB117_102, Q_NB103_117, Q_NB117_103, Q_NB106_117, Q_NB117_106, fun h0_ => absurd ((hoff 8 (by kernel_rfl)).symm.trans h0_) (by decide), fun h0_ => absurd ((hoff 9 (by kernel_rfl)).symm.trans h0_) (by decide), fun _ => rfl, Q_X7_⟩
                refine steps_cons ?_ ?_
                · rintro b a w' ⟨gb116, gb117, m6_, m7_, ha, Q_BK101, Q_BK102, Q_BK103, Q_BK106, Q_HB, Q_NB117_116, Q_NB116_117, Q_BK116, Q_GW116, Q_GE116, Q_NB101_116, Q_NB116_101, Q_NB102_116, Q_NB116_102, Q_NB103_116, Q_NB116_103, Q_NB106_116, Q_NB116_106, Q_BK117, Q_GW117, Q_GE117, Q_NB101_117, Q_NB117_101, Q_NB102_117, Q_NB117_102, Q_NB103_117, Q_NB117_103, Q_NB106_117, Q_NB117_106, Q_BK116_e8, Q_BK117_e9, Q_X6_, Q_X7_⟩ hb_ hon hoff
                  refine ⟨_, rfl, fun K hK => ?_⟩
                  replace ha := Aside0.mk ha
                  have BK101 := Aside0.mk Q_BK101
                  have BK102 := Aside0.mk Q_BK102
                  have BK103 := Aside0.mk Q_BK103
                  have BK106 := Aside0.mk Q_BK106
                  have HB := Aside0.mk Q_HB
                  refine box_step ?hg (N := 10) ?hd (cs := #[.bool false, .int .i64 0]) (t := 25) ?hr ?_; (case hd => rfl); (case hg => rfl); (case hr => first | (go_simp; done) | (go_simp; rfl))
                  intro gb117 hg w160 hbox hb
                  have n0_ := Aside0.mk (blk_below (g := gb101) (o := .cells #[.bool a0_0, .int .i64 a0_1] 25 (0, 0)) (by (with_reducible repeat (first | refine blk_drewN ?_ _ | refine blk_drew ?_ | refine blk_alloc ?_ _)); exact BK101.out) hb)
                  have n1_ := Aside0.mk (blk_below (g := gb102) (o := .cells #[.bool a1_0, .int .i64 a1_1] 25 (0, 0)) (by (with_reducible repeat (first | refine blk_drewN ?_ _ | refine blk_drew ?_ | refine blk_alloc ?_ _)); exact BK102.out) hb)
                  have n2_ := Aside0.mk (blk_below (g := gb103) (o := .cells #[.bool a2_0, .int .i64 a2_1] 25 (0, 0)) (by (with_reducible repeat (first | refine blk_drewN ?_ _ | refine blk_drew ?_ | refine blk_alloc ?_ _)); exact BK103.out) hb)
                  have n3_ := Aside0.mk (blk_below (g := gb106) (o := .cells #[.bool true, .int .i64 0] 25 (0, 0)) (by (with_reducible repeat (first | refine blk_drewN ?_ _ | refine blk_drew ?_ | refine blk_alloc ?_ _)); exact BK106.out) hb)
                  have n4_ := Aside0.mk (below_step (by repeat (first | (with_reducible first | exact HB.out | apply below_alloc | apply pw_below_drewN | apply below_drew1 | refine below_set ?_ GE101.out | refine below_set ?_ GE102.out | refine below_set ?_ GE103.out | refine below_set ?_ GE106.out) | exact HB.out)) hb)
                  have n5_ := Aside0.mk (hbox)
                  have n6_ := Aside0.mk ((by rw [hg]; exact (below_size (by repeat (first | (with_reducible first | exact HB.out | apply below_alloc | apply pw_below_drewN | apply below_drew1 | refine below_set ?_ GE101.out | refine below_set ?_ GE102.out | refine below_set ?_ GE103.out | refine below_set ?_ GE106.out) | exact HB.out))) : w.heap.size ≤ gb117))
                  have n7_ := Aside0.mk ((by rw [hg]; exact (below_size (by repeat (first | (with_reducible first | exact HB.out | apply below_alloc | apply pw_below_drewN | apply below_drew1 | refine below_set ?_ GE101.out | refine below_set ?_ GE102.out | refine below_set ?_ GE103.out | refine below_set ?_ GE106.out) | exact HB.out))) : w.heap.size ≤ gb117))
                  have n8_ := Aside0.mk ((by rw [hg]; exact Nat.ne_of_lt (blk_lt (g := gb101) (o := .cells #[.bool a0_0, .int .i64 a0_1] 25 (0, 0)) (by (with_reducible repeat (first | refine blk_drewN ?_ _ | refine blk_drew ?_ | refine blk_alloc ?_ _)); exact BK101.out)) : gb101 ≠ gb117))
                  have n9_ := Aside0.mk ((by rw [hg]; exact Nat.ne_of_gt (blk_lt (g := gb101) (o := .cells #[.bool a0_0, .int .i64 a0_1] 25 (0, 0)) (by (with_reducible repeat (first | refine blk_drewN ?_ _ | refine blk_drew ?_ | refine blk_alloc ?_ _)); exact BK101.out)) : gb117 ≠ gb101))
                  have n10_ := Aside0.mk ((by rw [hg]; exact Nat.ne_of_lt (blk_lt (g := gb102) (o := .cells #[.bool a1_0, .int .i64 a1_1] 25 (0, 0)) (by (with_reducible repeat (first | refine blk_drewN ?_ _ | refine blk_drew ?_ | refine blk_alloc ?_ _)); exact BK102.out)) : gb102 ≠ gb117))
                  have n11_ := Aside0.mk ((by rw [hg]; exact Nat.ne_of_gt (blk_lt (g := gb102) (o := .cells #[.bool a1_0, .int .i64 a1_1] 25 (0, 0)) (by (with_reducible repeat (first | refine blk_drewN ?_ _ | refine blk_drew ?_ | refine blk_alloc ?_ _)); exact BK102.out)) : gb117 ≠ gb102))
                  have n12_ := Aside0.mk ((by rw [hg]; exact Nat.ne_of_lt (blk_lt (g := gb103) (o := .cells #[.bool a2_0, .int .i64 a2_1] 25 (0, 0)) (by (with_reducible repeat (first | refine blk_drewN ?_ _ | refine blk_drew ?_ | refine blk_alloc ?_ _)); exact BK103.out)) : gb103 ≠ gb117))
                  have n13_ := Aside0.mk ((by rw [hg]; exact Nat.ne_of_gt (blk_lt (g := gb103) (o := .cells #[.bool a2_0, .int .i64 a2_1] 25 (0, 0)) (by (with_reducible repeat (first | refine blk_drewN ?_ _ | refine blk_drew ?_ | refine blk_alloc ?_ _)); exact BK103.out)) : gb117 ≠ gb103))
                  have n14_ := Aside0.mk ((by rw [hg]; exact Nat.ne_of_lt (blk_lt (g := gb106) (o := .cells #[.bool true, .int .i64 0] 25 (0, 0)) (by (with_reducible repeat (first | refine blk_drewN ?_ _ | refine blk_drew ?_ | refine blk_alloc ?_ _)); exact BK106.out)) : gb106 ≠ gb117))
                  have n15_ := Aside0.mk ((by rw [hg]; exact Nat.ne_of_gt (blk_lt (g := gb106) (o := .cells #[.bool true, .int .i64 0] 25 (0, 0)) (by (with_reducible repeat (first | refine blk_drewN ?_ _ | refine blk_drew ?_ | refine blk_alloc ?_ _)); exact BK106.out)) : gb117 ≠ gb106))
                  have z_NB117_116 := fun (h0_ : up b 7 6 = true) (h1_ : up b 7 7 = true) => (show gb117 ≠ gb116 from ((by rw [hg]; cases h9_ : b 8 with | false => exact Nat.ne_of_gt (blk_lt (Q_BK116 h0_ h9_)) | true => exact Nat.ne_of_gt (blk_lt (Q_BK116_e8 h9_)) : gb117 ≠ gb116)))
                  have z_NB116_117 := fun (h0_ : up b 7 6 = true) (h1_ : up b 7 7 = true) => (show gb116 ≠ gb117 from ((by rw [hg]; cases h9_ : b 8 with | false => exact Nat.ne_of_lt (blk_lt (Q_BK116 h0_ h9_)) | true => exact Nat.ne_of_lt (blk_lt (Q_BK116_e8 h9_)) : gb116 ≠ gb117)))
                  have z_BK116 := fun (h0_ : b 6 = true) (h1_ : b 8 = false) => (show w160.heap[gb116]? = some (.cells #[.bool false, .int .i64 0] 25 (0, 0)) from by first | exact (blk_below (g := gb116) (o := .cells #[.bool false, .int .i64 0] 25 (0, 0)) (by (with_reducible repeat (first | refine blk_drewN ?_ _ | refine blk_drew ?_ | refine blk_alloc ?_ _)); exact (Q_BK116 h0_ h1_)) hb))
                  clear BK101
                  clear BK102
                  clear BK103
                  clear BK106
                  clear HB
                  have BK101 := n0_
                  have BK102 := n1_
                  have BK103 := n2_
                  have BK106 := n3_
                  have HB := n4_
                  have BK117 := n5_
                  have GW117 := n6_
                  have GE117 := n7_
                  have NB101_117 := n8_
                  have NB117_101 := n9_
                  have NB102_117 := n10_
                  have NB117_102 := n11_
                  have NB103_117 := n12_
                  have NB117_103 := n13_
                  have NB106_117 := n14_
                  have NB117_106 := n15_
                  clear n0_ n1_ n2_ n3_ n4_ n5_ n6_ n7_ n8_ n9_ n10_ n11_ n12_ n13_ n14_ n15_
                  clear hb hbox hg
                  refine hK.out _ _ ⟨gb116, gb117, m6_, (.pointer (some ⟨gb117, 0, none⟩)), (by rw [ha.out]; exact putSel_upk 7 hb_ rfl rfl rfl), (by (with_reducible repeat (first | refine blk_drewN ?_ _ | refine blk_drew ?_ | refine blk_alloc ?_ _)); exact BK101.out), (by (with_reducible repeat (first | refine blk_drewN ?_ _ | refine blk_drew ?_ | refine blk_alloc ?_ _)); exact BK102.out), (by (with_reducible repeat (first | refine blk_drewN ?_ _ | refine blk_drew ?_ | refine blk_alloc ?_ _)); exact BK103.out), (by (with_reducible repeat (first | refine blk_drewN ?_ _ | refine blk_drew ?_ | refine blk_alloc ?_ _)); exact BK106.out), (by repeat (first | (with_reducible first | exact HB.out | apply below_alloc | apply pw_below_drewN | apply below_drew1 | refine below_set ?_ GE101.out | refine below_set ?_ GE102.out | refine below_set ?_ GE103.out | refine below_set ?_ GE106.out | refine below_set ?_ GE117.out) | exact HB.out)), @z_NB117_116, @z_NB116_117, z_BK116, Q_GW116, Q_GE116, Q_NB101_116, Q_NB116_101, Q_NB102_116, Q_NB116_102, Q_NB103_116, Q_NB116_103, Q_NB106_116, Q_NB116_106, fun _ _ => (by (with_reducible repeat (first | refine blk_drewN ?_ _ | refine blk_drew ?_ | refine blk_alloc ?_ _)); exact BK117.out), fun _ => GW117.out, fun _ => GE117.out, fun _ => NB101_117.out, fun _ => NB117_101.out, fun _ => NB102_117.out, fun _ => NB117_102.out, fun _ => NB103_117.out, fun _ => NB117_103.out, fun _ => NB106_117.out, fun _ => NB117_106.out, fun h0_ => absurd ((hoff 8 (by kernel_rfl)).symm.trans h0_) (by decide), fun h0_ => absurd ((hoff 9 (by kernel_rfl)).symm.trans h0_) (by decide), Q_X6_, fun _ => rfl⟩
                refine steps_cons ?_ ?_
                · rintro b a w' ⟨gb116, gb117, m6_, m7_, ha, Q_BK101, Q_BK102, Q_BK103, Q_BK106, Q_HB, Q_NB117_116, Q_NB116_117, Q_BK116, Q_GW116, Q_GE116, Q_NB101_116, Q_NB116_101, Q_NB102_116, Q_NB116_102, Q_NB103_116, Q_NB116_103, Q_NB106_116, Q_NB116_106, Q_BK117, Q_GW117, Q_GE117, Q_NB101_117, Q_NB117_101, Q_NB102_117, Q_NB117_102, Q_NB103_117, Q_NB117_103, Q_NB106_117, Q_NB117_106, Q_BK116_e8, Q_BK117_e9, Q_X6_, Q_X7_⟩ hb_ hon hoff
                  refine ⟨_, rfl, fun K hK => ?_⟩
                  have e9 : a.tmps[9]? = some (m6_) := by rw [ha]; exact putSel_on (e := (6, 9, m6_)) 6 rfl rfl (hon 6 (by kernel_rfl)) rfl
                  rw [Q_X6_ (hon 6 (by kernel_rfl))] at e9
                  have e53 : a.tmps[53]? = some (.agg #[.bool false, .int .i64 t113]) := by rw [ha]; exact putSel_on (e := (2, 53, .agg #[.bool false, .int .i64 t113])) 2 rfl rfl (hon 2 (by kernel_rfl)) rfl
                  replace ha := Aside0.mk ha
                  have BK101 := Aside0.mk Q_BK101
                  have BK102 := Aside0.mk Q_BK102
                  have BK103 := Aside0.mk Q_BK103
                  have BK106 := Aside0.mk Q_BK106
                  have HB := Aside0.mk Q_HB
                  have NB117_116 := Aside0.mk (Q_NB117_116 (hon 6 (by kernel_rfl)) (hon 7 (by kernel_rfl)))
                  have NB116_117 := Aside0.mk (Q_NB116_117 (hon 6 (by kernel_rfl)) (hon 7 (by kernel_rfl)))
                  have BK116 := Aside0.mk (Q_BK116 (hon 6 (by kernel_rfl)) hb_)
                  have GW116 := Aside0.mk (Q_GW116 (hon 6 (by kernel_rfl)))
                  have GE116 := Aside0.mk (Q_GE116 (hon 6 (by kernel_rfl)))
                  have NB101_116 := Aside0.mk (Q_NB101_116 (hon 6 (by kernel_rfl)))
                  have NB116_101 := Aside0.mk (Q_NB116_101 (hon 6 (by kernel_rfl)))
                  have NB102_116 := Aside0.mk (Q_NB102_116 (hon 6 (by kernel_rfl)))
                  have NB116_102 := Aside0.mk (Q_NB116_102 (hon 6 (by kernel_rfl)))
                  have NB103_116 := Aside0.mk (Q_NB103_116 (hon 6 (by kernel_rfl)))
                  have NB116_103 := Aside0.mk (Q_NB116_103 (hon 6 (by kernel_rfl)))
                  have NB106_116 := Aside0.mk (Q_NB106_116 (hon 6 (by kernel_rfl)))
                  have NB116_106 := Aside0.mk (Q_NB116_106 (hon 6 (by kernel_rfl)))
                  have BK117 := Aside0.mk (Q_BK117 (hon 7 (by kernel_rfl)) (hoff 9 (by kernel_rfl)))
                  have GW117 := Aside0.mk (Q_GW117 (hon 7 (by kernel_rfl)))
                  have GE117 := Aside0.mk (Q_GE117 (hon 7 (by kernel_rfl)))
                  have NB101_117 := Aside0.mk (Q_NB101_117 (hon 7 (by kernel_rfl)))
                  have NB117_101 := Aside0.mk (Q_NB117_101 (hon 7 (by kernel_rfl)))
                  have NB102_117 := Aside0.mk (Q_NB102_117 (hon 7 (by kernel_rfl)))
                  have NB117_102 := Aside0.mk (Q_NB117_102 (hon 7 (by kernel_rfl)))
                  have NB103_117 := Aside0.mk (Q_NB103_117 (hon 7 (by kernel_rfl)))
                  have NB117_103 := Aside0.mk (Q_NB117_103 (hon 7 (by kernel_rfl)))
                  have NB106_117 := Aside0.mk (Q_NB106_117 (hon 7 (by kernel_rfl)))
                  have NB117_106 := Aside0.mk (Q_NB117_106 (hon 7 (by kernel_rfl)))
                  have hs165 : w'.cell? ⟨gb116, 0, none⟩ = some (.bool false) := (blk_cell BK116.out 0).trans rfl
                  have hfs165 := blk_frozen BK116.out 0
                  have hns165_0 := NB101_116.out
                  have hns165_1 := NB102_116.out
                  have hns165_2 := NB103_116.out
                  have hns165_3 := NB106_116.out
                  have hns165_5 := NB117_116.out
                  have hms165_0 := NB116_101.out
                  have hms165_1 := NB116_102.out
                  have hms165_2 := NB116_103.out
                  have hms165_3 := NB116_106.out
                  have hms165_5 := NB116_117.out
                  have hs166 : w'.cell? ⟨gb116, 1, none⟩ = some (.int .i64 0) := (blk_cell BK116.out 1).trans rfl
                  have hfs166 := blk_frozen BK116.out 1
                  have hns166_0 := NB101_116.out
                  have hns166_1 := NB102_116.out
                  have hns166_2 := NB103_116.out
                  have hns166_3 := NB106_116.out
                  have hns166_5 := NB117_116.out
                  have hms166_0 := NB116_101.out
                  have hms166_1 := NB116_102.out
                  have hms166_2 := NB116_103.out
                  have hms166_3 := NB116_106.out
                  have hms166_5 := NB116_117.out
                  refine skip_ (w1 := ?_) (by rfl) rfl ?_ ?_
                  rotate_left
                  · go_simp
                    rfl
                  refine hK.out _ _ ⟨gb116, gb117, m6_, m7_, (by rw [ha.out]; exact putSel_none (v := undef) rfl), (by (with_reducible repeat (first | refine blk_drewN ?_ _ | refine blk_drew ?_ | refine blk_alloc ?_ _)); refine blk_far ?_ NB101_116.out _; (with_reducible repeat (first | refine blk_drewN ?_ _ | refine blk_drew ?_ | refine blk_alloc ?_ _)); refine blk_far ?_ NB101_116.out _; (with_reducible repeat (first | refine blk_drewN ?_ _ | refine blk_drew ?_ | refine blk_alloc ?_ _)); exact BK101.out), (by (with_reducible repeat (first | refine blk_drewN ?_ _ | refine blk_drew ?_ | refine blk_alloc ?_ _)); refine blk_far ?_ NB102_116.out _; (with_reducible repeat (first | refine blk_drewN ?_ _ | refine blk_drew ?_ | refine blk_alloc ?_ _)); refine blk_far ?_ NB102_116.out _; (with_reducible repeat (first | refine blk_drewN ?_ _ | refine blk_drew ?_ | refine blk_alloc ?_ _)); exact BK102.out), (by (with_reducible repeat (first | refine blk_drewN ?_ _ | refine blk_drew ?_ | refine blk_alloc ?_ _)); refine blk_far ?_ NB103_116.out _; (with_reducible repeat (first | refine blk_drewN ?_ _ | refine blk_drew ?_ | refine blk_alloc ?_ _)); refine blk_far ?_ NB103_116.out _; (with_reducible repeat (first | refine blk_drewN ?_ _ | refine blk_drew ?_ | refine blk_alloc ?_ _)); exact BK103.out), (by (with_reducible repeat (first | refine blk_drewN ?_ _ | refine blk_drew ?_ | refine blk_alloc ?_ _)); refine blk_far ?_ NB106_116.out _; (with_reducible repeat (first | refine blk_drewN ?_ _ | refine blk_drew ?_ | refine blk_alloc ?_ _)); refine blk_far ?_ NB106_116.out _; (with_reducible repeat (first | refine blk_drewN ?_ _ | refine blk_drew ?_ | refine blk_alloc ?_ _)); exact BK106.out), (by repeat (first | (with_reducible first | exact HB.out | apply below_alloc | apply pw_below_drewN | apply below_drew1 | refine below_set ?_ GE101.out | refine below_set ?_ GE102.out | refine below_set ?_ GE103.out | refine below_set ?_ GE106.out | refine below_set ?_ GE116.out | refine below_set ?_ GE117.out) | exact HB.out)), fun _ _ => NB117_116.out, fun _ _ => NB116_117.out, fun _ h1_ => absurd ((up_self b 8).symm.trans h1_) (by decide), fun _ => GW116.out, fun _ => GE116.out, fun _ => NB101_116.out, fun _ => NB116_101.out, fun _ => NB102_116.out, fun _ => NB116_102.out, fun _ => NB103_116.out, fun _ => NB116_103.out, fun _ => NB106_116.out, fun _ => NB116_106.out, fun _ _ => (by (with_reducible repeat (first | refine blk_drewN ?_ _ | refine blk_drew ?_ | refine blk_alloc ?_ _)); refine blk_far ?_ NB117_116.out _; (with_reducible repeat (first | refine blk_drewN ?_ _ | refine blk_drew ?_ | refine blk_alloc ?_ _)); refine blk_far ?_ NB117_116.out _; (with_reducible repeat (first | refine blk_drewN ?_ _ | refine blk_drew ?_ | refine blk_alloc ?_ _)); exact BK117.out), fun _ => GW117.out, fun _ => GE117.out, fun _ => NB101_117.out, fun _ => NB117_101.out, fun _ => NB102_117.out, fun _ => NB117_102.out, fun _ => NB103_117.out, fun _ => NB117_103.out, fun _ => NB106_117.out, fun _ => NB117_106.out, fun _ => (by (with_reducible repeat (first | refine blk_drewN ?_ _ | refine blk_drew ?_ | refine blk_alloc ?_ _)); refine blk_put (cs := #[.bool false, .int .i64 0]) ?_ 1 _ rfl; (with_reducible repeat (first | refine blk_drewN ?_ _ | refine blk_drew ?_ | refine blk_alloc ?_ _)); refine blk_put (cs := #[.bool false, .int .i64 0]) ?_ 0 _ rfl; (with_reducible repeat (first | refine blk_drewN ?_ _ | refine blk_drew ?_ | refine blk_alloc ?_ _)); exact BK116.out), fun h0_ => absurd ((hoff 9 (by kernel_rfl)).symm.trans h0_) (by decide), Q_X6_, Q_X7_⟩
                refine steps_cons ?_ ?_
                · rintro b a w' ⟨gb116, gb117, m6_, m7_, ha, Q_BK101, Q_BK102, Q_BK103, Q_BK106, Q_HB, Q_NB117_116, Q_NB116_117, Q_BK116, Q_GW116, Q_GE116, Q_NB101_116, Q_NB116_101, Q_NB102_116, Q_NB116_102, Q_NB103_116, Q_NB116_103, Q_NB106_116, Q_NB116_106, Q_BK117, Q_GW117, Q_GE117, Q_NB101_117, Q_NB117_101, Q_NB102_117, Q_NB117_102, Q_NB103_117, Q_NB117_103, Q_NB106_117, Q_NB117_106, Q_BK116_e8, Q_BK117_e9, Q_X6_, Q_X7_⟩ hb_ hon hoff
                  refine ⟨_, rfl, fun K hK => ?_⟩
                  have e10 : a.tmps[10]? = some (m7_) := by rw [ha]; exact putSel_on (e := (7, 10, m7_)) 7 rfl rfl (hon 7 (by kernel_rfl)) rfl
                  rw [Q_X7_ (hon 7 (by kernel_rfl))] at e10
                  have e56 : a.tmps[56]? = some (.agg #[.bool false, .int .i64 t115]) := by rw [ha]; exact putSel_on (e := (5, 56, .agg #[.bool false, .int .i64 t115])) 5 rfl rfl (hon 5 (by kernel_rfl)) rfl
                  replace ha := Aside0.mk ha
                  have BK101 := Aside0.mk Q_BK101
                  have BK102 := Aside0.mk Q_BK102
                  have BK103 := Aside0.mk Q_BK103
                  have BK106 := Aside0.mk Q_BK106
                  have HB := Aside0.mk Q_HB
                  have NB117_116 := Aside0.mk (Q_NB117_116 (hon 6 (by kernel_rfl)) (hon 7 (by kernel_rfl)))
                  have NB116_117 := Aside0.mk (Q_NB116_117 (hon 6 (by kernel_rfl)) (hon 7 (by kernel_rfl)))
                  have GW116 := Aside0.mk (Q_GW116 (hon 6 (by kernel_rfl)))
                  have GE116 := Aside0.mk (Q_GE116 (hon 6 (by kernel_rfl)))
                  have NB101_116 := Aside0.mk (Q_NB101_116 (hon 6 (by kernel_rfl)))
                  have NB116_101 := Aside0.mk (Q_NB116_101 (hon 6 (by kernel_rfl)))
                  have NB102_116 := Aside0.mk (Q_NB102_116 (hon 6 (by kernel_rfl)))
                  have NB116_102 := Aside0.mk (Q_NB116_102 (hon 6 (by kernel_rfl)))
                  have NB103_116 := Aside0.mk (Q_NB103_116 (hon 6 (by kernel_rfl)))
                  have NB116_103 := Aside0.mk (Q_NB116_103 (hon 6 (by kernel_rfl)))
                  have NB106_116 := Aside0.mk (Q_NB106_116 (hon 6 (by kernel_rfl)))
                  have NB116_106 := Aside0.mk (Q_NB116_106 (hon 6 (by kernel_rfl)))
                  have BK117 := Aside0.mk (Q_BK117 (hon 7 (by kernel_rfl)) hb_)
                  have GW117 := Aside0.mk (Q_GW117 (hon 7 (by kernel_rfl)))
                  have GE117 := Aside0.mk (Q_GE117 (hon 7 (by kernel_rfl)))
                  have NB101_117 := Aside0.mk (Q_NB101_117 (hon 7 (by kernel_rfl)))
                  have NB117_101 := Aside0.mk (Q_NB117_101 (hon 7 (by kernel_rfl)))
                  have NB102_117 := Aside0.mk (Q_NB102_117 (hon 7 (by kernel_rfl)))
                  have NB117_102 := Aside0.mk (Q_NB117_102 (hon 7 (by kernel_rfl)))
                  have NB103_117 := Aside0.mk (Q_NB103_117 (hon 7 (by kernel_rfl)))
                  have NB117_103 := Aside0.mk (Q_NB117_103 (hon 7 (by kernel_rfl)))
                  have NB106_117 := Aside0.mk (Q_NB106_117 (hon 7 (by kernel_rfl)))
                  have NB117_106 := Aside0.mk (Q_NB117_106 (hon 7 (by kernel_rfl)))
                  have BK116 := Aside0.mk (Q_BK116_e8 (hon 8 (by kernel_rfl)))
                  have hs167 : w'.cell? ⟨gb117, 0, none⟩ = some (.bool false) := (blk_cell BK117.out 0).trans rfl
                  have hfs167 := blk_frozen BK117.out 0
                  have hns167_0 := NB101_117.out
                  have hns167_1 := NB102_117.out
                  have hns167_2 := NB103_117.out
                  have hns167_3 := NB106_117.out
                  have hns167_4 := NB116_117.out
                  have hms167_0 := NB117_101.out
                  have hms167_1 := NB117_102.out
                  have hms167_2 := NB117_103.out
                  have hms167_3 := NB117_106.out
                  have hms167_4 := NB117_116.out
                  have hs168 : w'.cell? ⟨gb117, 1, none⟩ = some (.int .i64 0) := (blk_cell BK117.out 1).trans rfl
                  have hfs168 := blk_frozen BK117.out 1
                  have hns168_0 := NB101_117.out
                  have hns168_1 := NB102_117.out
                  have hns168_2 := NB103_117.out
                  have hns168_3 := NB106_117.out
                  have hns168_4 := NB116_117.out
                  have hms168_0 := NB117_101.out
                  have hms168_1 := NB117_102.out
                  have hms168_2 := NB117_103.out
                  have hms168_3 := NB117_106.out
                  have hms168_4 := NB117_116.out
                  refine skip_ (w1 := ?_) (by rfl) rfl ?_ ?_
                  rotate_left
                  · go_simp
                    rfl
                  refine hK.out _ _ ⟨gb116, gb117, m6_, m7_, (by rw [ha.out]; exact putSel_none (v := undef) rfl), (by (with_reducible repeat (first | refine blk_drewN ?_ _ | refine blk_drew ?_ | refine blk_alloc ?_ _)); refine blk_far ?_ NB101_117.out _; (with_reducible repeat (first | refine blk_drewN ?_ _ | refine blk_drew ?_ | refine blk_alloc ?_ _)); refine blk_far ?_ NB101_117.out _; (with_reducible repeat (first | refine blk_drewN ?_ _ | refine blk_drew ?_ | refine blk_alloc ?_ _)); exact BK101.out), (by (with_reducible repeat (first | refine blk_drewN ?_ _ | refine blk_drew ?_ | refine blk_alloc ?_ _)); refine blk_far ?_ NB102_117.out _; (with_reducible repeat (first | refine blk_drewN ?_ _ | refine blk_drew ?_ | refine blk_alloc ?_ _)); refine blk_far ?_ NB102_117.out _; (with_reducible repeat (first | refine blk_drewN ?_ _ | refine blk_drew ?_ | refine blk_alloc ?_ _)); exact BK102.out), (by (with_reducible repeat (first | refine blk_drewN ?_ _ | refine blk_drew ?_ | refine blk_alloc ?_ _)); refine blk_far ?_ NB103_117.out _; (with_reducible repeat (first | refine blk_drewN ?_ _ | refine blk_drew ?_ | refine blk_alloc ?_ _)); refine blk_far ?_ NB103_117.out _; (with_reducible repeat (first | refine blk_drewN ?_ _ | refine blk_drew ?_ | refine blk_alloc ?_ _)); exact BK103.out), (by (with_reducible repeat (first | refine blk_drewN ?_ _ | refine blk_drew ?_ | refine blk_alloc ?_ _)); refine blk_far ?_ NB106_117.out _; (with_reducible repeat (first | refine blk_drewN ?_ _ | refine blk_drew ?_ | refine blk_alloc ?_ _)); refine blk_far ?_ NB106_117.out _; (with_reducible repeat (first | refine blk_drewN ?_ _ | refine blk_drew ?_ | refine blk_alloc ?_ _)); exact BK106.out), (by repeat (first | (with_reducible first | exact HB.out | apply below_alloc | apply pw_below_drewN | apply below_drew1 | refine below_set ?_ GE101.out | refine below_set ?_ GE102.out | refine below_set ?_ GE103.out | refine below_set ?_ GE106.out | refine below_set ?_ GE116.out | refine below_set ?_ GE117.out) | exact HB.out)), fun _ _ => NB117_116.out, fun _ _ => NB116_117.out, fun _ h1_ => absurd ((hon 8 (by kernel_rfl)).symm.trans h1_) (by decide), fun _ => GW116.out, fun _ => GE116.out, fun _ => NB101_116.out, fun _ => NB116_101.out, fun _ => NB102_116.out, fun _ => NB116_102.out, fun _ => NB103_116.out, fun _ => NB116_103.out, fun _ => NB106_116.out, fun _ => NB116_106.out, fun _ h1_ => absurd ((up_self b 9).symm.trans h1_) (by decide), fun _ => GW117.out, fun _ => GE117.out, fun _ => NB101_117.out, fun _ => NB117_101.out, fun _ => NB102_117.out, fun _ => NB117_102.out, fun _ => NB103_117.out, fun _ => NB117_103.out, fun _ => NB106_117.out, fun _ => NB117_106.out, fun _ => (by (with_reducible repeat (first | refine blk_drewN ?_ _ | refine blk_drew ?_ | refine blk_alloc ?_ _)); refine blk_far ?_ NB116_117.out _; (with_reducible repeat (first | refine blk_drewN ?_ _ | refine blk_drew ?_ | refine blk_alloc ?_ _)); refine blk_far ?_ NB116_117.out _; (with_reducible repeat (first | refine blk_drewN ?_ _ | refine blk_drew ?_ | refine blk_alloc ?_ _)); exact BK116.out), fun _ => (by (with_reducible repeat (first | refine blk_drewN ?_ _ | refine blk_drew ?_ | refine blk_alloc ?_ _)); refine blk_put (cs := #[.bool false, .int .i64 0]) ?_ 1 _ rfl; (with_reducible repeat (first | refine blk_drewN ?_ _ | refine blk_drew ?_ | refine blk_alloc ?_ _)); refine blk_put (cs := #[.bool false, .int .i64 0]) ?_ 0 _ rfl; (with_reducible repeat (first | refine blk_drewN ?_ _ | refine blk_drew ?_ | refine blk_alloc ?_ _)); exact BK117.out), Q_X6_, Q_X7_⟩
                exact steps_nil
              rintro b a w168 hall ⟨gb116, gb117, m6_, m7_, ha, Q_BK101, Q_BK102, Q_BK103, Q_BK106, Q_HB, Q_NB117_116, Q_NB116_117, Q_BK116, Q_GW116, Q_GE116, Q_NB101_116, Q_NB116_101, Q_NB102_116, Q_NB116_102, Q_NB103_116, Q_NB116_103, Q_NB106_116, Q_NB116_106, Q_BK117, Q_GW117, Q_GE117, Q_NB101_117, Q_NB117_101, Q_NB102_117, Q_NB117_102, Q_NB103_117, Q_NB117_103, Q_NB106_117, Q_NB117_106, Q_BK116_e8, Q_BK117_e9, Q_X6_, Q_X7_⟩
              clear BK101 BK102 BK103 BK106 HB
              have hb0_ := hall 0 (by kernel_rfl)
              have hb1_ := hall 1 (by kernel_rfl)
              have hb2_ := hall 2 (by kernel_rfl)
              have hb3_ := hall 3 (by kernel_rfl)
              have hb4_ := hall 4 (by kernel_rfl)
              have hb5_ := hall 5 (by kernel_rfl)
              have hb6_ := hall 6 (by kernel_rfl)
              have hb7_ := hall 7 (by kernel_rfl)
              have hb8_ := hall 8 (by kernel_rfl)
              have hb9_ := hall 9 (by kernel_rfl)
              subst ha
              obtain rfl := Q_X6_ hb6_
              obtain rfl := Q_X7_ hb7_
              simp only [putSel, hb0_, hb1_, hb2_, hb3_, hb4_, hb5_, hb6_, hb7_, hb8_, hb9_, if_true, Act.put, List.setIfInBounds_toArray, List.set_cons_zero, List.set_cons_succ]
              have BK101 := Aside0.mk Q_BK101
              clear Q_BK101
              have BK102 := Aside0.mk Q_BK102
              clear Q_BK102
              have BK103 := Aside0.mk Q_BK103
              clear Q_BK103
              have BK106 := Aside0.mk Q_BK106
              clear Q_BK106
              have HB := Aside0.mk Q_HB
              clear Q_HB
              have NB117_116 := Aside0.mk (Q_NB117_116 hb6_ hb7_)
              clear Q_NB117_116
              have NB116_117 := Aside0.mk (Q_NB116_117 hb6_ hb7_)
              clear Q_NB116_117
              clear Q_BK116
              have GW116 := Aside0.mk (Q_GW116 hb6_)
              clear Q_GW116
              have GE116 := Aside0.mk (Q_GE116 hb6_)
              clear Q_GE116
              have NB101_116 := Aside0.mk (Q_NB101_116 hb6_)
              clear Q_NB101_116
              have NB116_101 := Aside0.mk (Q_NB116_101 hb6_)
              clear Q_NB116_101
              have NB102_116 := Aside0.mk (Q_NB102_116 hb6_)
              clear Q_NB102_116
              have NB116_102 := Aside0.mk (Q_NB116_102 hb6_)
              clear Q_NB116_102
              have NB103_116 := Aside0.mk (Q_NB103_116 hb6_)
              clear Q_NB103_116
              have NB116_103 := Aside0.mk (Q_NB116_103 hb6_)
              clear Q_NB116_103
              have NB106_116 := Aside0.mk (Q_NB106_116 hb6_)
              clear Q_NB106_116
              have NB116_106 := Aside0.mk (Q_NB116_106 hb6_)
              clear Q_NB116_106
              clear Q_BK117
              have GW117 := Aside0.mk (Q_GW117 hb7_)
              clear Q_GW117
              have GE117 := Aside0.mk (Q_GE117 hb7_)
              clear Q_GE117
              have NB101_117 := Aside0.mk (Q_NB101_117 hb7_)
              clear Q_NB101_117
              have NB117_101 := Aside0.mk (Q_NB117_101 hb7_)
              clear Q_NB117_101
              have NB102_117 := Aside0.mk (Q_NB102_117 hb7_)
              clear Q_NB102_117
              have NB117_102 := Aside0.mk (Q_NB117_102 hb7_)
              clear Q_NB117_102
              have NB103_117 := Aside0.mk (Q_NB103_117 hb7_)
              clear Q_NB103_117
              have NB117_103 := Aside0.mk (Q_NB117_103 hb7_)
              clear Q_NB117_103
              have NB106_117 := Aside0.mk (Q_NB106_117 hb7_)
              clear Q_NB106_117
              have NB117_106 := Aside0.mk (Q_NB117_106 hb7_)
              clear Q_NB117_106
              have BK116 := Aside0.mk (Q_BK116_e8 hb8_)
              clear Q_BK116_e8
              have BK117 := Aside0.mk (Q_BK117_e9 hb9_)
              clear Q_BK117_e9
              clear hall hb0_ hb1_ hb2_ hb3_ hb4_ hb5_ hb6_ hb7_ hb8_ hb9_
              have hnb169 := NB116_101.out
              have hnc169 := NB101_116.out
              have hnb170 := NB116_102.out
              have hnc170 := NB102_116.out
              have hnb171 := NB116_103.out
              have hnc171 := NB103_116.out
              have hnb172 := NB116_106.out
              have hnc172 := NB106_116.out
              have hnb173 := NB116_117.out
              have hnc173 := NB117_116.out
              have hcz174_0 : w168.cell? ⟨gb116, 0, none⟩ = some (.bool false) := (blk_cell BK116.out 0).trans rfl
              have hcz174_1 : w168.cell? ⟨gb116, 1, none⟩ = some (.int .i64 t113) := (blk_cell BK116.out 1).trans rfl
              have hfz174_0 := blk_frozen BK116.out 0
              have hfz174_1 := blk_frozen BK116.out 1
              have hnb175 := NB117_101.out
              have hnc175 := NB101_117.out
              have hnb176 := NB117_102.out
              have hnc176 := NB102_117.out
              have hnb177 := NB117_103.out
              have hnc177 := NB103_117.out
              have hnb178 := NB117_106.out
              have hnc178 := NB106_117.out
              have hcz179_0 : w168.cell? ⟨gb117, 0, none⟩ = some (.bool false) := (blk_cell BK117.out 0).trans rfl
              have hcz179_1 : w168.cell? ⟨gb117, 1, none⟩ = some (.int .i64 t115) := (blk_cell BK117.out 1).trans rfl
              have hfz179_0 := blk_frozen BK117.out 0
              have hfz179_1 := blk_frozen BK117.out 1
              try go_wp2_with (first | (go_at_call 17; (with_reducible refine (fix_Cmp.calls kj6 false t113 false t115 t118 _ A158.out).mono ?_); rintro e w180 ⟨rfl, hb⟩; have n0_ := Aside0.mk (blk_below (g := gb101) (o := .cells #[.bool a0_0, .int .i64 a0_1] 25 (0, 0)) (by (with_reducible repeat (first | refine blk_drewN ?_ _ | refine blk_drew ?_ | refine blk_alloc ?_ _)); exact BK101.out) hb); have n1_ := Aside0.mk (blk_below (g := gb102) (o := .cells #[.bool a1_0, .int .i64 a1_1] 25 (0, 0)) (by (with_reducible repeat (first | refine blk_drewN ?_ _ | refine blk_drew ?_ | refine blk_alloc ?_ _)); exact BK102.out) hb); have n2_ := Aside0.mk (blk_below (g := gb103) (o := .cells #[.bool a2_0, .int .i64 a2_1] 25 (0, 0)) (by (with_reducible repeat (first | refine blk_drewN ?_ _ | refine blk_drew ?_ | refine blk_alloc ?_ _)); exact BK103.out) hb); have n3_ := Aside0.mk (blk_below (g := gb106) (o := .cells #[.bool true, .int .i64 0] 25 (0, 0)) (by (with_reducible repeat (first | refine blk_drewN ?_ _ | refine blk_drew ?_ | refine blk_alloc ?_ _)); exact BK106.out) hb); have n4_ := Aside0.mk (blk_below (g := gb116) (o := .cells #[.bool false, .int .i64 t113] 25 (0, 0)) (by (with_reducible repeat (first | refine blk_drewN ?_ _ | refine blk_drew ?_ | refine blk_alloc ?_ _)); exact BK116.out) hb); have n5_ := Aside0.mk (blk_below (g := gb117) (o := .cells #[.bool false, .int .i64 t115] 25 (0, 0)) (by (with_reducible repeat (first | refine blk_drewN ?_ _ | refine blk_drew ?_ | refine blk_alloc ?_ _)); exact BK117.out) hb); have n6_ := Aside0.mk (below_step (by repeat (first | (with_reducible first | exact HB.out | apply below_alloc | apply pw_below_drewN | apply below_drew1 | refine below_set ?_ GE101.out | refine below_set ?_ GE102.out | refine below_set ?_ GE103.out | refine below_set ?_ GE106.out | refine below_set ?_ GE116.out | refine below_set ?_ GE117.out) | exact HB.out)) hb); clear BK101; clear BK102; clear BK103; clear BK106; clear BK116; clear BK117; clear HB; have BK101 := n0_; have BK102 := n1_; have BK103 := n2_; have BK106 := n3_; have BK116 := n4_; have BK117 := n5_; have HB := n6_; clear n0_ n1_ n2_ n3_ n4_ n5_ n6_; (try clear hb); (try clear hb2); (try clear hk); (try clear hi)))
              go_ret
              exact ⟨by first | rfl | (simp [errW_none, errW_some] <;> rfl) | (simp [*, errW_none, errW_some] <;> rfl), by repeat (first | (with_reducible first | exact HB.out | apply below_alloc | apply pw_below_drewN | apply below_drew1 | refine below_set ?_ GE101.out | refine below_set ?_ GE102.out | refine below_set ?_ GE103.out | refine below_set ?_ GE106.out | refine below_set ?_ GE116.out | refine below_set ?_ GE117.out) | exact HB.out)⟩
  · replace c5 := Bool.eq_false_iff.mpr c5
    subst c5
    have H1 : (some false) = some r := by rw [if_neg (show ¬ (false = true) by decide)] at H; exact H
    clear H
    have H := H1
    clear H1
    exact absurd ((Option.some.inj H).trans HRT.out) (by decide)

end Go.Proofs.YtjaolddgnijgiaaDoor.Q
