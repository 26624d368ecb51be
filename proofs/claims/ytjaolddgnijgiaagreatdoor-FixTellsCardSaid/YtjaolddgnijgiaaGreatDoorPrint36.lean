-- PRINTED by print.py (a twelfth state) out of the translation. Not trusted: Lean checks it.
import Derived.Test.YtjaolddgnijgiaaGreatDoorPrint0
import Derived.Test.YtjaolddgnijgiaaGreatDoorPrint22
import Derived.Test.YtjaolddgnijgiaaGreatDoorPrint23
import Derived.Test.YtjaolddgnijgiaaGreatDoorPrint25
import Derived.Test.YtjaolddgnijgiaaGreatDoorPrint26
namespace Go.Proofs.YtjaolddgnijgiaaGreatDoor.Print
open Go.RowKit Go.Proofs.YtjaolddgnijgiaaGreatDoorX Go.Proofs.YtjaolddgnijgiaaGreatDoorW.PrintWords Go.Proofs.YtjaolddgnijgiaaGreatDoorW.PrintLast Go.Proofs.YtjaolddgnijgiaaGreatDoorW.PrintMore
attribute [local go_sem] max2_int min2_int max_two min_two max_three min_three max_four min_four   -- for this text's walks alone
set_option linter.unusedVariables false
set_option linter.unusedSimpArgs false

/-! ### spillwayref2_Div: function 16 -/
def spillwayref2_Div.j0 : Nat → Bool → Bool → Int → Bool → Int → Option (Bool × Int)
  | 0, _, _, _, _, _ => none
  | k + 1, x12, x319000, x319001, x320000, x320001 => if x12 = true then ((spillwayref2_Ovf.f).bind fun bt322 => (some (bt322.1, bt322.2))) else ((spillwayref2_size.f x319001).bind fun t324 => ((spillwayref2_size.f x320001).bind fun t325 => ((spillwayref2_over.f k t324 1000000 t325 ((decide (x319001 < 0)) != (decide (x320001 < 0)))).bind fun bt326 => (some (bt326.1, bt326.2)))))
def spillwayref2_Div.f (k : Nat) (a0_0 : Bool) (a0_1 : Int) (a1_0 : Bool) (a1_1 : Int) : Option (Bool × Int) := (spillwayref2_none.f a0_0 a0_1 a1_0 a1_1).bind fun t321 => (if t321 = true then (spillwayref2_Div.j0 k true a0_0 a0_1 a1_0 a1_1) else (spillwayref2_Div.j0 k (a1_1 == 0) a0_0 a0_1 a1_0 a1_1))
theorem spillwayref2_Div.mono_l : ∀ k, (∀ y0 y1 y2 y3 y4, LeO (spillwayref2_Div.j0 k y0 y1 y2 y3 y4) (spillwayref2_Div.j0 (k + 1) y0 y1 y2 y3 y4))
  | 0 => fun _ _ _ _ _ r h => by simp [spillwayref2_Div.j0] at h
  | k + 1 => by
    have ih0 := spillwayref2_Div.mono_l k
    · intro y0 y1 y2 y3 y4
      unfold spillwayref2_Div.j0
      repeat' first
      | (with_reducible exact ih0 _ _ _ _ _)
      | (with_reducible exact spillwayref2_over.mono _ _ _ _ _)
      | (with_reducible exact LeO.refl _)
      | (with_reducible exact LeO.none _)
      | (with_reducible refine LeO.ite ?_ ?_)
      | (with_reducible refine LeO.bind ?_ (fun _ => ?_))
      | exact ih0 _ _ _ _ _
      | exact spillwayref2_over.mono _ _ _ _ _
      | exact LeO.none _
      | refine LeO.ite ?_ ?_
      | refine LeO.bind ?_ (fun _ => ?_)
theorem spillwayref2_Div.mono : ∀ a0 a1 a2 a3 k, LeO (spillwayref2_Div.f k a0 a1 a2 a3) (spillwayref2_Div.f (k + 1) a0 a1 a2 a3) := by
  intro a0 a1 a2 a3 k
  have ih0 := spillwayref2_Div.mono_l k
  unfold spillwayref2_Div.f
  repeat' first
      | (with_reducible exact ih0 _ _ _ _ _)
      | (with_reducible exact spillwayref2_over.mono _ _ _ _ _)
      | (with_reducible exact LeO.refl _)
      | (with_reducible exact LeO.none _)
      | (with_reducible refine LeO.ite ?_ ?_)
      | (with_reducible refine LeO.bind ?_ (fun _ => ?_))
      | exact ih0 _ _ _ _ _
      | exact spillwayref2_over.mono _ _ _ _ _
      | exact LeO.none _
      | refine LeO.ite ?_ ?_
      | refine LeO.bind ?_ (fun _ => ?_)
def spillwayref2_Div.T3 : Bool × List (List Nat × List Nat) := (true, [([], []), ([0], [0]), ([1], [1]), ([], []), ([3], [3]), ([4, 2], [4]), ([], []), ([6], [6]), ([7], [7]), ([], []), ([9], [9]), ([10], [10]), ([8, 11], [8, 11]), ([2, 5, 12, 5], [2, 5, 12]), ([13, 13, 0, 1, 2, 3, 4, 5, 6, 7, 8, 9, 10, 11, 12, 13], [13])])
def spillwayref2_Div.B3 : List Nat := [0, 1, 3, 0, 8, 31, 0, 64, 192, 0, 512, 1536, 4032, 8191, 16383]
theorem spillwayref2_Div.tab3 : rtab .any (opsOf Tryz.f16 3) = spillwayref2_Div.T3 := by kernel_rfl
theorem spillwayref2_Div.bits3 : waitsOk spillwayref2_Div.T3.2 spillwayref2_Div.B3 = true := by kernel_rfl
set_option maxHeartbeats 8000000 in
set_option maxRecDepth 100000 in
theorem spillwayref2_Div.calls (k : Nat) (a0_0 : Bool) (a0_1 : Int) (a1_0 : Bool) (a1_1 : Int) (r1 : Bool) (r2 : Int) (w : World) (h : spillwayref2_Div.f k a0_0 a0_1 a1_0 a1_1 = some (r1, r2)) :
    Calls Tryz.prog 16 #[.agg #[.bool a0_0, .int .i64 a0_1], .agg #[.bool a1_0, .int .i64 a1_1]] w fun e w' => e = .returned (.agg #[.bool r1, .int .i64 r2]) ∧ Below w.heap.size w w' := by
  have hu23 := Tryz.underlying23
  have HB := Aside0.mk (Below.refl w.heap.size w)
  have H : ((spillwayref2_none.f a0_0 a0_1 a1_0 a1_1).bind fun t321 => (if t321 = true then (spillwayref2_Div.j0 k true a0_0 a0_1 a1_0 a1_1) else (spillwayref2_Div.j0 k (a1_1 == 0) a0_0 a0_1 a1_0 a1_1))) = some (r1, r2) := h
  clear h
  have HC3 := Aside0.mk H
  clear H
  go_enter Tryz.func16, Tryz.ntmps16
  go_upto_region 1 with (first | ((with_reducible refine gate_dst (N := 2) rfl ?_); refine box_event ?hg (N := 2) ?hd (cs := #[.bool a0_0, .int .i64 a0_1]) (t := 23) ?hr ?_; (case hd => rfl); (case hg => rfl); (case hr => first | (go_simp; done) | (go_simp; rfl)); intro gb318 hg w4 hbox hb; have n0_ := Aside0.mk (below_step (by repeat (first | (with_reducible first | exact HB.out | apply below_alloc | apply pw_below_drewN | apply below_drew1) | exact HB.out)) hb); have n1_ := Aside0.mk (hbox); have n2_ := Aside0.mk ((by rw [hg]; exact (below_size (by repeat (first | (with_reducible first | exact HB.out | apply below_alloc | apply pw_below_drewN | apply below_drew1) | exact HB.out))) : w.heap.size ≤ gb318)); have n3_ := Aside0.mk ((by rw [hg]; exact (below_size (by repeat (first | (with_reducible first | exact HB.out | apply below_alloc | apply pw_below_drewN | apply below_drew1) | exact HB.out))) : w.heap.size ≤ gb318)); clear HB; have HB := n0_; have BK318 := n1_; have GW318 := n2_; have GE318 := n3_; clear n0_ n1_ n2_ n3_; clear hb hbox hg) | ((with_reducible refine gate_dst (N := 3) rfl ?_); refine box_event ?hg (N := 3) ?hd (cs := #[.bool a1_0, .int .i64 a1_1]) (t := 23) ?hr ?_; (case hd => rfl); (case hg => rfl); (case hr => first | (go_simp; done) | (go_simp; rfl)); intro gb319 hg w5 hbox hb; have n0_ := Aside0.mk (blk_below (g := gb318) (o := .cells #[.bool a0_0, .int .i64 a0_1] 23 (0, 0)) (by (with_reducible repeat (first | refine blk_drewN ?_ _ | refine blk_drew ?_ | refine blk_alloc ?_ _)); exact BK318.out) hb); have n1_ := Aside0.mk (below_step (by repeat (first | (with_reducible first | exact HB.out | apply below_alloc | apply pw_below_drewN | apply below_drew1 | refine below_set ?_ GE318.out) | exact HB.out)) hb); have n2_ := Aside0.mk (hbox); have n3_ := Aside0.mk ((by rw [hg]; exact (below_size (by repeat (first | (with_reducible first | exact HB.out | apply below_alloc | apply pw_below_drewN | apply below_drew1 | refine below_set ?_ GE318.out) | exact HB.out))) : w.heap.size ≤ gb319)); have n4_ := Aside0.mk ((by rw [hg]; exact (below_size (by repeat (first | (with_reducible first | exact HB.out | apply below_alloc | apply pw_below_drewN | apply below_drew1 | refine below_set ?_ GE318.out) | exact HB.out))) : w.heap.size ≤ gb319)); have n5_ := Aside0.mk ((by rw [hg]; exact Nat.ne_of_lt (blk_lt (g := gb318) (o := .cells #[.bool a0_0, .int .i64 a0_1] 23 (0, 0)) (by (with_reducible repeat (first | refine blk_drewN ?_ _ | refine blk_drew ?_ | refine blk_alloc ?_ _)); exact BK318.out)) : gb318 ≠ gb319)); have n6_ := Aside0.mk ((by rw [hg]; exact Nat.ne_of_gt (blk_lt (g := gb318) (o := .cells #[.bool a0_0, .int .i64 a0_1] 23 (0, 0)) (by (with_reducible repeat (first | refine blk_drewN ?_ _ | refine blk_drew ?_ | refine blk_alloc ?_ _)); exact BK318.out)) : gb319 ≠ gb318)); clear BK318; clear HB; have BK318 := n0_; have HB := n1_; have BK319 := n2_; have GW319 := n3_; have GE319 := n4_; have NB318_319 := n5_; have NB319_318 := n6_; clear n0_ n1_ n2_ n3_ n4_ n5_ n6_; clear hb hbox hg) | ((with_reducible refine gate_dst (N := 4) rfl ?_); refine box_event ?hg (N := 4) ?hd (cs := #[.bool false, .int .i64 0]) (t := 23) ?hr ?_; (case hd => rfl); (case hg => rfl); (case hr => first | (go_simp; done) | (go_simp; rfl)); intro gb320 hg w6 hbox hb; have n0_ := Aside0.mk (blk_below (g := gb318) (o := .cells #[.bool a0_0, .int .i64 a0_1] 23 (0, 0)) (by (with_reducible repeat (first | refine blk_drewN ?_ _ | refine blk_drew ?_ | refine blk_alloc ?_ _)); exact BK318.out) hb); have n1_ := Aside0.mk (blk_below (g := gb319) (o := .cells #[.bool a1_0, .int .i64 a1_1] 23 (0, 0)) (by (with_reducible repeat (first | refine blk_drewN ?_ _ | refine blk_drew ?_ | refine blk_alloc ?_ _)); exact BK319.out) hb); have n2_ := Aside0.mk (below_step (by repeat (first | (with_reducible first | exact HB.out | apply below_alloc | apply pw_below_drewN | apply below_drew1 | refine below_set ?_ GE318.out | refine below_set ?_ GE319.out) | exact HB.out)) hb); have n3_ := Aside0.mk (hbox); have n4_ := Aside0.mk ((by rw [hg]; exact (below_size (by repeat (first | (with_reducible first | exact HB.out | apply below_alloc | apply pw_below_drewN | apply below_drew1 | refine below_set ?_ GE318.out | refine below_set ?_ GE319.out) | exact HB.out))) : w.heap.size ≤ gb320)); have n5_ := Aside0.mk ((by rw [hg]; exact (below_size (by repeat (first | (with_reducible first | exact HB.out | apply below_alloc | apply pw_below_drewN | apply below_drew1 | refine below_set ?_ GE318.out | refine below_set ?_ GE319.out) | exact HB.out))) : w.heap.size ≤ gb320)); have n6_ := Aside0.mk ((by rw [hg]; exact Nat.ne_of_lt (blk_lt (g := gb318) (o := .cells #[.bool a0_0, .int .i64 a0_1] 23 (0, 0)) (by (with_reducible repeat (first | refine blk_drewN ?_ _ | refine blk_drew ?_ | refine blk_alloc ?_ _)); exact BK318.out)) : gb318 ≠ gb320)); have n7_ := Aside0.mk ((by rw [hg]; exact Nat.ne_of_gt (blk_lt (g := gb318) (o := .cells #[.bool a0_0, .int .i64 a0_1] 23 (0, 0)) (by (with_reducible repeat (first | refine blk_drewN ?_ _ | refine blk_drew ?_ | refine blk_alloc ?_ _)); exact BK318.out)) : gb320 ≠ gb318)); have n8_ := Aside0.mk ((by rw [hg]; exact Nat.ne_of_lt (blk_lt (g := gb319) (o := .cells #[.bool a1_0, .int .i64 a1_1] 23 (0, 0)) (by (with_reducible repeat (first | refine blk_drewN ?_ _ | refine blk_drew ?_ | refine blk_alloc ?_ _)); exact BK319.out)) : gb319 ≠ gb320)); have n9_ := Aside0.mk ((by rw [hg]; exact Nat.ne_of_gt (blk_lt (g := gb319) (o := .cells #[.bool a1_0, .int .i64 a1_1] 23 (0, 0)) (by (with_reducible repeat (first | refine blk_drewN ?_ _ | refine blk_drew ?_ | refine blk_alloc ?_ _)); exact BK319.out)) : gb320 ≠ gb319)); clear BK318; clear BK319; clear HB; have BK318 := n0_; have BK319 := n1_; have HB := n2_; have BK320 := n3_; have GW320 := n4_; have GE320 := n5_; have NB318_320 := n6_; have NB320_318 := n7_; have NB319_320 := n8_; have NB320_319 := n9_; clear n0_ n1_ n2_ n3_ n4_ n5_ n6_ n7_ n8_ n9_; clear hb hbox hg))
  (try simp only [Act.put, List.setIfInBounds_toArray, List.set_cons_zero, List.set_cons_succ])
  go_cut [12] (fun v12 wc => ∃ (kq : Nat) (x12_2 : Bool), v12 = .bool x12_2 ∧ Aside0 (spillwayref2_Div.j0 kq x12_2 a0_0 a0_1 a1_0 a1_1 = some (r1, r2)) ∧ Aside0 (kq ≤ k) ∧ Aside0 (wc.heap[gb318]? = some (.cells #[.bool a0_0, .int .i64 a0_1] 23 (0, 0))) ∧ Aside0 (wc.heap[gb319]? = some (.cells #[.bool a1_0, .int .i64 a1_1] 23 (0, 0))) ∧ Aside0 (wc.heap[gb320]? = some (.cells #[.bool false, .int .i64 0] 23 (0, 0))) ∧ Aside0 (Below w.heap.size w wc))
  case first =>
    have H := HC3.out
    clear HC3
    replace H := Option.bind_eq_some_iff.mp H
    obtain ⟨t321, A70, H⟩ := H
    replace H : (if t321 = true then (spillwayref2_Div.j0 k true a0_0 a0_1 a1_0 a1_1) else (spillwayref2_Div.j0 k (a1_1 == 0) a0_0 a0_1 a1_0 a1_1)) = some (r1, r2) := H
    have A7 := Aside0.mk A70
    clear A70
    by_cases c8 : t321 = true
    · subst c8
      have H1 : (spillwayref2_Div.j0 k true a0_0 a0_1 a1_0 a1_1) = some (r1, r2) := by rw [if_pos rfl] at H; exact H
      clear H
      have H := H1
      clear H1
      have H' := Aside0.mk H
      clear H
      have hnb9 := NB318_319.out
      have hnc9 := NB319_318.out
      have hnb10 := NB318_320.out
      have hnc10 := NB320_318.out
      have hcz11_0 : w6.cell? ⟨gb318, 0, none⟩ = some (.bool a0_0) := (blk_cell BK318.out 0).trans rfl
      have hcz11_1 : w6.cell? ⟨gb318, 1, none⟩ = some (.int .i64 a0_1) := (blk_cell BK318.out 1).trans rfl
      have hfz11_0 := blk_frozen BK318.out 0
      have hfz11_1 := blk_frozen BK318.out 1
      have hnb12 := NB319_320.out
      have hnc12 := NB320_319.out
      have hcz13_0 : w6.cell? ⟨gb319, 0, none⟩ = some (.bool a1_0) := (blk_cell BK319.out 0).trans rfl
      have hcz13_1 : w6.cell? ⟨gb319, 1, none⟩ = some (.int .i64 a1_1) := (blk_cell BK319.out 1).trans rfl
      have hfz13_0 := blk_frozen BK319.out 0
      have hfz13_1 := blk_frozen BK319.out 1
      go_wp2_with (first | ((with_reducible refine gate_callee (f := 28) rfl ?_); refine goesL_ (some 7) rfl rfl Tryz.func28 (by kernel_rfl) rfl #[.agg #[.bool a0_0, .int .i64 a0_1], .agg #[.bool a1_0, .int .i64 a1_1]] rfl (by (try simp only [List.map_toArray, List.map_cons, List.map_nil]); first | done | rfl | (simp only [List.length_drop, List.length_take]; rfl)) ?_; (with_reducible refine (spillwayref2_none.calls a0_0 a0_1 a1_0 a1_1 true _ A7.out).mono ?_); rintro e w14 ⟨rfl, hb⟩; refine ⟨_, rfl, ?_⟩; have n0_ := Aside0.mk (blk_below (g := gb318) (o := .cells #[.bool a0_0, .int .i64 a0_1] 23 (0, 0)) (by (with_reducible repeat (first | refine blk_drewN ?_ _ | refine blk_drew ?_ | refine blk_alloc ?_ _)); exact BK318.out) hb); have n1_ := Aside0.mk (blk_below (g := gb319) (o := .cells #[.bool a1_0, .int .i64 a1_1] 23 (0, 0)) (by (with_reducible repeat (first | refine blk_drewN ?_ _ | refine blk_drew ?_ | refine blk_alloc ?_ _)); exact BK319.out) hb); have n2_ := Aside0.mk (blk_below (g := gb320) (o := .cells #[.bool false, .int .i64 0] 23 (0, 0)) (by (with_reducible repeat (first | refine blk_drewN ?_ _ | refine blk_drew ?_ | refine blk_alloc ?_ _)); exact BK320.out) hb); have n3_ := Aside0.mk (below_step (by repeat (first | (with_reducible first | exact HB.out | apply below_alloc | apply pw_below_drewN | apply below_drew1 | refine below_set ?_ GE318.out | refine below_set ?_ GE319.out | refine below_set ?_ GE320.out) | exact HB.out)) hb); clear BK318; clear BK319; clear BK320; clear HB; have BK318 := n0_; have BK319 := n1_; have BK320 := n2_; have HB := n3_; clear n0_ n1_ n2_ n3_; (try clear hb); (try clear hb2); (try clear hk); (try clear hi)))
      go_meet
      case rel => exact ⟨_, (true), (by first | rfl | (simp; done) | (simp [*]; done)), H', ⟨by first | omega | exact Nat.le_refl _⟩, ⟨by (with_reducible repeat (first | refine blk_drewN ?_ _ | refine blk_drew ?_ | refine blk_alloc ?_ _)); exact BK318.out⟩, ⟨by (with_reducible repeat (first | refine blk_drewN ?_ _ | refine blk_drew ?_ | refine blk_alloc ?_ _)); exact BK319.out⟩, ⟨by (with_reducible repeat (first | refine blk_drewN ?_ _ | refine blk_drew ?_ | refine blk_alloc ?_ _)); exact BK320.out⟩, ⟨by repeat (first | (with_reducible first | exact HB.out | apply below_alloc | apply pw_below_drewN | apply below_drew1 | refine below_set ?_ GE318.out | refine below_set ?_ GE319.out | refine below_set ?_ GE320.out) | exact HB.out)⟩⟩
    · replace c8 := Bool.eq_false_iff.mpr c8
      subst c8
      have H1 : (spillwayref2_Div.j0 k (a1_1 == 0) a0_0 a0_1 a1_0 a1_1) = some (r1, r2) := by rw [if_neg (show ¬ (false = true) by decide)] at H; exact H
      clear H
      have H := H1
      clear H1
      have H' := Aside0.mk H
      clear H
      have hnb15 := NB318_319.out
      have hnc15 := NB319_318.out
      have hnb16 := NB318_320.out
      have hnc16 := NB320_318.out
      have hcz17_0 : w6.cell? ⟨gb318, 0, none⟩ = some (.bool a0_0) := (blk_cell BK318.out 0).trans rfl
      have hcz17_1 : w6.cell? ⟨gb318, 1, none⟩ = some (.int .i64 a0_1) := (blk_cell BK318.out 1).trans rfl
      have hfz17_0 := blk_frozen BK318.out 0
      have hfz17_1 := blk_frozen BK318.out 1
      have hnb18 := NB319_320.out
      have hnc18 := NB320_319.out
      have hcz19_0 : w6.cell? ⟨gb319, 0, none⟩ = some (.bool a1_0) := (blk_cell BK319.out 0).trans rfl
      have hcz19_1 : w6.cell? ⟨gb319, 1, none⟩ = some (.int .i64 a1_1) := (blk_cell BK319.out 1).trans rfl
      have hfz19_0 := blk_frozen BK319.out 0
      have hfz19_1 := blk_frozen BK319.out 1
      go_wp2_with (first | ((with_reducible refine gate_callee (f := 28) rfl ?_); refine goesL_ (some 7) rfl rfl Tryz.func28 (by kernel_rfl) rfl #[.agg #[.bool a0_0, .int .i64 a0_1], .agg #[.bool a1_0, .int .i64 a1_1]] rfl (by (try simp only [List.map_toArray, List.map_cons, List.map_nil]); first | done | rfl | (simp only [List.length_drop, List.length_take]; rfl)) ?_; (with_reducible refine (spillwayref2_none.calls a0_0 a0_1 a1_0 a1_1 false _ A7.out).mono ?_); rintro e w20 ⟨rfl, hb⟩; refine ⟨_, rfl, ?_⟩; have n0_ := Aside0.mk (blk_below (g := gb318) (o := .cells #[.bool a0_0, .int .i64 a0_1] 23 (0, 0)) (by (with_reducible repeat (first | refine blk_drewN ?_ _ | refine blk_drew ?_ | refine blk_alloc ?_ _)); exact BK318.out) hb); have n1_ := Aside0.mk (blk_below (g := gb319) (o := .cells #[.bool a1_0, .int .i64 a1_1] 23 (0, 0)) (by (with_reducible repeat (first | refine blk_drewN ?_ _ | refine blk_drew ?_ | refine blk_alloc ?_ _)); exact BK319.out) hb); have n2_ := Aside0.mk (blk_below (g := gb320) (o := .cells #[.bool false, .int .i64 0] 23 (0, 0)) (by (with_reducible repeat (first | refine blk_drewN ?_ _ | refine blk_drew ?_ | refine blk_alloc ?_ _)); exact BK320.out) hb); have n3_ := Aside0.mk (below_step (by repeat (first | (with_reducible first | exact HB.out | apply below_alloc | apply pw_below_drewN | apply below_drew1 | refine below_set ?_ GE318.out | refine below_set ?_ GE319.out | refine below_set ?_ GE320.out) | exact HB.out)) hb); clear BK318; clear BK319; clear BK320; clear HB; have BK318 := n0_; have BK319 := n1_; have BK320 := n2_; have HB := n3_; clear n0_ n1_ n2_ n3_; (try clear hb); (try clear hb2); (try clear hk); (try clear hi); have hcz21_0 : w20.cell? ⟨gb319, 0, none⟩ = some (.bool a1_0) := (blk_cell BK319.out 0).trans rfl; have hcz21_1 : w20.cell? ⟨gb319, 1, none⟩ = some (.int .i64 a1_1) := (blk_cell BK319.out 1).trans rfl; have hfz21_0 := blk_frozen BK319.out 0; have hfz21_1 := blk_frozen BK319.out 1))
      go_meet
      case rel => exact ⟨_, ((a1_1 == 0)), (by first | rfl | (simp; done) | (simp [*]; done)), H', ⟨by first | omega | exact Nat.le_refl _⟩, ⟨by (with_reducible repeat (first | refine blk_drewN ?_ _ | refine blk_drew ?_ | refine blk_alloc ?_ _)); exact BK318.out⟩, ⟨by (with_reducible repeat (first | refine blk_drewN ?_ _ | refine blk_drew ?_ | refine blk_alloc ?_ _)); exact BK319.out⟩, ⟨by (with_reducible repeat (first | refine blk_drewN ?_ _ | refine blk_drew ?_ | refine blk_alloc ?_ _)); exact BK320.out⟩, ⟨by repeat (first | (with_reducible first | exact HB.out | apply below_alloc | apply pw_below_drewN | apply below_drew1 | refine below_set ?_ GE318.out | refine below_set ?_ GE319.out | refine below_set ?_ GE320.out) | exact HB.out)⟩⟩
  case rest =>
    clear HC3
    try clear c1
    try clear c2
    try clear p2
    try clear c8
    try clear c9
    try clear c10
    try clear c12
    try clear c15
    try clear c16
    try clear c18
    try clear hcz11_0
    try clear hcz11_1
    try clear hcz13_0
    try clear hcz13_1
    try clear hcz17_0
    try clear hcz17_1
    try clear hcz19_0
    try clear hcz19_1
    try clear hcz21_0
    try clear hcz21_1
    try clear hfz11_0
    try clear hfz11_1
    try clear hfz13_0
    try clear hfz13_1
    try clear hfz17_0
    try clear hfz17_1
    try clear hfz19_0
    try clear hfz19_1
    try clear hfz21_0
    try clear hfz21_1
    obtain ⟨kq, x12_2, rfl, HA, HJ2, BK318, BK319, BK320, HB⟩ := hcut
    cases kq with
    | zero => exact absurd HA.out (by simp [spillwayref2_Div.j0])
    | succ kj2 =>
      have H := HA.out
      clear HA
      simp only [spillwayref2_Div.j0] at H
      by_cases c22 : x12_2 = true
      · subst c22
        have H1 : ((spillwayref2_Ovf.f).bind fun bt322 => (some (bt322.1, bt322.2))) = some (r1, r2) := by rw [if_pos rfl] at H; exact H
        clear H
        have H := H1
        clear H1
        replace H := Option.bind_eq_some_iff.mp H
        obtain ⟨⟨t322, t323⟩, A230, H⟩ := H
        replace H : (some (t322, t323)) = some (r1, r2) := H
        have A23 := Aside0.mk A230
        clear A230
        simp only [Option.some.injEq, Prod.mk.injEq] at H
        obtain ⟨rfl, rfl⟩ := H
        go_wp2_with (first | ((with_reducible refine gate_callee (f := 29) rfl ?_); refine goesL_ (some 13) rfl rfl Tryz.func29 (by kernel_rfl) rfl #[] rfl (by (try simp only [List.map_toArray, List.map_cons, List.map_nil]); first | done | rfl | (simp only [List.length_drop, List.length_take]; rfl)) ?_; (with_reducible refine (spillwayref2_Ovf.calls  t322 t323 _ A23.out).mono ?_); rintro e w24 ⟨rfl, hb⟩; refine ⟨_, rfl, ?_⟩; have n0_ := Aside0.mk (blk_below (g := gb318) (o := .cells #[.bool a0_0, .int .i64 a0_1] 23 (0, 0)) (by (with_reducible repeat (first | refine blk_drewN ?_ _ | refine blk_drew ?_ | refine blk_alloc ?_ _)); exact BK318.out) hb); have n1_ := Aside0.mk (blk_below (g := gb319) (o := .cells #[.bool a1_0, .int .i64 a1_1] 23 (0, 0)) (by (with_reducible repeat (first | refine blk_drewN ?_ _ | refine blk_drew ?_ | refine blk_alloc ?_ _)); exact BK319.out) hb); have n2_ := Aside0.mk (blk_below (g := gb320) (o := .cells #[.bool false, .int .i64 0] 23 (0, 0)) (by (with_reducible repeat (first | refine blk_drewN ?_ _ | refine blk_drew ?_ | refine blk_alloc ?_ _)); exact BK320.out) hb); have n3_ := Aside0.mk (below_step (by repeat (first | (with_reducible first | exact HB.out | apply below_alloc | apply pw_below_drewN | apply below_drew1 | refine below_set ?_ GE318.out | refine below_set ?_ GE319.out | refine below_set ?_ GE320.out) | exact HB.out)) hb); clear BK318; clear BK319; clear BK320; clear HB; have BK318 := n0_; have BK319 := n1_; have BK320 := n2_; have HB := n3_; clear n0_ n1_ n2_ n3_; (try clear hb); (try clear hb2); (try clear hk); (try clear hi); have hnb25 := NB320_318.out; have hnc25 := NB318_320.out; have hnb26 := NB320_319.out; have hnc26 := NB319_320.out; have hcz27_0 : w24.cell? ⟨gb320, 0, none⟩ = some (.bool false) := (blk_cell BK320.out 0).trans rfl; have hcz27_1 : w24.cell? ⟨gb320, 1, none⟩ = some (.int .i64 0) := (blk_cell BK320.out 1).trans rfl; have hfz27_0 := blk_frozen BK320.out 0; have hfz27_1 := blk_frozen BK320.out 1))
        refine bodyPost_ret (results_cell_row rfl _ _ gb320 23 #[.bool t322, .int .i64 t323] (0, 0) _ rfl (by (with_reducible repeat (first | refine blk_drewN ?_ _ | refine blk_drew ?_ | refine blk_alloc ?_ _)); refine blk_put (cs := #[.bool t322, .int .i64 0]) ?_ 1 _ rfl; (with_reducible repeat (first | refine blk_drewN ?_ _ | refine blk_drew ?_ | refine blk_alloc ?_ _)); refine blk_put (cs := #[.bool false, .int .i64 0]) ?_ 0 _ rfl; (with_reducible repeat (first | refine blk_drewN ?_ _ | refine blk_drew ?_ | refine blk_alloc ?_ _)); exact BK320.out) Tryz.underlying23 rfl (by kernel_rfl)) rfl ?_
        exact ⟨by first | rfl | (simp [errW_none, errW_some] <;> rfl) | (simp [*, errW_none, errW_some] <;> rfl), by repeat (first | (with_reducible first | exact HB.out | apply below_alloc | apply pw_below_drewN | apply below_drew1 | refine below_set ?_ GE318.out | refine below_set ?_ GE319.out | refine below_set ?_ GE320.out) | exact HB.out)⟩
      · replace c22 := Bool.eq_false_iff.mpr c22
        subst c22
        have H1 : ((spillwayref2_size.f a0_1).bind fun t324 => ((spillwayref2_size.f a1_1).bind fun t325 => ((spillwayref2_over.f kj2 t324 1000000 t325 ((decide (a0_1 < 0)) != (decide (a1_1 < 0)))).bind fun bt326 => (some (bt326.1, bt326.2))))) = some (r1, r2) := by rw [if_neg (show ¬ (false = true) by decide)] at H; exact H
        clear H
        have H := H1
        clear H1
        replace H := Option.bind_eq_some_iff.mp H
        obtain ⟨t324, A280, H⟩ := H
        replace H : ((spillwayref2_size.f a1_1).bind fun t325 => ((spillwayref2_over.f kj2 t324 1000000 t325 ((decide (a0_1 < 0)) != (decide (a1_1 < 0)))).bind fun bt326 => (some (bt326.1, bt326.2)))) = some (r1, r2) := H
        have A28 := Aside0.mk A280
        clear A280
        replace H := Option.bind_eq_some_iff.mp H
        obtain ⟨t325, A290, H⟩ := H
        replace H : ((spillwayref2_over.f kj2 t324 1000000 t325 ((decide (a0_1 < 0)) != (decide (a1_1 < 0)))).bind fun bt326 => (some (bt326.1, bt326.2))) = some (r1, r2) := H
        have A29 := Aside0.mk A290
        clear A290
        replace H := Option.bind_eq_some_iff.mp H
        obtain ⟨⟨t326, t327⟩, A300, H⟩ := H
        replace H : (some (t326, t327)) = some (r1, r2) := H
        have A30 := Aside0.mk A300
        clear A300
        simp only [Option.some.injEq, Prod.mk.injEq] at H
        obtain ⟨rfl, rfl⟩ := H
        try go_wp2
        have n0_ := Aside0.mk (blk_drew BK318.out)
        have n1_ := Aside0.mk (blk_drew BK319.out)
        have n2_ := Aside0.mk (blk_drew BK320.out)
        have n3_ := Aside0.mk (below_drew1 HB.out)
        clear BK318
        clear BK319
        clear BK320
        clear HB
        have BK318 := n0_
        have BK319 := n1_
        have BK320 := n2_
        have HB := n3_
        clear n0_ n1_ n2_ n3_
        refine start_ (n := 15) (S := fun w' => w'.cell? ⟨gb318, 0, none⟩ = some (.bool a0_0) ∧ w'.cell? ⟨gb318, 1, none⟩ = some (.int .i64 a0_1) ∧ w'.cell? ⟨gb319, 0, none⟩ = some (.bool a1_0) ∧ w'.cell? ⟨gb319, 1, none⟩ = some (.int .i64 a1_1)) (ds := []) #[false, false, false, false, false, false, false, false, false, false, false, false, false, false, false] (by kernel_rfl) rfl rfl ⟨(blk_cell BK318.out 0).trans rfl, (blk_cell BK318.out 1).trans rfl, (blk_cell BK319.out 0).trans rfl, (blk_cell BK319.out 1).trans rfl⟩ (fun hHeld => ?_); refine with_tabW spillwayref2_Div.tab3 spillwayref2_Div.bits3 (fun HT_ HW_ => ?_)
        generalize wc.drew = w31 at BK318 BK319 BK320 HB hHeld ⊢
        refine pure_ (i := 0) (N := some 14) (v := ?_) (a' := ?_) #[true, false, false, false, false, false, false, false, false, false, false, false, false, false, false] rfl rfl (any_of HT_.out (by kernel_rfl)) (fun _ _ _ h => h) (Or.inl ⟨by rfl, ?_⟩) ?_ ?_
        rotate_left
        · intro w'
          go_simp
          with_reducible rfl
        rotate_left
        · simp only [Act.put, List.setIfInBounds_toArray, List.set_cons_zero, List.set_cons_succ, i64_w, i32_w]
          rfl
        refine pure_ (i := 3) (N := some 17) (v := ?_) (a' := ?_) #[true, false, false, true, false, false, false, false, false, false, false, false, false, false, false] rfl rfl (any_of HT_.out (by kernel_rfl)) (fun _ _ _ h => h) (Or.inl ⟨by rfl, ?_⟩) ?_ ?_
        rotate_left
        · intro w'
          go_simp
          with_reducible rfl
        rotate_left
        · simp only [Act.put, List.setIfInBounds_toArray, List.set_cons_zero, List.set_cons_succ, i64_w, i32_w]
          rfl
        refine pure_ (i := 6) (N := some 20) (v := ?_) (a' := ?_) #[true, false, false, true, false, false, true, false, false, false, false, false, false, false, false] rfl rfl (any_of HT_.out (by kernel_rfl)) (fun _ _ _ h => h) (Or.inl ⟨by rfl, ?_⟩) ?_ ?_
        rotate_left
        · intro w'
          go_simp
          with_reducible rfl
        rotate_left
        · simp only [Act.put, List.setIfInBounds_toArray, List.set_cons_zero, List.set_cons_succ, i64_w, i32_w]
          rfl
        refine pure_ (i := 9) (N := some 23) (v := ?_) (a' := ?_) #[true, false, false, true, false, false, true, false, false, true, false, false, false, false, false] rfl rfl (any_of HT_.out (by kernel_rfl)) (fun _ _ _ h => h) (Or.inl ⟨by rfl, ?_⟩) ?_ ?_
        rotate_left
        · intro w'
          go_simp
          with_reducible rfl
        rotate_left
        · simp only [Act.put, List.setIfInBounds_toArray, List.set_cons_zero, List.set_cons_succ, i64_w, i32_w]
          rfl
        refine take_ (i := 1) (N := some 15) (v := ?_) (a' := ?_) #[true, true, false, true, false, false, true, false, false, true, false, false, false, false, false] rfl rfl (take_ofW HT_.out HW_.out (by kernel_rfl)) (fun _ _ _ h => h) (Or.inl ⟨by rfl, ?_⟩) hHeld ?_ ?_
        rotate_left
        · rintro w' ⟨s0, s1, s2, s3⟩
          go_simp
          with_reducible rfl
        rotate_left
        · simp only [Act.put, List.setIfInBounds_toArray, List.set_cons_zero, List.set_cons_succ, i64_w, i32_w]
          rfl
        refine take_ (i := 4) (N := some 18) (v := ?_) (a' := ?_) #[true, true, false, true, true, false, true, false, false, true, false, false, false, false, false] rfl rfl (take_ofW HT_.out HW_.out (by kernel_rfl)) (fun _ _ _ h => h) (Or.inl ⟨by rfl, ?_⟩) hHeld ?_ ?_
        rotate_left
        · rintro w' ⟨s0, s1, s2, s3⟩
          go_simp
          with_reducible rfl
        rotate_left
        · simp only [Act.put, List.setIfInBounds_toArray, List.set_cons_zero, List.set_cons_succ, i64_w, i32_w]
          rfl
        refine take_ (i := 7) (N := some 21) (v := ?_) (a' := ?_) #[true, true, false, true, true, false, true, true, false, true, false, false, false, false, false] rfl rfl (take_ofW HT_.out HW_.out (by kernel_rfl)) (fun _ _ _ h => h) (Or.inl ⟨by rfl, ?_⟩) hHeld ?_ ?_
        rotate_left
        · rintro w' ⟨s0, s1, s2, s3⟩
          go_simp
          with_reducible rfl
        rotate_left
        · simp only [Act.put, List.setIfInBounds_toArray, List.set_cons_zero, List.set_cons_succ, i64_w, i32_w]
          rfl
        refine pure_ (i := 8) (N := some 22) (v := ?_) (a' := ?_) #[true, true, false, true, true, false, true, true, true, true, false, false, false, false, false] rfl rfl (any_of HT_.out (by kernel_rfl)) (fun _ _ _ h => h) (Or.inl ⟨by rfl, ?_⟩) ?_ ?_
        rotate_left
        · intro w'
          go_simp
          with_reducible rfl
        rotate_left
        · simp only [Act.put, List.setIfInBounds_toArray, List.set_cons_zero, List.set_cons_succ, i64_w, i32_w]
          rfl
        refine take_ (i := 10) (N := some 24) (v := ?_) (a' := ?_) #[true, true, false, true, true, false, true, true, true, true, true, false, false, false, false] rfl rfl (take_ofW HT_.out HW_.out (by kernel_rfl)) (fun _ _ _ h => h) (Or.inl ⟨by rfl, ?_⟩) hHeld ?_ ?_
        rotate_left
        · rintro w' ⟨s0, s1, s2, s3⟩
          go_simp
          with_reducible rfl
        rotate_left
        · simp only [Act.put, List.setIfInBounds_toArray, List.set_cons_zero, List.set_cons_succ, i64_w, i32_w]
          rfl
        refine pure_ (i := 11) (N := some 25) (v := ?_) (a' := ?_) #[true, true, false, true, true, false, true, true, true, true, true, true, false, false, false] rfl rfl (any_of HT_.out (by kernel_rfl)) (fun _ _ _ h => h) (Or.inl ⟨by rfl, ?_⟩) ?_ ?_
        rotate_left
        · intro w'
          go_simp
          with_reducible rfl
        rotate_left
        · simp only [Act.put, List.setIfInBounds_toArray, List.set_cons_zero, List.set_cons_succ, i64_w, i32_w]
          rfl
        refine pure_ (i := 12) (N := some 26) (v := ?_) (a' := ?_) #[true, true, false, true, true, false, true, true, true, true, true, true, true, false, false] rfl rfl (any_of HT_.out (by kernel_rfl)) (fun _ _ _ h => h) (Or.inl ⟨by rfl, ?_⟩) ?_ ?_
        rotate_left
        · intro w'
          go_simp
          with_reducible rfl
        rotate_left
        · simp only [Act.put, List.setIfInBounds_toArray, List.set_cons_zero, List.set_cons_succ, i64_w, i32_w]
          rfl
        refine one_ (i := 2) (N := some 16) #[true, true, true, true, true, false, true, true, true, true, true, true, true, false, false] rfl rfl (one_of HT_.out (by kernel_rfl)) (by decide) (fun K hK => ?_)
        refine goes_ Tryz.func32 (by kernel_rfl) rfl #[.int .i64 a0_1] (by rfl) rfl rfl (by (try simp only [List.map_toArray, List.map_cons, List.map_nil]); first | done | rfl | (simp only [List.length_drop, List.length_take]; rfl)) ?_
        with_reducible refine (spillwayref2_size.calls a0_1 t324 _ A28.out).mono ?_
        rintro e w' ⟨rfl, ⟨nd, rfl⟩⟩
        refine ⟨_, rfl, ?_⟩
        refine hK.out _ _ ⟨(blk_cell BK318.out 0).trans rfl, (blk_cell BK318.out 1).trans rfl, (blk_cell BK319.out 0).trans rfl, (blk_cell BK319.out 1).trans rfl⟩ (fun hHeld => ?_)
        clear hK K
        refine norm_ (a' := ?_) ?_ ?_
        rotate_left
        · show Act.put _ (some 16) _ = _
          simp only [Act.put, List.setIfInBounds_toArray, List.set_cons_zero, List.set_cons_succ, i64_w, i32_w]
          rfl
        refine one_ (i := 5) (N := some 19) #[true, true, true, true, true, true, true, true, true, true, true, true, true, false, false] rfl rfl (one_of HT_.out (by kernel_rfl)) (by decide) (fun K hK => ?_)
        refine goes_ Tryz.func32 (by kernel_rfl) rfl #[.int .i64 a1_1] (by rfl) rfl rfl (by (try simp only [List.map_toArray, List.map_cons, List.map_nil]); first | done | rfl | (simp only [List.length_drop, List.length_take]; rfl)) ?_
        with_reducible refine (spillwayref2_size.calls a1_1 t325 _ A29.out).mono ?_
        rintro e w' ⟨rfl, ⟨nd, rfl⟩⟩
        refine ⟨_, rfl, ?_⟩
        refine hK.out _ _ ⟨(blk_cell BK318.out 0).trans rfl, (blk_cell BK318.out 1).trans rfl, (blk_cell BK319.out 0).trans rfl, (blk_cell BK319.out 1).trans rfl⟩ (fun hHeld => ?_)
        clear hK K
        refine norm_ (a' := ?_) ?_ ?_
        rotate_left
        · show Act.put _ (some 19) _ = _
          simp only [Act.put, List.setIfInBounds_toArray, List.set_cons_zero, List.set_cons_succ, i64_w, i32_w]
          rfl
        refine one_ (i := 13) (N := some 27) #[true, true, true, true, true, true, true, true, true, true, true, true, true, true, false] rfl rfl (one_of HT_.out (by kernel_rfl)) (by decide) (fun K hK => ?_)
        refine goes_ Tryz.func31 (by kernel_rfl) rfl #[.int .u64 t324, .int .u64 1000000, .int .u64 t325, .bool ((decide (a0_1 < 0)) != (decide (a1_1 < 0)))] (by rfl) rfl rfl (by (try simp only [List.map_toArray, List.map_cons, List.map_nil]); first | done | rfl | (simp only [List.length_drop, List.length_take]; rfl)) ?_
        with_reducible refine (spillwayref2_over.calls kj2 t324 1000000 t325 ((decide (a0_1 < 0)) != (decide (a1_1 < 0))) t326 t327 _ A30.out).mono ?_
        rintro e w32 ⟨rfl, hb⟩
        refine ⟨_, rfl, ?_⟩
        have n0_ := Aside0.mk (blk_below (g := gb318) (o := .cells #[.bool a0_0, .int .i64 a0_1] 23 (0, 0)) (by (with_reducible repeat (first | refine blk_drewN ?_ _ | refine blk_drew ?_ | refine blk_alloc ?_ _)); exact BK318.out) hb)
        have n1_ := Aside0.mk (blk_below (g := gb319) (o := .cells #[.bool a1_0, .int .i64 a1_1] 23 (0, 0)) (by (with_reducible repeat (first | refine blk_drewN ?_ _ | refine blk_drew ?_ | refine blk_alloc ?_ _)); exact BK319.out) hb)
        have n2_ := Aside0.mk (blk_below (g := gb320) (o := .cells #[.bool false, .int .i64 0] 23 (0, 0)) (by (with_reducible repeat (first | refine blk_drewN ?_ _ | refine blk_drew ?_ | refine blk_alloc ?_ _)); exact BK320.out) hb)
        have n3_ := Aside0.mk (below_step (by repeat (first | (with_reducible first | exact HB.out | apply below_alloc | apply pw_below_drewN | apply below_drew1 | refine below_set ?_ GE318.out | refine below_set ?_ GE319.out | refine below_set ?_ GE320.out) | exact HB.out)) hb)
        clear BK318
        clear BK319
        clear BK320
        clear HB
        have BK318 := n0_
        have BK319 := n1_
        have BK320 := n2_
        have HB := n3_
        clear n0_ n1_ n2_ n3_
        (try clear hb)
        (try clear hb2)
        (try clear hk)
        (try clear hi)
        refine hK.out _ _ ⟨(blk_cell BK318.out 0).trans rfl, (blk_cell BK318.out 1).trans rfl, (blk_cell BK319.out 0).trans rfl, (blk_cell BK319.out 1).trans rfl⟩ (fun hHeld => ?_)
        clear hK K
        refine norm_ (a' := ?_) ?_ ?_
        rotate_left
        · show Act.put _ (some 27) _ = _
          simp only [Act.put, List.setIfInBounds_toArray, List.set_cons_zero, List.set_cons_succ, i64_w, i32_w]
          rfl
        refine one_ (i := 14) (N := none) #[true, true, true, true, true, true, true, true, true, true, true, true, true, true, true] rfl rfl (one_of HT_.out (by kernel_rfl)) (by decide) (fun K hK => ?_)
        have hs33 : w32.cell? ⟨gb320, 0, none⟩ = some (.bool false) := (blk_cell BK320.out 0).trans rfl
        have hfs33 := blk_frozen BK320.out 0
        have hns33_0 := NB318_320.out
        have hns33_1 := NB319_320.out
        have hms33_0 := NB320_318.out
        have hms33_1 := NB320_319.out
        have hs34 : w32.cell? ⟨gb320, 1, none⟩ = some (.int .i64 0) := (blk_cell BK320.out 1).trans rfl
        have hfs34 := blk_frozen BK320.out 1
        have hns34_0 := NB318_320.out
        have hns34_1 := NB319_320.out
        have hms34_0 := NB320_318.out
        have hms34_1 := NB320_319.out
        refine skip_ (w1 := ?_) (by rfl) rfl ?_ ?_
        rotate_left
        · go_simp
          rfl
        refine hK.out _ _ ⟨((cell_far (p := ⟨gb320, _, none⟩) NB318_320.out _).trans (((cell_far (p := ⟨gb320, _, none⟩) NB318_320.out _).trans (hHeld.1)))), ((cell_far (p := ⟨gb320, _, none⟩) NB318_320.out _).trans (((cell_far (p := ⟨gb320, _, none⟩) NB318_320.out _).trans (hHeld.2.1)))), ((cell_far (p := ⟨gb320, _, none⟩) NB319_320.out _).trans (((cell_far (p := ⟨gb320, _, none⟩) NB319_320.out _).trans (hHeld.2.2.1)))), ((cell_far (p := ⟨gb320, _, none⟩) NB319_320.out _).trans (((cell_far (p := ⟨gb320, _, none⟩) NB319_320.out _).trans (hHeld.2.2.2))))⟩ (fun hHeld => ?_)
        clear hK K
        refine done_ (done_of HT_.out (by kernel_rfl)) ?_
        try go_wp2
        refine bodyPost_ret (results_cell_row rfl _ _ gb320 23 #[.bool t326, .int .i64 t327] (0, 0) _ rfl (by (with_reducible repeat (first | refine blk_drewN ?_ _ | refine blk_drew ?_ | refine blk_alloc ?_ _)); refine blk_put (cs := #[.bool t326, .int .i64 0]) ?_ 1 _ rfl; (with_reducible repeat (first | refine blk_drewN ?_ _ | refine blk_drew ?_ | refine blk_alloc ?_ _)); refine blk_put (cs := #[.bool false, .int .i64 0]) ?_ 0 _ rfl; (with_reducible repeat (first | refine blk_drewN ?_ _ | refine blk_drew ?_ | refine blk_alloc ?_ _)); exact BK320.out) Tryz.underlying23 rfl (by kernel_rfl)) rfl ?_
        exact ⟨by first | rfl | (simp [errW_none, errW_some] <;> rfl) | (simp [*, errW_none, errW_some] <;> rfl), by repeat (first | (with_reducible first | exact HB.out | apply below_alloc | apply pw_below_drewN | apply below_drew1 | refine below_set ?_ GE318.out | refine below_set ?_ GE319.out | refine below_set ?_ GE320.out) | exact HB.out)⟩

end Go.Proofs.YtjaolddgnijgiaaGreatDoor.Print
