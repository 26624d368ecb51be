/- A part of the proof of ExpoKinds: what the functions that the law reaches come to. -/
import Derived.Test.YtfgffjchphignaaGreatDoorC01
import Derived.Test.YtfgffjchphignaaGreatDoorC02
import Derived.Test.YtfgffjchphignaaGreatDoorC03
import Derived.Lib.ItoaNum
import Derived.Lib.IndexMore
import Derived.Lib.Split
set_option linter.unusedVariables false
set_option linter.unusedSimpArgs false
section
namespace Go.Proofs.YtfgffjchphignaaGreatDoor.Print
open Go.RowKit Go.Proofs.YtfgffjchphignaaGreatDoorX Go.Proofs.YtfgffjchphignaaGreatDoorW.PrintWords Go.Proofs.YtfgffjchphignaaGreatDoorW.PrintLast Go.Proofs.YtfgffjchphignaaGreatDoorW.PrintMore
attribute [local go_sem] max2_int min2_int max_two min_two max_three min_three max_four min_four

/-! ### expo_Line: function 12 -/
mutual
def expo_Line.j0 : Nat → List ByteArray → Bool → Bool → Int → Int → Bool → Int → Option ((List (S60)) × Bool × Int × Int × Bool × Int × Int)
 | 0, _, _, _, _, _, _, _ => none
 | k + 1, x5, x26, x162001, x162002, x162003, x162004, x162005 => if x26 = true then (some (([] : List (S60)), x162001, x162002, x162003, x162004, x162005, 12)) else (if 0 < (x5.length : Int) then ((label_Parse.f k (rdOf ByteArray.empty x5 0)).bind fun bt166 => ((expo_metric.f k bt166.1).bind fun bt170 => (if bt166.2 = 0 then (expo_Line.j1 k x5 bt166.1 (!bt170.2) x162001 x162002 x162003 x162004 x162005) else (expo_Line.j1 k x5 bt166.1 true x162001 x162002 x162003 x162004 x162005)))) else (none))
def expo_Line.j1 : Nat → List ByteArray → List (S60) → Bool → Bool → Int → Int → Bool → Int → Option ((List (S60)) × Bool × Int × Int × Bool × Int × Int)
 | 0, _, _, _, _, _, _, _, _ => none
 | k + 1, x5, x6, x45, x162001, x162002, x162003, x162004, x162005 => if x45 = true then (some (([] : List (S60)), x162001, x162002, x162003, x162004, x162005, 30)) else (if 1 < (x5.length : Int) then ((fix_Parse.f k (rdOf ByteArray.empty x5 1)).bind fun bt173 => (if bt173.2.2 = 0 then (if (x5.length : Int) = 3 then (if 2 < (x5.length : Int) then ((expo_number.f (rdOf ByteArray.empty x5 2)).bind fun bt179 => (if bt179.2 = true then (some (x6, bt173.1, bt173.2.1, bt179.1, bt179.2, 0, 0)) else (some (([] : List (S60)), x162001, x162002, x162003, x162004, x162005, 152)))) else (none)) else (some (x6, bt173.1, bt173.2.1, 0, false, 0, 0))) else (some (([] : List (S60)), x162001, x162002, x162003, x162004, x162005, bt173.2.2)))) else (none))
end
def expo_Line.f (k : Nat) (a0 : ByteArray) : Option ((List (S60)) × Bool × Int × Int × Bool × Int × Int) := if (a0.size : Int) > 300 then (some (([] : List (S60)), false, 0, 0, false, 0, 11)) else ((expo_words.f k a0).bind fun t162 => (if (t162.length : Int) = 2 then (expo_Line.j0 k t162 false false 0 0 false 0) else (expo_Line.j0 k t162 ((t162.length : Int) != 3) false 0 0 false 0)))
theorem expo_Line.mono_l : ∀ k, (∀ y0 y1 y2 y3 y4 y5 y6, LeO (expo_Line.j0 k y0 y1 y2 y3 y4 y5 y6) (expo_Line.j0 (k + 1) y0 y1 y2 y3 y4 y5 y6)) ∧ (∀ y0 y1 y2 y3 y4 y5 y6 y7, LeO (expo_Line.j1 k y0 y1 y2 y3 y4 y5 y6 y7) (expo_Line.j1 (k + 1) y0 y1 y2 y3 y4 y5 y6 y7))
 | 0 => ⟨fun _ _ _ _ _ _ _ r h => by simp [expo_Line.j0] at h, fun _ _ _ _ _ _ _ _ r h => by simp [expo_Line.j1] at h⟩
 | k + 1 => by
  obtain ⟨ih0, ih1⟩ := expo_Line.mono_l k
  refine ⟨?_, ?_⟩
  ·intro y0 y1 y2 y3 y4 y5 y6
   unfold expo_Line.j0
   repeat' first
   | (with_reducible exact ih0 _ _ _ _ _ _ _)
   | (with_reducible exact ih1 _ _ _ _ _ _ _ _)
   | (with_reducible exact expo_metric.mono _ _)
   | (with_reducible exact expo_words.mono _ _)
   | (with_reducible exact fix_Parse.mono _ _)
   | (with_reducible exact label_Parse.mono _ _)
   | (with_reducible exact LeO.refl _)
   | (with_reducible exact LeO.none _)
   | (with_reducible refine LeO.ite ?_ ?_)
   | (with_reducible refine LeO.bind ?_ (fun _ => ?_))
   | exact ih0 _ _ _ _ _ _ _
   | exact ih1 _ _ _ _ _ _ _ _
   | exact expo_metric.mono _ _
   | exact expo_words.mono _ _
   | exact fix_Parse.mono _ _
   | exact label_Parse.mono _ _
   | exact LeO.none _
   | refine LeO.ite ?_ ?_
   | refine LeO.bind ?_ (fun _ => ?_)
  ·intro y0 y1 y2 y3 y4 y5 y6 y7
   unfold expo_Line.j1
   repeat' first
   | (with_reducible exact ih0 _ _ _ _ _ _ _)
   | (with_reducible exact ih1 _ _ _ _ _ _ _ _)
   | (with_reducible exact expo_metric.mono _ _)
   | (with_reducible exact expo_words.mono _ _)
   | (with_reducible exact fix_Parse.mono _ _)
   | (with_reducible exact label_Parse.mono _ _)
   | (with_reducible exact LeO.refl _)
   | (with_reducible exact LeO.none _)
   | (with_reducible refine LeO.ite ?_ ?_)
   | (with_reducible refine LeO.bind ?_ (fun _ => ?_))
   | exact ih0 _ _ _ _ _ _ _
   | exact ih1 _ _ _ _ _ _ _ _
   | exact expo_metric.mono _ _
   | exact expo_words.mono _ _
   | exact fix_Parse.mono _ _
   | exact label_Parse.mono _ _
   | exact LeO.none _
   | refine LeO.ite ?_ ?_
   | refine LeO.bind ?_ (fun _ => ?_)
theorem expo_Line.mono : ∀ a0 k, LeO (expo_Line.f k a0) (expo_Line.f (k + 1) a0) := by
 intro a0 k
 obtain ⟨ih0, ih1⟩ := expo_Line.mono_l k
 unfold expo_Line.f
 repeat' first
   | (with_reducible exact ih0 _ _ _ _ _ _ _)
   | (with_reducible exact ih1 _ _ _ _ _ _ _ _)
   | (with_reducible exact expo_metric.mono _ _)
   | (with_reducible exact expo_words.mono _ _)
   | (with_reducible exact fix_Parse.mono _ _)
   | (with_reducible exact label_Parse.mono _ _)
   | (with_reducible exact LeO.refl _)
   | (with_reducible exact LeO.none _)
   | (with_reducible refine LeO.ite ?_ ?_)
   | (with_reducible refine LeO.bind ?_ (fun _ => ?_))
   | exact ih0 _ _ _ _ _ _ _
   | exact ih1 _ _ _ _ _ _ _ _
   | exact expo_metric.mono _ _
   | exact expo_words.mono _ _
   | exact fix_Parse.mono _ _
   | exact label_Parse.mono _ _
   | exact LeO.none _
   | refine LeO.ite ?_ ?_
   | refine LeO.bind ?_ (fun _ => ?_)
set_option maxHeartbeats 8000000 in
set_option maxRecDepth 100000 in
theorem expo_Line.calls (k : Nat) (a0 : ByteArray) (r1 : List (S60)) (r2 : Bool) (r3 : Int) (r4 : Int) (r5 : Bool) (r6 : Int) (r7 : Int) (w : World) (hg_ : LaidW w) (h : expo_Line.f k a0 = some (r1, r2, r3, r4, r5, r6, r7)) :
  Calls Tryz.prog 12 #[.string a0] w fun e w' => ∃ v0_ : Value, e = .returned (.tuple #[.agg #[v0_, .bool r2, .int .i64 r3, .int .i64 r4, .bool r5, .int .i64 r6], .int .i64 r7]) ∧ Kd.R k60 60 w' w.heap.size (fun _ => True) v0_ r1 ∧ Below w.heap.size w w' := by
 have HLW := Aside0.mk hg_
 clear hg_
 have hu34 := Tryz.underlying34
 have hu32 := Tryz.underlying32
 have HB := Aside0.mk (Below.refl w.heap.size w)
 have H : (if (a0.size : Int) > 300 then (some (([] : List (S60)), false, 0, 0, false, 0, 11)) else ((expo_words.f k a0).bind fun t162 => (if (t162.length : Int) = 2 then (expo_Line.j0 k t162 false false 0 0 false 0) else (expo_Line.j0 k t162 ((t162.length : Int) != 3) false 0 0 false 0)))) = some (r1, r2, r3, r4, r5, r6, r7) := h
 clear h
 by_cases c2 : (a0.size : Int) > 300
 ·rw [if_pos c2] at H
  have c2b0 : decide (300 < (a0.size : Int)) = true := decide_eq_true c2
  have c2b1 : decide (300 < a0.size) = true := decide_eq_true (by omega)
  clear c2
  simp only [Option.some.injEq, Prod.mk.injEq] at H
  obtain ⟨rfl, rfl, rfl, rfl, rfl, rfl, rfl⟩ := H
  go_enter Tryz.func12, Tryz.ntmps12
  go_wp2_with (first | ((with_reducible refine gate_dst (N := 2) rfl ?_); (try (refine gate_guard (by rfl) ?_; dsimp only)); refine box_event ?hg (N := 2) ?hd (cs := #[.slice none 0 0, .bool false, .int .i64 0, .int .i64 0, .bool false, .int .i64 0]) (t := 34) ?hr ?_; (case hd => rfl); (case hg => rfl); (case hr => first | (go_simp; done) | (go_simp; rfl)); intro gb160 hg w3 hbox hb; have n0_ := Aside0.mk (below_step (by repeat (first | (with_reducible first | exact HB.out | apply below_alloc | apply pw_below_drewN | apply below_drew1) | exact HB.out)) hb); have n1_ := Aside0.mk (hbox); have n2_ := Aside0.mk ((by rw [hg]; exact (below_size (by repeat (first | (with_reducible first | exact HB.out | apply below_alloc | apply pw_below_drewN | apply below_drew1) | exact HB.out))) : w.heap.size ≤ gb160)); have n3_ := Aside0.mk ((by rw [hg]; exact (below_size (by repeat (first | (with_reducible first | exact HB.out | apply below_alloc | apply pw_below_drewN | apply below_drew1) | exact HB.out))) : w.heap.size ≤ gb160)); clear HB; have HB := n0_; have BK160 := n1_; have GW160 := n2_; have GE160 := n3_; clear n0_ n1_ n2_ n3_; clear hb hbox hg) | ((with_reducible refine gate_dst (N := 4) rfl ?_); (try (refine gate_guard (by rfl) ?_; dsimp only)); refine box_event ?hg (N := 4) ?hd (cs := #[.slice none 0 0, .bool false, .int .i64 0, .int .i64 0, .bool false, .int .i64 0]) (t := 34) ?hr ?_; (case hd => rfl); (case hg => rfl); (case hr => first | (go_simp; done) | (go_simp; rfl)); intro gb161 hg w4 hbox hb; have n0_ := Aside0.mk (blk_below (g := gb160) (o := .cells #[.slice none 0 0, .bool false, .int .i64 0, .int .i64 0, .bool false, .int .i64 0] 34 (0, 0)) (by (with_reducible repeat (first | refine blk_drewN ?_ _ | refine blk_drew ?_ | refine blk_alloc ?_ _)); exact BK160.out) hb); have n1_ := Aside0.mk (below_step (by repeat (first | (with_reducible first | exact HB.out | apply below_alloc | apply pw_below_drewN | apply below_drew1 | refine below_set ?_ GE160.out) | exact HB.out)) hb); have n2_ := Aside0.mk (hbox); have n3_ := Aside0.mk ((by rw [hg]; exact (below_size (by repeat (first | (with_reducible first | exact HB.out | apply below_alloc | apply pw_below_drewN | apply below_drew1 | refine below_set ?_ GE160.out) | exact HB.out))) : w.heap.size ≤ gb161)); have n4_ := Aside0.mk ((by rw [hg]; exact (below_size (by repeat (first | (with_reducible first | exact HB.out | apply below_alloc | apply pw_below_drewN | apply below_drew1 | refine below_set ?_ GE160.out) | exact HB.out))) : w.heap.size ≤ gb161)); have n5_ := Aside0.mk ((by rw [hg]; exact Nat.ne_of_lt (blk_lt (g := gb160) (o := .cells #[.slice none 0 0, .bool false, .int .i64 0, .int .i64 0, .bool false, .int .i64 0] 34 (0, 0)) (by (with_reducible repeat (first | refine blk_drewN ?_ _ | refine blk_drew ?_ | refine blk_alloc ?_ _)); exact BK160.out)) : gb160 ≠ gb161)); have n6_ := Aside0.mk ((by rw [hg]; exact Nat.ne_of_gt (blk_lt (g := gb160) (o := .cells #[.slice none 0 0, .bool false, .int .i64 0, .int .i64 0, .bool false, .int .i64 0] 34 (0, 0)) (by (with_reducible repeat (first | refine blk_drewN ?_ _ | refine blk_drew ?_ | refine blk_alloc ?_ _)); exact BK160.out)) : gb161 ≠ gb160)); clear BK160; clear HB; have BK160 := n0_; have HB := n1_; have BK161 := n2_; have GW161 := n3_; have GE161 := n4_; have NB160_161 := n5_; have NB161_160 := n6_; clear n0_ n1_ n2_ n3_ n4_ n5_ n6_; clear hb hbox hg; have hnb5 := NB161_160.out; have hnc5 := NB160_161.out; have hcz6_0 : w4.cell? ⟨gb161, 0, none⟩ = some (.slice none 0 0) := (blk_cell BK161.out 0).trans rfl; have hcz6_1 : w4.cell? ⟨gb161, 1, none⟩ = some (.bool false) := (blk_cell BK161.out 1).trans rfl; have hcz6_2 : w4.cell? ⟨gb161, 2, none⟩ = some (.int .i64 0) := (blk_cell BK161.out 2).trans rfl; have hcz6_3 : w4.cell? ⟨gb161, 3, none⟩ = some (.int .i64 0) := (blk_cell BK161.out 3).trans rfl; have hcz6_4 : w4.cell? ⟨gb161, 4, none⟩ = some (.bool false) := (blk_cell BK161.out 4).trans rfl; have hcz6_5 : w4.cell? ⟨gb161, 5, none⟩ = some (.int .i64 0) := (blk_cell BK161.out 5).trans rfl; have hfz6_0 := blk_frozen BK161.out 0; have hfz6_1 := blk_frozen BK161.out 1; have hfz6_2 := blk_frozen BK161.out 2; have hfz6_3 := blk_frozen BK161.out 3; have hfz6_4 := blk_frozen BK161.out 4; have hfz6_5 := blk_frozen BK161.out 5; have hcz7_0 : w4.cell? ⟨gb160, 0, none⟩ = some (.slice none 0 0) := (blk_cell BK160.out 0).trans rfl; have hcz7_1 : w4.cell? ⟨gb160, 1, none⟩ = some (.bool false) := (blk_cell BK160.out 1).trans rfl; have hcz7_2 : w4.cell? ⟨gb160, 2, none⟩ = some (.int .i64 0) := (blk_cell BK160.out 2).trans rfl; have hcz7_3 : w4.cell? ⟨gb160, 3, none⟩ = some (.int .i64 0) := (blk_cell BK160.out 3).trans rfl; have hcz7_4 : w4.cell? ⟨gb160, 4, none⟩ = some (.bool false) := (blk_cell BK160.out 4).trans rfl; have hcz7_5 : w4.cell? ⟨gb160, 5, none⟩ = some (.int .i64 0) := (blk_cell BK160.out 5).trans rfl; have hfz7_0 := blk_frozen BK160.out 0; have hfz7_1 := blk_frozen BK160.out 1; have hfz7_2 := blk_frozen BK160.out 2; have hfz7_3 := blk_frozen BK160.out 3; have hfz7_4 := blk_frozen BK160.out 4; have hfz7_5 := blk_frozen BK160.out 5))
  refine bodyPost_ret (results_ct rfl _ _ gb160 34 #[.slice none 0 0, .bool false, .int .i64 0, .int .i64 0, .bool false, .int .i64 0] (0, 0) _ rfl (by (with_reducible repeat (first | refine blk_drewN ?_ _ | refine blk_drew ?_ | refine blk_alloc ?_ _)); refine blk_put (cs := #[.slice none 0 0, .bool false, .int .i64 0, .int .i64 0, .bool false, .int .i64 0]) ?_ 5 _ rfl; (with_reducible repeat (first | refine blk_drewN ?_ _ | refine blk_drew ?_ | refine blk_alloc ?_ _)); refine blk_put (cs := #[.slice none 0 0, .bool false, .int .i64 0, .int .i64 0, .bool false, .int .i64 0]) ?_ 4 _ rfl; (with_reducible repeat (first | refine blk_drewN ?_ _ | refine blk_drew ?_ | refine blk_alloc ?_ _)); refine blk_put (cs := #[.slice none 0 0, .bool false, .int .i64 0, .int .i64 0, .bool false, .int .i64 0]) ?_ 3 _ rfl; (with_reducible repeat (first | refine blk_drewN ?_ _ | refine blk_drew ?_ | refine blk_alloc ?_ _)); refine blk_put (cs := #[.slice none 0 0, .bool false, .int .i64 0, .int .i64 0, .bool false, .int .i64 0]) ?_ 2 _ rfl; (with_reducible repeat (first | refine blk_drewN ?_ _ | refine blk_drew ?_ | refine blk_alloc ?_ _)); refine blk_put (cs := #[.slice none 0 0, .bool false, .int .i64 0, .int .i64 0, .bool false, .int .i64 0]) ?_ 1 _ rfl; (with_reducible repeat (first | refine blk_drewN ?_ _ | refine blk_drew ?_ | refine blk_alloc ?_ _)); refine blk_put (cs := #[.slice none 0 0, .bool false, .int .i64 0, .int .i64 0, .bool false, .int .i64 0]) ?_ 0 _ rfl; (with_reducible repeat (first | refine blk_drewN ?_ _ | refine blk_drew ?_ | refine blk_alloc ?_ _)); refine blk_far ?_ NB160_161.out _; (with_reducible repeat (first | refine blk_drewN ?_ _ | refine blk_drew ?_ | refine blk_alloc ?_ _)); refine blk_far ?_ NB160_161.out _; (with_reducible repeat (first | refine blk_drewN ?_ _ | refine blk_drew ?_ | refine blk_alloc ?_ _)); refine blk_far ?_ NB160_161.out _; (with_reducible repeat (first | refine blk_drewN ?_ _ | refine blk_drew ?_ | refine blk_alloc ?_ _)); refine blk_far ?_ NB160_161.out _; (with_reducible repeat (first | refine blk_drewN ?_ _ | refine blk_drew ?_ | refine blk_alloc ?_ _)); refine blk_far ?_ NB160_161.out _; (with_reducible repeat (first | refine blk_drewN ?_ _ | refine blk_drew ?_ | refine blk_alloc ?_ _)); refine blk_far ?_ NB160_161.out _; (with_reducible repeat (first | refine blk_drewN ?_ _ | refine blk_drew ?_ | refine blk_alloc ?_ _)); exact BK160.out) Tryz.underlying34 rfl (by kernel_rfl)) rfl ?_
  exact ⟨_, by first | rfl | (simp [errW_none, errW_some] <;> rfl) | (simp [*, errW_none, errW_some] <;> rfl), by first | exact Kd.R_nil _ _ _ _ _ | exact Kd.N_nil _ _ _ _ _ | exact Kd.V_nil _ _ _ _ _ | exact Kd.Q_nil _ _ _ _ _ | exact Kd.S_nil _ _ _ _ _, by repeat (first | (with_reducible first | exact HB.out | apply below_alloc | apply pw_below_drewN | apply below_drew1 | refine below_set ?_ GE160.out | refine below_set ?_ GE161.out) | exact HB.out)⟩
 ·rw [if_neg c2] at H
  have c2b0 : decide (300 < (a0.size : Int)) = false := decide_eq_false c2
  have c2b1 : decide (300 < a0.size) = false := decide_eq_false (by omega)
  clear c2
  replace H := Option.bind_eq_some_iff.mp H
  obtain ⟨t162, A80, H⟩ := H
  replace H : (if (t162.length : Int) = 2 then (expo_Line.j0 k t162 false false 0 0 false 0) else (expo_Line.j0 k t162 ((t162.length : Int) != 3) false 0 0 false 0)) = some (r1, r2, r3, r4, r5, r6, r7) := H
  have A8 := Aside0.mk A80
  clear A80
  have HC9 := Aside0.mk H
  clear H
  go_enter Tryz.func12, Tryz.ntmps12
  go_upto_region 5 with (first | ((with_reducible refine gate_dst (N := 2) rfl ?_); (try (refine gate_guard (by rfl) ?_; dsimp only)); refine box_event ?hg (N := 2) ?hd (cs := #[.slice none 0 0, .bool false, .int .i64 0, .int .i64 0, .bool false, .int .i64 0]) (t := 34) ?hr ?_; (case hd => rfl); (case hg => rfl); (case hr => first | (go_simp; done) | (go_simp; rfl)); intro gb160 hg w10 hbox hb; have n0_ := Aside0.mk (below_step (by repeat (first | (with_reducible first | exact HB.out | apply below_alloc | apply pw_below_drewN | apply below_drew1) | exact HB.out)) hb); have n1_ := Aside0.mk (hbox); have n2_ := Aside0.mk ((by rw [hg]; exact (below_size (by repeat (first | (with_reducible first | exact HB.out | apply below_alloc | apply pw_below_drewN | apply below_drew1) | exact HB.out))) : w.heap.size ≤ gb160)); have n3_ := Aside0.mk ((by rw [hg]; exact (below_size (by repeat (first | (with_reducible first | exact HB.out | apply below_alloc | apply pw_below_drewN | apply below_drew1) | exact HB.out))) : w.heap.size ≤ gb160)); clear HB; have HB := n0_; have BK160 := n1_; have GW160 := n2_; have GE160 := n3_; clear n0_ n1_ n2_ n3_; clear hb hbox hg) | ((with_reducible refine gate_dst (N := 4) rfl ?_); (try (refine gate_guard (by rfl) ?_; dsimp only)); refine box_event ?hg (N := 4) ?hd (cs := #[.slice none 0 0, .bool false, .int .i64 0, .int .i64 0, .bool false, .int .i64 0]) (t := 34) ?hr ?_; (case hd => rfl); (case hg => rfl); (case hr => first | (go_simp; done) | (go_simp; rfl)); intro gb161 hg w11 hbox hb; have n0_ := Aside0.mk (blk_below (g := gb160) (o := .cells #[.slice none 0 0, .bool false, .int .i64 0, .int .i64 0, .bool false, .int .i64 0] 34 (0, 0)) (by (with_reducible repeat (first | refine blk_drewN ?_ _ | refine blk_drew ?_ | refine blk_alloc ?_ _)); exact BK160.out) hb); have n1_ := Aside0.mk (below_step (by repeat (first | (with_reducible first | exact HB.out | apply below_alloc | apply pw_below_drewN | apply below_drew1 | refine below_set ?_ GE160.out) | exact HB.out)) hb); have n2_ := Aside0.mk (hbox); have n3_ := Aside0.mk ((by rw [hg]; exact (below_size (by repeat (first | (with_reducible first | exact HB.out | apply below_alloc | apply pw_below_drewN | apply below_drew1 | refine below_set ?_ GE160.out) | exact HB.out))) : w.heap.size ≤ gb161)); have n4_ := Aside0.mk ((by rw [hg]; exact (below_size (by repeat (first | (with_reducible first | exact HB.out | apply below_alloc | apply pw_below_drewN | apply below_drew1 | refine below_set ?_ GE160.out) | exact HB.out))) : w.heap.size ≤ gb161)); have n5_ := Aside0.mk ((by rw [hg]; exact Nat.ne_of_lt (blk_lt (g := gb160) (o := .cells #[.slice none 0 0, .bool false, .int .i64 0, .int .i64 0, .bool false, .int .i64 0] 34 (0, 0)) (by (with_reducible repeat (first | refine blk_drewN ?_ _ | refine blk_drew ?_ | refine blk_alloc ?_ _)); exact BK160.out)) : gb160 ≠ gb161)); have n6_ := Aside0.mk ((by rw [hg]; exact Nat.ne_of_gt (blk_lt (g := gb160) (o := .cells #[.slice none 0 0, .bool false, .int .i64 0, .int .i64 0, .bool false, .int .i64 0] 34 (0, 0)) (by (with_reducible repeat (first | refine blk_drewN ?_ _ | refine blk_drew ?_ | refine blk_alloc ?_ _)); exact BK160.out)) : gb161 ≠ gb160)); clear BK160; clear HB; have BK160 := n0_; have HB := n1_; have BK161 := n2_; have GW161 := n3_; have GE161 := n4_; have NB160_161 := n5_; have NB161_160 := n6_; clear n0_ n1_ n2_ n3_ n4_ n5_ n6_; clear hb hbox hg; have hnb12 := NB161_160.out; have hnc12 := NB160_161.out; have hcz13_0 : w11.cell? ⟨gb161, 0, none⟩ = some (.slice none 0 0) := (blk_cell BK161.out 0).trans rfl; have hcz13_1 : w11.cell? ⟨gb161, 1, none⟩ = some (.bool false) := (blk_cell BK161.out 1).trans rfl; have hcz13_2 : w11.cell? ⟨gb161, 2, none⟩ = some (.int .i64 0) := (blk_cell BK161.out 2).trans rfl; have hcz13_3 : w11.cell? ⟨gb161, 3, none⟩ = some (.int .i64 0) := (blk_cell BK161.out 3).trans rfl; have hcz13_4 : w11.cell? ⟨gb161, 4, none⟩ = some (.bool false) := (blk_cell BK161.out 4).trans rfl; have hcz13_5 : w11.cell? ⟨gb161, 5, none⟩ = some (.int .i64 0) := (blk_cell BK161.out 5).trans rfl; have hfz13_0 := blk_frozen BK161.out 0; have hfz13_1 := blk_frozen BK161.out 1; have hfz13_2 := blk_frozen BK161.out 2; have hfz13_3 := blk_frozen BK161.out 3; have hfz13_4 := blk_frozen BK161.out 4; have hfz13_5 := blk_frozen BK161.out 5) | ((with_reducible refine gate_callee (f := 34) rfl ?_); refine goesL_ (some 18) rfl rfl Tryz.func34 (by kernel_rfl) rfl #[.string a0] rfl (by (try simp only [List.map_toArray, List.map_cons, List.map_nil]); first | done | rfl | (simp only [List.length_drop, List.length_take]; rfl)) ?_; (with_reducible refine (expo_words.calls k a0 t162 _ A8.out).mono ?_); rintro e w14 ⟨v163, rfl, ho0, hb⟩; refine ⟨_, rfl, ?_⟩; have n0_ := Aside0.mk (Kd.R_lower ho0 (below_size (by repeat (first | (with_reducible first | exact HB.out | apply below_alloc | apply pw_below_drewN | apply below_drew1 | refine below_set ?_ GE160.out | refine below_set ?_ GE161.out) | exact HB.out)))); have n1_ := Aside0.mk (blk_below (g := gb160) (o := .cells #[.slice none 0 0, .bool false, .int .i64 0, .int .i64 0, .bool false, .int .i64 0] 34 (0, 0)) (by (with_reducible repeat (first | refine blk_drewN ?_ _ | refine blk_drew ?_ | refine blk_alloc ?_ _)); refine blk_far ?_ NB160_161.out _; (with_reducible repeat (first | refine blk_drewN ?_ _ | refine blk_drew ?_ | refine blk_alloc ?_ _)); refine blk_far ?_ NB160_161.out _; (with_reducible repeat (first | refine blk_drewN ?_ _ | refine blk_drew ?_ | refine blk_alloc ?_ _)); refine blk_far ?_ NB160_161.out _; (with_reducible repeat (first | refine blk_drewN ?_ _ | refine blk_drew ?_ | refine blk_alloc ?_ _)); refine blk_far ?_ NB160_161.out _; (with_reducible repeat (first | refine blk_drewN ?_ _ | refine blk_drew ?_ | refine blk_alloc ?_ _)); refine blk_far ?_ NB160_161.out _; (with_reducible repeat (first | refine blk_drewN ?_ _ | refine blk_drew ?_ | refine blk_alloc ?_ _)); refine blk_far ?_ NB160_161.out _; (with_reducible repeat (first | refine blk_drewN ?_ _ | refine blk_drew ?_ | refine blk_alloc ?_ _)); exact BK160.out) hb); have n2_ := Aside0.mk (blk_below (g := gb161) (o := .cells #[.slice none 0 0, .bool false, .int .i64 0, .int .i64 0, .bool false, .int .i64 0] 34 (0, 0)) (by (with_reducible repeat (first | refine blk_drewN ?_ _ | refine blk_drew ?_ | refine blk_alloc ?_ _)); refine blk_put (cs := #[.slice none 0 0, .bool false, .int .i64 0, .int .i64 0, .bool false, .int .i64 0]) ?_ 5 _ rfl; (with_reducible repeat (first | refine blk_drewN ?_ _ | refine blk_drew ?_ | refine blk_alloc ?_ _)); refine blk_put (cs := #[.slice none 0 0, .bool false, .int .i64 0, .int .i64 0, .bool false, .int .i64 0]) ?_ 4 _ rfl; (with_reducible repeat (first | refine blk_drewN ?_ _ | refine blk_drew ?_ | refine blk_alloc ?_ _)); refine blk_put (cs := #[.slice none 0 0, .bool false, .int .i64 0, .int .i64 0, .bool false, .int .i64 0]) ?_ 3 _ rfl; (with_reducible repeat (first | refine blk_drewN ?_ _ | refine blk_drew ?_ | refine blk_alloc ?_ _)); refine blk_put (cs := #[.slice none 0 0, .bool false, .int .i64 0, .int .i64 0, .bool false, .int .i64 0]) ?_ 2 _ rfl; (with_reducible repeat (first | refine blk_drewN ?_ _ | refine blk_drew ?_ | refine blk_alloc ?_ _)); refine blk_put (cs := #[.slice none 0 0, .bool false, .int .i64 0, .int .i64 0, .bool false, .int .i64 0]) ?_ 1 _ rfl; (with_reducible repeat (first | refine blk_drewN ?_ _ | refine blk_drew ?_ | refine blk_alloc ?_ _)); refine blk_put (cs := #[.slice none 0 0, .bool false, .int .i64 0, .int .i64 0, .bool false, .int .i64 0]) ?_ 0 _ rfl; (with_reducible repeat (first | refine blk_drewN ?_ _ | refine blk_drew ?_ | refine blk_alloc ?_ _)); exact BK161.out) hb); have n3_ := Aside0.mk (below_step (by repeat (first | (with_reducible first | exact HB.out | apply below_alloc | apply pw_below_drewN | apply below_drew1 | refine below_set ?_ GE160.out | refine below_set ?_ GE161.out) | exact HB.out)) hb); clear BK160; clear BK161; clear HB; have HO164 := n0_; have BK160 := n1_; have BK161 := n2_; have HB := n3_; clear n0_ n1_ n2_ n3_; (try clear hb); (try clear hb2); (try clear hk); (try clear hi); (try clear ho0)))
  (try simp only [Act.put, List.setIfInBounds_toArray, List.set_cons_zero, List.set_cons_succ])
  go_cut [26] (fun v26 wc => ∃ (kq : Nat) (x26_8 : Bool), v26 = .bool x26_8 ∧ Aside0 (expo_Line.j0 kq t162 x26_8 false 0 0 false 0 = some (r1, r2, r3, r4, r5, r6, r7)) ∧ Aside0 (kq ≤ k) ∧ Aside0 (Kd.R Kd.string 9 wc w.heap.size (fun _ => True) v163 t162) ∧ Aside0 (wc.heap[gb160]? = some (.cells #[(.slice none 0 0), .bool false, .int .i64 0, .int .i64 0, .bool false, .int .i64 0] 34 (0, 0))) ∧ Aside0 (wc.heap[gb161]? = some (.cells #[(.slice none 0 0), .bool false, .int .i64 0, .int .i64 0, .bool false, .int .i64 0] 34 (0, 0))) ∧ Aside0 (Below w.heap.size w wc))
  case first =>
   have H := HC9.out
   clear HC9
   by_cases c15 : (t162.length : Int) = 2
   ·rw [if_pos c15] at H
    have c15b0 : ((t162.length : Int) == 2) = true := beq_iff_eq.mpr c15
    have c15b1 : ((t162.length : Int) != 2) = false := bne_eq_false_iff_eq.mpr c15
    clear c15
    (first | rw [c15b0] | (simp only [i64_w, i32_w]; rw [c15b0]) | skip)
    have H' := Aside0.mk H
    clear H
    obtain ⟨Ao16, co16, eo16⟩ := Kd.R_slice HO164.out
    subst eo16
    go_wp2
    go_meet
    case rel => exact ⟨_, (false), (by first | rfl | (simp; done) | (simp [*]; done)), H', ⟨by first | omega | exact Nat.le_refl _⟩, ⟨by (with_reducible repeat (first | apply Kd.R_alloc | apply Kd.R_drewN | apply Kd.R_drew)); exact HO164.out⟩, ⟨by (with_reducible repeat (first | refine blk_drewN ?_ _ | refine blk_drew ?_ | refine blk_alloc ?_ _)); exact BK160.out⟩, ⟨by (with_reducible repeat (first | refine blk_drewN ?_ _ | refine blk_drew ?_ | refine blk_alloc ?_ _)); exact BK161.out⟩, ⟨by repeat (first | (with_reducible first | exact HB.out | apply below_alloc | apply pw_below_drewN | apply below_drew1 | refine below_set ?_ GE160.out | refine below_set ?_ GE161.out) | exact HB.out)⟩⟩
   ·rw [if_neg c15] at H
    have c15b0 : ((t162.length : Int) == 2) = false := beq_eq_false_iff_ne.mpr c15
    have c15b1 : ((t162.length : Int) != 2) = true := bne_iff_ne.mpr c15
    (first | rw [c15b0] | (simp only [i64_w, i32_w]; rw [c15b0]) | skip)
    have H' := Aside0.mk H
    clear H
    obtain ⟨Ao17, co17, eo17⟩ := Kd.R_slice HO164.out
    subst eo17
    go_wp2
    go_meet
    case rel => exact ⟨_, (((t162.length : Int) != 3)), (by first | rfl | (simp; done) | (simp [*]; done)), H', ⟨by first | omega | exact Nat.le_refl _⟩, ⟨by (with_reducible repeat (first | apply Kd.R_alloc | apply Kd.R_drewN | apply Kd.R_drew)); exact HO164.out⟩, ⟨by (with_reducible repeat (first | refine blk_drewN ?_ _ | refine blk_drew ?_ | refine blk_alloc ?_ _)); exact BK160.out⟩, ⟨by (with_reducible repeat (first | refine blk_drewN ?_ _ | refine blk_drew ?_ | refine blk_alloc ?_ _)); exact BK161.out⟩, ⟨by repeat (first | (with_reducible first | exact HB.out | apply below_alloc | apply pw_below_drewN | apply below_drew1 | refine below_set ?_ GE160.out | refine below_set ?_ GE161.out) | exact HB.out)⟩⟩
  case rest =>
   clear HC9
   try clear c1
   try clear c2
   try clear c2b0
   try clear c2b1
   try clear p2
   try clear c3
   try clear c5
   try clear c12
   try clear c15
   try clear c15b0
   try clear c15b1
   try clear hcz13_0
   try clear hcz13_1
   try clear hcz13_2
   try clear hcz13_3
   try clear hcz13_4
   try clear hcz13_5
   try clear hcz6_0
   try clear hcz6_1
   try clear hcz6_2
   try clear hcz6_3
   try clear hcz6_4
   try clear hcz6_5
   try clear hcz7_0
   try clear hcz7_1
   try clear hcz7_2
   try clear hcz7_3
   try clear hcz7_4
   try clear hcz7_5
   try clear hfz13_0
   try clear hfz13_1
   try clear hfz13_2
   try clear hfz13_3
   try clear hfz13_4
   try clear hfz13_5
   try clear hfz6_0
   try clear hfz6_1
   try clear hfz6_2
   try clear hfz6_3
   try clear hfz6_4
   try clear hfz6_5
   try clear hfz7_0
   try clear hfz7_1
   try clear hfz7_2
   try clear hfz7_3
   try clear hfz7_4
   try clear hfz7_5
   obtain ⟨kq, x26_8, rfl, HA, HJ8, HO_5, BK160, BK161, HB⟩ := hcut
   cases kq with
   | zero => exact absurd HA.out (by simp [expo_Line.j0])
   | succ kj8 =>
    have H := HA.out
    clear HA
    simp only [expo_Line.j0] at H
    by_cases c18 : x26_8 = true
    ·subst c18
     have H1 : (some (([] : List (S60)), false, 0, 0, false, 0, 12)) = some (r1, r2, r3, r4, r5, r6, r7) := by rw [if_pos rfl] at H; exact H
     clear H
     have H := H1
     clear H1
     simp only [Option.some.injEq, Prod.mk.injEq] at H
     obtain ⟨rfl, rfl, rfl, rfl, rfl, rfl, rfl⟩ := H
     have hnb19 := NB161_160.out
     have hnc19 := NB160_161.out
     have hcz20_0 : wc.cell? ⟨gb161, 0, none⟩ = some (.slice none 0 0) := (blk_cell BK161.out 0).trans rfl
     have hcz20_1 : wc.cell? ⟨gb161, 1, none⟩ = some (.bool false) := (blk_cell BK161.out 1).trans rfl
     have hcz20_2 : wc.cell? ⟨gb161, 2, none⟩ = some (.int .i64 0) := (blk_cell BK161.out 2).trans rfl
     have hcz20_3 : wc.cell? ⟨gb161, 3, none⟩ = some (.int .i64 0) := (blk_cell BK161.out 3).trans rfl
     have hcz20_4 : wc.cell? ⟨gb161, 4, none⟩ = some (.bool false) := (blk_cell BK161.out 4).trans rfl
     have hcz20_5 : wc.cell? ⟨gb161, 5, none⟩ = some (.int .i64 0) := (blk_cell BK161.out 5).trans rfl
     have hfz20_0 := blk_frozen BK161.out 0
     have hfz20_1 := blk_frozen BK161.out 1
     have hfz20_2 := blk_frozen BK161.out 2
     have hfz20_3 := blk_frozen BK161.out 3
     have hfz20_4 := blk_frozen BK161.out 4
     have hfz20_5 := blk_frozen BK161.out 5
     have hcz21_0 : wc.cell? ⟨gb160, 0, none⟩ = some (.slice none 0 0) := (blk_cell BK160.out 0).trans rfl
     have hcz21_1 : wc.cell? ⟨gb160, 1, none⟩ = some (.bool false) := (blk_cell BK160.out 1).trans rfl
     have hcz21_2 : wc.cell? ⟨gb160, 2, none⟩ = some (.int .i64 0) := (blk_cell BK160.out 2).trans rfl
     have hcz21_3 : wc.cell? ⟨gb160, 3, none⟩ = some (.int .i64 0) := (blk_cell BK160.out 3).trans rfl
     have hcz21_4 : wc.cell? ⟨gb160, 4, none⟩ = some (.bool false) := (blk_cell BK160.out 4).trans rfl
     have hcz21_5 : wc.cell? ⟨gb160, 5, none⟩ = some (.int .i64 0) := (blk_cell BK160.out 5).trans rfl
     have hfz21_0 := blk_frozen BK160.out 0
     have hfz21_1 := blk_frozen BK160.out 1
     have hfz21_2 := blk_frozen BK160.out 2
     have hfz21_3 := blk_frozen BK160.out 3
     have hfz21_4 := blk_frozen BK160.out 4
     have hfz21_5 := blk_frozen BK160.out 5
     go_wp2
     refine bodyPost_ret (results_ct rfl _ _ gb160 34 #[.slice none 0 0, .bool false, .int .i64 0, .int .i64 0, .bool false, .int .i64 0] (0, 0) _ rfl (by (with_reducible repeat (first | refine blk_drewN ?_ _ | refine blk_drew ?_ | refine blk_alloc ?_ _)); refine blk_put (cs := #[.slice none 0 0, .bool false, .int .i64 0, .int .i64 0, .bool false, .int .i64 0]) ?_ 5 _ rfl; (with_reducible repeat (first | refine blk_drewN ?_ _ | refine blk_drew ?_ | refine blk_alloc ?_ _)); refine blk_put (cs := #[.slice none 0 0, .bool false, .int .i64 0, .int .i64 0, .bool false, .int .i64 0]) ?_ 4 _ rfl; (with_reducible repeat (first | refine blk_drewN ?_ _ | refine blk_drew ?_ | refine blk_alloc ?_ _)); refine blk_put (cs := #[.slice none 0 0, .bool false, .int .i64 0, .int .i64 0, .bool false, .int .i64 0]) ?_ 3 _ rfl; (with_reducible repeat (first | refine blk_drewN ?_ _ | refine blk_drew ?_ | refine blk_alloc ?_ _)); refine blk_put (cs := #[.slice none 0 0, .bool false, .int .i64 0, .int .i64 0, .bool false, .int .i64 0]) ?_ 2 _ rfl; (with_reducible repeat (first | refine blk_drewN ?_ _ | refine blk_drew ?_ | refine blk_alloc ?_ _)); refine blk_put (cs := #[.slice none 0 0, .bool false, .int .i64 0, .int .i64 0, .bool false, .int .i64 0]) ?_ 1 _ rfl; (with_reducible repeat (first | refine blk_drewN ?_ _ | refine blk_drew ?_ | refine blk_alloc ?_ _)); refine blk_put (cs := #[.slice none 0 0, .bool false, .int .i64 0, .int .i64 0, .bool false, .int .i64 0]) ?_ 0 _ rfl; (with_reducible repeat (first | refine blk_drewN ?_ _ | refine blk_drew ?_ | refine blk_alloc ?_ _)); exact BK160.out) Tryz.underlying34 rfl (by kernel_rfl)) rfl ?_
     exact ⟨_, by first | rfl | (simp [errW_none, errW_some] <;> rfl) | (simp [*, errW_none, errW_some] <;> rfl), by first | exact Kd.R_nil _ _ _ _ _ | exact Kd.N_nil _ _ _ _ _ | exact Kd.V_nil _ _ _ _ _ | exact Kd.Q_nil _ _ _ _ _ | exact Kd.S_nil _ _ _ _ _, by repeat (first | (with_reducible first | exact HB.out | apply below_alloc | apply pw_below_drewN | apply below_drew1 | refine below_set ?_ GE160.out | refine below_set ?_ GE161.out) | exact HB.out)⟩
    ·replace c18 := Bool.eq_false_iff.mpr c18
     subst c18
     have H1 : (if 0 < (t162.length : Int) then ((label_Parse.f kj8 (rdOf ByteArray.empty t162 0)).bind fun bt166 => ((expo_metric.f kj8 bt166.1).bind fun bt170 => (if bt166.2 = 0 then (expo_Line.j1 kj8 t162 bt166.1 (!bt170.2) false 0 0 false 0) else (expo_Line.j1 kj8 t162 bt166.1 true false 0 0 false 0)))) else (none)) = some (r1, r2, r3, r4, r5, r6, r7) := by rw [if_neg (show ¬ (false = true) by decide)] at H; exact H
     clear H
     have H := H1
     clear H1
     by_cases c22 : 0 < (t162.length : Int)
     ·rw [if_pos c22] at H
      have c22b0 : decide (0 < (t162.length : Int)) = true := decide_eq_true c22
      have c22b1 : decide (0 < t162.length) = true := decide_eq_true (by omega)
      clear c22
      replace H := Option.bind_eq_some_iff.mp H
      obtain ⟨⟨t166, t167⟩, A230, H⟩ := H
      replace H : ((expo_metric.f kj8 t166).bind fun bt170 => (if t167 = 0 then (expo_Line.j1 kj8 t162 t166 (!bt170.2) false 0 0 false 0) else (expo_Line.j1 kj8 t162 t166 true false 0 0 false 0))) = some (r1, r2, r3, r4, r5, r6, r7) := H
      have A23 := Aside0.mk A230
      clear A230
      replace H := Option.bind_eq_some_iff.mp H
      obtain ⟨⟨t170, t171⟩, A240, H⟩ := H
      replace H : (if t167 = 0 then (expo_Line.j1 kj8 t162 t166 (!t171) false 0 0 false 0) else (expo_Line.j1 kj8 t162 t166 true false 0 0 false 0)) = some (r1, r2, r3, r4, r5, r6, r7) := H
      have A24 := Aside0.mk A240
      clear A240
      have HC25 := Aside0.mk H
      clear H
      obtain ⟨Ao26, co26, eo26⟩ := Kd.R_slice HO_5.out
      subst eo26
      have p165 : 0 ≤ (0 : Int) := (by omega)
      have q165 : 0 < (t162.length : Int) := of_decide_eq_true (by first | (with_reducible assumption) | assumption)
      obtain ⟨ad165, e165, hx165_0⟩ := Kd.at_string (Kd.R_reads' HO_5.out).2.2 0 p165 q165
      cases e165
      have qi165 : (0 < t162.length) = True := eq_true (by omega)
      (try rw [show ((0 : Int)).toNat = 0 from rfl] at hx165_0)
      (try rw [Addr.add_zero'] at hx165_0)
      replace p165 := eq_true p165
      replace q165 := eq_true q165
      go_upto_region 9 with (first | ((with_reducible refine gate_callee (f := 35) rfl ?_); refine goesL_ (some 32) rfl rfl Tryz.func35 (by kernel_rfl) rfl #[.string (rdOf ByteArray.empty t162 0)] rfl (by (try simp only [List.map_toArray, List.map_cons, List.map_nil]); first | done | rfl | (simp only [List.length_drop, List.length_take]; rfl)) ?_; (with_reducible refine (label_Parse.calls kj8 (rdOf ByteArray.empty t162 0) t166 t167 _ ?side1 A23.out).mono ?_); (case side1 => exact LaidW.below HLW.out (by repeat (first | (with_reducible first | exact HB.out | apply below_alloc | apply pw_below_drewN | apply below_drew1) | exact HB.out | (refine below_set ?_ (Aside0.out ?hge); (case hge => assumption))))); rintro e w27 ⟨v168, rfl, ho0, hb⟩; refine ⟨_, rfl, ?_⟩; have n0_ := Aside0.mk (Kd.R_below (by (with_reducible repeat (first | apply Kd.R_alloc | apply Kd.R_drewN | apply Kd.R_drew)); exact HO_5.out) hb); have n1_ := Aside0.mk (Kd.R_lower ho0 (below_size (by repeat (first | (with_reducible first | exact HB.out | apply below_alloc | apply pw_below_drewN | apply below_drew1 | refine below_set ?_ GE160.out | refine below_set ?_ GE161.out) | exact HB.out)))); have n2_ := Aside0.mk (blk_below (g := gb160) (o := .cells #[.slice none 0 0, .bool false, .int .i64 0, .int .i64 0, .bool false, .int .i64 0] 34 (0, 0)) (by (with_reducible repeat (first | refine blk_drewN ?_ _ | refine blk_drew ?_ | refine blk_alloc ?_ _)); exact BK160.out) hb); have n3_ := Aside0.mk (blk_below (g := gb161) (o := .cells #[.slice none 0 0, .bool false, .int .i64 0, .int .i64 0, .bool false, .int .i64 0] 34 (0, 0)) (by (with_reducible repeat (first | refine blk_drewN ?_ _ | refine blk_drew ?_ | refine blk_alloc ?_ _)); exact BK161.out) hb); have n4_ := Aside0.mk (below_step (by repeat (first | (with_reducible first | exact HB.out | apply below_alloc | apply pw_below_drewN | apply below_drew1 | refine below_set ?_ GE160.out | refine below_set ?_ GE161.out) | exact HB.out)) hb); clear HO_5; clear BK160; clear BK161; clear HB; have HO_5 := n0_; have HO169 := n1_; have BK160 := n2_; have BK161 := n3_; have HB := n4_; clear n0_ n1_ n2_ n3_ n4_; (try clear hb); (try clear hb2); (try clear hk); (try clear hi); (try clear ho0); obtain ⟨Ao28, co28, eo28⟩ := Kd.R_slice HO169.out; subst eo28) | ((with_reducible refine gate_callee (f := 36) rfl ?_); refine goesL_ (some 37) rfl rfl Tryz.func36 (by kernel_rfl) rfl #[.slice Ao28 t166.length co28] rfl (by (try simp only [List.map_toArray, List.map_cons, List.map_nil]); first | done | rfl | (simp only [List.length_drop, List.length_take]; rfl)) ?_; (with_reducible refine (expo_metric.calls kj8 _ _ t166 t170 t171 _ ?side1 ?side2 A24.out).mono ?_); (case side1 => repeat (first | exact (Kd.R_reads' HO169.out).2.2 | (with_reducible refine Kd.C_alloc ?_ _) | (with_reducible refine Kd.C_drewN ?_ _) | (with_reducible refine Kd.C_drew ?_))); (case side2 => exact (Kd.R_reads' HO169.out).2.1); rintro e w29 ⟨rfl, hb⟩; refine ⟨_, rfl, ?_⟩; have n0_ := Aside0.mk (Kd.R_below (by (with_reducible repeat (first | apply Kd.R_alloc | apply Kd.R_drewN | apply Kd.R_drew)); exact HO_5.out) hb); have n1_ := Aside0.mk (Kd.R_below (by (with_reducible repeat (first | apply Kd.R_alloc | apply Kd.R_drewN | apply Kd.R_drew)); exact HO169.out) hb); have n2_ := Aside0.mk (blk_below (g := gb160) (o := .cells #[.slice none 0 0, .bool false, .int .i64 0, .int .i64 0, .bool false, .int .i64 0] 34 (0, 0)) (by (with_reducible repeat (first | refine blk_drewN ?_ _ | refine blk_drew ?_ | refine blk_alloc ?_ _)); exact BK160.out) hb); have n3_ := Aside0.mk (blk_below (g := gb161) (o := .cells #[.slice none 0 0, .bool false, .int .i64 0, .int .i64 0, .bool false, .int .i64 0] 34 (0, 0)) (by (with_reducible repeat (first | refine blk_drewN ?_ _ | refine blk_drew ?_ | refine blk_alloc ?_ _)); exact BK161.out) hb); have n4_ := Aside0.mk (below_step (by repeat (first | (with_reducible first | exact HB.out | apply below_alloc | apply pw_below_drewN | apply below_drew1 | refine below_set ?_ GE160.out | refine below_set ?_ GE161.out) | exact HB.out)) hb); clear HO_5; clear HO169; clear BK160; clear BK161; clear HB; have HO_5 := n0_; have HO169 := n1_; have BK160 := n2_; have BK161 := n3_; have HB := n4_; clear n0_ n1_ n2_ n3_ n4_; (try clear hb); (try clear hb2); (try clear hk); (try clear hi)))
      (try simp only [Act.put, List.setIfInBounds_toArray, List.set_cons_zero, List.set_cons_succ])
      go_cut [45] (fun v45 wc => ∃ (kq : Nat) (x45_24 : Bool), v45 = .bool x45_24 ∧ Aside0 (expo_Line.j1 kq t162 t166 x45_24 false 0 0 false 0 = some (r1, r2, r3, r4, r5, r6, r7)) ∧ Aside0 (kq ≤ kj8) ∧ Aside0 (Kd.R Kd.string 9 wc w.heap.size (fun _ => True) (.slice (some ad165) t162.length co26) t162) ∧ Aside0 (Kd.R k60 60 wc w.heap.size (fun _ => True) (.slice Ao28 t166.length co28) t166) ∧ Aside0 (wc.heap[gb160]? = some (.cells #[(.slice none 0 0), .bool false, .int .i64 0, .int .i64 0, .bool false, .int .i64 0] 34 (0, 0))) ∧ Aside0 (wc.heap[gb161]? = some (.cells #[(.slice none 0 0), .bool false, .int .i64 0, .int .i64 0, .bool false, .int .i64 0] 34 (0, 0))) ∧ Aside0 (Below w.heap.size w wc))
      case first =>
       have H := HC25.out
       clear HC25
       by_cases c30 : t167 = 0
       ·rw [if_pos c30] at H
        have c30b0 : (t167 == 0) = true := beq_iff_eq.mpr c30
        have c30b1 : (t167 != 0) = false := bne_eq_false_iff_eq.mpr c30
        clear c30
        (first | rw [c30b0] | (simp only [i64_w, i32_w]; rw [c30b0]) | skip)
        have H' := Aside0.mk H
        clear H
        go_wp2
        go_meet
        case rel => exact ⟨_, (!t171), (by first | rfl | (simp; done) | (simp [*]; done)), H', ⟨by have := HJ8.out; first | omega | exact Nat.le_refl _⟩, ⟨by (with_reducible repeat (first | apply Kd.R_alloc | apply Kd.R_drewN | apply Kd.R_drew)); exact HO_5.out⟩, ⟨by (with_reducible repeat (first | apply Kd.R_alloc | apply Kd.R_drewN | apply Kd.R_drew)); exact HO169.out⟩, ⟨by (with_reducible repeat (first | refine blk_drewN ?_ _ | refine blk_drew ?_ | refine blk_alloc ?_ _)); exact BK160.out⟩, ⟨by (with_reducible repeat (first | refine blk_drewN ?_ _ | refine blk_drew ?_ | refine blk_alloc ?_ _)); exact BK161.out⟩, ⟨by repeat (first | (with_reducible first | exact HB.out | apply below_alloc | apply pw_below_drewN | apply below_drew1 | refine below_set ?_ GE160.out | refine below_set ?_ GE161.out) | exact HB.out)⟩⟩
       ·rw [if_neg c30] at H
        have c30b0 : (t167 == 0) = false := beq_eq_false_iff_ne.mpr c30
        have c30b1 : (t167 != 0) = true := bne_iff_ne.mpr c30
        (first | rw [c30b0] | (simp only [i64_w, i32_w]; rw [c30b0]) | skip)
        have H' := Aside0.mk H
        clear H
        go_wp2
        go_meet
        case rel => exact ⟨_, (true), (by first | rfl | (simp; done) | (simp [*]; done)), H', ⟨by have := HJ8.out; first | omega | exact Nat.le_refl _⟩, ⟨by (with_reducible repeat (first | apply Kd.R_alloc | apply Kd.R_drewN | apply Kd.R_drew)); exact HO_5.out⟩, ⟨by (with_reducible repeat (first | apply Kd.R_alloc | apply Kd.R_drewN | apply Kd.R_drew)); exact HO169.out⟩, ⟨by (with_reducible repeat (first | refine blk_drewN ?_ _ | refine blk_drew ?_ | refine blk_alloc ?_ _)); exact BK160.out⟩, ⟨by (with_reducible repeat (first | refine blk_drewN ?_ _ | refine blk_drew ?_ | refine blk_alloc ?_ _)); exact BK161.out⟩, ⟨by repeat (first | (with_reducible first | exact HB.out | apply below_alloc | apply pw_below_drewN | apply below_drew1 | refine below_set ?_ GE160.out | refine below_set ?_ GE161.out) | exact HB.out)⟩⟩
      case rest =>
       clear HC25
       try clear c1
       try clear p1
       try clear q1
       try clear hx1
       try clear qi1
       try clear c2
       try clear c2b0
       try clear c2b1
       try clear p2
       try clear c3
       try clear c5
       try clear c12
       try clear c15
       try clear c15b0
       try clear c15b1
       try clear p16
       try clear q16
       try clear hx16
       try clear qi16
       try clear c18
       try clear c19
       try clear c22
       try clear c22b0
       try clear c22b1
       try clear c30
       try clear c30b0
       try clear c30b1
       try clear hcz13_0
       try clear hcz13_1
       try clear hcz13_2
       try clear hcz13_3
       try clear hcz13_4
       try clear hcz13_5
       try clear hcz20_0
       try clear hcz20_1
       try clear hcz20_2
       try clear hcz20_3
       try clear hcz20_4
       try clear hcz20_5
       try clear hcz21_0
       try clear hcz21_1
       try clear hcz21_2
       try clear hcz21_3
       try clear hcz21_4
       try clear hcz21_5
       try clear hcz6_0
       try clear hcz6_1
       try clear hcz6_2
       try clear hcz6_3
       try clear hcz6_4
       try clear hcz6_5
       try clear hcz7_0
       try clear hcz7_1
       try clear hcz7_2
       try clear hcz7_3
       try clear hcz7_4
       try clear hcz7_5
       try clear hfz13_0
       try clear hfz13_1
       try clear hfz13_2
       try clear hfz13_3
       try clear hfz13_4
       try clear hfz13_5
       try clear hfz20_0
       try clear hfz20_1
       try clear hfz20_2
       try clear hfz20_3
       try clear hfz20_4
       try clear hfz20_5
       try clear hfz21_0
       try clear hfz21_1
       try clear hfz21_2
       try clear hfz21_3
       try clear hfz21_4
       try clear hfz21_5
       try clear hfz6_0
       try clear hfz6_1
       try clear hfz6_2
       try clear hfz6_3
       try clear hfz6_4
       try clear hfz6_5
       try clear hfz7_0
       try clear hfz7_1
       try clear hfz7_2
       try clear hfz7_3
       try clear hfz7_4
       try clear hfz7_5
       try clear hx165_0
       try clear p165
       try clear p2
       try clear q165
       obtain ⟨kq, x45_24, rfl, HA, HJ24, HO_5, HO_6, BK160, BK161, HB⟩ := hcut
       cases kq with
       | zero => exact absurd HA.out (by simp [expo_Line.j1])
       | succ kj24 =>
        have H := HA.out
        clear HA
        simp only [expo_Line.j1] at H
        by_cases c31 : x45_24 = true
        ·subst c31
         have H1 : (some (([] : List (S60)), false, 0, 0, false, 0, 30)) = some (r1, r2, r3, r4, r5, r6, r7) := by rw [if_pos rfl] at H; exact H
         clear H
         have H := H1
         clear H1
         simp only [Option.some.injEq, Prod.mk.injEq] at H
         obtain ⟨rfl, rfl, rfl, rfl, rfl, rfl, rfl⟩ := H
         have hnb32 := NB161_160.out
         have hnc32 := NB160_161.out
         have hcz33_0 : wc.cell? ⟨gb161, 0, none⟩ = some (.slice none 0 0) := (blk_cell BK161.out 0).trans rfl
         have hcz33_1 : wc.cell? ⟨gb161, 1, none⟩ = some (.bool false) := (blk_cell BK161.out 1).trans rfl
         have hcz33_2 : wc.cell? ⟨gb161, 2, none⟩ = some (.int .i64 0) := (blk_cell BK161.out 2).trans rfl
         have hcz33_3 : wc.cell? ⟨gb161, 3, none⟩ = some (.int .i64 0) := (blk_cell BK161.out 3).trans rfl
         have hcz33_4 : wc.cell? ⟨gb161, 4, none⟩ = some (.bool false) := (blk_cell BK161.out 4).trans rfl
         have hcz33_5 : wc.cell? ⟨gb161, 5, none⟩ = some (.int .i64 0) := (blk_cell BK161.out 5).trans rfl
         have hfz33_0 := blk_frozen BK161.out 0
         have hfz33_1 := blk_frozen BK161.out 1
         have hfz33_2 := blk_frozen BK161.out 2
         have hfz33_3 := blk_frozen BK161.out 3
         have hfz33_4 := blk_frozen BK161.out 4
         have hfz33_5 := blk_frozen BK161.out 5
         have hcz34_0 : wc.cell? ⟨gb160, 0, none⟩ = some (.slice none 0 0) := (blk_cell BK160.out 0).trans rfl
         have hcz34_1 : wc.cell? ⟨gb160, 1, none⟩ = some (.bool false) := (blk_cell BK160.out 1).trans rfl
         have hcz34_2 : wc.cell? ⟨gb160, 2, none⟩ = some (.int .i64 0) := (blk_cell BK160.out 2).trans rfl
         have hcz34_3 : wc.cell? ⟨gb160, 3, none⟩ = some (.int .i64 0) := (blk_cell BK160.out 3).trans rfl
         have hcz34_4 : wc.cell? ⟨gb160, 4, none⟩ = some (.bool false) := (blk_cell BK160.out 4).trans rfl
         have hcz34_5 : wc.cell? ⟨gb160, 5, none⟩ = some (.int .i64 0) := (blk_cell BK160.out 5).trans rfl
         have hfz34_0 := blk_frozen BK160.out 0
         have hfz34_1 := blk_frozen BK160.out 1
         have hfz34_2 := blk_frozen BK160.out 2
         have hfz34_3 := blk_frozen BK160.out 3
         have hfz34_4 := blk_frozen BK160.out 4
         have hfz34_5 := blk_frozen BK160.out 5
         go_wp2
         refine bodyPost_ret (results_ct rfl _ _ gb160 34 #[.slice none 0 0, .bool false, .int .i64 0, .int .i64 0, .bool false, .int .i64 0] (0, 0) _ rfl (by (with_reducible repeat (first | refine blk_drewN ?_ _ | refine blk_drew ?_ | refine blk_alloc ?_ _)); refine blk_put (cs := #[.slice none 0 0, .bool false, .int .i64 0, .int .i64 0, .bool false, .int .i64 0]) ?_ 5 _ rfl; (with_reducible repeat (first | refine blk_drewN ?_ _ | refine blk_drew ?_ | refine blk_alloc ?_ _)); refine blk_put (cs := #[.slice none 0 0, .bool false, .int .i64 0, .int .i64 0, .bool false, .int .i64 0]) ?_ 4 _ rfl; (with_reducible repeat (first | refine blk_drewN ?_ _ | refine blk_drew ?_ | refine blk_alloc ?_ _)); refine blk_put (cs := #[.slice none 0 0, .bool false, .int .i64 0, .int .i64 0, .bool false, .int .i64 0]) ?_ 3 _ rfl; (with_reducible repeat (first | refine blk_drewN ?_ _ | refine blk_drew ?_ | refine blk_alloc ?_ _)); refine blk_put (cs := #[.slice none 0 0, .bool false, .int .i64 0, .int .i64 0, .bool false, .int .i64 0]) ?_ 2 _ rfl; (with_reducible repeat (first | refine blk_drewN ?_ _ | refine blk_drew ?_ | refine blk_alloc ?_ _)); refine blk_put (cs := #[.slice none 0 0, .bool false, .int .i64 0, .int .i64 0, .bool false, .int .i64 0]) ?_ 1 _ rfl; (with_reducible repeat (first | refine blk_drewN ?_ _ | refine blk_drew ?_ | refine blk_alloc ?_ _)); refine blk_put (cs := #[.slice none 0 0, .bool false, .int .i64 0, .int .i64 0, .bool false, .int .i64 0]) ?_ 0 _ rfl; (with_reducible repeat (first | refine blk_drewN ?_ _ | refine blk_drew ?_ | refine blk_alloc ?_ _)); exact BK160.out) Tryz.underlying34 rfl (by kernel_rfl)) rfl ?_
         exact ⟨_, by first | rfl | (simp [errW_none, errW_some] <;> rfl) | (simp [*, errW_none, errW_some] <;> rfl), by first | exact Kd.R_nil _ _ _ _ _ | exact Kd.N_nil _ _ _ _ _ | exact Kd.V_nil _ _ _ _ _ | exact Kd.Q_nil _ _ _ _ _ | exact Kd.S_nil _ _ _ _ _, by repeat (first | (with_reducible first | exact HB.out | apply below_alloc | apply pw_below_drewN | apply below_drew1 | refine below_set ?_ GE160.out | refine below_set ?_ GE161.out) | exact HB.out)⟩
        ·replace c31 := Bool.eq_false_iff.mpr c31
         subst c31
         have H1 : (if 1 < (t162.length : Int) then ((fix_Parse.f kj24 (rdOf ByteArray.empty t162 1)).bind fun bt173 => (if bt173.2.2 = 0 then (if (t162.length : Int) = 3 then (if 2 < (t162.length : Int) then ((expo_number.f (rdOf ByteArray.empty t162 2)).bind fun bt179 => (if bt179.2 = true then (some (t166, bt173.1, bt173.2.1, bt179.1, bt179.2, 0, 0)) else (some (([] : List (S60)), false, 0, 0, false, 0, 152)))) else (none)) else (some (t166, bt173.1, bt173.2.1, 0, false, 0, 0))) else (some (([] : List (S60)), false, 0, 0, false, 0, bt173.2.2)))) else (none)) = some (r1, r2, r3, r4, r5, r6, r7) := by rw [if_neg (show ¬ (false = true) by decide)] at H; exact H
         clear H
         have H := H1
         clear H1
         by_cases c35 : 1 < (t162.length : Int)
         ·rw [if_pos c35] at H
          have c35b0 : decide (1 < (t162.length : Int)) = true := decide_eq_true c35
          have c35b1 : decide (1 < t162.length) = true := decide_eq_true (by omega)
          clear c35
          replace H := Option.bind_eq_some_iff.mp H
          obtain ⟨⟨t173, t174, t175⟩, A360, H⟩ := H
          replace H : (if t175 = 0 then (if (t162.length : Int) = 3 then (if 2 < (t162.length : Int) then ((expo_number.f (rdOf ByteArray.empty t162 2)).bind fun bt179 => (if bt179.2 = true then (some (t166, t173, t174, bt179.1, bt179.2, 0, 0)) else (some (([] : List (S60)), false, 0, 0, false, 0, 152)))) else (none)) else (some (t166, t173, t174, 0, false, 0, 0))) else (some (([] : List (S60)), false, 0, 0, false, 0, t175))) = some (r1, r2, r3, r4, r5, r6, r7) := H
          have A36 := Aside0.mk A360
          clear A360
          by_cases c37 : t175 = 0
          ·rw [if_pos c37] at H
           have c37b0 : (t175 == 0) = true := beq_iff_eq.mpr c37
           have c37b1 : (t175 != 0) = false := bne_eq_false_iff_eq.mpr c37
           clear c37
           by_cases c38 : (t162.length : Int) = 3
           ·rw [if_pos c38] at H
            have c38b0 : ((t162.length : Int) == 3) = true := beq_iff_eq.mpr c38
            have c38b1 : ((t162.length : Int) != 3) = false := bne_eq_false_iff_eq.mpr c38
            clear c38
            by_cases c39 : 2 < (t162.length : Int)
            ·rw [if_pos c39] at H
             have c39b0 : decide (2 < (t162.length : Int)) = true := decide_eq_true c39
             have c39b1 : decide (2 < t162.length) = true := decide_eq_true (by omega)
             clear c39
             replace H := Option.bind_eq_some_iff.mp H
             obtain ⟨⟨t179, t180⟩, A400, H⟩ := H
             replace H : (if t180 = true then (some (t166, t173, t174, t179, t180, 0, 0)) else (some (([] : List (S60)), false, 0, 0, false, 0, 152))) = some (r1, r2, r3, r4, r5, r6, r7) := H
             have A40 := Aside0.mk A400
             clear A400
             by_cases c41 : t180 = true
             ·subst c41
              have H1 : (some (t166, t173, t174, t179, true, 0, 0)) = some (r1, r2, r3, r4, r5, r6, r7) := by rw [if_pos rfl] at H; exact H
              clear H
              have H := H1
              clear H1
              simp only [Option.some.injEq, Prod.mk.injEq] at H
              obtain ⟨rfl, rfl, rfl, rfl, rfl, rfl, rfl⟩ := H
              have p172 : 0 ≤ (1 : Int) := (by omega)
              have q172 : 1 < (t162.length : Int) := of_decide_eq_true (by first | (with_reducible assumption) | assumption)
              obtain ⟨ad172, e172, hx172_0⟩ := Kd.at_string (Kd.R_reads' HO_5.out).2.2 1 p172 q172
              obtain rfl : ad165 = ad172 := (by injection e172)
              (try simp only [show (1 : Int).toNat = 1 from rfl, Nat.reduceMul, Nat.reduceEqDiff, Go.Addr.add, ↓reduceIte] at hx172_0)
              have qi172 : (1 < t162.length) = True := eq_true (by omega)
              (try rw [show ((1 : Int)).toNat = 1 from rfl] at hx172_0)
              replace p172 := eq_true p172
              replace q172 := eq_true q172
              go_wp2_with (first | ((with_reducible refine gate_callee (f := 37) rfl ?_); refine goesL_ (some 51) rfl rfl Tryz.func37 (by kernel_rfl) rfl #[.string (rdOf ByteArray.empty t162 1)] rfl (by (try simp only [List.map_toArray, List.map_cons, List.map_nil]); first | done | rfl | (simp only [List.length_drop, List.length_take]; rfl)) ?_; (with_reducible refine (fix_Parse.calls kj24 (rdOf ByteArray.empty t162 1) t173 t174 t175 _ ?side1 A36.out).mono ?_); (case side1 => exact LaidW.below HLW.out (by repeat (first | (with_reducible first | exact HB.out | apply below_alloc | apply pw_below_drewN | apply below_drew1) | exact HB.out | (refine below_set ?_ (Aside0.out ?hge); (case hge => assumption))))); rintro e w42 ⟨rfl, hb⟩; refine ⟨_, rfl, ?_⟩; have n0_ := Aside0.mk (Kd.R_below (by (with_reducible repeat (first | apply Kd.R_alloc | apply Kd.R_drewN | apply Kd.R_drew)); exact HO_5.out) hb); have n1_ := Aside0.mk (Kd.R_below (by (with_reducible repeat (first | apply Kd.R_alloc | apply Kd.R_drewN | apply Kd.R_drew)); exact HO_6.out) hb); have n2_ := Aside0.mk (blk_below (g := gb160) (o := .cells #[.slice none 0 0, .bool false, .int .i64 0, .int .i64 0, .bool false, .int .i64 0] 34 (0, 0)) (by (with_reducible repeat (first | refine blk_drewN ?_ _ | refine blk_drew ?_ | refine blk_alloc ?_ _)); exact BK160.out) hb); have n3_ := Aside0.mk (blk_below (g := gb161) (o := .cells #[.slice none 0 0, .bool false, .int .i64 0, .int .i64 0, .bool false, .int .i64 0] 34 (0, 0)) (by (with_reducible repeat (first | refine blk_drewN ?_ _ | refine blk_drew ?_ | refine blk_alloc ?_ _)); exact BK161.out) hb); have n4_ := Aside0.mk (below_step (by repeat (first | (with_reducible first | exact HB.out | apply below_alloc | apply pw_below_drewN | apply below_drew1 | refine below_set ?_ GE160.out | refine below_set ?_ GE161.out) | exact HB.out)) hb); clear HO_5; clear HO_6; clear BK160; clear BK161; clear HB; have HO_5 := n0_; have HO_6 := n1_; have BK160 := n2_; have BK161 := n3_; have HB := n4_; clear n0_ n1_ n2_ n3_ n4_; (try clear hb); (try clear hb2); (try clear hk); (try clear hi)) | ((with_reducible refine gate_dst (N := 10) rfl ?_); (try (refine gate_guard (by rfl) ?_; dsimp only)); refine box_event ?hg (N := 10) ?hd (cs := #[.bool false, .int .i64 0]) (t := 32) ?hr ?_; (case hd => rfl); (case hg => rfl); (case hr => first | (go_simp; done) | (go_simp; rfl)); intro gb176 hg w43 hbox hb; have n0_ := Aside0.mk (Kd.R_below (by (with_reducible repeat (first | apply Kd.R_alloc | apply Kd.R_drewN | apply Kd.R_drew)); exact HO_5.out) hb); have n1_ := Aside0.mk (Kd.R_below (by (with_reducible repeat (first | apply Kd.R_alloc | apply Kd.R_drewN | apply Kd.R_drew)); exact HO_6.out) hb); have n2_ := Aside0.mk (blk_below (g := gb160) (o := .cells #[.slice none 0 0, .bool false, .int .i64 0, .int .i64 0, .bool false, .int .i64 0] 34 (0, 0)) (by (with_reducible repeat (first | refine blk_drewN ?_ _ | refine blk_drew ?_ | refine blk_alloc ?_ _)); exact BK160.out) hb); have n3_ := Aside0.mk (blk_below (g := gb161) (o := .cells #[.slice none 0 0, .bool false, .int .i64 0, .int .i64 0, .bool false, .int .i64 0] 34 (0, 0)) (by (with_reducible repeat (first | refine blk_drewN ?_ _ | refine blk_drew ?_ | refine blk_alloc ?_ _)); exact BK161.out) hb); have n4_ := Aside0.mk (below_step (by repeat (first | (with_reducible first | exact HB.out | apply below_alloc | apply pw_below_drewN | apply below_drew1 | refine below_set ?_ GE160.out | refine below_set ?_ GE161.out) | exact HB.out)) hb); have n5_ := Aside0.mk (hbox); have n6_ := Aside0.mk ((by rw [hg]; exact (below_size (by repeat (first | (with_reducible first | exact HB.out | apply below_alloc | apply pw_below_drewN | apply below_drew1 | refine below_set ?_ GE160.out | refine below_set ?_ GE161.out) | exact HB.out))) : w.heap.size ≤ gb176)); have n7_ := Aside0.mk ((by rw [hg]; exact (below_size (by repeat (first | (with_reducible first | exact HB.out | apply below_alloc | apply pw_below_drewN | apply below_drew1 | refine below_set ?_ GE160.out | refine below_set ?_ GE161.out) | exact HB.out))) : w.heap.size ≤ gb176)); have n8_ := Aside0.mk ((by rw [hg]; exact Nat.ne_of_lt (blk_lt (g := gb160) (o := .cells #[.slice none 0 0, .bool false, .int .i64 0, .int .i64 0, .bool false, .int .i64 0] 34 (0, 0)) (by (with_reducible repeat (first | refine blk_drewN ?_ _ | refine blk_drew ?_ | refine blk_alloc ?_ _)); exact BK160.out)) : gb160 ≠ gb176)); have n9_ := Aside0.mk ((by rw [hg]; exact Nat.ne_of_gt (blk_lt (g := gb160) (o := .cells #[.slice none 0 0, .bool false, .int .i64 0, .int .i64 0, .bool false, .int .i64 0] 34 (0, 0)) (by (with_reducible repeat (first | refine blk_drewN ?_ _ | refine blk_drew ?_ | refine blk_alloc ?_ _)); exact BK160.out)) : gb176 ≠ gb160)); have n10_ := Aside0.mk ((by rw [hg]; exact Nat.ne_of_lt (blk_lt (g := gb161) (o := .cells #[.slice none 0 0, .bool false, .int .i64 0, .int .i64 0, .bool false, .int .i64 0] 34 (0, 0)) (by (with_reducible repeat (first | refine blk_drewN ?_ _ | refine blk_drew ?_ | refine blk_alloc ?_ _)); exact BK161.out)) : gb161 ≠ gb176)); have n11_ := Aside0.mk ((by rw [hg]; exact Nat.ne_of_gt (blk_lt (g := gb161) (o := .cells #[.slice none 0 0, .bool false, .int .i64 0, .int .i64 0, .bool false, .int .i64 0] 34 (0, 0)) (by (with_reducible repeat (first | refine blk_drewN ?_ _ | refine blk_drew ?_ | refine blk_alloc ?_ _)); exact BK161.out)) : gb176 ≠ gb161)); clear HO_5; clear HO_6; clear BK160; clear BK161; clear HB; have HO_5 := n0_; have HO_6 := n1_; have BK160 := n2_; have BK161 := n3_; have HB := n4_; have BK176 := n5_; have GW176 := n6_; have GE176 := n7_; have NB160_176 := n8_; have NB176_160 := n9_; have NB161_176 := n10_; have NB176_161 := n11_; clear n0_ n1_ n2_ n3_ n4_ n5_ n6_ n7_ n8_ n9_ n10_ n11_; clear hb hbox hg; have hnb44 := NB176_160.out; have hnc44 := NB160_176.out; have hnb45 := NB176_161.out; have hnc45 := NB161_176.out; have hcz46_0 : w43.cell? ⟨gb176, 0, none⟩ = some (.bool false) := (blk_cell BK176.out 0).trans rfl; have hcz46_1 : w43.cell? ⟨gb176, 1, none⟩ = some (.int .i64 0) := (blk_cell BK176.out 1).trans rfl; have hfz46_0 := blk_frozen BK176.out 0; have hfz46_1 := blk_frozen BK176.out 1) | ((with_reducible refine gate_dst (N := 11) rfl ?_); (try (refine gate_guard (by rfl) ?_; dsimp only)); refine box_event ?hg (N := 11) ?hd (cs := #[.slice none 0 0, .bool false, .int .i64 0, .int .i64 0, .bool false, .int .i64 0]) (t := 34) ?hr ?_; (case hd => rfl); (case hg => rfl); (case hr => first | (go_simp; done) | (go_simp; rfl)); intro gb177 hg w47 hbox hb; have n0_ := Aside0.mk (Kd.R_below (by (with_reducible repeat (first | apply Kd.R_alloc | apply Kd.R_drewN | apply Kd.R_drew)); exact (Kd.R_mono (Kd.R_far (p := ⟨gb176, 1, none⟩) (Kd.R_far (p := ⟨gb176, 0, none⟩) (Kd.R_types HO_5.out BK176.out (by decide)) (fun _ hk => hk.2) (.bool t173)) (fun _ hk => hk.2) (.int .i64 t174)) (fun _ h_ => h_.1))) hb); have n1_ := Aside0.mk (Kd.R_below (by (with_reducible repeat (first | apply Kd.R_alloc | apply Kd.R_drewN | apply Kd.R_drew)); exact (Kd.R_mono (Kd.R_far (p := ⟨gb176, 1, none⟩) (Kd.R_far (p := ⟨gb176, 0, none⟩) (Kd.R_types HO_6.out BK176.out (by decide)) (fun _ hk => hk.2) (.bool t173)) (fun _ hk => hk.2) (.int .i64 t174)) (fun _ h_ => h_.1))) hb); have n2_ := Aside0.mk (blk_below (g := gb160) (o := .cells #[.slice none 0 0, .bool false, .int .i64 0, .int .i64 0, .bool false, .int .i64 0] 34 (0, 0)) (by (with_reducible repeat (first | refine blk_drewN ?_ _ | refine blk_drew ?_ | refine blk_alloc ?_ _)); refine blk_far ?_ NB160_176.out _; (with_reducible repeat (first | refine blk_drewN ?_ _ | refine blk_drew ?_ | refine blk_alloc ?_ _)); refine blk_far ?_ NB160_176.out _; (with_reducible repeat (first | refine blk_drewN ?_ _ | refine blk_drew ?_ | refine blk_alloc ?_ _)); exact BK160.out) hb); have n3_ := Aside0.mk (blk_below (g := gb161) (o := .cells #[.slice none 0 0, .bool false, .int .i64 0, .int .i64 0, .bool false, .int .i64 0] 34 (0, 0)) (by (with_reducible repeat (first | refine blk_drewN ?_ _ | refine blk_drew ?_ | refine blk_alloc ?_ _)); refine blk_far ?_ NB161_176.out _; (with_reducible repeat (first | refine blk_drewN ?_ _ | refine blk_drew ?_ | refine blk_alloc ?_ _)); refine blk_far ?_ NB161_176.out _; (with_reducible repeat (first | refine blk_drewN ?_ _ | refine blk_drew ?_ | refine blk_alloc ?_ _)); exact BK161.out) hb); have n4_ := Aside0.mk (blk_below (g := gb176) (o := .cells #[.bool t173, .int .i64 t174] 32 (0, 0)) (by (with_reducible repeat (first | refine blk_drewN ?_ _ | refine blk_drew ?_ | refine blk_alloc ?_ _)); refine blk_put (cs := #[.bool t173, .int .i64 0]) ?_ 1 _ rfl; (with_reducible repeat (first | refine blk_drewN ?_ _ | refine blk_drew ?_ | refine blk_alloc ?_ _)); refine blk_put (cs := #[.bool false, .int .i64 0]) ?_ 0 _ rfl; (with_reducible repeat (first | refine blk_drewN ?_ _ | refine blk_drew ?_ | refine blk_alloc ?_ _)); exact BK176.out) hb); have n5_ := Aside0.mk (below_step (by repeat (first | (with_reducible first | exact HB.out | apply below_alloc | apply pw_below_drewN | apply below_drew1 | refine below_set ?_ GE160.out | refine below_set ?_ GE161.out | refine below_set ?_ GE176.out) | exact HB.out)) hb); have n6_ := Aside0.mk (hbox); have n7_ := Aside0.mk ((by rw [hg]; exact (below_size (by repeat (first | (with_reducible first | exact HB.out | apply below_alloc | apply pw_below_drewN | apply below_drew1 | refine below_set ?_ GE160.out | refine below_set ?_ GE161.out | refine below_set ?_ GE176.out) | exact HB.out))) : w.heap.size ≤ gb177)); have n8_ := Aside0.mk ((by rw [hg]; exact (below_size (by repeat (first | (with_reducible first | exact HB.out | apply below_alloc | apply pw_below_drewN | apply below_drew1 | refine below_set ?_ GE160.out | refine below_set ?_ GE161.out | refine below_set ?_ GE176.out) | exact HB.out))) : w.heap.size ≤ gb177)); have n9_ := Aside0.mk ((by rw [hg]; exact Nat.ne_of_lt (blk_lt (g := gb160) (o := .cells #[.slice none 0 0, .bool false, .int .i64 0, .int .i64 0, .bool false, .int .i64 0] 34 (0, 0)) (by (with_reducible repeat (first | refine blk_drewN ?_ _ | refine blk_drew ?_ | refine blk_alloc ?_ _)); refine blk_far ?_ NB160_176.out _; (with_reducible repeat (first | refine blk_drewN ?_ _ | refine blk_drew ?_ | refine blk_alloc ?_ _)); refine blk_far ?_ NB160_176.out _; (with_reducible repeat (first | refine blk_drewN ?_ _ | refine blk_drew ?_ | refine blk_alloc ?_ _)); exact BK160.out)) : gb160 ≠ gb177)); have n10_ := Aside0.mk ((by rw [hg]; exact Nat.ne_of_gt (blk_lt (g := gb160) (o := .cells #[.slice none 0 0, .bool false, .int .i64 0, .int .i64 0, .bool false, .int .i64 0] 34 (0, 0)) (by (with_reducible repeat (first | refine blk_drewN ?_ _ | refine blk_drew ?_ | refine blk_alloc ?_ _)); refine blk_far ?_ NB160_176.out _; (with_reducible repeat (first | refine blk_drewN ?_ _ | refine blk_drew ?_ | refine blk_alloc ?_ _)); refine blk_far ?_ NB160_176.out _; (with_reducible repeat (first | refine blk_drewN ?_ _ | refine blk_drew ?_ | refine blk_alloc ?_ _)); exact BK160.out)) : gb177 ≠ gb160)); have n11_ := Aside0.mk ((by rw [hg]; exact Nat.ne_of_lt (blk_lt (g := gb161) (o := .cells #[.slice none 0 0, .bool false, .int .i64 0, .int .i64 0, .bool false, .int .i64 0] 34 (0, 0)) (by (with_reducible repeat (first | refine blk_drewN ?_ _ | refine blk_drew ?_ | refine blk_alloc ?_ _)); refine blk_far ?_ NB161_176.out _; (with_reducible repeat (first | refine blk_drewN ?_ _ | refine blk_drew ?_ | refine blk_alloc ?_ _)); refine blk_far ?_ NB161_176.out _; (with_reducible repeat (first | refine blk_drewN ?_ _ | refine blk_drew ?_ | refine blk_alloc ?_ _)); exact BK161.out)) : gb161 ≠ gb177)); have n12_ := Aside0.mk ((by rw [hg]; exact Nat.ne_of_gt (blk_lt (g := gb161) (o := .cells #[.slice none 0 0, .bool false, .int .i64 0, .int .i64 0, .bool false, .int .i64 0] 34 (0, 0)) (by (with_reducible repeat (first | refine blk_drewN ?_ _ | refine blk_drew ?_ | refine blk_alloc ?_ _)); refine blk_far ?_ NB161_176.out _; (with_reducible repeat (first | refine blk_drewN ?_ _ | refine blk_drew ?_ | refine blk_alloc ?_ _)); refine blk_far ?_ NB161_176.out _; (with_reducible repeat (first | refine blk_drewN ?_ _ | refine blk_drew ?_ | refine blk_alloc ?_ _)); exact BK161.out)) : gb177 ≠ gb161)); have n13_ := Aside0.mk ((by rw [hg]; exact Nat.ne_of_lt (blk_lt (g := gb176) (o := .cells #[.bool t173, .int .i64 t174] 32 (0, 0)) (by (with_reducible repeat (first | refine blk_drewN ?_ _ | refine blk_drew ?_ | refine blk_alloc ?_ _)); refine blk_put (cs := #[.bool t173, .int .i64 0]) ?_ 1 _ rfl; (with_reducible repeat (first | refine blk_drewN ?_ _ | refine blk_drew ?_ | refine blk_alloc ?_ _)); refine blk_put (cs := #[.bool false, .int .i64 0]) ?_ 0 _ rfl; (with_reducible repeat (first | refine blk_drewN ?_ _ | refine blk_drew ?_ | refine blk_alloc ?_ _)); exact BK176.out)) : gb176 ≠ gb177)); have n14_ := Aside0.mk ((by rw [hg]; exact Nat.ne_of_gt (blk_lt (g := gb176) (o := .cells #[.bool t173, .int .i64 t174] 32 (0, 0)) (by (with_reducible repeat (first | refine blk_drewN ?_ _ | refine blk_drew ?_ | refine blk_alloc ?_ _)); refine blk_put (cs := #[.bool t173, .int .i64 0]) ?_ 1 _ rfl; (with_reducible repeat (first | refine blk_drewN ?_ _ | refine blk_drew ?_ | refine blk_alloc ?_ _)); refine blk_put (cs := #[.bool false, .int .i64 0]) ?_ 0 _ rfl; (with_reducible repeat (first | refine blk_drewN ?_ _ | refine blk_drew ?_ | refine blk_alloc ?_ _)); exact BK176.out)) : gb177 ≠ gb176)); clear HO_5; clear HO_6; clear BK160; clear BK161; clear BK176; clear HB; have HO_5 := n0_; have HO_6 := n1_; have BK160 := n2_; have BK161 := n3_; have BK176 := n4_; have HB := n5_; have BK177 := n6_; have GW177 := n7_; have GE177 := n8_; have NB160_177 := n9_; have NB177_160 := n10_; have NB161_177 := n11_; have NB177_161 := n12_; have NB176_177 := n13_; have NB177_176 := n14_; clear n0_ n1_ n2_ n3_ n4_ n5_ n6_ n7_ n8_ n9_ n10_ n11_ n12_ n13_ n14_; clear hb hbox hg; have hnb48 := NB177_160.out; have hnc48 := NB160_177.out; have hnb49 := NB177_161.out; have hnc49 := NB161_177.out; have hnb50 := NB177_176.out; have hnc50 := NB176_177.out; have hcz51_0 : w47.cell? ⟨gb177, 0, none⟩ = some (.slice none 0 0) := (blk_cell BK177.out 0).trans rfl; have hcz51_1 : w47.cell? ⟨gb177, 1, none⟩ = some (.bool false) := (blk_cell BK177.out 1).trans rfl; have hcz51_2 : w47.cell? ⟨gb177, 2, none⟩ = some (.int .i64 0) := (blk_cell BK177.out 2).trans rfl; have hcz51_3 : w47.cell? ⟨gb177, 3, none⟩ = some (.int .i64 0) := (blk_cell BK177.out 3).trans rfl; have hcz51_4 : w47.cell? ⟨gb177, 4, none⟩ = some (.bool false) := (blk_cell BK177.out 4).trans rfl; have hcz51_5 : w47.cell? ⟨gb177, 5, none⟩ = some (.int .i64 0) := (blk_cell BK177.out 5).trans rfl; have hfz51_0 := blk_frozen BK177.out 0; have hfz51_1 := blk_frozen BK177.out 1; have hfz51_2 := blk_frozen BK177.out 2; have hfz51_3 := blk_frozen BK177.out 3; have hfz51_4 := blk_frozen BK177.out 4; have hfz51_5 := blk_frozen BK177.out 5; have p178 : 0 ≤ (2 : Int) := (by omega); have q178 : 2 < (t162.length : Int) := of_decide_eq_true (by first | (with_reducible assumption) | assumption); obtain ⟨ad178, e178, hx178_0⟩ := Kd.at_string (Kd.R_reads' HO_5.out).2.2 2 p178 q178; obtain rfl : ad165 = ad178 := (by injection e178); (try simp only [show (2 : Int).toNat = 2 from rfl, Nat.reduceMul, Nat.reduceEqDiff, Go.Addr.add, ↓reduceIte] at hx178_0); have qi178 : (2 < t162.length) = True := eq_true (by omega); (try rw [show ((2 : Int)).toNat = 2 from rfl] at hx178_0); have hn178_0 : ad165.block ≠ gb177 := Kd.own_blk (Kd.R_ne HO_5.out BK177.out (by decide)); have hn178_1 : ad165.block ≠ gb177 := Kd.own_blk (Kd.R_ne HO_5.out BK177.out (by decide)); have hn178_2 : ad165.block ≠ gb177 := Kd.own_blk (Kd.R_ne HO_5.out BK177.out (by decide)); have hn178_3 : ad165.block ≠ gb177 := Kd.own_blk (Kd.R_ne HO_5.out BK177.out (by decide)); have hn178_4 : ad165.block ≠ gb177 := Kd.own_blk (Kd.R_ne HO_5.out BK177.out (by decide)); have hn178_5 : ad165.block ≠ gb177 := Kd.own_blk (Kd.R_ne HO_5.out BK177.out (by decide)); replace hx178_0 := (cell_far (p := ⟨gb177, 0, none⟩) (by first | (rw [add_block]; exact hn178_0) | (show (Addr.add _ _).block ≠ _; rw [add_block]; exact hn178_0) | exact hn178_0) (.slice Ao28 t166.length co28)).trans hx178_0; replace hx178_0 := (cell_far (p := ⟨gb177, 1, none⟩) (by first | (rw [add_block]; exact hn178_1) | (show (Addr.add _ _).block ≠ _; rw [add_block]; exact hn178_1) | exact hn178_1) (.bool t173)).trans hx178_0; replace hx178_0 := (cell_far (p := ⟨gb177, 2, none⟩) (by first | (rw [add_block]; exact hn178_2) | (show (Addr.add _ _).block ≠ _; rw [add_block]; exact hn178_2) | exact hn178_2) (.int .i64 t174)).trans hx178_0; replace hx178_0 := (cell_far (p := ⟨gb177, 3, none⟩) (by first | (rw [add_block]; exact hn178_3) | (show (Addr.add _ _).block ≠ _; rw [add_block]; exact hn178_3) | exact hn178_3) (.int .i64 0)).trans hx178_0; replace hx178_0 := (cell_far (p := ⟨gb177, 4, none⟩) (by first | (rw [add_block]; exact hn178_4) | (show (Addr.add _ _).block ≠ _; rw [add_block]; exact hn178_4) | exact hn178_4) (.bool false)).trans hx178_0; replace hx178_0 := (cell_far (p := ⟨gb177, 5, none⟩) (by first | (rw [add_block]; exact hn178_5) | (show (Addr.add _ _).block ≠ _; rw [add_block]; exact hn178_5) | exact hn178_5) (.int .i64 0)).trans hx178_0; clear hn178_0; clear hn178_1; clear hn178_2; clear hn178_3; clear hn178_4; clear hn178_5; replace p178 := eq_true p178; replace q178 := eq_true q178) | ((with_reducible refine gate_callee (f := 38) rfl ?_); refine goesL_ (some 68) rfl rfl Tryz.func38 (by kernel_rfl) rfl #[.string (rdOf ByteArray.empty t162 2)] rfl (by (try simp only [List.map_toArray, List.map_cons, List.map_nil]); first | done | rfl | (simp only [List.length_drop, List.length_take]; rfl)) ?_; (with_reducible refine (expo_number.calls (rdOf ByteArray.empty t162 2) t179 true _ ?side1 A40.out).mono ?_); (case side1 => exact LaidW.below HLW.out (by repeat (first | (with_reducible first | exact HB.out | apply below_alloc | apply pw_below_drewN | apply below_drew1) | exact HB.out | (refine below_set ?_ (Aside0.out ?hge); (case hge => assumption))))); rintro e w52 ⟨rfl, hb⟩; refine ⟨_, rfl, ?_⟩; have n0_ := Aside0.mk (Kd.R_below (by (with_reducible repeat (first | apply Kd.R_alloc | apply Kd.R_drewN | apply Kd.R_drew)); exact (Kd.R_mono (Kd.R_far (p := ⟨gb177, 5, none⟩) (Kd.R_far (p := ⟨gb177, 4, none⟩) (Kd.R_far (p := ⟨gb177, 3, none⟩) (Kd.R_far (p := ⟨gb177, 2, none⟩) (Kd.R_far (p := ⟨gb177, 1, none⟩) (Kd.R_far (p := ⟨gb177, 0, none⟩) (Kd.R_types HO_5.out BK177.out (by decide)) (fun _ hk => hk.2) (.slice Ao28 t166.length co28)) (fun _ hk => hk.2) (.bool t173)) (fun _ hk => hk.2) (.int .i64 t174)) (fun _ hk => hk.2) (.int .i64 0)) (fun _ hk => hk.2) (.bool false)) (fun _ hk => hk.2) (.int .i64 0)) (fun _ h_ => h_.1))) hb); have n1_ := Aside0.mk (Kd.R_below (by (with_reducible repeat (first | apply Kd.R_alloc | apply Kd.R_drewN | apply Kd.R_drew)); exact (Kd.R_mono (Kd.R_far (p := ⟨gb177, 5, none⟩) (Kd.R_far (p := ⟨gb177, 4, none⟩) (Kd.R_far (p := ⟨gb177, 3, none⟩) (Kd.R_far (p := ⟨gb177, 2, none⟩) (Kd.R_far (p := ⟨gb177, 1, none⟩) (Kd.R_far (p := ⟨gb177, 0, none⟩) (Kd.R_types HO_6.out BK177.out (by decide)) (fun _ hk => hk.2) (.slice Ao28 t166.length co28)) (fun _ hk => hk.2) (.bool t173)) (fun _ hk => hk.2) (.int .i64 t174)) (fun _ hk => hk.2) (.int .i64 0)) (fun _ hk => hk.2) (.bool false)) (fun _ hk => hk.2) (.int .i64 0)) (fun _ h_ => h_.1))) hb); have n2_ := Aside0.mk (blk_below (g := gb160) (o := .cells #[.slice none 0 0, .bool false, .int .i64 0, .int .i64 0, .bool false, .int .i64 0] 34 (0, 0)) (by (with_reducible repeat (first | refine blk_drewN ?_ _ | refine blk_drew ?_ | refine blk_alloc ?_ _)); refine blk_far ?_ NB160_177.out _; (with_reducible repeat (first | refine blk_drewN ?_ _ | refine blk_drew ?_ | refine blk_alloc ?_ _)); refine blk_far ?_ NB160_177.out _; (with_reducible repeat (first | refine blk_drewN ?_ _ | refine blk_drew ?_ | refine blk_alloc ?_ _)); refine blk_far ?_ NB160_177.out _; (with_reducible repeat (first | refine blk_drewN ?_ _ | refine blk_drew ?_ | refine blk_alloc ?_ _)); refine blk_far ?_ NB160_177.out _; (with_reducible repeat (first | refine blk_drewN ?_ _ | refine blk_drew ?_ | refine blk_alloc ?_ _)); refine blk_far ?_ NB160_177.out _; (with_reducible repeat (first | refine blk_drewN ?_ _ | refine blk_drew ?_ | refine blk_alloc ?_ _)); refine blk_far ?_ NB160_177.out _; (with_reducible repeat (first | refine blk_drewN ?_ _ | refine blk_drew ?_ | refine blk_alloc ?_ _)); exact BK160.out) hb); have n3_ := Aside0.mk (blk_below (g := gb161) (o := .cells #[.slice none 0 0, .bool false, .int .i64 0, .int .i64 0, .bool false, .int .i64 0] 34 (0, 0)) (by (with_reducible repeat (first | refine blk_drewN ?_ _ | refine blk_drew ?_ | refine blk_alloc ?_ _)); refine blk_far ?_ NB161_177.out _; (with_reducible repeat (first | refine blk_drewN ?_ _ | refine blk_drew ?_ | refine blk_alloc ?_ _)); refine blk_far ?_ NB161_177.out _; (with_reducible repeat (first | refine blk_drewN ?_ _ | refine blk_drew ?_ | refine blk_alloc ?_ _)); refine blk_far ?_ NB161_177.out _; (with_reducible repeat (first | refine blk_drewN ?_ _ | refine blk_drew ?_ | refine blk_alloc ?_ _)); refine blk_far ?_ NB161_177.out _; (with_reducible repeat (first | refine blk_drewN ?_ _ | refine blk_drew ?_ | refine blk_alloc ?_ _)); refine blk_far ?_ NB161_177.out _; (with_reducible repeat (first | refine blk_drewN ?_ _ | refine blk_drew ?_ | refine blk_alloc ?_ _)); refine blk_far ?_ NB161_177.out _; (with_reducible repeat (first | refine blk_drewN ?_ _ | refine blk_drew ?_ | refine blk_alloc ?_ _)); exact BK161.out) hb); have n4_ := Aside0.mk (blk_below (g := gb176) (o := .cells #[.bool t173, .int .i64 t174] 32 (0, 0)) (by (with_reducible repeat (first | refine blk_drewN ?_ _ | refine blk_drew ?_ | refine blk_alloc ?_ _)); refine blk_far ?_ NB176_177.out _; (with_reducible repeat (first | refine blk_drewN ?_ _ | refine blk_drew ?_ | refine blk_alloc ?_ _)); refine blk_far ?_ NB176_177.out _; (with_reducible repeat (first | refine blk_drewN ?_ _ | refine blk_drew ?_ | refine blk_alloc ?_ _)); refine blk_far ?_ NB176_177.out _; (with_reducible repeat (first | refine blk_drewN ?_ _ | refine blk_drew ?_ | refine blk_alloc ?_ _)); refine blk_far ?_ NB176_177.out _; (with_reducible repeat (first | refine blk_drewN ?_ _ | refine blk_drew ?_ | refine blk_alloc ?_ _)); refine blk_far ?_ NB176_177.out _; (with_reducible repeat (first | refine blk_drewN ?_ _ | refine blk_drew ?_ | refine blk_alloc ?_ _)); refine blk_far ?_ NB176_177.out _; (with_reducible repeat (first | refine blk_drewN ?_ _ | refine blk_drew ?_ | refine blk_alloc ?_ _)); exact BK176.out) hb); have n5_ := Aside0.mk (blk_below (g := gb177) (o := .cells #[.slice Ao28 t166.length co28, .bool t173, .int .i64 t174, .int .i64 0, .bool false, .int .i64 0] 34 (0, 0)) (by (with_reducible repeat (first | refine blk_drewN ?_ _ | refine blk_drew ?_ | refine blk_alloc ?_ _)); refine blk_put (cs := #[.slice Ao28 t166.length co28, .bool t173, .int .i64 t174, .int .i64 0, .bool false, .int .i64 0]) ?_ 5 _ rfl; (with_reducible repeat (first | refine blk_drewN ?_ _ | refine blk_drew ?_ | refine blk_alloc ?_ _)); refine blk_put (cs := #[.slice Ao28 t166.length co28, .bool t173, .int .i64 t174, .int .i64 0, .bool false, .int .i64 0]) ?_ 4 _ rfl; (with_reducible repeat (first | refine blk_drewN ?_ _ | refine blk_drew ?_ | refine blk_alloc ?_ _)); refine blk_put (cs := #[.slice Ao28 t166.length co28, .bool t173, .int .i64 t174, .int .i64 0, .bool false, .int .i64 0]) ?_ 3 _ rfl; (with_reducible repeat (first | refine blk_drewN ?_ _ | refine blk_drew ?_ | refine blk_alloc ?_ _)); refine blk_put (cs := #[.slice Ao28 t166.length co28, .bool t173, .int .i64 0, .int .i64 0, .bool false, .int .i64 0]) ?_ 2 _ rfl; (with_reducible repeat (first | refine blk_drewN ?_ _ | refine blk_drew ?_ | refine blk_alloc ?_ _)); refine blk_put (cs := #[.slice Ao28 t166.length co28, .bool false, .int .i64 0, .int .i64 0, .bool false, .int .i64 0]) ?_ 1 _ rfl; (with_reducible repeat (first | refine blk_drewN ?_ _ | refine blk_drew ?_ | refine blk_alloc ?_ _)); refine blk_put (cs := #[.slice none 0 0, .bool false, .int .i64 0, .int .i64 0, .bool false, .int .i64 0]) ?_ 0 _ rfl; (with_reducible repeat (first | refine blk_drewN ?_ _ | refine blk_drew ?_ | refine blk_alloc ?_ _)); exact BK177.out) hb); have n6_ := Aside0.mk (below_step (by repeat (first | (with_reducible first | exact HB.out | apply below_alloc | apply pw_below_drewN | apply below_drew1 | refine below_set ?_ GE160.out | refine below_set ?_ GE161.out | refine below_set ?_ GE176.out | refine below_set ?_ GE177.out) | exact HB.out)) hb); clear HO_5; clear HO_6; clear BK160; clear BK161; clear BK176; clear BK177; clear HB; have HO_5 := n0_; have HO_6 := n1_; have BK160 := n2_; have BK161 := n3_; have BK176 := n4_; have BK177 := n5_; have HB := n6_; clear n0_ n1_ n2_ n3_ n4_ n5_ n6_; (try clear hb); (try clear hb2); (try clear hk); (try clear hi); have hcz53_0 : w52.cell? ⟨gb177, 0, none⟩ = some (.slice Ao28 t166.length co28) := (blk_cell BK177.out 0).trans rfl; have hcz53_1 : w52.cell? ⟨gb177, 1, none⟩ = some (.bool t173) := (blk_cell BK177.out 1).trans rfl; have hcz53_2 : w52.cell? ⟨gb177, 2, none⟩ = some (.int .i64 t174) := (blk_cell BK177.out 2).trans rfl; have hcz53_3 : w52.cell? ⟨gb177, 3, none⟩ = some (.int .i64 0) := (blk_cell BK177.out 3).trans rfl; have hcz53_4 : w52.cell? ⟨gb177, 4, none⟩ = some (.bool false) := (blk_cell BK177.out 4).trans rfl; have hcz53_5 : w52.cell? ⟨gb177, 5, none⟩ = some (.int .i64 0) := (blk_cell BK177.out 5).trans rfl; have hfz53_0 := blk_frozen BK177.out 0; have hfz53_1 := blk_frozen BK177.out 1; have hfz53_2 := blk_frozen BK177.out 2; have hfz53_3 := blk_frozen BK177.out 3; have hfz53_4 := blk_frozen BK177.out 4; have hfz53_5 := blk_frozen BK177.out 5; have hnb54 := NB160_161.out; have hnc54 := NB161_160.out; have hcz55_0 : w52.cell? ⟨gb160, 0, none⟩ = some (.slice none 0 0) := (blk_cell BK160.out 0).trans rfl; have hcz55_1 : w52.cell? ⟨gb160, 1, none⟩ = some (.bool false) := (blk_cell BK160.out 1).trans rfl; have hcz55_2 : w52.cell? ⟨gb160, 2, none⟩ = some (.int .i64 0) := (blk_cell BK160.out 2).trans rfl; have hcz55_3 : w52.cell? ⟨gb160, 3, none⟩ = some (.int .i64 0) := (blk_cell BK160.out 3).trans rfl; have hcz55_4 : w52.cell? ⟨gb160, 4, none⟩ = some (.bool false) := (blk_cell BK160.out 4).trans rfl; have hcz55_5 : w52.cell? ⟨gb160, 5, none⟩ = some (.int .i64 0) := (blk_cell BK160.out 5).trans rfl; have hfz55_0 := blk_frozen BK160.out 0; have hfz55_1 := blk_frozen BK160.out 1; have hfz55_2 := blk_frozen BK160.out 2; have hfz55_3 := blk_frozen BK160.out 3; have hfz55_4 := blk_frozen BK160.out 4; have hfz55_5 := blk_frozen BK160.out 5))
              refine bodyPost_ret (results_ct rfl _ _ gb160 34 #[.slice Ao28 t166.length co28, .bool t173, .int .i64 t174, .int .i64 t179, .bool true, .int .i64 0] (0, 0) _ rfl (by (with_reducible repeat (first | refine blk_drewN ?_ _ | refine blk_drew ?_ | refine blk_alloc ?_ _)); refine blk_put (cs := #[.slice Ao28 t166.length co28, .bool t173, .int .i64 t174, .int .i64 t179, .bool true, .int .i64 0]) ?_ 5 _ rfl; (with_reducible repeat (first | refine blk_drewN ?_ _ | refine blk_drew ?_ | refine blk_alloc ?_ _)); refine blk_put (cs := #[.slice Ao28 t166.length co28, .bool t173, .int .i64 t174, .int .i64 t179, .bool false, .int .i64 0]) ?_ 4 _ rfl; (with_reducible repeat (first | refine blk_drewN ?_ _ | refine blk_drew ?_ | refine blk_alloc ?_ _)); refine blk_put (cs := #[.slice Ao28 t166.length co28, .bool t173, .int .i64 t174, .int .i64 0, .bool false, .int .i64 0]) ?_ 3 _ rfl; (with_reducible repeat (first | refine blk_drewN ?_ _ | refine blk_drew ?_ | refine blk_alloc ?_ _)); refine blk_put (cs := #[.slice Ao28 t166.length co28, .bool t173, .int .i64 0, .int .i64 0, .bool false, .int .i64 0]) ?_ 2 _ rfl; (with_reducible repeat (first | refine blk_drewN ?_ _ | refine blk_drew ?_ | refine blk_alloc ?_ _)); refine blk_put (cs := #[.slice Ao28 t166.length co28, .bool false, .int .i64 0, .int .i64 0, .bool false, .int .i64 0]) ?_ 1 _ rfl; (with_reducible repeat (first | refine blk_drewN ?_ _ | refine blk_drew ?_ | refine blk_alloc ?_ _)); refine blk_put (cs := #[.slice none 0 0, .bool false, .int .i64 0, .int .i64 0, .bool false, .int .i64 0]) ?_ 0 _ rfl; (with_reducible repeat (first | refine blk_drewN ?_ _ | refine blk_drew ?_ | refine blk_alloc ?_ _)); refine blk_far ?_ NB160_177.out _; (with_reducible repeat (first | refine blk_drewN ?_ _ | refine blk_drew ?_ | refine blk_alloc ?_ _)); refine blk_far ?_ NB160_177.out _; (with_reducible repeat (first | refine blk_drewN ?_ _ | refine blk_drew ?_ | refine blk_alloc ?_ _)); exact BK160.out) Tryz.underlying34 rfl (by kernel_rfl)) rfl ?_
              exact ⟨_, by first | rfl | (simp [errW_none, errW_some] <;> rfl) | (simp [*, errW_none, errW_some] <;> rfl), by (with_reducible repeat (first | apply Kd.R_alloc | apply Kd.R_drewN | apply Kd.R_drew)); exact Kd.R_mono (Kd.R_far (p := ⟨gb160, 5, none⟩) (Kd.R_far (p := ⟨gb160, 4, none⟩) (Kd.R_far (p := ⟨gb160, 3, none⟩) (Kd.R_far (p := ⟨gb160, 2, none⟩) (Kd.R_far (p := ⟨gb160, 1, none⟩) (Kd.R_far (p := ⟨gb160, 0, none⟩) (Kd.R_far (p := ⟨gb177, 4, none⟩) (Kd.R_far (p := ⟨gb177, 3, none⟩) (Kd.R_types (Kd.R_types HO_6.out BK177.out (by decide)) BK160.out (by decide)) (fun _ hk => hk.1.2) (.int .i64 t179)) (fun _ hk => hk.1.2) (.bool true)) (fun _ hk => hk.2) (.slice Ao28 t166.length co28)) (fun _ hk => hk.2) (.bool t173)) (fun _ hk => hk.2) (.int .i64 t174)) (fun _ hk => hk.2) (.int .i64 t179)) (fun _ hk => hk.2) (.bool true)) (fun _ hk => hk.2) (.int .i64 0)) (fun _ hk => trivial), by repeat (first | (with_reducible first | exact HB.out | apply below_alloc | apply pw_below_drewN | apply below_drew1 | refine below_set ?_ GE160.out | refine below_set ?_ GE161.out | refine below_set ?_ GE176.out | refine below_set ?_ GE177.out) | exact HB.out)⟩
             ·replace c41 := Bool.eq_false_iff.mpr c41
              subst c41
              have H1 : (some (([] : List (S60)), false, 0, 0, false, 0, 152)) = some (r1, r2, r3, r4, r5, r6, r7) := by rw [if_neg (show ¬ (false = true) by decide)] at H; exact H
              clear H
              have H := H1
              clear H1
              simp only [Option.some.injEq, Prod.mk.injEq] at H
              obtain ⟨rfl, rfl, rfl, rfl, rfl, rfl, rfl⟩ := H
              have p172 : 0 ≤ (1 : Int) := (by omega)
              have q172 : 1 < (t162.length : Int) := of_decide_eq_true (by first | (with_reducible assumption) | assumption)
              obtain ⟨ad172, e172, hx172_0⟩ := Kd.at_string (Kd.R_reads' HO_5.out).2.2 1 p172 q172
              obtain rfl : ad165 = ad172 := (by injection e172)
              (try simp only [show (1 : Int).toNat = 1 from rfl, Nat.reduceMul, Nat.reduceEqDiff, Go.Addr.add, ↓reduceIte] at hx172_0)
              have qi172 : (1 < t162.length) = True := eq_true (by omega)
              (try rw [show ((1 : Int)).toNat = 1 from rfl] at hx172_0)
              replace p172 := eq_true p172
              replace q172 := eq_true q172
              go_wp2_with (first | ((with_reducible refine gate_callee (f := 37) rfl ?_); refine goesL_ (some 51) rfl rfl Tryz.func37 (by kernel_rfl) rfl #[.string (rdOf ByteArray.empty t162 1)] rfl (by (try simp only [List.map_toArray, List.map_cons, List.map_nil]); first | done | rfl | (simp only [List.length_drop, List.length_take]; rfl)) ?_; (with_reducible refine (fix_Parse.calls kj24 (rdOf ByteArray.empty t162 1) t173 t174 t175 _ ?side1 A36.out).mono ?_); (case side1 => exact LaidW.below HLW.out (by repeat (first | (with_reducible first | exact HB.out | apply below_alloc | apply pw_below_drewN | apply below_drew1) | exact HB.out | (refine below_set ?_ (Aside0.out ?hge); (case hge => assumption))))); rintro e w56 ⟨rfl, hb⟩; refine ⟨_, rfl, ?_⟩; have n0_ := Aside0.mk (Kd.R_below (by (with_reducible repeat (first | apply Kd.R_alloc | apply Kd.R_drewN | apply Kd.R_drew)); exact HO_5.out) hb); have n1_ := Aside0.mk (Kd.R_below (by (with_reducible repeat (first | apply Kd.R_alloc | apply Kd.R_drewN | apply Kd.R_drew)); exact HO_6.out) hb); have n2_ := Aside0.mk (blk_below (g := gb160) (o := .cells #[.slice none 0 0, .bool false, .int .i64 0, .int .i64 0, .bool false, .int .i64 0] 34 (0, 0)) (by (with_reducible repeat (first | refine blk_drewN ?_ _ | refine blk_drew ?_ | refine blk_alloc ?_ _)); exact BK160.out) hb); have n3_ := Aside0.mk (blk_below (g := gb161) (o := .cells #[.slice none 0 0, .bool false, .int .i64 0, .int .i64 0, .bool false, .int .i64 0] 34 (0, 0)) (by (with_reducible repeat (first | refine blk_drewN ?_ _ | refine blk_drew ?_ | refine blk_alloc ?_ _)); exact BK161.out) hb); have n4_ := Aside0.mk (below_step (by repeat (first | (with_reducible first | exact HB.out | apply below_alloc | apply pw_below_drewN | apply below_drew1 | refine below_set ?_ GE160.out | refine below_set ?_ GE161.out) | exact HB.out)) hb); clear HO_5; clear HO_6; clear BK160; clear BK161; clear HB; have HO_5 := n0_; have HO_6 := n1_; have BK160 := n2_; have BK161 := n3_; have HB := n4_; clear n0_ n1_ n2_ n3_ n4_; (try clear hb); (try clear hb2); (try clear hk); (try clear hi)) | ((with_reducible refine gate_dst (N := 10) rfl ?_); (try (refine gate_guard (by rfl) ?_; dsimp only)); refine box_event ?hg (N := 10) ?hd (cs := #[.bool false, .int .i64 0]) (t := 32) ?hr ?_; (case hd => rfl); (case hg => rfl); (case hr => first | (go_simp; done) | (go_simp; rfl)); intro gb176 hg w57 hbox hb; have n0_ := Aside0.mk (Kd.R_below (by (with_reducible repeat (first | apply Kd.R_alloc | apply Kd.R_drewN | apply Kd.R_drew)); exact HO_5.out) hb); have n1_ := Aside0.mk (Kd.R_below (by (with_reducible repeat (first | apply Kd.R_alloc | apply Kd.R_drewN | apply Kd.R_drew)); exact HO_6.out) hb); have n2_ := Aside0.mk (blk_below (g := gb160) (o := .cells #[.slice none 0 0, .bool false, .int .i64 0, .int .i64 0, .bool false, .int .i64 0] 34 (0, 0)) (by (with_reducible repeat (first | refine blk_drewN ?_ _ | refine blk_drew ?_ | refine blk_alloc ?_ _)); exact BK160.out) hb); have n3_ := Aside0.mk (blk_below (g := gb161) (o := .cells #[.slice none 0 0, .bool false, .int .i64 0, .int .i64 0, .bool false, .int .i64 0] 34 (0, 0)) (by (with_reducible repeat (first | refine blk_drewN ?_ _ | refine blk_drew ?_ | refine blk_alloc ?_ _)); exact BK161.out) hb); have n4_ := Aside0.mk (below_step (by repeat (first | (with_reducible first | exact HB.out | apply below_alloc | apply pw_below_drewN | apply below_drew1 | refine below_set ?_ GE160.out | refine below_set ?_ GE161.out) | exact HB.out)) hb); have n5_ := Aside0.mk (hbox); have n6_ := Aside0.mk ((by rw [hg]; exact (below_size (by repeat (first | (with_reducible first | exact HB.out | apply below_alloc | apply pw_below_drewN | apply below_drew1 | refine below_set ?_ GE160.out | refine below_set ?_ GE161.out) | exact HB.out))) : w.heap.size ≤ gb176)); have n7_ := Aside0.mk ((by rw [hg]; exact (below_size (by repeat (first | (with_reducible first | exact HB.out | apply below_alloc | apply pw_below_drewN | apply below_drew1 | refine below_set ?_ GE160.out | refine below_set ?_ GE161.out) | exact HB.out))) : w.heap.size ≤ gb176)); have n8_ := Aside0.mk ((by rw [hg]; exact Nat.ne_of_lt (blk_lt (g := gb160) (o := .cells #[.slice none 0 0, .bool false, .int .i64 0, .int .i64 0, .bool false, .int .i64 0] 34 (0, 0)) (by (with_reducible repeat (first | refine blk_drewN ?_ _ | refine blk_drew ?_ | refine blk_alloc ?_ _)); exact BK160.out)) : gb160 ≠ gb176)); have n9_ := Aside0.mk ((by rw [hg]; exact Nat.ne_of_gt (blk_lt (g := gb160) (o := .cells #[.slice none 0 0, .bool false, .int .i64 0, .int .i64 0, .bool false, .int .i64 0] 34 (0, 0)) (by (with_reducible repeat (first | refine blk_drewN ?_ _ | refine blk_drew ?_ | refine blk_alloc ?_ _)); exact BK160.out)) : gb176 ≠ gb160)); have n10_ := Aside0.mk ((by rw [hg]; exact Nat.ne_of_lt (blk_lt (g := gb161) (o := .cells #[.slice none 0 0, .bool false, .int .i64 0, .int .i64 0, .bool false, .int .i64 0] 34 (0, 0)) (by (with_reducible repeat (first | refine blk_drewN ?_ _ | refine blk_drew ?_ | refine blk_alloc ?_ _)); exact BK161.out)) : gb161 ≠ gb176)); have n11_ := Aside0.mk ((by rw [hg]; exact Nat.ne_of_gt (blk_lt (g := gb161) (o := .cells #[.slice none 0 0, .bool false, .int .i64 0, .int .i64 0, .bool false, .int .i64 0] 34 (0, 0)) (by (with_reducible repeat (first | refine blk_drewN ?_ _ | refine blk_drew ?_ | refine blk_alloc ?_ _)); exact BK161.out)) : gb176 ≠ gb161)); clear HO_5; clear HO_6; clear BK160; clear BK161; clear HB; have HO_5 := n0_; have HO_6 := n1_; have BK160 := n2_; have BK161 := n3_; have HB := n4_; have BK176 := n5_; have GW176 := n6_; have GE176 := n7_; have NB160_176 := n8_; have NB176_160 := n9_; have NB161_176 := n10_; have NB176_161 := n11_; clear n0_ n1_ n2_ n3_ n4_ n5_ n6_ n7_ n8_ n9_ n10_ n11_; clear hb hbox hg; have hnb58 := NB176_160.out; have hnc58 := NB160_176.out; have hnb59 := NB176_161.out; have hnc59 := NB161_176.out; have hcz60_0 : w57.cell? ⟨gb176, 0, none⟩ = some (.bool false) := (blk_cell BK176.out 0).trans rfl; have hcz60_1 : w57.cell? ⟨gb176, 1, none⟩ = some (.int .i64 0) := (blk_cell BK176.out 1).trans rfl; have hfz60_0 := blk_frozen BK176.out 0; have hfz60_1 := blk_frozen BK176.out 1) | ((with_reducible refine gate_dst (N := 11) rfl ?_); (try (refine gate_guard (by rfl) ?_; dsimp only)); refine box_event ?hg (N := 11) ?hd (cs := #[.slice none 0 0, .bool false, .int .i64 0, .int .i64 0, .bool false, .int .i64 0]) (t := 34) ?hr ?_; (case hd => rfl); (case hg => rfl); (case hr => first | (go_simp; done) | (go_simp; rfl)); intro gb177 hg w61 hbox hb; have n0_ := Aside0.mk (Kd.R_below (by (with_reducible repeat (first | apply Kd.R_alloc | apply Kd.R_drewN | apply Kd.R_drew)); exact (Kd.R_mono (Kd.R_far (p := ⟨gb176, 1, none⟩) (Kd.R_far (p := ⟨gb176, 0, none⟩) (Kd.R_types HO_5.out BK176.out (by decide)) (fun _ hk => hk.2) (.bool t173)) (fun _ hk => hk.2) (.int .i64 t174)) (fun _ h_ => h_.1))) hb); have n1_ := Aside0.mk (Kd.R_below (by (with_reducible repeat (first | apply Kd.R_alloc | apply Kd.R_drewN | apply Kd.R_drew)); exact (Kd.R_mono (Kd.R_far (p := ⟨gb176, 1, none⟩) (Kd.R_far (p := ⟨gb176, 0, none⟩) (Kd.R_types HO_6.out BK176.out (by decide)) (fun _ hk => hk.2) (.bool t173)) (fun _ hk => hk.2) (.int .i64 t174)) (fun _ h_ => h_.1))) hb); have n2_ := Aside0.mk (blk_below (g := gb160) (o := .cells #[.slice none 0 0, .bool false, .int .i64 0, .int .i64 0, .bool false, .int .i64 0] 34 (0, 0)) (by (with_reducible repeat (first | refine blk_drewN ?_ _ | refine blk_drew ?_ | refine blk_alloc ?_ _)); refine blk_far ?_ NB160_176.out _; (with_reducible repeat (first | refine blk_drewN ?_ _ | refine blk_drew ?_ | refine blk_alloc ?_ _)); refine blk_far ?_ NB160_176.out _; (with_reducible repeat (first | refine blk_drewN ?_ _ | refine blk_drew ?_ | refine blk_alloc ?_ _)); exact BK160.out) hb); have n3_ := Aside0.mk (blk_below (g := gb161) (o := .cells #[.slice none 0 0, .bool false, .int .i64 0, .int .i64 0, .bool false, .int .i64 0] 34 (0, 0)) (by (with_reducible repeat (first | refine blk_drewN ?_ _ | refine blk_drew ?_ | refine blk_alloc ?_ _)); refine blk_far ?_ NB161_176.out _; (with_reducible repeat (first | refine blk_drewN ?_ _ | refine blk_drew ?_ | refine blk_alloc ?_ _)); refine blk_far ?_ NB161_176.out _; (with_reducible repeat (first | refine blk_drewN ?_ _ | refine blk_drew ?_ | refine blk_alloc ?_ _)); exact BK161.out) hb); have n4_ := Aside0.mk (blk_below (g := gb176) (o := .cells #[.bool t173, .int .i64 t174] 32 (0, 0)) (by (with_reducible repeat (first | refine blk_drewN ?_ _ | refine blk_drew ?_ | refine blk_alloc ?_ _)); refine blk_put (cs := #[.bool t173, .int .i64 0]) ?_ 1 _ rfl; (with_reducible repeat (first | refine blk_drewN ?_ _ | refine blk_drew ?_ | refine blk_alloc ?_ _)); refine blk_put (cs := #[.bool false, .int .i64 0]) ?_ 0 _ rfl; (with_reducible repeat (first | refine blk_drewN ?_ _ | refine blk_drew ?_ | refine blk_alloc ?_ _)); exact BK176.out) hb); have n5_ := Aside0.mk (below_step (by repeat (first | (with_reducible first | exact HB.out | apply below_alloc | apply pw_below_drewN | apply below_drew1 | refine below_set ?_ GE160.out | refine below_set ?_ GE161.out | refine below_set ?_ GE176.out) | exact HB.out)) hb); have n6_ := Aside0.mk (hbox); have n7_ := Aside0.mk ((by rw [hg]; exact (below_size (by repeat (first | (with_reducible first | exact HB.out | apply below_alloc | apply pw_below_drewN | apply below_drew1 | refine below_set ?_ GE160.out | refine below_set ?_ GE161.out | refine below_set ?_ GE176.out) | exact HB.out))) : w.heap.size ≤ gb177)); have n8_ := Aside0.mk ((by rw [hg]; exact (below_size (by repeat (first | (with_reducible first | exact HB.out | apply below_alloc | apply pw_below_drewN | apply below_drew1 | refine below_set ?_ GE160.out | refine below_set ?_ GE161.out | refine below_set ?_ GE176.out) | exact HB.out))) : w.heap.size ≤ gb177)); have n9_ := Aside0.mk ((by rw [hg]; exact Nat.ne_of_lt (blk_lt (g := gb160) (o := .cells #[.slice none 0 0, .bool false, .int .i64 0, .int .i64 0, .bool false, .int .i64 0] 34 (0, 0)) (by (with_reducible repeat (first | refine blk_drewN ?_ _ | refine blk_drew ?_ | refine blk_alloc ?_ _)); refine blk_far ?_ NB160_176.out _; (with_reducible repeat (first | refine blk_drewN ?_ _ | refine blk_drew ?_ | refine blk_alloc ?_ _)); refine blk_far ?_ NB160_176.out _; (with_reducible repeat (first | refine blk_drewN ?_ _ | refine blk_drew ?_ | refine blk_alloc ?_ _)); exact BK160.out)) : gb160 ≠ gb177)); have n10_ := Aside0.mk ((by rw [hg]; exact Nat.ne_of_gt (blk_lt (g := gb160) (o := .cells #[.slice none 0 0, .bool false, .int .i64 0, .int .i64 0, .bool false, .int .i64 0] 34 (0, 0)) (by (with_reducible repeat (first | refine blk_drewN ?_ _ | refine blk_drew ?_ | refine blk_alloc ?_ _)); refine blk_far ?_ NB160_176.out _; (with_reducible repeat (first | refine blk_drewN ?_ _ | refine blk_drew ?_ | refine blk_alloc ?_ _)); refine blk_far ?_ NB160_176.out _; (with_reducible repeat (first | refine blk_drewN ?_ _ | refine blk_drew ?_ | refine blk_alloc ?_ _)); exact BK160.out)) : gb177 ≠ gb160)); have n11_ := Aside0.mk ((by rw [hg]; exact Nat.ne_of_lt (blk_lt (g := gb161) (o := .cells #[.slice none 0 0, .bool false, .int .i64 0, .int .i64 0, .bool false, .int .i64 0] 34 (0, 0)) (by (with_reducible repeat (first | refine blk_drewN ?_ _ | refine blk_drew ?_ | refine blk_alloc ?_ _)); refine blk_far ?_ NB161_176.out _; (with_reducible repeat (first | refine blk_drewN ?_ _ | refine blk_drew ?_ | refine blk_alloc ?_ _)); refine blk_far ?_ NB161_176.out _; (with_reducible repeat (first | refine blk_drewN ?_ _ | refine blk_drew ?_ | refine blk_alloc ?_ _)); exact BK161.out)) : gb161 ≠ gb177)); have n12_ := Aside0.mk ((by rw [hg]; exact Nat.ne_of_gt (blk_lt (g := gb161) (o := .cells #[.slice none 0 0, .bool false, .int .i64 0, .int .i64 0, .bool false, .int .i64 0] 34 (0, 0)) (by (with_reducible repeat (first | refine blk_drewN ?_ _ | refine blk_drew ?_ | refine blk_alloc ?_ _)); refine blk_far ?_ NB161_176.out _; (with_reducible repeat (first | refine blk_drewN ?_ _ | refine blk_drew ?_ | refine blk_alloc ?_ _)); refine blk_far ?_ NB161_176.out _; (with_reducible repeat (first | refine blk_drewN ?_ _ | refine blk_drew ?_ | refine blk_alloc ?_ _)); exact BK161.out)) : gb177 ≠ gb161)); have n13_ := Aside0.mk ((by rw [hg]; exact Nat.ne_of_lt (blk_lt (g := gb176) (o := .cells #[.bool t173, .int .i64 t174] 32 (0, 0)) (by (with_reducible repeat (first | refine blk_drewN ?_ _ | refine blk_drew ?_ | refine blk_alloc ?_ _)); refine blk_put (cs := #[.bool t173, .int .i64 0]) ?_ 1 _ rfl; (with_reducible repeat (first | refine blk_drewN ?_ _ | refine blk_drew ?_ | refine blk_alloc ?_ _)); refine blk_put (cs := #[.bool false, .int .i64 0]) ?_ 0 _ rfl; (with_reducible repeat (first | refine blk_drewN ?_ _ | refine blk_drew ?_ | refine blk_alloc ?_ _)); exact BK176.out)) : gb176 ≠ gb177)); have n14_ := Aside0.mk ((by rw [hg]; exact Nat.ne_of_gt (blk_lt (g := gb176) (o := .cells #[.bool t173, .int .i64 t174] 32 (0, 0)) (by (with_reducible repeat (first | refine blk_drewN ?_ _ | refine blk_drew ?_ | refine blk_alloc ?_ _)); refine blk_put (cs := #[.bool t173, .int .i64 0]) ?_ 1 _ rfl; (with_reducible repeat (first | refine blk_drewN ?_ _ | refine blk_drew ?_ | refine blk_alloc ?_ _)); refine blk_put (cs := #[.bool false, .int .i64 0]) ?_ 0 _ rfl; (with_reducible repeat (first | refine blk_drewN ?_ _ | refine blk_drew ?_ | refine blk_alloc ?_ _)); exact BK176.out)) : gb177 ≠ gb176)); clear HO_5; clear HO_6; clear BK160; clear BK161; clear BK176; clear HB; have HO_5 := n0_; have HO_6 := n1_; have BK160 := n2_; have BK161 := n3_; have BK176 := n4_; have HB := n5_; have BK177 := n6_; have GW177 := n7_; have GE177 := n8_; have NB160_177 := n9_; have NB177_160 := n10_; have NB161_177 := n11_; have NB177_161 := n12_; have NB176_177 := n13_; have NB177_176 := n14_; clear n0_ n1_ n2_ n3_ n4_ n5_ n6_ n7_ n8_ n9_ n10_ n11_ n12_ n13_ n14_; clear hb hbox hg; have hnb62 := NB177_160.out; have hnc62 := NB160_177.out; have hnb63 := NB177_161.out; have hnc63 := NB161_177.out; have hnb64 := NB177_176.out; have hnc64 := NB176_177.out; have hcz65_0 : w61.cell? ⟨gb177, 0, none⟩ = some (.slice none 0 0) := (blk_cell BK177.out 0).trans rfl; have hcz65_1 : w61.cell? ⟨gb177, 1, none⟩ = some (.bool false) := (blk_cell BK177.out 1).trans rfl; have hcz65_2 : w61.cell? ⟨gb177, 2, none⟩ = some (.int .i64 0) := (blk_cell BK177.out 2).trans rfl; have hcz65_3 : w61.cell? ⟨gb177, 3, none⟩ = some (.int .i64 0) := (blk_cell BK177.out 3).trans rfl; have hcz65_4 : w61.cell? ⟨gb177, 4, none⟩ = some (.bool false) := (blk_cell BK177.out 4).trans rfl; have hcz65_5 : w61.cell? ⟨gb177, 5, none⟩ = some (.int .i64 0) := (blk_cell BK177.out 5).trans rfl; have hfz65_0 := blk_frozen BK177.out 0; have hfz65_1 := blk_frozen BK177.out 1; have hfz65_2 := blk_frozen BK177.out 2; have hfz65_3 := blk_frozen BK177.out 3; have hfz65_4 := blk_frozen BK177.out 4; have hfz65_5 := blk_frozen BK177.out 5; have p178 : 0 ≤ (2 : Int) := (by omega); have q178 : 2 < (t162.length : Int) := of_decide_eq_true (by first | (with_reducible assumption) | assumption); obtain ⟨ad178, e178, hx178_0⟩ := Kd.at_string (Kd.R_reads' HO_5.out).2.2 2 p178 q178; obtain rfl : ad165 = ad178 := (by injection e178); (try simp only [show (2 : Int).toNat = 2 from rfl, Nat.reduceMul, Nat.reduceEqDiff, Go.Addr.add, ↓reduceIte] at hx178_0); have qi178 : (2 < t162.length) = True := eq_true (by omega); (try rw [show ((2 : Int)).toNat = 2 from rfl] at hx178_0); have hn178_0 : ad165.block ≠ gb177 := Kd.own_blk (Kd.R_ne HO_5.out BK177.out (by decide)); have hn178_1 : ad165.block ≠ gb177 := Kd.own_blk (Kd.R_ne HO_5.out BK177.out (by decide)); have hn178_2 : ad165.block ≠ gb177 := Kd.own_blk (Kd.R_ne HO_5.out BK177.out (by decide)); have hn178_3 : ad165.block ≠ gb177 := Kd.own_blk (Kd.R_ne HO_5.out BK177.out (by decide)); have hn178_4 : ad165.block ≠ gb177 := Kd.own_blk (Kd.R_ne HO_5.out BK177.out (by decide)); have hn178_5 : ad165.block ≠ gb177 := Kd.own_blk (Kd.R_ne HO_5.out BK177.out (by decide)); replace hx178_0 := (cell_far (p := ⟨gb177, 0, none⟩) (by first | (rw [add_block]; exact hn178_0) | (show (Addr.add _ _).block ≠ _; rw [add_block]; exact hn178_0) | exact hn178_0) (.slice Ao28 t166.length co28)).trans hx178_0; replace hx178_0 := (cell_far (p := ⟨gb177, 1, none⟩) (by first | (rw [add_block]; exact hn178_1) | (show (Addr.add _ _).block ≠ _; rw [add_block]; exact hn178_1) | exact hn178_1) (.bool t173)).trans hx178_0; replace hx178_0 := (cell_far (p := ⟨gb177, 2, none⟩) (by first | (rw [add_block]; exact hn178_2) | (show (Addr.add _ _).block ≠ _; rw [add_block]; exact hn178_2) | exact hn178_2) (.int .i64 t174)).trans hx178_0; replace hx178_0 := (cell_far (p := ⟨gb177, 3, none⟩) (by first | (rw [add_block]; exact hn178_3) | (show (Addr.add _ _).block ≠ _; rw [add_block]; exact hn178_3) | exact hn178_3) (.int .i64 0)).trans hx178_0; replace hx178_0 := (cell_far (p := ⟨gb177, 4, none⟩) (by first | (rw [add_block]; exact hn178_4) | (show (Addr.add _ _).block ≠ _; rw [add_block]; exact hn178_4) | exact hn178_4) (.bool false)).trans hx178_0; replace hx178_0 := (cell_far (p := ⟨gb177, 5, none⟩) (by first | (rw [add_block]; exact hn178_5) | (show (Addr.add _ _).block ≠ _; rw [add_block]; exact hn178_5) | exact hn178_5) (.int .i64 0)).trans hx178_0; clear hn178_0; clear hn178_1; clear hn178_2; clear hn178_3; clear hn178_4; clear hn178_5; replace p178 := eq_true p178; replace q178 := eq_true q178) | ((with_reducible refine gate_callee (f := 38) rfl ?_); refine goesL_ (some 68) rfl rfl Tryz.func38 (by kernel_rfl) rfl #[.string (rdOf ByteArray.empty t162 2)] rfl (by (try simp only [List.map_toArray, List.map_cons, List.map_nil]); first | done | rfl | (simp only [List.length_drop, List.length_take]; rfl)) ?_; (with_reducible refine (expo_number.calls (rdOf ByteArray.empty t162 2) t179 false _ ?side1 A40.out).mono ?_); (case side1 => exact LaidW.below HLW.out (by repeat (first | (with_reducible first | exact HB.out | apply below_alloc | apply pw_below_drewN | apply below_drew1) | exact HB.out | (refine below_set ?_ (Aside0.out ?hge); (case hge => assumption))))); rintro e w66 ⟨rfl, hb⟩; refine ⟨_, rfl, ?_⟩; have n0_ := Aside0.mk (Kd.R_below (by (with_reducible repeat (first | apply Kd.R_alloc | apply Kd.R_drewN | apply Kd.R_drew)); exact (Kd.R_mono (Kd.R_far (p := ⟨gb177, 5, none⟩) (Kd.R_far (p := ⟨gb177, 4, none⟩) (Kd.R_far (p := ⟨gb177, 3, none⟩) (Kd.R_far (p := ⟨gb177, 2, none⟩) (Kd.R_far (p := ⟨gb177, 1, none⟩) (Kd.R_far (p := ⟨gb177, 0, none⟩) (Kd.R_types HO_5.out BK177.out (by decide)) (fun _ hk => hk.2) (.slice Ao28 t166.length co28)) (fun _ hk => hk.2) (.bool t173)) (fun _ hk => hk.2) (.int .i64 t174)) (fun _ hk => hk.2) (.int .i64 0)) (fun _ hk => hk.2) (.bool false)) (fun _ hk => hk.2) (.int .i64 0)) (fun _ h_ => h_.1))) hb); have n1_ := Aside0.mk (Kd.R_below (by (with_reducible repeat (first | apply Kd.R_alloc | apply Kd.R_drewN | apply Kd.R_drew)); exact (Kd.R_mono (Kd.R_far (p := ⟨gb177, 5, none⟩) (Kd.R_far (p := ⟨gb177, 4, none⟩) (Kd.R_far (p := ⟨gb177, 3, none⟩) (Kd.R_far (p := ⟨gb177, 2, none⟩) (Kd.R_far (p := ⟨gb177, 1, none⟩) (Kd.R_far (p := ⟨gb177, 0, none⟩) (Kd.R_types HO_6.out BK177.out (by decide)) (fun _ hk => hk.2) (.slice Ao28 t166.length co28)) (fun _ hk => hk.2) (.bool t173)) (fun _ hk => hk.2) (.int .i64 t174)) (fun _ hk => hk.2) (.int .i64 0)) (fun _ hk => hk.2) (.bool false)) (fun _ hk => hk.2) (.int .i64 0)) (fun _ h_ => h_.1))) hb); have n2_ := Aside0.mk (blk_below (g := gb160) (o := .cells #[.slice none 0 0, .bool false, .int .i64 0, .int .i64 0, .bool false, .int .i64 0] 34 (0, 0)) (by (with_reducible repeat (first | refine blk_drewN ?_ _ | refine blk_drew ?_ | refine blk_alloc ?_ _)); refine blk_far ?_ NB160_177.out _; (with_reducible repeat (first | refine blk_drewN ?_ _ | refine blk_drew ?_ | refine blk_alloc ?_ _)); refine blk_far ?_ NB160_177.out _; (with_reducible repeat (first | refine blk_drewN ?_ _ | refine blk_drew ?_ | refine blk_alloc ?_ _)); refine blk_far ?_ NB160_177.out _; (with_reducible repeat (first | refine blk_drewN ?_ _ | refine blk_drew ?_ | refine blk_alloc ?_ _)); refine blk_far ?_ NB160_177.out _; (with_reducible repeat (first | refine blk_drewN ?_ _ | refine blk_drew ?_ | refine blk_alloc ?_ _)); refine blk_far ?_ NB160_177.out _; (with_reducible repeat (first | refine blk_drewN ?_ _ | refine blk_drew ?_ | refine blk_alloc ?_ _)); refine blk_far ?_ NB160_177.out _; (with_reducible repeat (first | refine blk_drewN ?_ _ | refine blk_drew ?_ | refine blk_alloc ?_ _)); exact BK160.out) hb); have n3_ := Aside0.mk (blk_below (g := gb161) (o := .cells #[.slice none 0 0, .bool false, .int .i64 0, .int .i64 0, .bool false, .int .i64 0] 34 (0, 0)) (by (with_reducible repeat (first | refine blk_drewN ?_ _ | refine blk_drew ?_ | refine blk_alloc ?_ _)); refine blk_far ?_ NB161_177.out _; (with_reducible repeat (first | refine blk_drewN ?_ _ | refine blk_drew ?_ | refine blk_alloc ?_ _)); refine blk_far ?_ NB161_177.out _; (with_reducible repeat (first | refine blk_drewN ?_ _ | refine blk_drew ?_ | refine blk_alloc ?_ _)); refine blk_far ?_ NB161_177.out _; (with_reducible repeat (first | refine blk_drewN ?_ _ | refine blk_drew ?_ | refine blk_alloc ?_ _)); refine blk_far ?_ NB161_177.out _; (with_reducible repeat (first | refine blk_drewN ?_ _ | refine blk_drew ?_ | refine blk_alloc ?_ _)); refine blk_far ?_ NB161_177.out _; (with_reducible repeat (first | refine blk_drewN ?_ _ | refine blk_drew ?_ | refine blk_alloc ?_ _)); refine blk_far ?_ NB161_177.out _; (with_reducible repeat (first | refine blk_drewN ?_ _ | refine blk_drew ?_ | refine blk_alloc ?_ _)); exact BK161.out) hb); have n4_ := Aside0.mk (blk_below (g := gb176) (o := .cells #[.bool t173, .int .i64 t174] 32 (0, 0)) (by (with_reducible repeat (first | refine blk_drewN ?_ _ | refine blk_drew ?_ | refine blk_alloc ?_ _)); refine blk_far ?_ NB176_177.out _; (with_reducible repeat (first | refine blk_drewN ?_ _ | refine blk_drew ?_ | refine blk_alloc ?_ _)); refine blk_far ?_ NB176_177.out _; (with_reducible repeat (first | refine blk_drewN ?_ _ | refine blk_drew ?_ | refine blk_alloc ?_ _)); refine blk_far ?_ NB176_177.out _; (with_reducible repeat (first | refine blk_drewN ?_ _ | refine blk_drew ?_ | refine blk_alloc ?_ _)); refine blk_far ?_ NB176_177.out _; (with_reducible repeat (first | refine blk_drewN ?_ _ | refine blk_drew ?_ | refine blk_alloc ?_ _)); refine blk_far ?_ NB176_177.out _; (with_reducible repeat (first | refine blk_drewN ?_ _ | refine blk_drew ?_ | refine blk_alloc ?_ _)); refine blk_far ?_ NB176_177.out _; (with_reducible repeat (first | refine blk_drewN ?_ _ | refine blk_drew ?_ | refine blk_alloc ?_ _)); exact BK176.out) hb); have n5_ := Aside0.mk (blk_below (g := gb177) (o := .cells #[.slice Ao28 t166.length co28, .bool t173, .int .i64 t174, .int .i64 0, .bool false, .int .i64 0] 34 (0, 0)) (by (with_reducible repeat (first | refine blk_drewN ?_ _ | refine blk_drew ?_ | refine blk_alloc ?_ _)); refine blk_put (cs := #[.slice Ao28 t166.length co28, .bool t173, .int .i64 t174, .int .i64 0, .bool false, .int .i64 0]) ?_ 5 _ rfl; (with_reducible repeat (first | refine blk_drewN ?_ _ | refine blk_drew ?_ | refine blk_alloc ?_ _)); refine blk_put (cs := #[.slice Ao28 t166.length co28, .bool t173, .int .i64 t174, .int .i64 0, .bool false, .int .i64 0]) ?_ 4 _ rfl; (with_reducible repeat (first | refine blk_drewN ?_ _ | refine blk_drew ?_ | refine blk_alloc ?_ _)); refine blk_put (cs := #[.slice Ao28 t166.length co28, .bool t173, .int .i64 t174, .int .i64 0, .bool false, .int .i64 0]) ?_ 3 _ rfl; (with_reducible repeat (first | refine blk_drewN ?_ _ | refine blk_drew ?_ | refine blk_alloc ?_ _)); refine blk_put (cs := #[.slice Ao28 t166.length co28, .bool t173, .int .i64 0, .int .i64 0, .bool false, .int .i64 0]) ?_ 2 _ rfl; (with_reducible repeat (first | refine blk_drewN ?_ _ | refine blk_drew ?_ | refine blk_alloc ?_ _)); refine blk_put (cs := #[.slice Ao28 t166.length co28, .bool false, .int .i64 0, .int .i64 0, .bool false, .int .i64 0]) ?_ 1 _ rfl; (with_reducible repeat (first | refine blk_drewN ?_ _ | refine blk_drew ?_ | refine blk_alloc ?_ _)); refine blk_put (cs := #[.slice none 0 0, .bool false, .int .i64 0, .int .i64 0, .bool false, .int .i64 0]) ?_ 0 _ rfl; (with_reducible repeat (first | refine blk_drewN ?_ _ | refine blk_drew ?_ | refine blk_alloc ?_ _)); exact BK177.out) hb); have n6_ := Aside0.mk (below_step (by repeat (first | (with_reducible first | exact HB.out | apply below_alloc | apply pw_below_drewN | apply below_drew1 | refine below_set ?_ GE160.out | refine below_set ?_ GE161.out | refine below_set ?_ GE176.out | refine below_set ?_ GE177.out) | exact HB.out)) hb); clear HO_5; clear HO_6; clear BK160; clear BK161; clear BK176; clear BK177; clear HB; have HO_5 := n0_; have HO_6 := n1_; have BK160 := n2_; have BK161 := n3_; have BK176 := n4_; have BK177 := n5_; have HB := n6_; clear n0_ n1_ n2_ n3_ n4_ n5_ n6_; (try clear hb); (try clear hb2); (try clear hk); (try clear hi); have hcz67_0 : w66.cell? ⟨gb177, 0, none⟩ = some (.slice Ao28 t166.length co28) := (blk_cell BK177.out 0).trans rfl; have hcz67_1 : w66.cell? ⟨gb177, 1, none⟩ = some (.bool t173) := (blk_cell BK177.out 1).trans rfl; have hcz67_2 : w66.cell? ⟨gb177, 2, none⟩ = some (.int .i64 t174) := (blk_cell BK177.out 2).trans rfl; have hcz67_3 : w66.cell? ⟨gb177, 3, none⟩ = some (.int .i64 0) := (blk_cell BK177.out 3).trans rfl; have hcz67_4 : w66.cell? ⟨gb177, 4, none⟩ = some (.bool false) := (blk_cell BK177.out 4).trans rfl; have hcz67_5 : w66.cell? ⟨gb177, 5, none⟩ = some (.int .i64 0) := (blk_cell BK177.out 5).trans rfl; have hfz67_0 := blk_frozen BK177.out 0; have hfz67_1 := blk_frozen BK177.out 1; have hfz67_2 := blk_frozen BK177.out 2; have hfz67_3 := blk_frozen BK177.out 3; have hfz67_4 := blk_frozen BK177.out 4; have hfz67_5 := blk_frozen BK177.out 5; have hnb68 := NB161_160.out; have hnc68 := NB160_161.out; have hcz69_0 : w66.cell? ⟨gb161, 0, none⟩ = some (.slice none 0 0) := (blk_cell BK161.out 0).trans rfl; have hcz69_1 : w66.cell? ⟨gb161, 1, none⟩ = some (.bool false) := (blk_cell BK161.out 1).trans rfl; have hcz69_2 : w66.cell? ⟨gb161, 2, none⟩ = some (.int .i64 0) := (blk_cell BK161.out 2).trans rfl; have hcz69_3 : w66.cell? ⟨gb161, 3, none⟩ = some (.int .i64 0) := (blk_cell BK161.out 3).trans rfl; have hcz69_4 : w66.cell? ⟨gb161, 4, none⟩ = some (.bool false) := (blk_cell BK161.out 4).trans rfl; have hcz69_5 : w66.cell? ⟨gb161, 5, none⟩ = some (.int .i64 0) := (blk_cell BK161.out 5).trans rfl; have hfz69_0 := blk_frozen BK161.out 0; have hfz69_1 := blk_frozen BK161.out 1; have hfz69_2 := blk_frozen BK161.out 2; have hfz69_3 := blk_frozen BK161.out 3; have hfz69_4 := blk_frozen BK161.out 4; have hfz69_5 := blk_frozen BK161.out 5; have hcz70_0 : w66.cell? ⟨gb160, 0, none⟩ = some (.slice none 0 0) := (blk_cell BK160.out 0).trans rfl; have hcz70_1 : w66.cell? ⟨gb160, 1, none⟩ = some (.bool false) := (blk_cell BK160.out 1).trans rfl; have hcz70_2 : w66.cell? ⟨gb160, 2, none⟩ = some (.int .i64 0) := (blk_cell BK160.out 2).trans rfl; have hcz70_3 : w66.cell? ⟨gb160, 3, none⟩ = some (.int .i64 0) := (blk_cell BK160.out 3).trans rfl; have hcz70_4 : w66.cell? ⟨gb160, 4, none⟩ = some (.bool false) := (blk_cell BK160.out 4).trans rfl; have hcz70_5 : w66.cell? ⟨gb160, 5, none⟩ = some (.int .i64 0) := (blk_cell BK160.out 5).trans rfl; have hfz70_0 := blk_frozen BK160.out 0; have hfz70_1 := blk_frozen BK160.out 1; have hfz70_2 := blk_frozen BK160.out 2; have hfz70_3 := blk_frozen BK160.out 3; have hfz70_4 := blk_frozen BK160.out 4; have hfz70_5 := blk_frozen BK160.out 5))
              refine bodyPost_ret (results_ct rfl _ _ gb160 34 #[.slice none 0 0, .bool false, .int .i64 0, .int .i64 0, .bool false, .int .i64 0] (0, 0) _ rfl (by (with_reducible repeat (first | refine blk_drewN ?_ _ | refine blk_drew ?_ | refine blk_alloc ?_ _)); refine blk_put (cs := #[.slice none 0 0, .bool false, .int .i64 0, .int .i64 0, .bool false, .int .i64 0]) ?_ 5 _ rfl; (with_reducible repeat (first | refine blk_drewN ?_ _ | refine blk_drew ?_ | refine blk_alloc ?_ _)); refine blk_put (cs := #[.slice none 0 0, .bool false, .int .i64 0, .int .i64 0, .bool false, .int .i64 0]) ?_ 4 _ rfl; (with_reducible repeat (first | refine blk_drewN ?_ _ | refine blk_drew ?_ | refine blk_alloc ?_ _)); refine blk_put (cs := #[.slice none 0 0, .bool false, .int .i64 0, .int .i64 0, .bool false, .int .i64 0]) ?_ 3 _ rfl; (with_reducible repeat (first | refine blk_drewN ?_ _ | refine blk_drew ?_ | refine blk_alloc ?_ _)); refine blk_put (cs := #[.slice none 0 0, .bool false, .int .i64 0, .int .i64 0, .bool false, .int .i64 0]) ?_ 2 _ rfl; (with_reducible repeat (first | refine blk_drewN ?_ _ | refine blk_drew ?_ | refine blk_alloc ?_ _)); refine blk_put (cs := #[.slice none 0 0, .bool false, .int .i64 0, .int .i64 0, .bool false, .int .i64 0]) ?_ 1 _ rfl; (with_reducible repeat (first | refine blk_drewN ?_ _ | refine blk_drew ?_ | refine blk_alloc ?_ _)); refine blk_put (cs := #[.slice none 0 0, .bool false, .int .i64 0, .int .i64 0, .bool false, .int .i64 0]) ?_ 0 _ rfl; (with_reducible repeat (first | refine blk_drewN ?_ _ | refine blk_drew ?_ | refine blk_alloc ?_ _)); refine blk_far ?_ NB160_177.out _; (with_reducible repeat (first | refine blk_drewN ?_ _ | refine blk_drew ?_ | refine blk_alloc ?_ _)); refine blk_far ?_ NB160_177.out _; (with_reducible repeat (first | refine blk_drewN ?_ _ | refine blk_drew ?_ | refine blk_alloc ?_ _)); exact BK160.out) Tryz.underlying34 rfl (by kernel_rfl)) rfl ?_
              exact ⟨_, by first | rfl | (simp [errW_none, errW_some] <;> rfl) | (simp [*, errW_none, errW_some] <;> rfl), by first | exact Kd.R_nil _ _ _ _ _ | exact Kd.N_nil _ _ _ _ _ | exact Kd.V_nil _ _ _ _ _ | exact Kd.Q_nil _ _ _ _ _ | exact Kd.S_nil _ _ _ _ _, by repeat (first | (with_reducible first | exact HB.out | apply below_alloc | apply pw_below_drewN | apply below_drew1 | refine below_set ?_ GE160.out | refine below_set ?_ GE161.out | refine below_set ?_ GE176.out | refine below_set ?_ GE177.out) | exact HB.out)⟩
            ·rw [if_neg c39] at H
             exact absurd H (by simp)
           ·rw [if_neg c38] at H
            have c38b0 : ((t162.length : Int) == 3) = false := beq_eq_false_iff_ne.mpr c38
            have c38b1 : ((t162.length : Int) != 3) = true := bne_iff_ne.mpr c38
            simp only [Option.some.injEq, Prod.mk.injEq] at H
            obtain ⟨rfl, rfl, rfl, rfl, rfl, rfl, rfl⟩ := H
            have p172 : 0 ≤ (1 : Int) := (by omega)
            have q172 : 1 < (t162.length : Int) := of_decide_eq_true (by first | (with_reducible assumption) | assumption)
            obtain ⟨ad172, e172, hx172_0⟩ := Kd.at_string (Kd.R_reads' HO_5.out).2.2 1 p172 q172
            obtain rfl : ad165 = ad172 := (by injection e172)
            (try simp only [show (1 : Int).toNat = 1 from rfl, Nat.reduceMul, Nat.reduceEqDiff, Go.Addr.add, ↓reduceIte] at hx172_0)
            have qi172 : (1 < t162.length) = True := eq_true (by omega)
            (try rw [show ((1 : Int)).toNat = 1 from rfl] at hx172_0)
            replace p172 := eq_true p172
            replace q172 := eq_true q172
            go_wp2_with (first | ((with_reducible refine gate_callee (f := 37) rfl ?_); refine goesL_ (some 51) rfl rfl Tryz.func37 (by kernel_rfl) rfl #[.string (rdOf ByteArray.empty t162 1)] rfl (by (try simp only [List.map_toArray, List.map_cons, List.map_nil]); first | done | rfl | (simp only [List.length_drop, List.length_take]; rfl)) ?_; (with_reducible refine (fix_Parse.calls kj24 (rdOf ByteArray.empty t162 1) t173 t174 t175 _ ?side1 A36.out).mono ?_); (case side1 => exact LaidW.below HLW.out (by repeat (first | (with_reducible first | exact HB.out | apply below_alloc | apply pw_below_drewN | apply below_drew1) | exact HB.out | (refine below_set ?_ (Aside0.out ?hge); (case hge => assumption))))); rintro e w71 ⟨rfl, hb⟩; refine ⟨_, rfl, ?_⟩; have n0_ := Aside0.mk (Kd.R_below (by (with_reducible repeat (first | apply Kd.R_alloc | apply Kd.R_drewN | apply Kd.R_drew)); exact HO_5.out) hb); have n1_ := Aside0.mk (Kd.R_below (by (with_reducible repeat (first | apply Kd.R_alloc | apply Kd.R_drewN | apply Kd.R_drew)); exact HO_6.out) hb); have n2_ := Aside0.mk (blk_below (g := gb160) (o := .cells #[.slice none 0 0, .bool false, .int .i64 0, .int .i64 0, .bool false, .int .i64 0] 34 (0, 0)) (by (with_reducible repeat (first | refine blk_drewN ?_ _ | refine blk_drew ?_ | refine blk_alloc ?_ _)); exact BK160.out) hb); have n3_ := Aside0.mk (blk_below (g := gb161) (o := .cells #[.slice none 0 0, .bool false, .int .i64 0, .int .i64 0, .bool false, .int .i64 0] 34 (0, 0)) (by (with_reducible repeat (first | refine blk_drewN ?_ _ | refine blk_drew ?_ | refine blk_alloc ?_ _)); exact BK161.out) hb); have n4_ := Aside0.mk (below_step (by repeat (first | (with_reducible first | exact HB.out | apply below_alloc | apply pw_below_drewN | apply below_drew1 | refine below_set ?_ GE160.out | refine below_set ?_ GE161.out) | exact HB.out)) hb); clear HO_5; clear HO_6; clear BK160; clear BK161; clear HB; have HO_5 := n0_; have HO_6 := n1_; have BK160 := n2_; have BK161 := n3_; have HB := n4_; clear n0_ n1_ n2_ n3_ n4_; (try clear hb); (try clear hb2); (try clear hk); (try clear hi)) | ((with_reducible refine gate_dst (N := 10) rfl ?_); (try (refine gate_guard (by rfl) ?_; dsimp only)); refine box_event ?hg (N := 10) ?hd (cs := #[.bool false, .int .i64 0]) (t := 32) ?hr ?_; (case hd => rfl); (case hg => rfl); (case hr => first | (go_simp; done) | (go_simp; rfl)); intro gb176 hg w72 hbox hb; have n0_ := Aside0.mk (Kd.R_below (by (with_reducible repeat (first | apply Kd.R_alloc | apply Kd.R_drewN | apply Kd.R_drew)); exact HO_5.out) hb); have n1_ := Aside0.mk (Kd.R_below (by (with_reducible repeat (first | apply Kd.R_alloc | apply Kd.R_drewN | apply Kd.R_drew)); exact HO_6.out) hb); have n2_ := Aside0.mk (blk_below (g := gb160) (o := .cells #[.slice none 0 0, .bool false, .int .i64 0, .int .i64 0, .bool false, .int .i64 0] 34 (0, 0)) (by (with_reducible repeat (first | refine blk_drewN ?_ _ | refine blk_drew ?_ | refine blk_alloc ?_ _)); exact BK160.out) hb); have n3_ := Aside0.mk (blk_below (g := gb161) (o := .cells #[.slice none 0 0, .bool false, .int .i64 0, .int .i64 0, .bool false, .int .i64 0] 34 (0, 0)) (by (with_reducible repeat (first | refine blk_drewN ?_ _ | refine blk_drew ?_ | refine blk_alloc ?_ _)); exact BK161.out) hb); have n4_ := Aside0.mk (below_step (by repeat (first | (with_reducible first | exact HB.out | apply below_alloc | apply pw_below_drewN | apply below_drew1 | refine below_set ?_ GE160.out | refine below_set ?_ GE161.out) | exact HB.out)) hb); have n5_ := Aside0.mk (hbox); have n6_ := Aside0.mk ((by rw [hg]; exact (below_size (by repeat (first | (with_reducible first | exact HB.out | apply below_alloc | apply pw_below_drewN | apply below_drew1 | refine below_set ?_ GE160.out | refine below_set ?_ GE161.out) | exact HB.out))) : w.heap.size ≤ gb176)); have n7_ := Aside0.mk ((by rw [hg]; exact (below_size (by repeat (first | (with_reducible first | exact HB.out | apply below_alloc | apply pw_below_drewN | apply below_drew1 | refine below_set ?_ GE160.out | refine below_set ?_ GE161.out) | exact HB.out))) : w.heap.size ≤ gb176)); have n8_ := Aside0.mk ((by rw [hg]; exact Nat.ne_of_lt (blk_lt (g := gb160) (o := .cells #[.slice none 0 0, .bool false, .int .i64 0, .int .i64 0, .bool false, .int .i64 0] 34 (0, 0)) (by (with_reducible repeat (first | refine blk_drewN ?_ _ | refine blk_drew ?_ | refine blk_alloc ?_ _)); exact BK160.out)) : gb160 ≠ gb176)); have n9_ := Aside0.mk ((by rw [hg]; exact Nat.ne_of_gt (blk_lt (g := gb160) (o := .cells #[.slice none 0 0, .bool false, .int .i64 0, .int .i64 0, .bool false, .int .i64 0] 34 (0, 0)) (by (with_reducible repeat (first | refine blk_drewN ?_ _ | refine blk_drew ?_ | refine blk_alloc ?_ _)); exact BK160.out)) : gb176 ≠ gb160)); have n10_ := Aside0.mk ((by rw [hg]; exact Nat.ne_of_lt (blk_lt (g := gb161) (o := .cells #[.slice none 0 0, .bool false, .int .i64 0, .int .i64 0, .bool false, .int .i64 0] 34 (0, 0)) (by (with_reducible repeat (first | refine blk_drewN ?_ _ | refine blk_drew ?_ | refine blk_alloc ?_ _)); exact BK161.out)) : gb161 ≠ gb176)); have n11_ := Aside0.mk ((by rw [hg]; exact Nat.ne_of_gt (blk_lt (g := gb161) (o := .cells #[.slice none 0 0, .bool false, .int .i64 0, .int .i64 0, .bool false, .int .i64 0] 34 (0, 0)) (by (with_reducible repeat (first | refine blk_drewN ?_ _ | refine blk_drew ?_ | refine blk_alloc ?_ _)); exact BK161.out)) : gb176 ≠ gb161)); clear HO_5; clear HO_6; clear BK160; clear BK161; clear HB; have HO_5 := n0_; have HO_6 := n1_; have BK160 := n2_; have BK161 := n3_; have HB := n4_; have BK176 := n5_; have GW176 := n6_; have GE176 := n7_; have NB160_176 := n8_; have NB176_160 := n9_; have NB161_176 := n10_; have NB176_161 := n11_; clear n0_ n1_ n2_ n3_ n4_ n5_ n6_ n7_ n8_ n9_ n10_ n11_; clear hb hbox hg; have hnb73 := NB176_160.out; have hnc73 := NB160_176.out; have hnb74 := NB176_161.out; have hnc74 := NB161_176.out; have hcz75_0 : w72.cell? ⟨gb176, 0, none⟩ = some (.bool false) := (blk_cell BK176.out 0).trans rfl; have hcz75_1 : w72.cell? ⟨gb176, 1, none⟩ = some (.int .i64 0) := (blk_cell BK176.out 1).trans rfl; have hfz75_0 := blk_frozen BK176.out 0; have hfz75_1 := blk_frozen BK176.out 1) | ((with_reducible refine gate_dst (N := 11) rfl ?_); (try (refine gate_guard (by rfl) ?_; dsimp only)); refine box_event ?hg (N := 11) ?hd (cs := #[.slice none 0 0, .bool false, .int .i64 0, .int .i64 0, .bool false, .int .i64 0]) (t := 34) ?hr ?_; (case hd => rfl); (case hg => rfl); (case hr => first | (go_simp; done) | (go_simp; rfl)); intro gb177 hg w76 hbox hb; have n0_ := Aside0.mk (Kd.R_below (by (with_reducible repeat (first | apply Kd.R_alloc | apply Kd.R_drewN | apply Kd.R_drew)); exact (Kd.R_mono (Kd.R_far (p := ⟨gb176, 1, none⟩) (Kd.R_far (p := ⟨gb176, 0, none⟩) (Kd.R_types HO_5.out BK176.out (by decide)) (fun _ hk => hk.2) (.bool t173)) (fun _ hk => hk.2) (.int .i64 t174)) (fun _ h_ => h_.1))) hb); have n1_ := Aside0.mk (Kd.R_below (by (with_reducible repeat (first | apply Kd.R_alloc | apply Kd.R_drewN | apply Kd.R_drew)); exact (Kd.R_mono (Kd.R_far (p := ⟨gb176, 1, none⟩) (Kd.R_far (p := ⟨gb176, 0, none⟩) (Kd.R_types HO_6.out BK176.out (by decide)) (fun _ hk => hk.2) (.bool t173)) (fun _ hk => hk.2) (.int .i64 t174)) (fun _ h_ => h_.1))) hb); have n2_ := Aside0.mk (blk_below (g := gb160) (o := .cells #[.slice none 0 0, .bool false, .int .i64 0, .int .i64 0, .bool false, .int .i64 0] 34 (0, 0)) (by (with_reducible repeat (first | refine blk_drewN ?_ _ | refine blk_drew ?_ | refine blk_alloc ?_ _)); refine blk_far ?_ NB160_176.out _; (with_reducible repeat (first | refine blk_drewN ?_ _ | refine blk_drew ?_ | refine blk_alloc ?_ _)); refine blk_far ?_ NB160_176.out _; (with_reducible repeat (first | refine blk_drewN ?_ _ | refine blk_drew ?_ | refine blk_alloc ?_ _)); exact BK160.out) hb); have n3_ := Aside0.mk (blk_below (g := gb161) (o := .cells #[.slice none 0 0, .bool false, .int .i64 0, .int .i64 0, .bool false, .int .i64 0] 34 (0, 0)) (by (with_reducible repeat (first | refine blk_drewN ?_ _ | refine blk_drew ?_ | refine blk_alloc ?_ _)); refine blk_far ?_ NB161_176.out _; (with_reducible repeat (first | refine blk_drewN ?_ _ | refine blk_drew ?_ | refine blk_alloc ?_ _)); refine blk_far ?_ NB161_176.out _; (with_reducible repeat (first | refine blk_drewN ?_ _ | refine blk_drew ?_ | refine blk_alloc ?_ _)); exact BK161.out) hb); have n4_ := Aside0.mk (blk_below (g := gb176) (o := .cells #[.bool t173, .int .i64 t174] 32 (0, 0)) (by (with_reducible repeat (first | refine blk_drewN ?_ _ | refine blk_drew ?_ | refine blk_alloc ?_ _)); refine blk_put (cs := #[.bool t173, .int .i64 0]) ?_ 1 _ rfl; (with_reducible repeat (first | refine blk_drewN ?_ _ | refine blk_drew ?_ | refine blk_alloc ?_ _)); refine blk_put (cs := #[.bool false, .int .i64 0]) ?_ 0 _ rfl; (with_reducible repeat (first | refine blk_drewN ?_ _ | refine blk_drew ?_ | refine blk_alloc ?_ _)); exact BK176.out) hb); have n5_ := Aside0.mk (below_step (by repeat (first | (with_reducible first | exact HB.out | apply below_alloc | apply pw_below_drewN | apply below_drew1 | refine below_set ?_ GE160.out | refine below_set ?_ GE161.out | refine below_set ?_ GE176.out) | exact HB.out)) hb); have n6_ := Aside0.mk (hbox); have n7_ := Aside0.mk ((by rw [hg]; exact (below_size (by repeat (first | (with_reducible first | exact HB.out | apply below_alloc | apply pw_below_drewN | apply below_drew1 | refine below_set ?_ GE160.out | refine below_set ?_ GE161.out | refine below_set ?_ GE176.out) | exact HB.out))) : w.heap.size ≤ gb177)); have n8_ := Aside0.mk ((by rw [hg]; exact (below_size (by repeat (first | (with_reducible first | exact HB.out | apply below_alloc | apply pw_below_drewN | apply below_drew1 | refine below_set ?_ GE160.out | refine below_set ?_ GE161.out | refine below_set ?_ GE176.out) | exact HB.out))) : w.heap.size ≤ gb177)); have n9_ := Aside0.mk ((by rw [hg]; exact Nat.ne_of_lt (blk_lt (g := gb160) (o := .cells #[.slice none 0 0, .bool false, .int .i64 0, .int .i64 0, .bool false, .int .i64 0] 34 (0, 0)) (by (with_reducible repeat (first | refine blk_drewN ?_ _ | refine blk_drew ?_ | refine blk_alloc ?_ _)); refine blk_far ?_ NB160_176.out _; (with_reducible repeat (first | refine blk_drewN ?_ _ | refine blk_drew ?_ | refine blk_alloc ?_ _)); refine blk_far ?_ NB160_176.out _; (with_reducible repeat (first | refine blk_drewN ?_ _ | refine blk_drew ?_ | refine blk_alloc ?_ _)); exact BK160.out)) : gb160 ≠ gb177)); have n10_ := Aside0.mk ((by rw [hg]; exact Nat.ne_of_gt (blk_lt (g := gb160) (o := .cells #[.slice none 0 0, .bool false, .int .i64 0, .int .i64 0, .bool false, .int .i64 0] 34 (0, 0)) (by (with_reducible repeat (first | refine blk_drewN ?_ _ | refine blk_drew ?_ | refine blk_alloc ?_ _)); refine blk_far ?_ NB160_176.out _; (with_reducible repeat (first | refine blk_drewN ?_ _ | refine blk_drew ?_ | refine blk_alloc ?_ _)); refine blk_far ?_ NB160_176.out _; (with_reducible repeat (first | refine blk_drewN ?_ _ | refine blk_drew ?_ | refine blk_alloc ?_ _)); exact BK160.out)) : gb177 ≠ gb160)); have n11_ := Aside0.mk ((by rw [hg]; exact Nat.ne_of_lt (blk_lt (g := gb161) (o := .cells #[.slice none 0 0, .bool false, .int .i64 0, .int .i64 0, .bool false, .int .i64 0] 34 (0, 0)) (by (with_reducible repeat (first | refine blk_drewN ?_ _ | refine blk_drew ?_ | refine blk_alloc ?_ _)); refine blk_far ?_ NB161_176.out _; (with_reducible repeat (first | refine blk_drewN ?_ _ | refine blk_drew ?_ | refine blk_alloc ?_ _)); refine blk_far ?_ NB161_176.out _; (with_reducible repeat (first | refine blk_drewN ?_ _ | refine blk_drew ?_ | refine blk_alloc ?_ _)); exact BK161.out)) : gb161 ≠ gb177)); have n12_ := Aside0.mk ((by rw [hg]; exact Nat.ne_of_gt (blk_lt (g := gb161) (o := .cells #[.slice none 0 0, .bool false, .int .i64 0, .int .i64 0, .bool false, .int .i64 0] 34 (0, 0)) (by (with_reducible repeat (first | refine blk_drewN ?_ _ | refine blk_drew ?_ | refine blk_alloc ?_ _)); refine blk_far ?_ NB161_176.out _; (with_reducible repeat (first | refine blk_drewN ?_ _ | refine blk_drew ?_ | refine blk_alloc ?_ _)); refine blk_far ?_ NB161_176.out _; (with_reducible repeat (first | refine blk_drewN ?_ _ | refine blk_drew ?_ | refine blk_alloc ?_ _)); exact BK161.out)) : gb177 ≠ gb161)); have n13_ := Aside0.mk ((by rw [hg]; exact Nat.ne_of_lt (blk_lt (g := gb176) (o := .cells #[.bool t173, .int .i64 t174] 32 (0, 0)) (by (with_reducible repeat (first | refine blk_drewN ?_ _ | refine blk_drew ?_ | refine blk_alloc ?_ _)); refine blk_put (cs := #[.bool t173, .int .i64 0]) ?_ 1 _ rfl; (with_reducible repeat (first | refine blk_drewN ?_ _ | refine blk_drew ?_ | refine blk_alloc ?_ _)); refine blk_put (cs := #[.bool false, .int .i64 0]) ?_ 0 _ rfl; (with_reducible repeat (first | refine blk_drewN ?_ _ | refine blk_drew ?_ | refine blk_alloc ?_ _)); exact BK176.out)) : gb176 ≠ gb177)); have n14_ := Aside0.mk ((by rw [hg]; exact Nat.ne_of_gt (blk_lt (g := gb176) (o := .cells #[.bool t173, .int .i64 t174] 32 (0, 0)) (by (with_reducible repeat (first | refine blk_drewN ?_ _ | refine blk_drew ?_ | refine blk_alloc ?_ _)); refine blk_put (cs := #[.bool t173, .int .i64 0]) ?_ 1 _ rfl; (with_reducible repeat (first | refine blk_drewN ?_ _ | refine blk_drew ?_ | refine blk_alloc ?_ _)); refine blk_put (cs := #[.bool false, .int .i64 0]) ?_ 0 _ rfl; (with_reducible repeat (first | refine blk_drewN ?_ _ | refine blk_drew ?_ | refine blk_alloc ?_ _)); exact BK176.out)) : gb177 ≠ gb176)); clear HO_5; clear HO_6; clear BK160; clear BK161; clear BK176; clear HB; have HO_5 := n0_; have HO_6 := n1_; have BK160 := n2_; have BK161 := n3_; have BK176 := n4_; have HB := n5_; have BK177 := n6_; have GW177 := n7_; have GE177 := n8_; have NB160_177 := n9_; have NB177_160 := n10_; have NB161_177 := n11_; have NB177_161 := n12_; have NB176_177 := n13_; have NB177_176 := n14_; clear n0_ n1_ n2_ n3_ n4_ n5_ n6_ n7_ n8_ n9_ n10_ n11_ n12_ n13_ n14_; clear hb hbox hg; have hnb77 := NB177_160.out; have hnc77 := NB160_177.out; have hnb78 := NB177_161.out; have hnc78 := NB161_177.out; have hnb79 := NB177_176.out; have hnc79 := NB176_177.out; have hcz80_0 : w76.cell? ⟨gb177, 0, none⟩ = some (.slice none 0 0) := (blk_cell BK177.out 0).trans rfl; have hcz80_1 : w76.cell? ⟨gb177, 1, none⟩ = some (.bool false) := (blk_cell BK177.out 1).trans rfl; have hcz80_2 : w76.cell? ⟨gb177, 2, none⟩ = some (.int .i64 0) := (blk_cell BK177.out 2).trans rfl; have hcz80_3 : w76.cell? ⟨gb177, 3, none⟩ = some (.int .i64 0) := (blk_cell BK177.out 3).trans rfl; have hcz80_4 : w76.cell? ⟨gb177, 4, none⟩ = some (.bool false) := (blk_cell BK177.out 4).trans rfl; have hcz80_5 : w76.cell? ⟨gb177, 5, none⟩ = some (.int .i64 0) := (blk_cell BK177.out 5).trans rfl; have hfz80_0 := blk_frozen BK177.out 0; have hfz80_1 := blk_frozen BK177.out 1; have hfz80_2 := blk_frozen BK177.out 2; have hfz80_3 := blk_frozen BK177.out 3; have hfz80_4 := blk_frozen BK177.out 4; have hfz80_5 := blk_frozen BK177.out 5; have hnb81 := NB160_161.out; have hnc81 := NB161_160.out; have hcz82_0 : w76.cell? ⟨gb160, 0, none⟩ = some (.slice none 0 0) := (blk_cell BK160.out 0).trans rfl; have hcz82_1 : w76.cell? ⟨gb160, 1, none⟩ = some (.bool false) := (blk_cell BK160.out 1).trans rfl; have hcz82_2 : w76.cell? ⟨gb160, 2, none⟩ = some (.int .i64 0) := (blk_cell BK160.out 2).trans rfl; have hcz82_3 : w76.cell? ⟨gb160, 3, none⟩ = some (.int .i64 0) := (blk_cell BK160.out 3).trans rfl; have hcz82_4 : w76.cell? ⟨gb160, 4, none⟩ = some (.bool false) := (blk_cell BK160.out 4).trans rfl; have hcz82_5 : w76.cell? ⟨gb160, 5, none⟩ = some (.int .i64 0) := (blk_cell BK160.out 5).trans rfl; have hfz82_0 := blk_frozen BK160.out 0; have hfz82_1 := blk_frozen BK160.out 1; have hfz82_2 := blk_frozen BK160.out 2; have hfz82_3 := blk_frozen BK160.out 3; have hfz82_4 := blk_frozen BK160.out 4; have hfz82_5 := blk_frozen BK160.out 5))
            refine bodyPost_ret (results_ct rfl _ _ gb160 34 #[.slice Ao28 t166.length co28, .bool t173, .int .i64 t174, .int .i64 0, .bool false, .int .i64 0] (0, 0) _ rfl (by (with_reducible repeat (first | refine blk_drewN ?_ _ | refine blk_drew ?_ | refine blk_alloc ?_ _)); refine blk_put (cs := #[.slice Ao28 t166.length co28, .bool t173, .int .i64 t174, .int .i64 0, .bool false, .int .i64 0]) ?_ 5 _ rfl; (with_reducible repeat (first | refine blk_drewN ?_ _ | refine blk_drew ?_ | refine blk_alloc ?_ _)); refine blk_put (cs := #[.slice Ao28 t166.length co28, .bool t173, .int .i64 t174, .int .i64 0, .bool false, .int .i64 0]) ?_ 4 _ rfl; (with_reducible repeat (first | refine blk_drewN ?_ _ | refine blk_drew ?_ | refine blk_alloc ?_ _)); refine blk_put (cs := #[.slice Ao28 t166.length co28, .bool t173, .int .i64 t174, .int .i64 0, .bool false, .int .i64 0]) ?_ 3 _ rfl; (with_reducible repeat (first | refine blk_drewN ?_ _ | refine blk_drew ?_ | refine blk_alloc ?_ _)); refine blk_put (cs := #[.slice Ao28 t166.length co28, .bool t173, .int .i64 0, .int .i64 0, .bool false, .int .i64 0]) ?_ 2 _ rfl; (with_reducible repeat (first | refine blk_drewN ?_ _ | refine blk_drew ?_ | refine blk_alloc ?_ _)); refine blk_put (cs := #[.slice Ao28 t166.length co28, .bool false, .int .i64 0, .int .i64 0, .bool false, .int .i64 0]) ?_ 1 _ rfl; (with_reducible repeat (first | refine blk_drewN ?_ _ | refine blk_drew ?_ | refine blk_alloc ?_ _)); refine blk_put (cs := #[.slice none 0 0, .bool false, .int .i64 0, .int .i64 0, .bool false, .int .i64 0]) ?_ 0 _ rfl; (with_reducible repeat (first | refine blk_drewN ?_ _ | refine blk_drew ?_ | refine blk_alloc ?_ _)); refine blk_far ?_ NB160_177.out _; (with_reducible repeat (first | refine blk_drewN ?_ _ | refine blk_drew ?_ | refine blk_alloc ?_ _)); refine blk_far ?_ NB160_177.out _; (with_reducible repeat (first | refine blk_drewN ?_ _ | refine blk_drew ?_ | refine blk_alloc ?_ _)); refine blk_far ?_ NB160_177.out _; (with_reducible repeat (first | refine blk_drewN ?_ _ | refine blk_drew ?_ | refine blk_alloc ?_ _)); refine blk_far ?_ NB160_177.out _; (with_reducible repeat (first | refine blk_drewN ?_ _ | refine blk_drew ?_ | refine blk_alloc ?_ _)); refine blk_far ?_ NB160_177.out _; (with_reducible repeat (first | refine blk_drewN ?_ _ | refine blk_drew ?_ | refine blk_alloc ?_ _)); refine blk_far ?_ NB160_177.out _; (with_reducible repeat (first | refine blk_drewN ?_ _ | refine blk_drew ?_ | refine blk_alloc ?_ _)); exact BK160.out) Tryz.underlying34 rfl (by kernel_rfl)) rfl ?_
            exact ⟨_, by first | rfl | (simp [errW_none, errW_some] <;> rfl) | (simp [*, errW_none, errW_some] <;> rfl), by (with_reducible repeat (first | apply Kd.R_alloc | apply Kd.R_drewN | apply Kd.R_drew)); exact Kd.R_mono (Kd.R_far (p := ⟨gb160, 5, none⟩) (Kd.R_far (p := ⟨gb160, 4, none⟩) (Kd.R_far (p := ⟨gb160, 3, none⟩) (Kd.R_far (p := ⟨gb160, 2, none⟩) (Kd.R_far (p := ⟨gb160, 1, none⟩) (Kd.R_far (p := ⟨gb160, 0, none⟩) (Kd.R_far (p := ⟨gb177, 5, none⟩) (Kd.R_far (p := ⟨gb177, 4, none⟩) (Kd.R_far (p := ⟨gb177, 3, none⟩) (Kd.R_far (p := ⟨gb177, 2, none⟩) (Kd.R_far (p := ⟨gb177, 1, none⟩) (Kd.R_far (p := ⟨gb177, 0, none⟩) (Kd.R_types (Kd.R_types HO_6.out BK177.out (by decide)) BK160.out (by decide)) (fun _ hk => hk.1.2) (.slice Ao28 t166.length co28)) (fun _ hk => hk.1.2) (.bool t173)) (fun _ hk => hk.1.2) (.int .i64 t174)) (fun _ hk => hk.1.2) (.int .i64 0)) (fun _ hk => hk.1.2) (.bool false)) (fun _ hk => hk.1.2) (.int .i64 0)) (fun _ hk => hk.2) (.slice Ao28 t166.length co28)) (fun _ hk => hk.2) (.bool t173)) (fun _ hk => hk.2) (.int .i64 t174)) (fun _ hk => hk.2) (.int .i64 0)) (fun _ hk => hk.2) (.bool false)) (fun _ hk => hk.2) (.int .i64 0)) (fun _ hk => trivial), by repeat (first | (with_reducible first | exact HB.out | apply below_alloc | apply pw_below_drewN | apply below_drew1 | refine below_set ?_ GE160.out | refine below_set ?_ GE161.out | refine below_set ?_ GE176.out | refine below_set ?_ GE177.out) | exact HB.out)⟩
          ·rw [if_neg c37] at H
           have c37b0 : (t175 == 0) = false := beq_eq_false_iff_ne.mpr c37
           have c37b1 : (t175 != 0) = true := bne_iff_ne.mpr c37
           simp only [Option.some.injEq, Prod.mk.injEq] at H
           obtain ⟨rfl, rfl, rfl, rfl, rfl, rfl, rfl⟩ := H
           have p172 : 0 ≤ (1 : Int) := (by omega)
           have q172 : 1 < (t162.length : Int) := of_decide_eq_true (by first | (with_reducible assumption) | assumption)
           obtain ⟨ad172, e172, hx172_0⟩ := Kd.at_string (Kd.R_reads' HO_5.out).2.2 1 p172 q172
           obtain rfl : ad165 = ad172 := (by injection e172)
           (try simp only [show (1 : Int).toNat = 1 from rfl, Nat.reduceMul, Nat.reduceEqDiff, Go.Addr.add, ↓reduceIte] at hx172_0)
           have qi172 : (1 < t162.length) = True := eq_true (by omega)
           (try rw [show ((1 : Int)).toNat = 1 from rfl] at hx172_0)
           replace p172 := eq_true p172
           replace q172 := eq_true q172
           go_wp2_with (first | ((with_reducible refine gate_callee (f := 37) rfl ?_); refine goesL_ (some 51) rfl rfl Tryz.func37 (by kernel_rfl) rfl #[.string (rdOf ByteArray.empty t162 1)] rfl (by (try simp only [List.map_toArray, List.map_cons, List.map_nil]); first | done | rfl | (simp only [List.length_drop, List.length_take]; rfl)) ?_; (with_reducible refine (fix_Parse.calls kj24 (rdOf ByteArray.empty t162 1) t173 t174 t175 _ ?side1 A36.out).mono ?_); (case side1 => exact LaidW.below HLW.out (by repeat (first | (with_reducible first | exact HB.out | apply below_alloc | apply pw_below_drewN | apply below_drew1) | exact HB.out | (refine below_set ?_ (Aside0.out ?hge); (case hge => assumption))))); rintro e w83 ⟨rfl, hb⟩; refine ⟨_, rfl, ?_⟩; have n0_ := Aside0.mk (Kd.R_below (by (with_reducible repeat (first | apply Kd.R_alloc | apply Kd.R_drewN | apply Kd.R_drew)); exact HO_5.out) hb); have n1_ := Aside0.mk (Kd.R_below (by (with_reducible repeat (first | apply Kd.R_alloc | apply Kd.R_drewN | apply Kd.R_drew)); exact HO_6.out) hb); have n2_ := Aside0.mk (blk_below (g := gb160) (o := .cells #[.slice none 0 0, .bool false, .int .i64 0, .int .i64 0, .bool false, .int .i64 0] 34 (0, 0)) (by (with_reducible repeat (first | refine blk_drewN ?_ _ | refine blk_drew ?_ | refine blk_alloc ?_ _)); exact BK160.out) hb); have n3_ := Aside0.mk (blk_below (g := gb161) (o := .cells #[.slice none 0 0, .bool false, .int .i64 0, .int .i64 0, .bool false, .int .i64 0] 34 (0, 0)) (by (with_reducible repeat (first | refine blk_drewN ?_ _ | refine blk_drew ?_ | refine blk_alloc ?_ _)); exact BK161.out) hb); have n4_ := Aside0.mk (below_step (by repeat (first | (with_reducible first | exact HB.out | apply below_alloc | apply pw_below_drewN | apply below_drew1 | refine below_set ?_ GE160.out | refine below_set ?_ GE161.out) | exact HB.out)) hb); clear HO_5; clear HO_6; clear BK160; clear BK161; clear HB; have HO_5 := n0_; have HO_6 := n1_; have BK160 := n2_; have BK161 := n3_; have HB := n4_; clear n0_ n1_ n2_ n3_ n4_; (try clear hb); (try clear hb2); (try clear hk); (try clear hi)) | ((with_reducible refine gate_dst (N := 10) rfl ?_); (try (refine gate_guard (by rfl) ?_; dsimp only)); refine box_event ?hg (N := 10) ?hd (cs := #[.bool false, .int .i64 0]) (t := 32) ?hr ?_; (case hd => rfl); (case hg => rfl); (case hr => first | (go_simp; done) | (go_simp; rfl)); intro gb176 hg w84 hbox hb; have n0_ := Aside0.mk (Kd.R_below (by (with_reducible repeat (first | apply Kd.R_alloc | apply Kd.R_drewN | apply Kd.R_drew)); exact HO_5.out) hb); have n1_ := Aside0.mk (Kd.R_below (by (with_reducible repeat (first | apply Kd.R_alloc | apply Kd.R_drewN | apply Kd.R_drew)); exact HO_6.out) hb); have n2_ := Aside0.mk (blk_below (g := gb160) (o := .cells #[.slice none 0 0, .bool false, .int .i64 0, .int .i64 0, .bool false, .int .i64 0] 34 (0, 0)) (by (with_reducible repeat (first | refine blk_drewN ?_ _ | refine blk_drew ?_ | refine blk_alloc ?_ _)); exact BK160.out) hb); have n3_ := Aside0.mk (blk_below (g := gb161) (o := .cells #[.slice none 0 0, .bool false, .int .i64 0, .int .i64 0, .bool false, .int .i64 0] 34 (0, 0)) (by (with_reducible repeat (first | refine blk_drewN ?_ _ | refine blk_drew ?_ | refine blk_alloc ?_ _)); exact BK161.out) hb); have n4_ := Aside0.mk (below_step (by repeat (first | (with_reducible first | exact HB.out | apply below_alloc | apply pw_below_drewN | apply below_drew1 | refine below_set ?_ GE160.out | refine below_set ?_ GE161.out) | exact HB.out)) hb); have n5_ := Aside0.mk (hbox); have n6_ := Aside0.mk ((by rw [hg]; exact (below_size (by repeat (first | (with_reducible first | exact HB.out | apply below_alloc | apply pw_below_drewN | apply below_drew1 | refine below_set ?_ GE160.out | refine below_set ?_ GE161.out) | exact HB.out))) : w.heap.size ≤ gb176)); have n7_ := Aside0.mk ((by rw [hg]; exact (below_size (by repeat (first | (with_reducible first | exact HB.out | apply below_alloc | apply pw_below_drewN | apply below_drew1 | refine below_set ?_ GE160.out | refine below_set ?_ GE161.out) | exact HB.out))) : w.heap.size ≤ gb176)); have n8_ := Aside0.mk ((by rw [hg]; exact Nat.ne_of_lt (blk_lt (g := gb160) (o := .cells #[.slice none 0 0, .bool false, .int .i64 0, .int .i64 0, .bool false, .int .i64 0] 34 (0, 0)) (by (with_reducible repeat (first | refine blk_drewN ?_ _ | refine blk_drew ?_ | refine blk_alloc ?_ _)); exact BK160.out)) : gb160 ≠ gb176)); have n9_ := Aside0.mk ((by rw [hg]; exact Nat.ne_of_gt (blk_lt (g := gb160) (o := .cells #[.slice none 0 0, .bool false, .int .i64 0, .int .i64 0, .bool false, .int .i64 0] 34 (0, 0)) (by (with_reducible repeat (first | refine blk_drewN ?_ _ | refine blk_drew ?_ | refine blk_alloc ?_ _)); exact BK160.out)) : gb176 ≠ gb160)); have n10_ := Aside0.mk ((by rw [hg]; exact Nat.ne_of_lt (blk_lt (g := gb161) (o := .cells #[.slice none 0 0, .bool false, .int .i64 0, .int .i64 0, .bool false, .int .i64 0] 34 (0, 0)) (by (with_reducible repeat (first | refine blk_drewN ?_ _ | refine blk_drew ?_ | refine blk_alloc ?_ _)); exact BK161.out)) : gb161 ≠ gb176)); have n11_ := Aside0.mk ((by rw [hg]; exact Nat.ne_of_gt (blk_lt (g := gb161) (o := .cells #[.slice none 0 0, .bool false, .int .i64 0, .int .i64 0, .bool false, .int .i64 0] 34 (0, 0)) (by (with_reducible repeat (first | refine blk_drewN ?_ _ | refine blk_drew ?_ | refine blk_alloc ?_ _)); exact BK161.out)) : gb176 ≠ gb161)); clear HO_5; clear HO_6; clear BK160; clear BK161; clear HB; have HO_5 := n0_; have HO_6 := n1_; have BK160 := n2_; have BK161 := n3_; have HB := n4_; have BK176 := n5_; have GW176 := n6_; have GE176 := n7_; have NB160_176 := n8_; have NB176_160 := n9_; have NB161_176 := n10_; have NB176_161 := n11_; clear n0_ n1_ n2_ n3_ n4_ n5_ n6_ n7_ n8_ n9_ n10_ n11_; clear hb hbox hg; have hnb85 := NB176_160.out; have hnc85 := NB160_176.out; have hnb86 := NB176_161.out; have hnc86 := NB161_176.out; have hcz87_0 : w84.cell? ⟨gb176, 0, none⟩ = some (.bool false) := (blk_cell BK176.out 0).trans rfl; have hcz87_1 : w84.cell? ⟨gb176, 1, none⟩ = some (.int .i64 0) := (blk_cell BK176.out 1).trans rfl; have hfz87_0 := blk_frozen BK176.out 0; have hfz87_1 := blk_frozen BK176.out 1; have hnb88 := NB161_160.out; have hnc88 := NB160_161.out; have hcz89_0 : w84.cell? ⟨gb161, 0, none⟩ = some (.slice none 0 0) := (blk_cell BK161.out 0).trans rfl; have hcz89_1 : w84.cell? ⟨gb161, 1, none⟩ = some (.bool false) := (blk_cell BK161.out 1).trans rfl; have hcz89_2 : w84.cell? ⟨gb161, 2, none⟩ = some (.int .i64 0) := (blk_cell BK161.out 2).trans rfl; have hcz89_3 : w84.cell? ⟨gb161, 3, none⟩ = some (.int .i64 0) := (blk_cell BK161.out 3).trans rfl; have hcz89_4 : w84.cell? ⟨gb161, 4, none⟩ = some (.bool false) := (blk_cell BK161.out 4).trans rfl; have hcz89_5 : w84.cell? ⟨gb161, 5, none⟩ = some (.int .i64 0) := (blk_cell BK161.out 5).trans rfl; have hfz89_0 := blk_frozen BK161.out 0; have hfz89_1 := blk_frozen BK161.out 1; have hfz89_2 := blk_frozen BK161.out 2; have hfz89_3 := blk_frozen BK161.out 3; have hfz89_4 := blk_frozen BK161.out 4; have hfz89_5 := blk_frozen BK161.out 5; have hcz90_0 : w84.cell? ⟨gb160, 0, none⟩ = some (.slice none 0 0) := (blk_cell BK160.out 0).trans rfl; have hcz90_1 : w84.cell? ⟨gb160, 1, none⟩ = some (.bool false) := (blk_cell BK160.out 1).trans rfl; have hcz90_2 : w84.cell? ⟨gb160, 2, none⟩ = some (.int .i64 0) := (blk_cell BK160.out 2).trans rfl; have hcz90_3 : w84.cell? ⟨gb160, 3, none⟩ = some (.int .i64 0) := (blk_cell BK160.out 3).trans rfl; have hcz90_4 : w84.cell? ⟨gb160, 4, none⟩ = some (.bool false) := (blk_cell BK160.out 4).trans rfl; have hcz90_5 : w84.cell? ⟨gb160, 5, none⟩ = some (.int .i64 0) := (blk_cell BK160.out 5).trans rfl; have hfz90_0 := blk_frozen BK160.out 0; have hfz90_1 := blk_frozen BK160.out 1; have hfz90_2 := blk_frozen BK160.out 2; have hfz90_3 := blk_frozen BK160.out 3; have hfz90_4 := blk_frozen BK160.out 4; have hfz90_5 := blk_frozen BK160.out 5))
           refine bodyPost_ret (results_ct rfl _ _ gb160 34 #[.slice none 0 0, .bool false, .int .i64 0, .int .i64 0, .bool false, .int .i64 0] (0, 0) _ rfl (by (with_reducible repeat (first | refine blk_drewN ?_ _ | refine blk_drew ?_ | refine blk_alloc ?_ _)); refine blk_put (cs := #[.slice none 0 0, .bool false, .int .i64 0, .int .i64 0, .bool false, .int .i64 0]) ?_ 5 _ rfl; (with_reducible repeat (first | refine blk_drewN ?_ _ | refine blk_drew ?_ | refine blk_alloc ?_ _)); refine blk_put (cs := #[.slice none 0 0, .bool false, .int .i64 0, .int .i64 0, .bool false, .int .i64 0]) ?_ 4 _ rfl; (with_reducible repeat (first | refine blk_drewN ?_ _ | refine blk_drew ?_ | refine blk_alloc ?_ _)); refine blk_put (cs := #[.slice none 0 0, .bool false, .int .i64 0, .int .i64 0, .bool false, .int .i64 0]) ?_ 3 _ rfl; (with_reducible repeat (first | refine blk_drewN ?_ _ | refine blk_drew ?_ | refine blk_alloc ?_ _)); refine blk_put (cs := #[.slice none 0 0, .bool false, .int .i64 0, .int .i64 0, .bool false, .int .i64 0]) ?_ 2 _ rfl; (with_reducible repeat (first | refine blk_drewN ?_ _ | refine blk_drew ?_ | refine blk_alloc ?_ _)); refine blk_put (cs := #[.slice none 0 0, .bool false, .int .i64 0, .int .i64 0, .bool false, .int .i64 0]) ?_ 1 _ rfl; (with_reducible repeat (first | refine blk_drewN ?_ _ | refine blk_drew ?_ | refine blk_alloc ?_ _)); refine blk_put (cs := #[.slice none 0 0, .bool false, .int .i64 0, .int .i64 0, .bool false, .int .i64 0]) ?_ 0 _ rfl; (with_reducible repeat (first | refine blk_drewN ?_ _ | refine blk_drew ?_ | refine blk_alloc ?_ _)); refine blk_far ?_ NB160_176.out _; (with_reducible repeat (first | refine blk_drewN ?_ _ | refine blk_drew ?_ | refine blk_alloc ?_ _)); refine blk_far ?_ NB160_176.out _; (with_reducible repeat (first | refine blk_drewN ?_ _ | refine blk_drew ?_ | refine blk_alloc ?_ _)); exact BK160.out) Tryz.underlying34 rfl (by kernel_rfl)) rfl ?_
           exact ⟨_, by first | rfl | (simp [errW_none, errW_some] <;> rfl) | (simp [*, errW_none, errW_some] <;> rfl), by first | exact Kd.R_nil _ _ _ _ _ | exact Kd.N_nil _ _ _ _ _ | exact Kd.V_nil _ _ _ _ _ | exact Kd.Q_nil _ _ _ _ _ | exact Kd.S_nil _ _ _ _ _, by repeat (first | (with_reducible first | exact HB.out | apply below_alloc | apply pw_below_drewN | apply below_drew1 | refine below_set ?_ GE160.out | refine below_set ?_ GE161.out | refine below_set ?_ GE176.out) | exact HB.out)⟩
         ·rw [if_neg c35] at H
          exact absurd H (by simp)
     ·rw [if_neg c22] at H
      exact absurd H (by simp)

end Go.Proofs.YtfgffjchphignaaGreatDoor.Print
end

section
namespace Go.Proofs.YtfgffjchphignaaGreatDoor.PureN
open Go.RowKit Go.Proofs.YtfgffjchphignaaGreatDoor.Print

/-! Scraped text, in plain Lean: a line's words, a body's lines. -/
def wordsS (q : Bool) (cur : List UInt8) : List UInt8 → List (List UInt8)
 | [] => [cur]
 | [c] => if c = 34 then [cur ++ [c]] else if c = 32 ∧ q = false then [cur, []] else [cur ++ [c]]
 | c :: d :: r =>
  if q = true ∧ c = 92 then wordsS q (cur ++ [c, d]) r
  else if c = 34 then wordsS (!q) (cur ++ [c]) (d :: r)
  else if c = 32 ∧ q = false then cur :: wordsS q [] (d :: r)
  else wordsS q (cur ++ [c]) (d :: r)
def linesS (cur : List UInt8) : List UInt8 → List (List UInt8)
 | [] => [cur]
 | c :: r => if c = 10 then cur :: linesS [] r else linesS (cur ++ [c]) r
theorem words_34 (q : Bool) (cur r : List UInt8) (h : q = true ∨ q = false) : wordsS q cur (34 :: r) = wordsS (!q) (cur ++ [34]) r := by
 cases r with
 | nil => simp [wordsS]
 | cons d r => rw [wordsS, if_neg (by simp), if_pos rfl]
theorem words_32 (cur r : List UInt8) : wordsS false cur (32 :: r) = cur :: wordsS false [] r := by
 cases r with
 | nil => simp [wordsS]
 | cons d r => rw [wordsS, if_neg (by simp), if_neg (by decide), if_pos ⟨rfl, rfl⟩]
theorem words_esc (cur r : List UInt8) (d : UInt8) : wordsS true cur (92 :: d :: r) = wordsS true (cur ++ [92, d]) r := by
 rw [wordsS, if_pos ⟨rfl, rfl⟩]
theorem words_ord (q : Bool) (cur r : List UInt8) (c : UInt8) (h1 : c ≠ 34) (h2 : q = true → c ≠ 92) (h3 : q = false → c ≠ 32) : wordsS q cur (c :: r) = wordsS q (cur ++ [c]) r := by
 cases r with
 | nil =>
  show (if c = 34 then [cur ++ [c]] else if c = 32 ∧ q = false then [cur, []] else [cur ++ [c]]) = [cur ++ [c]]
  rw [if_neg h1, if_neg (fun h => h3 h.2 h.1)]
 | cons d r => rw [wordsS, if_neg (fun h => h2 h.1 h.2), if_neg h1, if_neg (fun h => h3 h.2 h.1)]
end Go.Proofs.YtfgffjchphignaaGreatDoor.PureN
end

section
namespace Go.Proofs.YtfgffjchphignaaGreatDoor.Pure
open Go.RowKit Go.Proofs.YtfgffjchphignaaGreatDoor.Print Go.Proofs.YtfgffjchphignaaGreatDoorW.PrintWords Go.Proofs.YtfgffjchphignaaGreatDoorW.PrintLast Go.Proofs.YtfgffjchphignaaGreatDoorW.PrintMore

/-! Division of two words by one, after Knuth: math/bits.Div64. -/
theorem kn_test {q y1 y0 u u1 r : Int} (h : q * y1 + r = u) : r * 4294967296 + u1 < q * y0 ↔ u * 4294967296 + u1 < q * (y1 * 4294967296 + y0) := by
 have e : q * (y1 * 4294967296 + y0) = (q * y1) * 4294967296 + q * y0 := by rw [Int.mul_add, Int.mul_assoc]
 rw [e]
 generalize q * y1 = a at *
 generalize q * y0 = c
 omega
theorem kn_gt {q y N : Int} (hy : 0 < y) : N < q * y ↔ N / y < q := (Int.ediv_lt_iff_lt_mul hy).symm
theorem kn_top {u y u1 : Int} (hu0 : 0 ≤ u) (hu : u < y) (h0 : 0 ≤ u1) (h1 : u1 < 4294967296) : 0 ≤ (u * 4294967296 + u1) / y ∧ (u * 4294967296 + u1) / y < 4294967296 :=
 ⟨Int.ediv_nonneg (by omega) (by omega), (Int.ediv_lt_iff_lt_mul (by omega)).2 (by omega)⟩
theorem kn_le {u y1 y0 u1 : Int} (hy1 : 0 < y1) (hy0 : 0 ≤ y0) (hu : 0 ≤ u) (h0 : 0 ≤ u1) (h1 : u1 < 4294967296) : (u * 4294967296 + u1) / (y1 * 4294967296 + y0) ≤ u / y1 := by
 rw [Int.le_ediv_iff_mul_le hy1]
 have hq : 0 ≤ (u * 4294967296 + u1) / (y1 * 4294967296 + y0) := Int.ediv_nonneg (by omega) (by omega)
 have hm := (Int.le_ediv_iff_mul_le (show 0 < y1 * 4294967296 + y0 by omega)).1 (Int.le_refl ((u * 4294967296 + u1) / (y1 * 4294967296 + y0)))
 generalize (u * 4294967296 + u1) / (y1 * 4294967296 + y0) = q at *
 have e : q * (y1 * 4294967296 + y0) = (q * y1) * 4294967296 + q * y0 := by rw [Int.mul_add, Int.mul_assoc]
 rw [e] at hm
 have h2 := Int.mul_nonneg hq hy0
 generalize q * y1 = a at *
 generalize q * y0 = c at *
 omega
theorem kn_hat {u y1 y0 : Int} (hy1 : 2147483648 ≤ y1) (h1 : y0 < 4294967296) (hu : u < y1 * 4294967296 + y0) : u / y1 ≤ 4294967297 := by
 have : u / y1 < 4294967298 := (Int.ediv_lt_iff_lt_mul (by omega)).2 (by omega)
 omega
/-- The test of a round asks whether the digit is still too great. -/
theorem kn_bool {q r u u1 y1 y0 : Int} (hy1 : 2147483648 ≤ y1) (hy0 : 0 ≤ y0) (hy02 : y0 < 4294967296) (hu0 : 0 ≤ u1) (hu1 : u1 < 4294967296) (hr0 : 0 ≤ r) (hr : r < 4294967296) (hq0 : 0 ≤ q) (hq : q < 4294967296) (h : q * y1 + r = u) :
  decide (IntKind.u64.wrap (q * y0) > IntKind.u64.wrap (IntKind.u64.wrap (4294967296 * r) + u1)) = decide ((u * 4294967296 + u1) / (y1 * 4294967296 + y0) < q) := by
 have b1 : q * y0 ≤ 4294967295 * 4294967295 := Int.mul_le_mul (by omega) (by omega) hy0 (by omega)
 have b0 := Int.mul_nonneg hq0 hy0
 have e := (kn_test (y0 := y0) (u1 := u1) h).trans (kn_gt (show 0 < y1 * 4294967296 + y0 by omega))
 rw [IntKind.wrap_u64, IntKind.wrap_u64, IntKind.wrap_u64]
 rw [show q * y0 % 18446744073709551616 = q * y0 by omega, show (4294967296 * r % 18446744073709551616 + u1) % 18446744073709551616 = r * 4294967296 + u1 by omega]
 exact decide_eq_decide.2 e
/-- Where the rest is past one word, the digit isn't too great. -/
theorem kn_end {q r u u1 y1 y0 : Int} (hy1 : 0 < y1) (hy0 : 0 ≤ y0) (hy02 : y0 < 4294967296) (hu0 : 0 ≤ u1) (hr : 4294967296 ≤ r) (hq0 : 0 ≤ q) (hq : q ≤ 4294967296) (h : q * y1 + r = u) : q ≤ (u * 4294967296 + u1) / (y1 * 4294967296 + y0) := by
 have e := (kn_test (y0 := y0) (u1 := u1) h).trans (kn_gt (show 0 < y1 * 4294967296 + y0 by omega))
 have b1 : q * y0 ≤ 4294967296 * 4294967295 := Int.mul_le_mul hq (by omega) hy0 (by omega)
 have : ¬ (u * 4294967296 + u1) / (y1 * 4294967296 + y0) < q := fun c => by
  have := e.2 c
  omega
 omega
theorem div_l0 (s u u1 y1 y0 un0 : Int) (hy1 : 2147483648 ≤ y1) (hy12 : y1 < 4294967296) (hy0 : 0 ≤ y0) (hy02 : y0 < 4294967296) (hu : 0 ≤ u) (hu2 : u < y1 * 4294967296 + y0) (hu0 : 0 ≤ u1) (hu1 : u1 < 4294967296) (d : Nat) :
  ∀ (k : Nat) (q r : Int), 4294967296 ≤ r + d * 2147483648 → 0 ≤ r → r < 4294967296 → q * y1 + r = u → (u * 4294967296 + u1) / (y1 * 4294967296 + y0) ≤ q → q ≤ 4294967297 → 2 * d < k →
   ∃ m, k ≤ m + 2 * d ∧ bits_Div64.l0 k (y1 * 4294967296 + y0) s y1 y0 u u1 un0 q r = bits_Div64.j2 m (y1 * 4294967296 + y0) s y1 y0 u u1 un0 ((u * 4294967296 + u1) / (y1 * 4294967296 + y0)) := by
 induction d with
 | zero => intro k q r h1 h2 h3; omega
 | succ d ih =>
  intro k q r h1 h2 h3 h4 h5 h6 hk
  obtain ⟨k, rfl⟩ : ∃ m, k = m + 2 := ⟨k - 2, by omega⟩
  have ht := kn_top hu hu2 hu0 hu1
  have ke := fun (hc : (u * 4294967296 + u1) / (y1 * 4294967296 + y0) < q) c => kn_end (q := q - 1) (r := r + y1) (u := u) (u1 := u1) (y1 := y1) (y0 := y0) (by omega) hy0 hy02 hu0 c (by omega) (by omega) (by rw [Int.sub_mul]; omega)
  have e1 : bits_Div64.l0 (k + 2) (y1 * 4294967296 + y0) s y1 y0 u u1 un0 q r = bits_Div64.j1 (k + 1) (y1 * 4294967296 + y0) s y1 y0 u u1 un0 q r (decide ((u * 4294967296 + u1) / (y1 * 4294967296 + y0) < q)) := by
   simp only [bits_Div64.l0]
   by_cases c : q ≥ 4294967296
   ·rw [if_pos c, show decide ((u * 4294967296 + u1) / (y1 * 4294967296 + y0) < q) = true from decide_eq_true (by omega)]
   ·rw [if_neg c, kn_bool hy1 hy0 hy02 hu0 hu1 h2 h3 (by omega) (by omega) h4]
  rw [e1]
  generalize (u * 4294967296 + u1) / (y1 * 4294967296 + y0) = Q at *
  simp only [bits_Div64.j1]
  by_cases c : Q < q
  ·rw [decide_eq_true c, if_pos rfl]
   have w1 : IntKind.u64.wrap (r + y1) = r + y1 := by rw [IntKind.wrap_u64]; omega
   have w2 : IntKind.u64.wrap (q - 1) = q - 1 := by rw [IntKind.wrap_u64]; omega
   rw [w1, w2]
   by_cases c2 : r + y1 ≥ 4294967296
   ·rw [if_pos c2]
    have := ke c c2
    obtain rfl : q = Q + 1 := by omega
    exact ⟨k, by omega, by rw [show Q + 1 - 1 = Q by omega]⟩
   ·rw [if_neg c2]
    obtain ⟨m, hm, e⟩ := ih k (q - 1) (r + y1) (by omega) (by omega) (by omega) (by rw [Int.sub_mul]; omega) (by omega) (by omega) (by omega)
    exact ⟨m, by omega, e⟩
  ·rw [decide_eq_false c, if_neg (by simp)]
   obtain rfl : q = Q := by omega
   exact ⟨k, by omega, rfl⟩
theorem div_l1 (s u u1 y1 y0 q1 : Int) (hs : 0 ≤ s) (hy1 : 2147483648 ≤ y1) (hy12 : y1 < 4294967296) (hy0 : 0 ≤ y0) (hy02 : y0 < 4294967296) (hu : 0 ≤ u) (hu2 : u < y1 * 4294967296 + y0) (hu0 : 0 ≤ u1) (hu1 : u1 < 4294967296) (d : Nat) :
  ∀ (k : Nat) (q r : Int), 4294967296 ≤ r + d * 2147483648 → 0 ≤ r → r < 4294967296 → q * y1 + r = u → (u * 4294967296 + u1) / (y1 * 4294967296 + y0) ≤ q → q ≤ 4294967297 → 2 * d < k →
   ∃ rem, bits_Div64.l1 k (y1 * 4294967296 + y0) s y1 y0 u1 q1 r u q = some (IntKind.u64.wrap (IntKind.u64.wrap (q1 * 4294967296) + (u * 4294967296 + u1) / (y1 * 4294967296 + y0)), rem) := by
 induction d with
 | zero => intro k q r h1 h2 h3; omega
 | succ d ih =>
  intro k q r h1 h2 h3 h4 h5 h6 hk
  obtain ⟨k, rfl⟩ : ∃ m, k = m + 2 := ⟨k - 2, by omega⟩
  have ht := kn_top hu hu2 hu0 hu1
  have ke := fun (hc : (u * 4294967296 + u1) / (y1 * 4294967296 + y0) < q) c => kn_end (q := q - 1) (r := r + y1) (u := u) (u1 := u1) (y1 := y1) (y0 := y0) (by omega) hy0 hy02 hu0 c (by omega) (by omega) (by rw [Int.sub_mul]; omega)
  have e1 : bits_Div64.l1 (k + 2) (y1 * 4294967296 + y0) s y1 y0 u1 q1 r u q = bits_Div64.j4 (k + 1) (y1 * 4294967296 + y0) s y1 y0 u1 q1 r u q (decide ((u * 4294967296 + u1) / (y1 * 4294967296 + y0) < q)) := by
   simp only [bits_Div64.l1]
   by_cases c : q ≥ 4294967296
   ·rw [if_pos c, show decide ((u * 4294967296 + u1) / (y1 * 4294967296 + y0) < q) = true from decide_eq_true (by omega)]
   ·rw [if_neg c, kn_bool hy1 hy0 hy02 hu0 hu1 h2 h3 (by omega) (by omega) h4]
  rw [e1]
  have ih := ih k (q - 1) (r + y1)
  generalize (u * 4294967296 + u1) / (y1 * 4294967296 + y0) = Q at *
  simp only [bits_Div64.j4]
  by_cases c : Q < q
  ·rw [decide_eq_true c, if_pos rfl]
   have w1 : IntKind.u64.wrap (r + y1) = r + y1 := by rw [IntKind.wrap_u64]; omega
   have w2 : IntKind.u64.wrap (q - 1) = q - 1 := by rw [IntKind.wrap_u64]; omega
   rw [w1, w2]
   by_cases c2 : r + y1 ≥ 4294967296
   ·rw [if_pos c2, if_pos hs]
    have := ke c c2
    obtain rfl : q = Q + 1 := by omega
    exact ⟨_, by rw [show Q + 1 - 1 = Q by omega]⟩
   ·rw [if_neg c2]
    exact ih (by omega) (by omega) (by omega) (by rw [Int.sub_mul]; omega) (by omega) (by omega) (by omega)
  ·rw [decide_eq_false c, if_neg (by simp), if_pos hs]
   obtain rfl : q = Q := by omega
   exact ⟨_, rfl⟩
/-- Both digits. -/
theorem div_two (k : Nat) (s u u1 u0 y1 y0 : Int) (hk : 20 < k) (hs : 0 ≤ s) (hy1 : 2147483648 ≤ y1) (hy12 : y1 < 4294967296) (hy0 : 0 ≤ y0) (hy02 : y0 < 4294967296) (hu : 0 ≤ u) (hu2 : u < y1 * 4294967296 + y0) (hu10 : 0 ≤ u1) (hu1 : u1 < 4294967296) (hu00 : 0 ≤ u0) (hu0 : u0 < 4294967296) :
  ∃ rem, bits_Div64.l0 k (y1 * 4294967296 + y0) s y1 y0 u u1 u0 (IntKind.u64.wrap (Int.tdiv u y1)) (IntKind.u64.wrap (u - IntKind.u64.wrap (IntKind.u64.wrap (Int.tdiv u y1) * y1))) =
   some ((u * 18446744073709551616 + u1 * 4294967296 + u0) / (y1 * 4294967296 + y0), rem) := by
 have start : ∀ u, 0 ≤ u → u < y1 * 4294967296 + y0 → IntKind.u64.wrap (Int.tdiv u y1) = u / y1 ∧ IntKind.u64.wrap (u - IntKind.u64.wrap (u / y1 * y1)) = u % y1 ∧ u / y1 * y1 + u % y1 = u ∧ 0 ≤ u % y1 ∧ u % y1 < y1 := by
  intro u hu hu2
  have h1 := kn_hat hy1 hy02 hu2
  have h0 : 0 ≤ u / y1 := Int.ediv_nonneg hu (by omega)
  have e := Int.mul_ediv_add_emod u y1
  have m0 := Int.emod_nonneg u (show y1 ≠ 0 by omega)
  have m1 := Int.emod_lt_of_pos u (show 0 < y1 by omega)
  rw [Int.mul_comm] at e
  have h2 := Int.mul_nonneg h0 (show 0 ≤ y1 by omega)
  rw [Int.tdiv_eq_ediv_of_nonneg hu, IntKind.wrap_u64, IntKind.wrap_u64, IntKind.wrap_u64]
  generalize u / y1 * y1 = p at *
  generalize u / y1 = a at *
  generalize u % y1 = b at *
  refine ⟨by omega, by omega, by omega, by omega, by omega⟩
 obtain ⟨a1, a2, a3, a4, a5⟩ := start u hu hu2
 rw [a1, a2]
 obtain ⟨m, hm, e⟩ := div_l0 s u u1 y1 y0 u0 hy1 hy12 hy0 hy02 hu hu2 hu10 hu1 2 k (u / y1) (u % y1) (by omega) a4 (by omega) a3 (kn_le (by omega) hy0 hu hu10 hu1) (kn_hat hy1 hy02 hu2) (by omega)
 rw [e]
 have ht := kn_top hu hu2 hu10 hu1
 have hme := Int.mul_ediv_add_emod (u * 4294967296 + u1) (y1 * 4294967296 + y0)
 have m0 := Int.emod_nonneg (u * 4294967296 + u1) (show y1 * 4294967296 + y0 ≠ 0 by omega)
 have m1 := Int.emod_lt_of_pos (u * 4294967296 + u1) (show 0 < y1 * 4294967296 + y0 by omega)
 obtain ⟨Q, hQ⟩ : ∃ Q, (u * 4294967296 + u1) / (y1 * 4294967296 + y0) = Q := ⟨_, rfl⟩
 obtain ⟨v, hv⟩ : ∃ v, (u * 4294967296 + u1) % (y1 * 4294967296 + y0) = v := ⟨_, rfl⟩
 rw [hQ] at ht hme ⊢
 rw [hv] at hme m0 m1
 obtain ⟨m, rfl⟩ : ∃ n, m = n + 1 := ⟨m - 1, by omega⟩
 simp only [bits_Div64.j2]
 rw [if_neg (by omega)]
 have hyy : y1 * 4294967296 + y0 < 18446744073709551616 := by omega
 have g : IntKind.u64.wrap (IntKind.u64.wrap (IntKind.u64.wrap (u * 4294967296) + u1) - IntKind.u64.wrap (Q * (y1 * 4294967296 + y0))) = v := by
  rw [IntKind.wrap_u64, IntKind.wrap_u64, IntKind.wrap_u64, IntKind.wrap_u64]
  rw [Int.mul_comm] at hme
  generalize Q * (y1 * 4294967296 + y0) = p at *
  omega
 rw [g]
 obtain ⟨b1, b2, b3, b4, b5⟩ := start v m0 m1
 rw [b1, b2]
 obtain ⟨rem, e2⟩ := div_l1 s v u0 y1 y0 Q hs hy1 hy12 hy0 hy02 m0 m1 hu00 hu0 2 m (v / y1) (v % y1) (by omega) b4 (by omega) b3 (kn_le (by omega) hy0 m0 hu00 hu0) (kn_hat hy1 hy02 m1) (by omega)
 refine ⟨rem, ?_⟩
 rw [e2]
 congr 2
 have ht2 := kn_top m0 m1 hu00 hu0
 have fin : (u * 18446744073709551616 + u1 * 4294967296 + u0) / (y1 * 4294967296 + y0) = Q * 4294967296 + (v * 4294967296 + u0) / (y1 * 4294967296 + y0) := by
  have : u * 18446744073709551616 + u1 * 4294967296 + u0 = (v * 4294967296 + u0) + (Q * 4294967296) * (y1 * 4294967296 + y0) := by
   have e3 : (Q * 4294967296) * (y1 * 4294967296 + y0) = ((y1 * 4294967296 + y0) * Q) * 4294967296 := by rw [Int.mul_right_comm, Int.mul_comm Q]
   rw [e3]
   generalize (y1 * 4294967296 + y0) * Q = p at *
   omega
  rw [this, Int.add_mul_ediv_right _ _ (by omega)]
  omega
 rw [fin, IntKind.wrap_u64, IntKind.wrap_u64]
 generalize (v * 4294967296 + u0) / (y1 * 4294967296 + y0) = b at *
 omega
theorem and_mask {n : Int} (h1 : 0 ≤ n) (h2 : n < 18446744073709551616) : Go.bits .and .u64 n 4294967295 = n % 4294967296 := by
 have e2 : BitVec.ofInt 64 4294967295 = BitVec.ofNat 64 4294967295 := by decide
 have hz : (BitVec.ofInt 64 n &&& BitVec.ofNat 64 4294967295).toNat = (n % 18446744073709551616).toNat % 4294967296 := by
  rw [BitVec.toNat_and, BitVec.toNat_ofInt, BitVec.toNat_ofNat, show 4294967295 % 2 ^ 64 = 2 ^ 32 - 1 from rfl, Nat.and_two_pow_sub_one_eq_mod]
  rfl
 show IntKind.u64.wrap (((BitVec.ofInt 64 n &&& BitVec.ofInt 64 4294967295).toNat : Nat) : Int) = _
 rw [e2, hz, IntKind.wrap_u64]
 omega
theorem or_disj {a b : Nat} (s : Nat) (ha : a * 2 ^ s < 18446744073709551616) (hb : b < 2 ^ s) (hb2 : b < 18446744073709551616) (hs : a * 2 ^ s + b < 18446744073709551616) :
  Go.bits .or .u64 ((a * 2 ^ s : Nat) : Int) (b : Int) = ((a * 2 ^ s + b : Nat) : Int) := by
 have hz : (BitVec.ofInt 64 ((a * 2 ^ s : Nat) : Int) ||| BitVec.ofInt 64 (b : Int)).toNat = a * 2 ^ s + b := by
  rw [BitVec.toNat_or, BitVec.toNat_ofInt, BitVec.toNat_ofInt]
  have a1 : (((a * 2 ^ s : Nat) : Int) % ((2 ^ 64 : Nat) : Int)).toNat = a <<< s := by rw [Nat.shiftLeft_eq]; omega
  have a2 : ((b : Int) % ((2 ^ 64 : Nat) : Int)).toNat = b := by omega
  rw [a1, a2, ← Nat.shiftLeft_add_eq_or_of_lt hb, Nat.shiftLeft_eq]
 show IntKind.u64.wrap (((BitVec.ofInt 64 ((a * 2 ^ s : Nat) : Int) ||| BitVec.ofInt 64 (b : Int)).toNat : Nat) : Int) = _
 rw [hz, IntKind.wrap_u64]
 omega
theorem shl_nat (x s : Nat) (hs : s ≤ 64) : shl .u64 (x : Int) (s : Int) = ((x * 2 ^ s % 18446744073709551616 : Nat) : Int) := by
 unfold shl
 rw [IntKind.wrap_u64, Int.toNat_natCast, show IntKind.u64.bits = 64 from rfl, Nat.min_eq_left hs, Int.natCast_emod, Int.natCast_mul, Int.natCast_pow]
 rfl
theorem shr_nat (x s : Nat) (hs : s ≤ 64) : shr .u64 (x : Int) (s : Int) = ((x / 2 ^ s : Nat) : Int) := by
 unfold shr
 rw [Int.toNat_natCast, show IntKind.u64.bits = 64 from rfl, Nat.min_eq_left hs, Int.natCast_ediv, Int.natCast_pow]
 rfl
theorem div64 (k : Nat) (hi lo c : Int) (hk : 20 < k) (h0 : 0 ≤ hi) (h1 : hi < c) (c1 : c < 18446744073709551616) (l0 : 0 ≤ lo) (l1 : lo < 18446744073709551616) :
  ∃ rem, bits_Div64.f k hi lo c = some ((hi * 18446744073709551616 + lo) / c, rem) := by
 unfold bits_Div64.f
 rw [if_neg (by omega), if_neg (by omega)]
 by_cases z : hi = 0
 ·rw [if_pos z, z]
  refine ⟨Int.tmod lo c, ?_⟩
  congr 2
  rw [Int.tdiv_eq_ediv_of_nonneg l0, IntKind.wrap_u64]
  have a := Int.ediv_nonneg l0 (show 0 ≤ c by omega)
  have b : lo / c ≤ lo := Int.ediv_le_self _ l0
  rw [show (0 : Int) * 18446744073709551616 + lo = lo by omega]
  omega
 ·rw [if_neg z]
  unfold bits_LeadingZeros64.f
  rw [if_pos ⟨by omega, by omega⟩, Option.bind_some]
  obtain ⟨hi, rfl⟩ : ∃ n : Nat, hi = n := ⟨hi.toNat, by omega⟩
  obtain ⟨lo, rfl⟩ : ∃ n : Nat, lo = n := ⟨lo.toNat, by omega⟩
  obtain ⟨c, rfl⟩ : ∃ n : Nat, c = n := ⟨c.toNat, by omega⟩
  rw [Int.toNat_natCast]
  have hb : 1 ≤ Lib.bitLen c ∧ 2 ^ (Lib.bitLen c - 1) ≤ c ∧ c < 2 ^ Lib.bitLen c := Lib.bitLenAux_bounds 64 c (by omega) (by omega)
  have hb2 : Lib.bitLen c ≤ 64 := Lib.bitLen_le c 64 (by omega) (by omega)
  obtain ⟨b, hbb⟩ : ∃ b, Lib.bitLen c = b := ⟨_, rfl⟩
  rw [hbb] at hb hb2 ⊢
  obtain ⟨s, hs⟩ : ∃ s : Nat, s = 64 - b := ⟨_, rfl⟩
  have w1 : IntKind.u64.wrap (64 - (b : Int)) = (s : Int) := by rw [IntKind.wrap_u64]; omega
  have w2 : IntKind.u64.wrap (64 - (s : Int)) = (b : Int) := by rw [IntKind.wrap_u64]; omega
  rw [w1, w2, if_pos (by omega), if_pos (by omega), shl_nat c s (by omega), shl_nat hi s (by omega), shl_nat lo s (by omega), shr_nat lo b (by omega)]
  obtain ⟨hb0, hb1, hb3⟩ := hb
  have hP : 2 ^ b * 2 ^ s = 18446744073709551616 := by
   rw [← Nat.pow_add, show b + s = 64 by omega]
  have hP2 : 2 ^ (b - 1) * 2 ^ s = 9223372036854775808 := by
   rw [← Nat.pow_add, show b - 1 + s = 63 by omega]
  have P0 : 0 < 2 ^ s := Nat.two_pow_pos s
  have R0 : 0 < 2 ^ b := Nat.two_pow_pos b
  have m1 : c * 2 ^ s < 18446744073709551616 := by rw [← hP]; exact Nat.mul_lt_mul_of_pos_right hb3 P0
  have m2 : 9223372036854775808 ≤ c * 2 ^ s := by rw [← hP2]; exact Nat.mul_le_mul_right _ hb1
  have m3 : hi * 2 ^ s < c * 2 ^ s := Nat.mul_lt_mul_of_pos_right (by omega) P0
  have m4 : lo / 2 ^ b < 2 ^ s := by
   rw [Nat.div_lt_iff_lt_mul R0, Nat.mul_comm, hP]
   omega
  have m5 : lo * 2 ^ s / 18446744073709551616 = lo / 2 ^ b := by rw [← hP, Nat.mul_div_mul_right _ _ P0]
  have m6 : hi * 2 ^ s + 2 ^ s ≤ c * 2 ^ s := by
   rw [← Nat.succ_mul]
   exact Nat.mul_le_mul_right _ (by omega)
  have m7 : (hi * 18446744073709551616 + lo) / c = ((hi * 18446744073709551616 + lo) * 2 ^ s) / (c * 2 ^ s) := (Nat.mul_div_mul_right _ _ P0).symm
  have m8 : (hi * 18446744073709551616 + lo) * 2 ^ s = hi * 2 ^ s * 18446744073709551616 + lo * 2 ^ s := by
   rw [Nat.add_mul, Nat.mul_right_comm]
  rw [Nat.mod_eq_of_lt m1, Nat.mod_eq_of_lt (show hi * 2 ^ s < 18446744073709551616 by omega), or_disj s (by omega) m4 (by omega) (by omega)]
  have e7 : ((hi : Int) * 18446744073709551616 + (lo : Int)) / (c : Int) = (((hi * 18446744073709551616 + lo) / c : Nat) : Int) := by rw [Int.natCast_ediv, Int.natCast_add, Int.natCast_mul]; rfl
  rw [e7, m7, m8]
  clear e7 m7 m8 hP hP2 hb1 hb3
  generalize c * 2 ^ s = Y at *
  generalize hi * 2 ^ s = H at *
  generalize hL : lo * 2 ^ s = L at *
  generalize lo / 2 ^ b = l at *
  generalize 2 ^ s = P at *
  rw [if_neg (by omega), and_mask (by omega) (by omega), and_mask (by omega) (by omega)]
  have e := div_two k s ((H + l : Nat) : Int) (((L % 18446744073709551616 : Nat) : Int) / 4294967296) (((L % 18446744073709551616 : Nat) : Int) % 4294967296) ((Y : Int) / 4294967296) ((Y : Int) % 4294967296) hk (by omega) (by omega) (by omega) (by omega) (by omega) (by omega) (by omega) (by omega) (by omega) (by omega) (by omega)
  rw [show (Y : Int) / 4294967296 * 4294967296 + (Y : Int) % 4294967296 = (Y : Int) by omega] at e
  obtain ⟨rem, e⟩ := e
  refine ⟨rem, e.trans (congrArg (fun x => some (x, rem)) ?_)⟩
  have : ((H + l : Nat) : Int) * 18446744073709551616 + ((L % 18446744073709551616 : Nat) : Int) / 4294967296 * 4294967296 + ((L % 18446744073709551616 : Nat) : Int) % 4294967296 = ((H * 18446744073709551616 + L : Nat) : Int) := by omega
  rw [this, ← Int.natCast_ediv]
end Go.Proofs.YtfgffjchphignaaGreatDoor.Pure
end

section
namespace Go.Proofs.YtfgffjchphignaaGreatDoor.Print
open Go.RowKit Go.Proofs.YtfgffjchphignaaGreatDoorX Go.Proofs.YtfgffjchphignaaGreatDoorW.PrintWords Go.Proofs.YtfgffjchphignaaGreatDoorW.PrintLast Go.Proofs.YtfgffjchphignaaGreatDoorW.PrintMore
attribute [local go_sem] max2_int min2_int max_two min_two max_three min_three max_four min_four

/-! ### fix_over: function 44 -/
def fix_over.f (a0_0 : Bool) (a0_1 : Int) : Option (Bool) := if a0_0 = true then (some true) else (some (a0_1 == (-9223372036854775808)))
set_option maxHeartbeats 8000000 in
set_option maxRecDepth 100000 in
theorem fix_over.calls (a0_0 : Bool) (a0_1 : Int) (r : Bool) (w : World) (h : fix_over.f a0_0 a0_1 = some r) :
  Calls Tryz.prog 44 #[.agg #[.bool a0_0, .int .i64 a0_1]] w fun e w' => e = .returned (.bool r) ∧ Below w.heap.size w w' := by
 have hu32 := Tryz.underlying32
 have HB := Aside0.mk (Below.refl w.heap.size w)
 have H : (if a0_0 = true then (some true) else (some (a0_1 == (-9223372036854775808)))) = some r := h
 clear h
 by_cases c2 : a0_0 = true
 ·subst c2
  have H1 : (some true) = some r := by rw [if_pos rfl] at H; exact H
  clear H
  have H := H1
  clear H1
  obtain rfl := Option.some.inj H
  go_enter Tryz.func44, Tryz.ntmps44
  go_wp2_with (first | ((with_reducible refine gate_dst (N := 1) rfl ?_); refine box_event ?hg (N := 1) ?hd (cs := #[.bool true, .int .i64 a0_1]) (t := 32) ?hr ?_; (case hd => rfl); (case hg => rfl); (case hr => first | (go_simp; done) | (go_simp; rfl)); intro gb393 hg w3 hbox hb; have n0_ := Aside0.mk (below_step (by repeat (first | (with_reducible first | exact HB.out | apply below_alloc | apply pw_below_drewN | apply below_drew1) | exact HB.out)) hb); have n1_ := Aside0.mk (hbox); have n2_ := Aside0.mk ((by rw [hg]; exact (below_size (by repeat (first | (with_reducible first | exact HB.out | apply below_alloc | apply pw_below_drewN | apply below_drew1) | exact HB.out))) : w.heap.size ≤ gb393)); have n3_ := Aside0.mk ((by rw [hg]; exact (below_size (by repeat (first | (with_reducible first | exact HB.out | apply below_alloc | apply pw_below_drewN | apply below_drew1) | exact HB.out))) : w.heap.size ≤ gb393)); clear HB; have HB := n0_; have BK393 := n1_; have GW393 := n2_; have GE393 := n3_; clear n0_ n1_ n2_ n3_; clear hb hbox hg; have hcz4_0 : w3.cell? ⟨gb393, 0, none⟩ = some (.bool true) := (blk_cell BK393.out 0).trans rfl; have hcz4_1 : w3.cell? ⟨gb393, 1, none⟩ = some (.int .i64 a0_1) := (blk_cell BK393.out 1).trans rfl; have hfz4_0 := blk_frozen BK393.out 0; have hfz4_1 := blk_frozen BK393.out 1))
  go_ret
  exact ⟨by first | rfl | (simp [errW_none, errW_some] <;> rfl) | (simp [*, errW_none, errW_some] <;> rfl), by repeat (first | (with_reducible first | exact HB.out | apply below_alloc | apply pw_below_drewN | apply below_drew1 | refine below_set ?_ GE393.out) | exact HB.out)⟩
 ·replace c2 := Bool.eq_false_iff.mpr c2
  subst c2
  have H1 : (some (a0_1 == (-9223372036854775808))) = some r := by rw [if_neg (show ¬ (false = true) by decide)] at H; exact H
  clear H
  have H := H1
  clear H1
  obtain rfl := Option.some.inj H
  go_enter Tryz.func44, Tryz.ntmps44
  go_wp2_with (first | ((with_reducible refine gate_dst (N := 1) rfl ?_); refine box_event ?hg (N := 1) ?hd (cs := #[.bool false, .int .i64 a0_1]) (t := 32) ?hr ?_; (case hd => rfl); (case hg => rfl); (case hr => first | (go_simp; done) | (go_simp; rfl)); intro gb393 hg w5 hbox hb; have n0_ := Aside0.mk (below_step (by repeat (first | (with_reducible first | exact HB.out | apply below_alloc | apply pw_below_drewN | apply below_drew1) | exact HB.out)) hb); have n1_ := Aside0.mk (hbox); have n2_ := Aside0.mk ((by rw [hg]; exact (below_size (by repeat (first | (with_reducible first | exact HB.out | apply below_alloc | apply pw_below_drewN | apply below_drew1) | exact HB.out))) : w.heap.size ≤ gb393)); have n3_ := Aside0.mk ((by rw [hg]; exact (below_size (by repeat (first | (with_reducible first | exact HB.out | apply below_alloc | apply pw_below_drewN | apply below_drew1) | exact HB.out))) : w.heap.size ≤ gb393)); clear HB; have HB := n0_; have BK393 := n1_; have GW393 := n2_; have GE393 := n3_; clear n0_ n1_ n2_ n3_; clear hb hbox hg; have hcz6_0 : w5.cell? ⟨gb393, 0, none⟩ = some (.bool false) := (blk_cell BK393.out 0).trans rfl; have hcz6_1 : w5.cell? ⟨gb393, 1, none⟩ = some (.int .i64 a0_1) := (blk_cell BK393.out 1).trans rfl; have hfz6_0 := blk_frozen BK393.out 0; have hfz6_1 := blk_frozen BK393.out 1))
  go_ret
  exact ⟨by first | rfl | (simp [errW_none, errW_some] <;> rfl) | (simp [*, errW_none, errW_some] <;> rfl), by repeat (first | (with_reducible first | exact HB.out | apply below_alloc | apply pw_below_drewN | apply below_drew1 | refine below_set ?_ GE393.out) | exact HB.out)⟩

end Go.Proofs.YtfgffjchphignaaGreatDoor.Print
end

section
namespace Go.Proofs.YtfgffjchphignaaGreatDoor.Pure
open Go.RowKit Go.Proofs.YtfgffjchphignaaGreatDoor.Print Go.Proofs.YtfgffjchphignaaGreatDoorW.PrintWords Go.Proofs.YtfgffjchphignaaGreatDoorW.PrintLast Go.Proofs.YtfgffjchphignaaGreatDoorW.PrintMore
theorem wrap_id {n : Int} (h1 : -9223372036854775808 ≤ n) (h2 : n ≤ 9223372036854775807) : wrap64 n = n := by unfold wrap64; omega
/-! The exact sum. -/
def isOver (a : S32) : Bool := a.f0 || a.f1 == -9223372036854775808
def told (s : Int) : Bool × Int := if -9223372036854775808 < s ∧ s < 9223372036854775808 then (false, s) else (true, 0)
end Go.Proofs.YtfgffjchphignaaGreatDoor.Pure
end

section
namespace Go.Proofs.YtfgffjchphignaaGreatDoor.Print
open Go.RowKit Go.Proofs.YtfgffjchphignaaGreatDoorX Go.Proofs.YtfgffjchphignaaGreatDoorW.PrintWords Go.Proofs.YtfgffjchphignaaGreatDoorW.PrintLast Go.Proofs.YtfgffjchphignaaGreatDoorW.PrintMore
attribute [local go_sem] max2_int min2_int max_two min_two max_three min_three max_four min_four

/-! ### fix_size: function 45 -/
def fix_size.f (a0 : Int) : Option (Int) := if a0 < 0 then (some (IntKind.u64.wrap (-(IntKind.u64.wrap (a0))))) else (some (IntKind.u64.wrap (a0)))
set_option maxHeartbeats 8000000 in
set_option maxRecDepth 100000 in
theorem fix_size.calls (a0 : Int) (r : Int) (w : World) (h : fix_size.f a0 = some r) :
  Calls Tryz.prog 45 #[.int .i64 a0] w fun e w' => e = .returned (.int .u64 r) ∧ Drawn0 w w' := by
 have H : (if a0 < 0 then (some (IntKind.u64.wrap (-(IntKind.u64.wrap (a0))))) else (some (IntKind.u64.wrap (a0)))) = some r := h
 clear h
 by_cases c2 : a0 < 0
 ·rw [if_pos c2] at H
  have c2b0 : decide (a0 < 0) = true := decide_eq_true c2
  clear c2
  obtain rfl := Option.some.inj H
  go_enter Tryz.func45, Tryz.ntmps45
  go_wp2
  go_ret
  exact ⟨by first | rfl | (simp; done) | (simp [*]; done), by repeat (first | exact Drawn0.refl _ | apply Drawn0.step)⟩
 ·rw [if_neg c2] at H
  have c2b0 : decide (a0 < 0) = false := decide_eq_false c2
  clear c2
  obtain rfl := Option.some.inj H
  go_enter Tryz.func45, Tryz.ntmps45
  go_wp2
  go_ret
  exact ⟨by first | rfl | (simp; done) | (simp [*]; done), by repeat (first | exact Drawn0.refl _ | apply Drawn0.step)⟩

end Go.Proofs.YtfgffjchphignaaGreatDoor.Print
end

section
namespace Go.Proofs.YtfgffjchphignaaGreatDoor.PureN
open Go.RowKit Go.Proofs.YtfgffjchphignaaGreatDoor.Print Go.Proofs.YtfgffjchphignaaGreatDoor.Pure Go.Proofs.YtfgffjchphignaaGreatDoorW.PrintWords Go.Proofs.YtfgffjchphignaaGreatDoorW.PrintLast Go.Proofs.YtfgffjchphignaaGreatDoorW.PrintMore

/-! What the number functions come to, in whole numbers. -/
def R (n : Int) : Prop := -9223372036854775808 ≤ n ∧ n ≤ 9223372036854775807
def over (a : Bool) (n : Int) : Bool := isOver ⟨a, n⟩
/-- A quotient cut off, with a sign; overflow, if it is too great. -/
def sgn (neg : Bool) (q : Int) : Bool × Int := if 9223372036854775807 < q then (true, 0) else (false, if neg then -q else q)
theorem scaled_eq (k : Nat) (neg : Bool) (a b c : Int) (hk : 20 < k) (a0 : 0 ≤ a) (a1 : a < 18446744073709551616) (b0 : 0 ≤ b) (b1 : b < 18446744073709551616) (c0 : 0 < c) (c1 : c < 18446744073709551616) :
  fix_scaled.f k neg a b c = some (sgn neg (a * b / c)) := by
 have m0 : 0 ≤ a * b := Int.mul_nonneg a0 b0
 unfold fix_scaled.f bits_Mul64.f
 rw [if_pos ⟨a0, a1, b0, b1⟩, Option.bind_some]
 generalize a * b = p at *
 simp only
 by_cases h : p / 18446744073709551616 ≥ c
 ·rw [if_pos h]
  have : 18446744073709551616 ≤ p / c := by
   rw [Int.le_ediv_iff_mul_le c0]
   omega
  unfold sgn
  rw [if_pos (by omega)]
  rfl
 ·rw [if_neg h]
  obtain ⟨rem, e⟩ := div64 k (p / 18446744073709551616) (p % 18446744073709551616) c hk (by omega) (by omega) c1 (by omega) (by omega)
  rw [e, Option.bind_some, show p / 18446744073709551616 * 18446744073709551616 + p % 18446744073709551616 = p by omega]
  have q0 : 0 ≤ p / c := Int.ediv_nonneg m0 (by omega)
  generalize p / c = q at *
  unfold sgn
  simp only
  by_cases g : q > 9223372036854775807
  ·rw [if_pos g, if_pos (by omega)]
   rfl
  ·have w1 : wrap64 q = q := wrap_id (by omega) (by omega)
   have w2 : wrap64 (-q) = -q := wrap_id (by omega) (by omega)
   have g2 : ¬ 9223372036854775807 < q := by omega
   rw [if_neg g, if_neg g2, w1, w2]
   cases neg <;> rfl
end Go.Proofs.YtfgffjchphignaaGreatDoor.PureN
end

section
namespace Go.Proofs.YtfgffjchphignaaGreatDoor.PureN
open Go.RowKit Go.Proofs.YtfgffjchphignaaGreatDoor.Print Go.Proofs.YtfgffjchphignaaGreatDoor.Pure Go.Proofs.YtfgffjchphignaaGreatDoorW.PrintWords Go.Proofs.YtfgffjchphignaaGreatDoorW.PrintLast Go.Proofs.YtfgffjchphignaaGreatDoorW.PrintMore

/-! Texts of numbers. -/
def valF (a : Nat) (l : List UInt8) : Nat := l.foldl (fun a c => a * 10 + (c.toNat - 48)) a
def valN (l : List UInt8) : Nat := valF 0 l
def okS (x : Bool × Int) : Bool × Int × Int := (x.1, x.2, 0)
def errS : Bool × Int × Int := (false, 0, 20)
def headOk (D : List UInt8) : Bool := decide (1 ≤ D.length) && decide (D.length ≤ 13) && !(decide (1 < D.length) && D.head? == some 48)
def partOk (p : List UInt8) : Bool := p.all isD && decide (1 ≤ p.length) && decide (p.length ≤ 6)
/-- A text without its sign. -/
def parseT (neg : Bool) (t : List UInt8) : Bool × Int × Int :=
 if headOk (t.takeWhile isD) then
  match t.dropWhile isD with
  | [] => okS (sgn neg ((valN (t.takeWhile isD) * 1000000 : Nat) : Int))
  | c :: p => if c = 46 ∧ partOk p = true then okS (sgn neg ((valN (t.takeWhile isD) * 1000000 + valN p * 10 ^ (6 - p.length) : Nat) : Int)) else errS
 else errS
def parseS (s : List UInt8) : Bool × Int × Int :=
 if s = [111, 118, 102] then (true, 0, 0) else if s.head? = some 45 then parseT true s.tail else parseT false s

theorem valF_append (a : Nat) (l m : List UInt8) : valF a (l ++ m) = valF (valF a l) m := by
 unfold valF
 rw [List.foldl_append]
theorem valF_lin : ∀ (l : List UInt8) (a : Nat), valF a l = a * 10 ^ l.length + valN l
 | [], a => by simp [valN, valF]
 | c :: l, a => by
  have h1 := valF_lin l (a * 10 + (c.toNat - 48))
  have h2 := valF_lin l (0 * 10 + (c.toNat - 48))
  show valF (a * 10 + (c.toNat - 48)) l = a * 10 ^ (l.length + 1) + valF (0 * 10 + (c.toNat - 48)) l
  rw [h1, h2, Nat.pow_succ, Nat.add_mul, Nat.add_mul]
  have : a * 10 * 10 ^ l.length = a * (10 ^ l.length * 10) := by rw [Nat.mul_assoc, Nat.mul_comm 10]
  rw [this]
  omega
theorem valN_append (l m : List UInt8) : valN (l ++ m) = valN l * 10 ^ m.length + valN m := by
 unfold valN
 rw [valF_append, valF_lin m]
 rfl
theorem valN_zeros (n : Nat) : valN (List.replicate n 48) = 0 := by
 induction n with
 | zero => rfl
 | succ n ih =>
  rw [List.replicate_succ', valN_append, ih]
  rfl
theorem valN_lt (l : List UInt8) (h : l.all isD = true) : valN l < 10 ^ l.length := by
 induction l with
 | nil => simp [valN, valF]
 | cons c l ih =>
  simp only [List.all_cons, Bool.and_eq_true] at h
  have h1 := ih h.2
  have hc : c.toNat ≤ 57 := by
   have := h.1
   unfold isD at this
   simp at this
   omega
  have e := valN_append [c] l
  rw [List.singleton_append] at e
  rw [e, List.length_cons, Nat.pow_succ]
  have : valN [c] ≤ 9 := by
   unfold valN valF
   simp
   omega
  have := Nat.mul_le_mul_right (10 ^ l.length) this
  omega
theorem parseUintM_ok (M : Nat) (hM : M = 18446744073709551615) : ∀ (l : List UInt8) (a : Nat), l.all isD = true → valF a l ≤ 9999999999999999999 → (l ≠ [] → a ≤ 999999999999999999) → Lib.parseUintM M a l = .ok (valF a l)
 | [], a, _, _, _ => rfl
 | c :: l, a, h, hv, ha => by
  simp only [List.all_cons, Bool.and_eq_true] at h
  have hc : 48 ≤ c.toNat ∧ c.toNat ≤ 57 := by
   have := h.1
   unfold isD at this
   simpa using this
  have ha := ha (by simp)
  have e : valF a (c :: l) = valF (a * 10 + (c.toNat - 48)) l := rfl
  rw [e] at hv ⊢
  have h3 := valF_lin l (a * 10 + (c.toNat - 48))
  have hp : 1 ≤ 10 ^ l.length := Nat.one_le_pow _ _ (by omega)
  have h4 := Nat.mul_le_mul_left (a * 10 + (c.toNat - 48)) hp
  unfold Lib.parseUintM
  rw [if_pos hc, if_neg (by omega), if_neg (by omega)]
  refine parseUintM_ok M hM l _ h.2 hv (fun hl => ?_)
  have hp2 : 10 ≤ 10 ^ l.length := by
   cases l with
   | nil => exact absurd rfl hl
   | cons d l =>
    rw [List.length_cons, Nat.pow_succ]
    have : 1 ≤ 10 ^ l.length := Nat.one_le_pow _ _ (by omega)
    omega
  have h5 := Nat.mul_le_mul_left (a * 10 + (c.toNat - 48)) hp2
  omega
theorem parseUint_ok (l : List UInt8) (hl : l ≠ []) (h : l.all isD = true) (hn : l.length ≤ 19) : Lib.parseUintB 64 l = .ok (valN l) := by
 unfold Lib.parseUintB
 rw [if_neg hl]
 have h1 := valN_lt l h
 have h2 : 10 ^ l.length ≤ 10 ^ 19 := Nat.pow_le_pow_right (by omega) hn
 exact parseUintM_ok _ (by decide) l 0 h (by unfold valN at h1; omega) (by omega)

theorem bt_list (l : List UInt8) (i : Nat) (h : i < l.length) : bt ⟨l.toArray⟩ (i : Int) = (l[i].toNat : Int) := by
 have h2 : ((i : Int).toNat) < (⟨l.toArray⟩ : ByteArray).size := by simpa [ByteArray.size] using h
 rw [← bt_at _ _ h2]
 rfl
theorem size_list (l : List UInt8) : (⟨l.toArray⟩ : ByteArray).size = l.length := rfl
theorem digits_l0 (l : List UInt8) (least most : Int) (hl : l.length ≤ 1000) (d : Nat) : ∀ (k i : Nat), i + d = l.length → d < k → (l.take i).all isD = true →
  fix_digits.l0 k ⟨l.toArray⟩ least most (l.length : Int) i = some (l.all isD && decide (least ≤ (l.length : Int)) && decide ((l.length : Int) ≤ most)) := by
 induction d with
 | zero =>
  intro k i hi hk ha
  obtain ⟨m, rfl⟩ : ∃ m, k = m + 1 := ⟨k - 1, by omega⟩
  obtain rfl : i = l.length := by omega
  rw [List.take_length] at ha
  simp only [fix_digits.l0]
  rw [if_neg (by omega), size_list, ha]
  by_cases c : (l.length : Int) ≥ least
  ·rw [if_pos c, show decide (least ≤ (l.length : Int)) = true from decide_eq_true c]
   simp
  ·rw [if_neg c, show decide (least ≤ (l.length : Int)) = false from decide_eq_false c]
   simp
 | succ d ih =>
  intro k i hi hk ha
  obtain ⟨m, rfl⟩ : ∃ m, k = m + 1 := ⟨k - 1, by omega⟩
  have hil : i < l.length := by omega
  have ht : l.take (i + 1) = l.take i ++ [l[i]] := by rw [List.take_succ_eq_append_getElem hil]
  have no : isD l[i] = false → l.all isD = false := fun hd => by
   rw [List.all_eq_false]
   exact ⟨l[i], List.getElem_mem hil, by simp [hd]⟩
  have e2 : wrap64 ((i : Int) + 1) = ((i + 1 : Nat) : Int) := by rw [wrap_id (by omega) (by omega)]; omega
  simp only [fix_digits.l0]
  rw [size_list, if_pos (by omega), if_pos (by omega), if_pos (by omega), bt_list l i hil, e2]
  by_cases c1 : (l[i].toNat : Int) < 48
  ·rw [if_pos c1, no (by unfold isD; simp; omega)]
   simp
  ·rw [if_neg c1]
   by_cases c2 : (l[i].toNat : Int) > 57
   ·rw [if_pos c2, no (by unfold isD; simp; omega)]
    simp
   ·rw [if_neg c2]
    refine ih m (i + 1) (by omega) (by omega) ?_
    rw [ht, List.all_append, ha]
    unfold isD
    simp
    omega
theorem digits_eq (k : Nat) (l : List UInt8) (least most : Int) (hl : l.length ≤ 1000) (hk : 1001 < k) : fix_digits.f k ⟨l.toArray⟩ least most = some (l.all isD && decide (least ≤ (l.length : Int)) && decide ((l.length : Int) ≤ most)) := by
 have h := digits_l0 l least most hl l.length k 0 (by omega) (by omega) rfl
 exact h

theorem index_dot : ∀ t : List UInt8, Lib.index t [46] = if t.any (· == 46) then ((t.takeWhile (· != 46)).length : Int) else -1
 | [] => by simp [Lib.index]
 | b :: t => by
  unfold Lib.index
  rw [index_dot t]
  by_cases c : b = 46
  ·subst c
   simp
  ·have c1 : (b == 46) = false := beq_eq_false_iff_ne.mpr c
   have c2 : ((46 : UInt8) == b) = false := beq_eq_false_iff_ne.mpr (fun e => c e.symm)
   have c3 : (b != 46) = true := by simp [c]
   rw [List.any_cons, c1, List.takeWhile_cons, c3, Bool.false_or]
   simp only [List.isPrefixOf, c2, Bool.false_and, Bool.false_eq_true, if_false, if_true, List.length_cons]
   cases hh : t.any (· == 46)
   ·simp
   ·simp only [if_true]
    have : (((t.takeWhile (· != 46)).length : Int) == -1) = false := beq_eq_false_iff_ne.mpr (by omega)
    rw [this]
    simp
theorem dropWhile_all {p : UInt8 → Bool} : ∀ (l : List UInt8), (∀ c ∈ l, p c = true) → l.dropWhile p = []
 | [], _ => rfl
 | c :: l, h => by
  rw [List.dropWhile_cons, h c (by simp)]
  exact dropWhile_all l (fun d hd => h d (by simp [hd]))
theorem takeWhile_app {p : UInt8 → Bool} : ∀ (l m : List UInt8), (∀ c ∈ l, p c = true) → (l ++ m).takeWhile p = l ++ m.takeWhile p
 | [], m, _ => rfl
 | c :: l, m, h => by
  rw [List.cons_append, List.takeWhile_cons, h c (by simp)]
  simp only [if_true, List.cons_append]
  rw [takeWhile_app l m (fun d hd => h d (by simp [hd]))]
theorem dropWhile_app {p : UInt8 → Bool} : ∀ (l m : List UInt8), (∀ c ∈ l, p c = true) → (l ++ m).dropWhile p = m.dropWhile p
 | [], m, _ => rfl
 | c :: l, m, h => by
  rw [List.cons_append, List.dropWhile_cons, h c (by simp)]
  simp only [if_true]
  exact dropWhile_app l m (fun d hd => h d (by simp [hd]))
theorem cut_dot (t : List UInt8) : Lib.cut t [46] = (t.takeWhile (· != 46), (t.dropWhile (· != 46)).tail, t.any (· == 46)) := by
 unfold Lib.cut
 rw [index_dot]
 have hs := List.takeWhile_append_dropWhile (p := fun c : UInt8 => c != 46) (l := t)
 cases h : t.any (· == 46)
 ·rw [if_neg (by simp)]
  have ha : ∀ c ∈ t, (c != 46) = true := by
   intro c hc
   have := List.any_eq_false.1 h c hc
   simpa using this
  have e0 : t.dropWhile (fun c => c != 46) = [] := by
   exact dropWhile_all t ha
  rw [e0, List.append_nil] at hs
  rw [e0, hs]
  rfl
 ·rw [if_pos (by simp)]
  simp only [if_true, Int.toNat_natCast, List.length_singleton]
  have e1 : t.take (t.takeWhile (· != 46)).length = t.takeWhile (· != 46) := by
   conv => lhs; arg 2; rw [← hs]
   exact List.take_left
  have e2 : t.drop (t.takeWhile (· != 46)).length = t.dropWhile (· != 46) := by
   conv => lhs; arg 2; rw [← hs]
   exact List.drop_left
  rw [e1, ← List.drop_drop, e2, List.drop_one]
theorem toList_list (l : List UInt8) : (⟨l.toArray⟩ : ByteArray).toList = l := by
 have h := Lib.extract_toList ⟨l.toArray⟩ 0 l.length
 simp at h
 have e : (⟨l.toArray⟩ : ByteArray).extract 0 l.length = ⟨l.toArray⟩ := by
  rw [ByteArray.extract_mk]
  simp
 rw [e] at h
 exact h
theorem app_list (l m : List UInt8) : ((⟨l.toArray⟩ : ByteArray) ++ ⟨m.toArray⟩) = ⟨(l ++ m).toArray⟩ := by
 rw [ByteArray.mk_append_mk]
theorem isD_dot {c : UInt8} (h : isD c = true) : (c != 46) = true := by
 unfold isD at h
 rw [bne_iff_ne]
 rintro rfl
 simp at h
theorem hasPrefix_minus (l : List UInt8) : Lib.hasPrefix l [45] = (l.head? == some 45) := by
 unfold Lib.hasPrefix
 cases l with
 | nil => rfl
 | cons c l =>
  simp only [List.isPrefixOf, Bool.and_true, List.head?_cons]
  by_cases h : c = 45
  ·subst h
   rfl
  ·rw [beq_eq_false_iff_ne.mpr (fun e => h e.symm), show (some c == some (45 : UInt8)) = false from beq_eq_false_iff_ne.mpr (by simpa using h)]
theorem trimPrefix_minus (l : List UInt8) : Lib.trimPrefix l [45] = if l.head? = some 45 then l.tail else l := by
 unfold Lib.trimPrefix
 rw [hasPrefix_minus]
 by_cases h : l.head? = some 45
 ·rw [if_pos (by simpa using h), if_pos h, List.length_singleton, List.drop_one]
 ·rw [if_neg (by simpa using h), if_neg h]
theorem repeat_zero (n : Nat) : Lib.repeatL [48] n = List.replicate n 48 := by
 induction n with
 | zero => rfl
 | succ n ih => rw [Lib.repeatL, ih, List.replicate_succ]; rfl
/-- What fix.Parse does with the two parts of a text. -/
def partsS (neg : Bool) (w p : List UInt8) (least : Int) : Bool × Int × Int :=
 if w.all isD && decide (1 ≤ w.length) && decide (w.length ≤ 13) && !(decide (1 < w.length) && w.head? == some 48) && (p.all isD && decide (least ≤ (p.length : Int)) && decide (p.length ≤ 6)) then
  okS (sgn neg ((valN w * 1000000 + valN p * 10 ^ (6 - p.length) : Nat) : Int)) else errS
theorem j2_eq (k : Nat) (neg : Bool) (n : Nat) (hk : 30 < k) (hn : n < 18446744073709551616) : fix_Parse.j2 k neg (n : Int) (decide ((n : Int) > 9223372036854775807)) = some (okS (sgn neg (n : Int))) := by
 obtain ⟨k, rfl⟩ : ∃ m, k = m + 1 := ⟨k - 1, by omega⟩
 simp only [fix_Parse.j2]
 by_cases c : (n : Int) > 9223372036854775807
 ·rw [if_pos (decide_eq_true c)]
  unfold okS sgn
  rw [if_pos (by omega)]
  rfl
 ·rw [if_neg (by simpa using c), scaled_eq k neg n 1 1 (by omega) (by omega) (by omega) (by omega) (by omega) (by omega) (by omega), Option.bind_some, Int.mul_one, Int.ediv_one]
  rfl
theorem j1_eq (k : Nat) (neg : Bool) (w p : List UInt8) (hk : 40 < k) (hw : w.all isD = true) (hw1 : 1 ≤ w.length) (hw2 : w.length ≤ 13) (hp : p.all isD = true) (hp2 : p.length ≤ 6) :
  fix_Parse.j1 k neg ⟨w.toArray⟩ ⟨p.toArray⟩ false = some (okS (sgn neg ((valN w * 1000000 + valN p * 10 ^ (6 - p.length) : Nat) : Int))) := by
 obtain ⟨k, rfl⟩ : ∃ m, k = m + 1 := ⟨k - 1, by omega⟩
 have e6 : wrap64 (6 - (p.length : Int)) = ((6 - p.length : Nat) : Int) := by rw [wrap_id (by omega) (by omega)]; omega
 have z : ((⟨#[48]⟩ : ByteArray).data.toList) = [48] := rfl
 have hlen : ((w ++ p) ++ List.replicate (6 - p.length) 48).length = w.length + 6 := by simp; omega
 have hall : ((w ++ p) ++ List.replicate (6 - p.length) 48).all isD = true := by
  rw [List.all_append, List.all_append, hw, hp]
  simp [isD]
 have hval : valN ((w ++ p) ++ List.replicate (6 - p.length) 48) = valN w * 1000000 + valN p * 10 ^ (6 - p.length) := by
  rw [valN_append, valN_append, valN_zeros, List.length_replicate, Nat.add_zero, Nat.add_mul, Nat.mul_assoc, ← Nat.pow_add, show p.length + (6 - p.length) = 6 by omega]
 simp only [fix_Parse.j1, Bool.false_eq_true, if_false]
 rw [size_list, size_list, if_pos (by omega)]
 unfold strings_Repeat.f
 have hn1 : (⟨#[48]⟩ : ByteArray).size = 1 := rfl
 rw [e6, hn1, if_pos ⟨by omega, by omega, by omega⟩, Option.bind_some, Int.toNat_natCast, z, repeat_zero, app_list, app_list, size_list, size_list, if_pos (by simp; omega)]
 unfold strconv_ParseUint.f
 rw [size_list, if_pos ⟨rfl, rfl, by rw [hlen]; omega⟩]
 simp only
 rw [parseUint_ok _ (by intro e; rw [e] at hlen; simp at hlen) hall (by omega), hval]
 have hb : valN w * 1000000 + valN p * 10 ^ (6 - p.length) < 18446744073709551616 := by
  have h1 := valN_lt _ hall
  rw [hval, hlen] at h1
  have h2 : 10 ^ (w.length + 6) ≤ 10 ^ 19 := Nat.pow_le_pow_right (by omega) (by omega)
  omega
 simp only [Option.bind_some, Option.isNone_none, if_true]
 exact j2_eq k neg _ (by omega) hb
theorem j1_err (k : Nat) (neg : Bool) (w p : ByteArray) (hk : 0 < k) : fix_Parse.j1 k neg w p true = some errS := by
 obtain ⟨k, rfl⟩ : ∃ m, k = m + 1 := ⟨k - 1, by omega⟩
 simp only [fix_Parse.j1, if_true]
 rfl
theorem head_bt (w : List UInt8) (h : 0 < w.length) : (bt ⟨w.toArray⟩ 0 = 48) ↔ w.head? = some 48 := by
 have e := bt_list w 0 h
 rw [show (((0 : Nat) : Int)) = 0 from rfl] at e
 rw [e]
 cases w with
 | nil => simp at h
 | cons c w =>
  simp only [List.getElem_cons_zero, List.head?_cons, Option.some.injEq]
  constructor
  ·intro h
   apply UInt8.toNat_inj.1
   have : (48 : UInt8).toNat = 48 := rfl
   omega
  ·rintro rfl
   rfl
theorem j0_eq (k : Nat) (neg : Bool) (w p : List UInt8) (least : Int) (hk : 1100 < k) (hw : w.length ≤ 1000) (hp : p.length ≤ 1000) : fix_Parse.j0 k neg ⟨w.toArray⟩ ⟨p.toArray⟩ least = some (partsS neg w p least) := by
 obtain ⟨k, rfl⟩ : ∃ m, k = m + 1 := ⟨k - 1, by omega⟩
 simp only [fix_Parse.j0]
 rw [digits_eq k w 1 13 hw (by omega), Option.bind_some, digits_eq k p least 6 hp (by omega), size_list]
 unfold partsS
 have d1 : decide ((1 : Int) ≤ (w.length : Int)) = decide (1 ≤ w.length) := decide_eq_decide.2 (by omega)
 have d2 : decide ((w.length : Int) ≤ 13) = decide (w.length ≤ 13) := decide_eq_decide.2 (by omega)
 have d3 : decide ((p.length : Int) ≤ 6) = decide (p.length ≤ 6) := decide_eq_decide.2 (by omega)
 rw [d1, d2, d3]
 cases h1 : w.all isD && decide (1 ≤ w.length) && decide (w.length ≤ 13)
 ·rw [if_neg (by simp), j1_err k neg _ _ (by omega)]
  simp
 ·rw [if_pos rfl]
  simp only [Bool.and_eq_true, decide_eq_true_eq] at h1
  obtain ⟨⟨h1, h2⟩, h3⟩ := h1
  have tl : fix_Parse.j1 k neg ⟨w.toArray⟩ ⟨p.toArray⟩ (!(p.all isD && decide (least ≤ (p.length : Int)) && decide (p.length ≤ 6))) = some (if (p.all isD && decide (least ≤ (p.length : Int)) && decide (p.length ≤ 6)) = true then okS (sgn neg ((valN w * 1000000 + valN p * 10 ^ (6 - p.length) : Nat) : Int)) else errS) := by
   cases g : p.all isD && decide (least ≤ (p.length : Int)) && decide (p.length ≤ 6)
   ·rw [if_neg (by simp)]
    exact j1_err k neg _ _ (by omega)
   ·rw [if_pos rfl]
    simp only [Bool.and_eq_true, decide_eq_true_eq] at g
    exact j1_eq k neg w p (by omega) h1 h2 h3 g.1.1 g.2
  by_cases c : (w.length : Int) > 1
  ·rw [if_pos c, if_pos (by omega)]
   have d4 : decide (1 < w.length) = true := decide_eq_true (by omega)
   by_cases c2 : bt ⟨w.toArray⟩ 0 = 48
   ·have := (head_bt w (by omega)).1 c2
    rw [if_pos c2, j1_err k neg _ _ (by omega), d4, this]
    simp
   ·have : (w.head? == some 48) = false := by
     rw [beq_eq_false_iff_ne]
     exact fun e => c2 ((head_bt w (by omega)).2 e)
    rw [if_neg c2, Option.bind_some, tl, d4, this]
    simp
  ·have d4 : decide (1 < w.length) = false := decide_eq_false (by omega)
   rw [if_neg c, Option.bind_some, tl, d4]
   simp
theorem takeWhile_mem {p : UInt8 → Bool} : ∀ (l : List UInt8), ∀ c ∈ l.takeWhile p, p c = true
 | [], c, h => by simp at h
 | d :: l, c, h => by
  rw [List.takeWhile_cons] at h
  by_cases g : p d = true
  ·rw [if_pos g] at h
   rcases List.mem_cons.1 h with rfl | h
   ·exact g
   ·exact takeWhile_mem l c h
  ·rw [if_neg g] at h
   simp at h
theorem dropWhile_head {p : UInt8 → Bool} : ∀ (l : List UInt8) (c : UInt8) (r : List UInt8), l.dropWhile p = c :: r → p c = false
 | [], c, r, h => by simp at h
 | d :: l, c, r, h => by
  rw [List.dropWhile_cons] at h
  by_cases g : p d = true
  ·rw [if_pos g] at h
   exact dropWhile_head l c r h
  ·rw [if_neg g] at h
   injection h with h1 h2
   subst h1
   simpa using g
theorem parts_parseT (neg : Bool) (t : List UInt8) : partsS neg (t.takeWhile (· != 46)) ((t.dropWhile (· != 46)).tail) (if t.any (· == 46) = true then 1 else 0) = parseT neg t := by
 have hs := List.takeWhile_append_dropWhile (p := isD) (l := t)
 have hm := takeWhile_mem (p := isD) t
 have hd := fun c r => dropWhile_head (p := isD) t c r
 unfold parseT
 obtain ⟨D, hD⟩ : ∃ D, t.takeWhile isD = D := ⟨_, rfl⟩
 obtain ⟨r, hr⟩ : ∃ r, t.dropWhile isD = r := ⟨_, rfl⟩
 rw [hD, hr] at hs
 rw [hD] at hm ⊢
 rw [hr] at hd ⊢
 subst hs
 have hall : D.all isD = true := List.all_eq_true.2 hm
 have h46 : ∀ c ∈ D, (c != 46) = true := fun c hc => isD_dot (hm c hc)
 have hany : D.any (· == 46) = false := by
  rw [List.any_eq_false]
  intro c hc
  have := h46 c hc
  simpa using this
 rw [takeWhile_app D r h46, dropWhile_app D r h46, List.any_append, hany, Bool.false_or]
 unfold partsS headOk
 cases r with
 | nil =>
  simp only [List.takeWhile_nil, List.dropWhile_nil, List.append_nil, List.tail_nil, List.any_nil, hall, Bool.true_and, List.all_nil, List.length_nil, Bool.false_eq_true, if_false]
  have v : valN [] = 0 := rfl
  simp [v]
 | cons c r =>
  have hc := hd c r rfl
  by_cases g : c = 46
  ·subst g
   have e1 : (46 :: r).takeWhile (fun c : UInt8 => c != 46) = [] := by simp
   have e2 : (46 :: r).dropWhile (fun c : UInt8 => c != 46) = 46 :: r := by simp
   rw [e1, e2, List.append_nil]
   simp only [List.any_cons, beq_self_eq_true, Bool.true_or, if_true, List.tail_cons, hall, Bool.true_and, true_and]
   unfold partOk
   have d3 : decide ((1 : Int) ≤ (r.length : Int)) = decide (1 ≤ r.length) := decide_eq_decide.2 (by omega)
   rw [d3]
   by_cases h1 : (decide (1 ≤ D.length) && decide (D.length ≤ 13) && !(decide (1 < D.length) && D.head? == some 48)) = true
   ·rw [h1]
    simp only [Bool.true_and, if_true]
    first | rfl | congr
   ·rw [Bool.eq_false_iff.2 h1]
    simp
  ·have e1 : (c :: r).takeWhile (fun c : UInt8 => c != 46) = c :: r.takeWhile (fun c : UInt8 => c != 46) := by
    rw [List.takeWhile_cons, if_pos (by simpa using g)]
   rw [e1]
   have : (D ++ c :: r.takeWhile (fun c : UInt8 => c != 46)).all isD = false := by
    rw [List.all_append, List.all_cons, hc]
    simp
   rw [this]
   simp [g]
theorem fixparse_eq (k : Nat) (l : List UInt8) (hk : 1200 < k) (hl : l.length ≤ 620) : fix_Parse.f k ⟨l.toArray⟩ = some (parseS l) := by
 unfold fix_Parse.f parseS
 rw [toList_list]
 by_cases h : l = [111, 118, 102]
 ·rw [if_pos h, if_pos h]
  rfl
 ·rw [if_neg h, if_neg h]
  unfold strings_CutPrefix.f
  rw [Option.bind_some]
  simp only
  rw [trimPrefix_minus, hasPrefix_minus]
  obtain ⟨t, ht⟩ : ∃ t, (if l.head? = some 45 then l.tail else l) = t := ⟨_, rfl⟩
  have htl : t.length ≤ 620 := by
   rw [← ht]
   split
   ·rw [List.length_tail]
    omega
   ·exact hl
  rw [ht]
  unfold strings_Cut.f
  rw [size_list, if_pos (by omega), Option.bind_some]
  simp only
  rw [cut_dot]
  have l1 : (t.takeWhile (· != 46)).length ≤ 1000 := by
   have := (List.takeWhile_sublist (fun c : UInt8 => c != 46) (l := t)).length_le
   omega
  have l2 : ((t.dropWhile (· != 46)).tail).length ≤ 1000 := by
   have := (List.dropWhile_sublist (fun c : UInt8 => c != 46) (l := t)).length_le
   rw [List.length_tail]
   omega
  have e : (if (if l.head? = some 45 then l.tail else l) = t then parseT (l.head? == some 45) t else errS) = (if l.head? = some 45 then parseT true l.tail else parseT false l) := by
   rw [if_pos ht, ← ht]
   by_cases g : l.head? = some 45
   ·rw [if_pos g, if_pos g, g]
    rfl
   ·rw [if_neg g, if_neg g, beq_eq_false_iff_ne.mpr g]
  rw [if_pos ht] at e
  rw [← e, ← parts_parseT]
  cases h46 : t.any (· == 46)
  ·rw [if_neg (by simp), if_neg (by simp), j0_eq k _ _ _ 0 (by omega) l1 l2]
  ·rw [if_pos rfl, if_pos rfl, j0_eq k _ _ _ 1 (by omega) l1 l2]
end Go.Proofs.YtfgffjchphignaaGreatDoor.PureN
end

section
namespace Go.Proofs.YtfgffjchphignaaGreatDoor.PureN
open Go.RowKit Go.Proofs.YtfgffjchphignaaGreatDoor.Print

/-! Scraped text, in plain Lean: a line, a kind's line, a body. -/
structure Scr where
 labels : List Pr
 ovf : Bool
 v : Int
 t : Int
 hasT : Bool
 kind : Int
deriving DecidableEq
def timeS (l : List UInt8) : Option Int :=
 if 1 ≤ l.length ∧ l.length ≤ 7 ∧ l.all isD = true ∧ ¬ (1 < l.length ∧ l.head? = some 48) ∧ valN l ≤ 1000000 then some (valN l : Int) else none
def lineW (a b : List UInt8) (c : Option (List UInt8)) : Except Int Scr :=
 match parseR a with
 | none => .error 30
 | some ps =>
  if nameB (getL ps NL) = false then .error 30 else
  if (parseS b).2.2 ≠ 0 then .error 20 else
  match c with
  | none => .ok ⟨ps, (parseS b).1, (parseS b).2.1, 0, false, 0⟩
  | some c =>
   match timeS c with
   | none => .error 152
   | some t => .ok ⟨ps, (parseS b).1, (parseS b).2.1, t, true, 0⟩
def lineS (s : List UInt8) : Except Int Scr :=
 if 300 < s.length then .error 11 else
 match wordsS false [] s with
 | [a, b] => lineW a b none
 | [a, b, c] => lineW a b (some c)
 | _ => .error 12
def kindT (k : Int) : List UInt8 := if k = 1 then [99, 111, 117, 110, 116, 101, 114] else if k = 2 then [103, 97, 117, 103, 101] else [117, 110, 116, 121, 112, 101, 100]
def kindS (s : List UInt8) : Option Int := if s = kindT 0 then some 0 else if s = kindT 1 then some 1 else if s = kindT 2 then some 2 else none
/-- A text parted at blanks, wherever these stand. -/
def splitS (cur : List UInt8) : List UInt8 → List (List UInt8)
 | [] => [cur]
 | c :: r => if c = 32 then cur :: splitS [] r else splitS (cur ++ [c]) r
def typeW : List (List UInt8) → Option (List UInt8 × Int)
 | [a, b, n, k] => if a = [35] ∧ b = [84, 89, 80, 69] ∧ nameB n = true then (kindS k).map fun k => (n, k) else none
 | _ => none
def typeS (s : List UInt8) : Option (List UInt8 × Int) := typeW (splitS [] s)
abbrev Kinds := List (List UInt8 × Int)
def kget (k : Kinds) (n : List UInt8) : Int := ((k.find? fun p => p.1 == n).map (·.2)).getD 0
def kset (k : Kinds) (n : List UInt8) (v : Int) : Kinds := (n, v) :: k
structure Bod where
 of : Kinds
 out : List Scr
 bad : List (Int × Int)
def stepB (b : Bod) (i : Int) (s : List UInt8) : Bod :=
 match s with
 | [] => b
 | c :: _ =>
  if c = 35 then (match typeS s with | some x => { b with of := kset b.of x.1 x.2 } | none => b) else
  match lineS s with
  | .error e => { b with bad := b.bad ++ [(i, e)] }
  | .ok x => { b with out := b.out ++ [{ x with kind := kget b.of (getL x.labels NL) }] }
def runB (b : Bod) (i : Int) : List (List UInt8) → Bod
 | [] => b
 | s :: r => runB (stepB b i s) (i + 1) r
def scrapeS (s : List UInt8) : List Scr × List (Int × Int) :=
 if 3000 < s.length then ([], [(0, 11)]) else
 ((runB ⟨[], [], []⟩ 1 (linesS [] s)).out, (runB ⟨[], [], []⟩ 1 (linesS [] s)).bad)

/-! A text with no quotes is parted alike. -/
end Go.Proofs.YtfgffjchphignaaGreatDoor.PureN
end

section
namespace Go.Proofs.YtfgffjchphignaaGreatDoor.PureN

/-! A text parted at a sign. -/
theorem index_c (x : UInt8) : ∀ t : List UInt8, Lib.index t [x] = if t.any (· == x) then ((t.takeWhile (· != x)).length : Int) else -1
 | [] => by simp [Lib.index]
 | b :: t => by
  unfold Lib.index
  rw [index_c x t]
  by_cases c : b = x
  ·subst c
   simp
  ·have c1 : (b == x) = false := beq_eq_false_iff_ne.mpr c
   have c2 : (x == b) = false := beq_eq_false_iff_ne.mpr (fun e => c e.symm)
   have c3 : (b != x) = true := by simp [c]
   rw [List.any_cons, c1, List.takeWhile_cons, c3, Bool.false_or]
   simp only [List.isPrefixOf, c2, Bool.false_and, Bool.false_eq_true, if_false, if_true, List.length_cons]
   cases hh : t.any (· == x)
   ·simp
   ·simp only [if_true]
    have : (((t.takeWhile (· != x)).length : Int) == -1) = false := beq_eq_false_iff_ne.mpr (by omega)
    rw [this]
    simp
def sepS (x : UInt8) (cur : List UInt8) : List UInt8 → List (List UInt8)
 | [] => [cur]
 | c :: r => if c = x then cur :: sepS x [] r else sepS x (cur ++ [c]) r
theorem split_sep : ∀ (l cur : List UInt8), splitS cur l = sepS 32 cur l
 | [], _ => rfl
 | c :: r, cur => by rw [splitS, sepS, split_sep r, split_sep r]
theorem lines_sep : ∀ (l cur : List UInt8), linesS cur l = sepS 10 cur l
 | [], _ => rfl
 | c :: r, cur => by rw [linesS, sepS, lines_sep r, lines_sep r]
theorem sep_none (x : UInt8) : ∀ (l cur : List UInt8), l.any (· == x) = false → sepS x cur l = [cur ++ l]
 | [], cur, _ => by simp [sepS]
 | c :: r, cur, h => by
  rw [List.any_cons, Bool.or_eq_false_iff, beq_eq_false_iff_ne] at h
  rw [sepS, if_neg h.1, sep_none x r _ h.2]
  simp
theorem sep_some (x : UInt8) : ∀ (l cur : List UInt8), l.any (· == x) = true → sepS x cur l = (cur ++ l.takeWhile (· != x)) :: sepS x [] (l.drop ((l.takeWhile (· != x)).length + 1))
 | [], _, h => by simp at h
 | c :: r, cur, h => by
  by_cases e : c = x
  ·subst e
   rw [sepS, if_pos rfl, List.takeWhile_cons]
   simp
  ·have e3 : (c != x) = true := by simp [e]
   have e1 : (c == x) = false := beq_eq_false_iff_ne.mpr e
   rw [List.any_cons, e1, Bool.false_or] at h
   rw [sepS, if_neg e, sep_some x r _ h, List.takeWhile_cons, e3]
   simp
theorem splitK_sep (x : UInt8) : ∀ (f : Nat) (l : List UInt8), l.length < f → Lib.splitK [x] 0 (Lib.countFrom [x] f l) l = sepS x [] l
 | 0, l, h => absurd h (Nat.not_lt_zero _)
 | f + 1, l, h => by
  rw [Lib.countFrom, index_c]
  cases hh : l.any (· == x)
  ·simp only [Bool.false_eq_true, if_false]
   rw [sep_none x l [] hh]
   rfl
  ·simp only [if_true]
   have hne : (((l.takeWhile (· != x)).length : Int) == -1) = false := beq_eq_false_iff_ne.mpr (by omega)
   rw [hne]
   simp only [Bool.false_eq_true, if_false]
   rw [Nat.add_comm 1, Lib.splitK, index_c, hh]
   simp only [if_true, hne, Bool.false_eq_true, if_false]
   rw [sep_some x l [] hh, Int.toNat_natCast, Nat.add_zero]
   have hl : (l.takeWhile (· != x)).length ≤ l.length := (List.takeWhile_sublist _).length_le
   have hpos : 0 < l.length := by cases l with | nil => simp at hh | cons _ _ => simp
   show List.take (l.takeWhile (· != x)).length l :: Lib.splitK [x] 0 (Lib.countFrom [x] f (l.drop ((l.takeWhile (· != x)).length + 1))) (l.drop ((l.takeWhile (· != x)).length + 1)) = _
   rw [splitK_sep x f _ (by rw [List.length_drop]; omega)]
   congr 1
   have hs := List.takeWhile_append_dropWhile (p := fun c : UInt8 => c != x) (l := l)
   conv => lhs; arg 2; rw [← hs]
   rw [List.take_left]
   rfl
/-- What strings.Split hands back at a sep of one byte. -/
theorem split_is (x : UInt8) (s : ByteArray) : (Lib.splitB ⟨#[x]⟩ 0 (Lib.countB s ⟨#[x]⟩) s).map (fun y => y.data.toList) = sepS x [] s.data.toList := by
 have h := Lib.splitB_data (⟨#[x]⟩ : ByteArray) 0 (Lib.countB s ⟨#[x]⟩) s
 rw [h]
 exact splitK_sep x (s.data.toList.length + 1) s.data.toList (Nat.lt_succ_self _)
end Go.Proofs.YtfgffjchphignaaGreatDoor.PureN
end
