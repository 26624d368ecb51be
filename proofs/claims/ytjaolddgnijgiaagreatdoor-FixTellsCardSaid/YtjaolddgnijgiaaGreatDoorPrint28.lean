-- PRINTED by print.py (a twelfth state) out of the translation. Not trusted: Lean checks it.
import Derived.Test.YtjaolddgnijgiaaGreatDoorPrint0
import Derived.Test.YtjaolddgnijgiaaGreatDoorPrint27
namespace Go.Proofs.YtjaolddgnijgiaaGreatDoor.Print
open Go.RowKit Go.Proofs.YtjaolddgnijgiaaGreatDoorX Go.Proofs.YtjaolddgnijgiaaGreatDoorW.PrintWords Go.Proofs.YtjaolddgnijgiaaGreatDoorW.PrintLast Go.Proofs.YtjaolddgnijgiaaGreatDoorW.PrintMore
attribute [local go_sem] max2_int min2_int max_two min_two max_three min_three max_four min_four   -- for this text's walks alone
set_option linter.unusedVariables false
set_option linter.unusedSimpArgs false

/-! ### spillwayref2_Of: function 8 -/
def spillwayref2_Of.f (k : Nat) (a0 : Int) : Option (Bool × Int) := (spillwayref2_Mul.f k false a0 false 1000000000000).bind fun bt236 => (some (bt236.1, bt236.2))
theorem spillwayref2_Of.mono : ∀ a0 k, LeO (spillwayref2_Of.f k a0) (spillwayref2_Of.f (k + 1) a0) := by
  intro a0 k
  unfold spillwayref2_Of.f
  repeat' first
      | (with_reducible exact spillwayref2_Mul.mono _ _ _ _ _)
      | (with_reducible exact LeO.refl _)
      | (with_reducible exact LeO.none _)
      | (with_reducible refine LeO.ite ?_ ?_)
      | (with_reducible refine LeO.bind ?_ (fun _ => ?_))
      | exact spillwayref2_Mul.mono _ _ _ _ _
      | exact LeO.none _
      | refine LeO.ite ?_ ?_
      | refine LeO.bind ?_ (fun _ => ?_)
set_option maxHeartbeats 8000000 in
set_option maxRecDepth 100000 in
theorem spillwayref2_Of.calls (k : Nat) (a0 : Int) (r1 : Bool) (r2 : Int) (w : World) (h : spillwayref2_Of.f k a0 = some (r1, r2)) :
    Calls Tryz.prog 8 #[.int .i64 a0] w fun e w' => e = .returned (.agg #[.bool r1, .int .i64 r2]) ∧ Below w.heap.size w w' := by
  have hu23 := Tryz.underlying23
  have HB := Aside0.mk (Below.refl w.heap.size w)
  have H : ((spillwayref2_Mul.f k false a0 false 1000000000000).bind fun bt236 => (some (bt236.1, bt236.2))) = some (r1, r2) := h
  clear h
  replace H := Option.bind_eq_some_iff.mp H
  obtain ⟨⟨t236, t237⟩, A20, H⟩ := H
  replace H : (some (t236, t237)) = some (r1, r2) := H
  have A2 := Aside0.mk A20
  clear A20
  simp only [Option.some.injEq, Prod.mk.injEq] at H
  obtain ⟨rfl, rfl⟩ := H
  go_enter Tryz.func8, Tryz.ntmps8
  go_wp2_with (first | ((with_reducible refine gate_dst (N := 2) rfl ?_); refine box_event ?hg (N := 2) ?hd (cs := #[.bool false, .int .i64 0]) (t := 23) ?hr ?_; (case hd => rfl); (case hg => rfl); (case hr => first | (go_simp; done) | (go_simp; rfl)); intro gb235 hg w3 hbox hb; have n0_ := Aside0.mk (below_step (by repeat (first | (with_reducible first | exact HB.out | apply below_alloc | apply pw_below_drewN | apply below_drew1) | exact HB.out)) hb); have n1_ := Aside0.mk (hbox); have n2_ := Aside0.mk ((by rw [hg]; exact (below_size (by repeat (first | (with_reducible first | exact HB.out | apply below_alloc | apply pw_below_drewN | apply below_drew1) | exact HB.out))) : w.heap.size ≤ gb235)); have n3_ := Aside0.mk ((by rw [hg]; exact (below_size (by repeat (first | (with_reducible first | exact HB.out | apply below_alloc | apply pw_below_drewN | apply below_drew1) | exact HB.out))) : w.heap.size ≤ gb235)); clear HB; have HB := n0_; have BK235 := n1_; have GW235 := n2_; have GE235 := n3_; clear n0_ n1_ n2_ n3_; clear hb hbox hg) | ((with_reducible refine gate_callee (f := 14) rfl ?_); refine goesL_ (some 6) rfl rfl Tryz.func14 (by kernel_rfl) rfl #[.agg #[.bool false, .int .i64 a0], .agg #[.bool false, .int .i64 1000000000000]] rfl (by (try simp only [List.map_toArray, List.map_cons, List.map_nil]); first | done | rfl | (simp only [List.length_drop, List.length_take]; rfl)) ?_; (with_reducible refine (spillwayref2_Mul.calls k false a0 false 1000000000000 t236 t237 _ A2.out).mono ?_); rintro e w4 ⟨rfl, hb⟩; refine ⟨_, rfl, ?_⟩; have n0_ := Aside0.mk (blk_below (g := gb235) (o := .cells #[.bool false, .int .i64 0] 23 (0, 0)) (by (with_reducible repeat (first | refine blk_drewN ?_ _ | refine blk_drew ?_ | refine blk_alloc ?_ _)); exact BK235.out) hb); have n1_ := Aside0.mk (below_step (by repeat (first | (with_reducible first | exact HB.out | apply below_alloc | apply pw_below_drewN | apply below_drew1 | refine below_set ?_ GE235.out) | exact HB.out)) hb); clear BK235; clear HB; have BK235 := n0_; have HB := n1_; clear n0_ n1_; (try clear hb); (try clear hb2); (try clear hk); (try clear hi); have hcz5_0 : w4.cell? ⟨gb235, 0, none⟩ = some (.bool false) := (blk_cell BK235.out 0).trans rfl; have hcz5_1 : w4.cell? ⟨gb235, 1, none⟩ = some (.int .i64 0) := (blk_cell BK235.out 1).trans rfl; have hfz5_0 := blk_frozen BK235.out 0; have hfz5_1 := blk_frozen BK235.out 1))
  refine bodyPost_ret (results_cell_row rfl _ _ gb235 23 #[.bool t236, .int .i64 t237] (0, 0) _ rfl (by (with_reducible repeat (first | refine blk_drewN ?_ _ | refine blk_drew ?_ | refine blk_alloc ?_ _)); refine blk_put (cs := #[.bool t236, .int .i64 0]) ?_ 1 _ rfl; (with_reducible repeat (first | refine blk_drewN ?_ _ | refine blk_drew ?_ | refine blk_alloc ?_ _)); refine blk_put (cs := #[.bool false, .int .i64 0]) ?_ 0 _ rfl; (with_reducible repeat (first | refine blk_drewN ?_ _ | refine blk_drew ?_ | refine blk_alloc ?_ _)); exact BK235.out) Tryz.underlying23 rfl (by kernel_rfl)) rfl ?_
  exact ⟨by first | rfl | (simp [errW_none, errW_some] <;> rfl) | (simp [*, errW_none, errW_some] <;> rfl), by repeat (first | (with_reducible first | exact HB.out | apply below_alloc | apply pw_below_drewN | apply below_drew1 | refine below_set ?_ GE235.out) | exact HB.out)⟩

end Go.Proofs.YtjaolddgnijgiaaGreatDoor.Print
