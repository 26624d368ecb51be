import Derived.Test.YtjaolddgnijgiaaDoorPrint1
import Derived.Test.YtjaolddgnijgiaaDoorPrint8
import Derived.Test.YtjaolddgnijgiaaDoorPrint16
import Derived.Test.YtjaolddgnijgiaaDoorPrint21
import Derived.Test.YtjaolddgnijgiaaDoorPrint25
import Derived.Test.YtjaolddgnijgiaaDoorPrint29
import Derived.Test.YtjaolddgnijgiaaDoorPrint32
import Derived.ChangeKeysEq
namespace Go.Proofs.YtjaolddgnijgiaaDoor.Print
open Go.RowKit Go.Proofs.YtjaolddgnijgiaaDoorX Go.Proofs.YtjaolddgnijgiaaDoorW.PrintWords Go.Proofs.YtjaolddgnijgiaaDoorW.PrintLast Go.Proofs.YtjaolddgnijgiaaDoorW.PrintMore
attribute [local go_sem] max2_int min2_int max_two min_two max_three min_three max_four min_four
set_option linter.unusedVariables false
set_option linter.unusedSimpArgs false
theorem k_p1 : fix_Parse.f 40 ⟨#[45, 48, 46, 53]⟩ = some (false, -500000, 0) := by kernel_rfl
theorem k_p2 : fix_Parse.f 40 ⟨#[48, 49]⟩ = some (false, 0, 20) := by kernel_rfl
theorem k_o1 : fix_Of.f 40 1 = some (false, 1000000) := by kernel_rfl
theorem k_o3 : fix_Of.f 40 3 = some (false, 3000000) := by kernel_rfl
theorem k_d1 : fix_Div.f 40 false 1000000 false 3000000 = some (false, 333333) := by kernel_rfl
theorem k_s1 : fix_Print.f false 333333 = some ⟨#[48, 46, 51, 51, 51, 51, 51, 51]⟩ := by kernel_rfl
theorem k_d2 : fix_Div.f 40 false (-500000) false 0 = some (true, 0) := by kernel_rfl
theorem k_c1 : fix_Cmp.f 40 true 0 false (-500000) = some 1 := by kernel_rfl
theorem k_n : fix_Sum.f 40 ([] : List S25) = some (false, 0) := by kernel_rfl
theorem keep {W W' : World} (hb : Below W.heap.size W W') {g o : Nat} {v : Value} (h : W.cell? ⟨g, o, none⟩ = some v) : W'.cell? ⟨g, o, none⟩ = some v := (hb.cell (World.block_lt_of_cell? _ _ h)).trans h
theorem alloc_cell (W : World) (cs : Array Value) (t : TypeId) (o : Nat) (v : Value) (h : cs[o]? = some v) : (W.alloc (.cells cs t (0, 0))).cell? ⟨W.heap.size, o, none⟩ = some v := by
  rw [World.cell?_alloc_new]
  exact h
def spillwaylaw2_known.f : Option (Bool) := some true
set_option maxHeartbeats 8000000 in
set_option maxRecDepth 100000 in
theorem spillwaylaw2_known.calls (r : Bool) (w : World) (hg_ : LaidW w) (h : spillwaylaw2_known.f = some r) :
    Calls Tryd.prog 10 #[] w fun e w' => e = .returned (.bool r) ∧ Below w.heap.size w w' := by
  obtain rfl : true = r := Option.some.inj h
  clear h
  have HB := Aside0.mk (Below.refl w.heap.size w)
  have HLW := Aside0.mk hg_
  clear hg_
  have qf : ∀ W, (Instr.field 25 (.agg #[.bool true, .int .i64 0]) 0).run Tryd.prog W = .ok (.bool true) W := fun W => by
    unfold Instr.field
    simp only [Sem.run_bind, run_underlying Tryd.underlying25, Result.andThen_ok]
    exact run_part_plain W (e := 4) (by kernel_rfl) rfl
  go_enter Tryd.func10, Tryd.ntmps10
  go_wp2_with (fail)
  refine (fix_Parse.calls 40 _ false (-500000) 0 _ HLW.out k_p1).mono ?_
  rintro e w1 ⟨rfl, hb⟩
  have HB := Aside0.mk hb
  have HLW := Aside0.mk (HLW.out.below hb)
  clear hb
  go_wp2_with (fail)
  refine (fix_Parse.calls 40 _ false 0 20 _ (HLW.out.below (below_alloc (Below.refl _ _) _)) k_p2).mono ?_
  rintro e w2 ⟨rfl, hb⟩
  have n0 := Aside0.mk (keep hb (g := w1.heap.size) (o := 0) (v := .bool false) (alloc_cell w1 _ _ 0 _ rfl))
  have n1 := Aside0.mk (keep hb (g := w1.heap.size) (o := 1) (v := .int .i64 (-500000)) (alloc_cell w1 _ _ 1 _ rfl))
  have HLW := Aside0.mk ((HLW.out.below (below_alloc (Below.refl _ _) _)).below hb)
  have HB := Aside0.mk (below_step (below_alloc HB.out _) hb)
  clear hb
  have a0 := keep (below_alloc (Below.refl w2.heap.size w2) (.cells #[.bool false, .int .i64 0] 25 (0, 0))) n0.out
  have a1 := keep (below_alloc (Below.refl w2.heap.size w2) (.cells #[.bool false, .int .i64 0] 25 (0, 0))) n1.out
  go_wp2_with (fail)
  clear a0 a1
  refine (fix_Of.calls 40 1 false 1000000 _ k_o1).mono ?_
  rintro e w3 ⟨rfl, hb⟩
  have a0 := keep hb (keep (below_alloc (Below.refl w2.heap.size w2) _) n0.out)
  have a1 := keep hb (keep (below_alloc (Below.refl w2.heap.size w2) _) n1.out)
  have HLW := Aside0.mk ((HLW.out.below (below_alloc (Below.refl _ _) _)).below hb)
  have HB := Aside0.mk (below_step (below_alloc HB.out _) hb)
  clear hb
  go_wp2_with (fail)
  refine (fix_Of.calls 40 3 false 3000000 _ k_o3).mono ?_
  rintro e w4 ⟨rfl, hb⟩
  have a0 := keep hb a0
  have a1 := keep hb a1
  have HLW := Aside0.mk (HLW.out.below hb)
  have HB := Aside0.mk (below_step HB.out hb)
  clear hb
  go_wp2_with (fail)
  refine (fix_Div.calls 40 false 1000000 false 3000000 false 333333 _ k_d1).mono ?_
  rintro e w5 ⟨rfl, hb⟩
  have a0 := keep hb a0
  have a1 := keep hb a1
  have HLW := Aside0.mk (HLW.out.below hb)
  have HB := Aside0.mk (below_step HB.out hb)
  clear hb
  go_wp2_with (fail)
  refine (fix_Print.calls false 333333 _ _ HLW.out k_s1).mono ?_
  rintro e w6 ⟨rfl, hb⟩
  have a0 := keep hb a0
  have a1 := keep hb a1
  have HLW := Aside0.mk (HLW.out.below hb)
  have HB := Aside0.mk (below_step HB.out hb)
  clear hb
  go_wp2_with (fail)
  refine (fix_Div.calls 40 false (-500000) false 0 true 0 _ k_d2).mono ?_
  rintro e w7 ⟨rfl, hb⟩
  have a0 := keep hb a0
  have a1 := keep hb a1
  have HLW := Aside0.mk (HLW.out.below hb)
  have HB := Aside0.mk (below_step HB.out hb)
  clear hb
  go_wp2_with (fail)
  refine (fix_Cmp.calls 40 true 0 false (-500000) 1 _ k_c1).mono ?_
  rintro e w8 ⟨rfl, hb⟩
  have HB := Aside0.mk (below_step HB.out hb)
  clear hb
  go_wp2_with (fail)
  refine (fix_Sum.calls 40 _ 0 [] false 0 _ (Kd.C_nil _ _) (Nat.le_refl _) k_n).mono ?_
  rintro e w9 ⟨rfl, hb⟩
  have HB := Aside0.mk (below_step HB.out hb)
  clear hb
  have q := fun W => eqA25 9998 W false false 0 0
  go_wp2
  go_ret
  exact ⟨rfl, HB.out⟩
end Go.Proofs.YtjaolddgnijgiaaDoor.Print
