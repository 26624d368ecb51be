-- PRINTED by print.py (a twelfth state) out of the translation. Not trusted: Lean checks it.
import Derived.Test.YtjaolddgnijgiaaDoorPrint0
import Derived.Test.YtjaolddgnijgiaaDoorPrint1
import Derived.Test.YtjaolddgnijgiaaDoorKnown
import Derived.Test.YtjaolddgnijgiaaDoorIs
import Derived.Test.YtjaolddgnijgiaaDoorPrint26
import Derived.Test.YtjaolddgnijgiaaDoorPrint28
import Derived.Test.YtjaolddgnijgiaaDoorPrint29
import Derived.Test.YtjaolddgnijgiaaDoorPrint31
import Derived.Test.YtjaolddgnijgiaaDoorPrint32
import Derived.Test.YtjaolddgnijgiaaDoorPrint34
import Derived.Test.YtjaolddgnijgiaaDoorPrint8
namespace Go.Proofs.YtjaolddgnijgiaaDoor.E
open Go.RowKit Go.Proofs.YtjaolddgnijgiaaDoorX Go.Proofs.YtjaolddgnijgiaaDoor.Print Go.Proofs.YtjaolddgnijgiaaDoorW.PrintWords Go.Proofs.YtjaolddgnijgiaaDoorW.PrintLast Go.Proofs.YtjaolddgnijgiaaDoorW.PrintMore
attribute [local go_sem] max2_int min2_int max_two min_two max_three min_three max_four min_four   -- for this text's walks alone
set_option linter.unusedVariables false
set_option linter.unusedSimpArgs false

attribute [local go_sem high] eqA25
/-! ### spillwaylaw2_FixLaws: function 8 -/
mutual
def spillwaylaw2_FixLaws.j0 : Nat → Bool → Bool → Int → Bool → Int → Bool → Int → Option (Bool)
 | 0, _, _, _, _, _, _, _ => none
 | k + 1, x22, x102000, x102001, x103000, x103001, x104000, x104001 => if x22 = true then (some true) else ((fix_Add.f k x102000 x102001 x103000 x103001).bind fun bt108 => ((fix_Add.f k x103000 x103001 x102000 x102001).bind fun bt110 => (if (!(bt108.1 == bt110.1) || (!(bt108.2 == bt110.2))) = true then (none) else ((fix_Mul.f k x102000 x102001 x103000 x103001).bind fun bt112 => ((fix_Mul.f k x103000 x103001 x102000 x102001).bind fun bt114 => (if (!(bt112.1 == bt114.1) || (!(bt112.2 == bt114.2))) = true then (none) else ((fix_Sub.f k x102000 x102001 x103000 x103001).bind fun bt116 => ((fix_Neg.f x103000 x103001).bind fun bt118 => ((fix_Add.f k x102000 x102001 bt118.1 bt118.2).bind fun bt120 => (if (!(bt116.1 == bt120.1) || (!(bt116.2 == bt120.2))) = true then (none) else ((fix_Neg.f x102000 x102001).bind fun bt122 => ((fix_Neg.f bt122.1 bt122.2).bind fun bt124 => (if (!(bt124.1 == x102000) || (!(bt124.2 == x102001))) = true then (none) else ((fix_Of.f k 1).bind fun bt126 => ((fix_Mul.f k x102000 x102001 bt126.1 bt126.2).bind fun bt128 => (if (!(bt128.1 == x102000) || (!(bt128.2 == x102001))) = true then (none) else ((fix_Of.f k 1).bind fun bt130 => ((fix_Div.f k x102000 x102001 bt130.1 bt130.2).bind fun bt132 => (if (!(bt132.1 == x102000) || (!(bt132.2 == x102001))) = true then (none) else ((fix_Add.f k x102000 x102001 false 0).bind fun bt134 => (spillwaylaw2_FixLaws.j1 k (!(bt134.1 == x102000) || (!(bt134.2 == x102001))) x102000 x102001 x103000 x103001 x104000 x104001)))))))))))))))))))))
def spillwaylaw2_FixLaws.j1 : Nat → Bool → Bool → Int → Bool → Int → Bool → Int → Option (Bool)
 | 0, _, _, _, _, _, _, _ => none
 | k + 1, x76, x102000, x102001, x103000, x103001, x104000, x104001 => if x76 = true then (none) else ((fix_Add.f k x102000 x102001 x103000 x103001).bind fun bt136 => ((fix_Sub.f k bt136.1 bt136.2 x103000 x103001).bind fun bt138 => (if bt138.1 = true then ((fix_Neg.f x102000 x102001).bind fun bt141 => ((fix_Mul.f k bt141.1 bt141.2 x103000 x103001).bind fun bt143 => ((fix_Mul.f k x102000 x102001 x103000 x103001).bind fun bt145 => ((fix_Neg.f bt145.1 bt145.2).bind fun bt147 => (if (bt143.1 == bt147.1 && (bt143.2 == bt147.2)) = true then ((fix_Sum.f k (([(⟨x102000, x102001⟩ : S25), (⟨x103000, x103001⟩ : S25), (⟨x104000, x104001⟩ : S25)] : List (S25)))).bind fun bt152 => ((fix_Sum.f k (([(⟨x104000, x104001⟩ : S25), (⟨x102000, x102001⟩ : S25), (⟨x103000, x103001⟩ : S25)] : List (S25)))).bind fun bt157 => (if (bt152.1 == bt157.1 && (bt152.2 == bt157.2)) = true then ((fix_Sum.f k (([(⟨x102000, x102001⟩ : S25), (⟨x103000, x103001⟩ : S25)] : List (S25)))).bind fun bt162 => ((fix_Add.f k x102000 x102001 x103000 x103001).bind fun bt164 => (some (bt162.1 == bt164.1 && (bt162.2 == bt164.2))))) else (none)))) else (none)))))) else (none))))
end
def spillwaylaw2_FixLaws.f (k : Nat) (a0_0 : Bool) (a0_1 : Int) (a1_0 : Bool) (a1_1 : Int) (a2_0 : Bool) (a2_1 : Int) : Option (Bool) := (spillwaylaw2_known.f).bind fun t104 => (if t104 = true then ((fix_Is.f a0_0 a0_1).bind fun t105 => (if t105 = true then ((fix_Is.f a1_0 a1_1).bind fun t106 => (if t106 = true then ((fix_Is.f a2_0 a2_1).bind fun t107 => (spillwaylaw2_FixLaws.j0 k (!t107) a0_0 a0_1 a1_0 a1_1 a2_0 a2_1)) else (spillwaylaw2_FixLaws.j0 k true a0_0 a0_1 a1_0 a1_1 a2_0 a2_1))) else (spillwaylaw2_FixLaws.j0 k true a0_0 a0_1 a1_0 a1_1 a2_0 a2_1))) else (none))
theorem spillwaylaw2_FixLaws.mono_l : ∀ k, (∀ y0 y1 y2 y3 y4 y5 y6, LeO (spillwaylaw2_FixLaws.j0 k y0 y1 y2 y3 y4 y5 y6) (spillwaylaw2_FixLaws.j0 (k + 1) y0 y1 y2 y3 y4 y5 y6)) ∧ (∀ y0 y1 y2 y3 y4 y5 y6, LeO (spillwaylaw2_FixLaws.j1 k y0 y1 y2 y3 y4 y5 y6) (spillwaylaw2_FixLaws.j1 (k + 1) y0 y1 y2 y3 y4 y5 y6))
 | 0 => ⟨fun _ _ _ _ _ _ _ r h => by simp [spillwaylaw2_FixLaws.j0] at h, fun _ _ _ _ _ _ _ r h => by simp [spillwaylaw2_FixLaws.j1] at h⟩
 | k + 1 => by
  obtain ⟨ih0, ih1⟩ := spillwaylaw2_FixLaws.mono_l k
  refine ⟨?_, ?_⟩
  ·intro y0 y1 y2 y3 y4 y5 y6
   unfold spillwaylaw2_FixLaws.j0
   repeat' first
   | (with_reducible exact ih0 _ _ _ _ _ _ _)
   | (with_reducible exact ih1 _ _ _ _ _ _ _)
   | (with_reducible exact fix_Add.mono _ _ _ _ _)
   | (with_reducible exact fix_Div.mono _ _ _ _ _)
   | (with_reducible exact fix_Mul.mono _ _ _ _ _)
   | (with_reducible exact fix_Of.mono _ _)
   | (with_reducible exact fix_Sub.mono _ _ _ _ _)
   | (with_reducible exact fix_Sum.mono _ _)
   | (with_reducible exact LeO.refl _)
   | (with_reducible exact LeO.none _)
   | (with_reducible refine LeO.ite ?_ ?_)
   | (with_reducible refine LeO.bind ?_ (fun _ => ?_))
   | exact ih0 _ _ _ _ _ _ _
   | exact ih1 _ _ _ _ _ _ _
   | exact fix_Add.mono _ _ _ _ _
   | exact fix_Div.mono _ _ _ _ _
   | exact fix_Mul.mono _ _ _ _ _
   | exact fix_Of.mono _ _
   | exact fix_Sub.mono _ _ _ _ _
   | exact fix_Sum.mono _ _
   | exact LeO.none _
   | refine LeO.ite ?_ ?_
   | refine LeO.bind ?_ (fun _ => ?_)
  ·intro y0 y1 y2 y3 y4 y5 y6
   unfold spillwaylaw2_FixLaws.j1
   repeat' first
   | (with_reducible exact ih0 _ _ _ _ _ _ _)
   | (with_reducible exact ih1 _ _ _ _ _ _ _)
   | (with_reducible exact fix_Add.mono _ _ _ _ _)
   | (with_reducible exact fix_Div.mono _ _ _ _ _)
   | (with_reducible exact fix_Mul.mono _ _ _ _ _)
   | (with_reducible exact fix_Of.mono _ _)
   | (with_reducible exact fix_Sub.mono _ _ _ _ _)
   | (with_reducible exact fix_Sum.mono _ _)
   | (with_reducible exact LeO.refl _)
   | (with_reducible exact LeO.none _)
   | (with_reducible refine LeO.ite ?_ ?_)
   | (with_reducible refine LeO.bind ?_ (fun _ => ?_))
   | exact ih0 _ _ _ _ _ _ _
   | exact ih1 _ _ _ _ _ _ _
   | exact fix_Add.mono _ _ _ _ _
   | exact fix_Div.mono _ _ _ _ _
   | exact fix_Mul.mono _ _ _ _ _
   | exact fix_Of.mono _ _
   | exact fix_Sub.mono _ _ _ _ _
   | exact fix_Sum.mono _ _
   | exact LeO.none _
   | refine LeO.ite ?_ ?_
   | refine LeO.bind ?_ (fun _ => ?_)
theorem spillwaylaw2_FixLaws.mono : ∀ a0 a1 a2 a3 a4 a5 k, LeO (spillwaylaw2_FixLaws.f k a0 a1 a2 a3 a4 a5) (spillwaylaw2_FixLaws.f (k + 1) a0 a1 a2 a3 a4 a5) := by
 intro a0 a1 a2 a3 a4 a5 k
 obtain ⟨ih0, ih1⟩ := spillwaylaw2_FixLaws.mono_l k
 unfold spillwaylaw2_FixLaws.f
 repeat' first
   | (with_reducible exact ih0 _ _ _ _ _ _ _)
   | (with_reducible exact ih1 _ _ _ _ _ _ _)
   | (with_reducible exact fix_Add.mono _ _ _ _ _)
   | (with_reducible exact fix_Div.mono _ _ _ _ _)
   | (with_reducible exact fix_Mul.mono _ _ _ _ _)
   | (with_reducible exact fix_Of.mono _ _)
   | (with_reducible exact fix_Sub.mono _ _ _ _ _)
   | (with_reducible exact fix_Sum.mono _ _)
   | (with_reducible exact LeO.refl _)
   | (with_reducible exact LeO.none _)
   | (with_reducible refine LeO.ite ?_ ?_)
   | (with_reducible refine LeO.bind ?_ (fun _ => ?_))
   | exact ih0 _ _ _ _ _ _ _
   | exact ih1 _ _ _ _ _ _ _
   | exact fix_Add.mono _ _ _ _ _
   | exact fix_Div.mono _ _ _ _ _
   | exact fix_Mul.mono _ _ _ _ _
   | exact fix_Of.mono _ _
   | exact fix_Sub.mono _ _ _ _ _
   | exact fix_Sum.mono _ _
   | exact LeO.none _
   | refine LeO.ite ?_ ?_
   | refine LeO.bind ?_ (fun _ => ?_)
def spillwaylaw2_FixLaws.T5 : Bool × List (List Nat × List Nat) := (true, [([], []), ([], []), ([0, 1], [0, 1]), ([], []), ([], []), ([3, 4, 2], [3, 4]), ([2, 5], [2, 5]), ([6, 5], [6]), ([7], [7]), ([7], [7]), ([8, 9, 7, 7], [7, 8, 9]), ([7], [7]), ([7], [7]), ([11, 12, 10, 7], [7, 11, 12]), ([10, 13, 7], [7, 10, 13]), ([7, 14], [7, 14]), ([15, 13], [15]), ([16], [16]), ([16], [16]), ([17, 18, 16, 16], [16, 17, 18]), ([16], [16]), ([16], [16]), ([21, 19, 16], [16, 21]), ([20, 22, 22, 16], [16, 20, 22]), ([19, 23, 16], [16, 19, 23]), ([16, 24], [16, 24]), ([25, 23], [25]), ([26], [26]), ([27, 26, 26], [26, 27]), ([28, 28, 26], [26, 28]), ([26], [26]), ([29, 30, 26], [26, 29, 30]), ([26, 31], [26, 31]), ([32, 29], [32]), ([33], [33]), ([33, 33], [33]), ([34, 35, 35, 33], [33, 34, 35]), ([33], [33]), ([36, 37, 33], [33, 36, 37]), ([33, 38], [33, 38]), ([39, 36], [39]), ([40], [40]), ([40, 40], [40]), ([41, 42, 42, 40], [40, 41, 42]), ([40], [40]), ([43, 44, 40], [40, 43, 44]), ([40, 45], [40, 45]), ([46, 43], [46]), ([47], [47]), ([47], [47]), ([48, 49, 47, 47], [47, 48, 49]), ([47], [47]), ([50, 51, 47], [47, 50, 51]), ([47, 52], [47, 52])])
def spillwaylaw2_FixLaws.B5 : List Nat := [0, 0, 3, 0, 0, 31, 63, 127, 255, 255, 1023, 255, 255, 8191, 16383, 32767, 65535, 131071, 131071, 524287, 131071, 131071, 3145727, 8388607, 16777215, 33554431, 67108863, 134217727, 268435455, 536870911, 134217727, 2147483647, 4294967295, 8589934591, 17179869183, 17179869183, 68719476735, 17179869183, 274877906943, 549755813887, 1099511627775, 2199023255551, 2199023255551, 8796093022207, 2199023255551, 35184372088831, 70368744177663, 140737488355327, 281474976710655, 281474976710655, 1125899906842623, 281474976710655, 4503599627370495, 9007199254740991]
theorem spillwaylaw2_FixLaws.tab5 : rtab .any (opsOf Tryd.f8 5) = spillwaylaw2_FixLaws.T5 := by kernel_rfl
theorem spillwaylaw2_FixLaws.bits5 : waitsOk spillwaylaw2_FixLaws.T5.2 spillwaylaw2_FixLaws.B5 = true := by kernel_rfl
def spillwaylaw2_FixLaws.T7 : Bool × List (List Nat × List Nat) := (true, [([], []), ([], []), ([0, 1], [0, 1]), ([], []), ([2, 3, 2], [2, 3]), ([], []), ([5, 4, 4, 0, 1, 2, 3, 4, 5], [4, 5])])
def spillwaylaw2_FixLaws.B7 : List Nat := [0, 0, 3, 0, 15, 0, 63]
theorem spillwaylaw2_FixLaws.tab7 : rtab .any (opsOf Tryd.f8 7) = spillwaylaw2_FixLaws.T7 := by kernel_rfl
theorem spillwaylaw2_FixLaws.bits7 : waitsOk spillwaylaw2_FixLaws.T7.2 spillwaylaw2_FixLaws.B7 = true := by kernel_rfl
def spillwaylaw2_FixLaws.T8 : Bool × List (List Nat × List Nat) := (true, [([], []), ([0], [0]), ([1], [1]), ([2], [2]), ([2], [2]), ([3, 4, 2], [2, 3, 4]), ([2, 5], [2, 5]), ([6, 2], [6]), ([7], [7]), ([8, 7, 7], [7, 8]), ([7], [7]), ([9, 10, 9, 7], [7, 9, 10]), ([7], [7]), ([7], [7]), ([12, 13, 11, 7], [7, 12, 13]), ([14, 14, 7], [7, 14]), ([11, 15, 7], [7, 11, 15]), ([7, 16], [7, 16]), ([17, 15], [17]), ([18], [18]), ([18], [18]), ([18], [18]), ([19, 20, 21, 18], [18, 19, 20, 21]), ([22, 18, 18], [18, 22]), ([18], [18]), ([18], [18]), ([18], [18]), ([24, 25, 26, 18], [18, 24, 25, 26]), ([27, 23, 18], [18, 27]), ([23, 28, 18], [18, 23, 28]), ([18, 29], [18, 29]), ([30, 28], [30]), ([31], [31]), ([31], [31]), ([32, 33, 31], [31, 32, 33]), ([34, 31, 31], [31, 34]), ([31], [31]), ([31], [31]), ([36, 37, 35, 31], [31, 36, 37]), ([35, 38, 31], [31, 35, 38]), ([31, 39], [31, 39]), ([40, 38, 0, 1, 2, 3, 4, 5, 6, 7, 8, 9, 10, 11, 12, 13, 14, 15, 16, 17, 18, 19, 20, 21, 22, 23, 24, 25, 26, 27, 28, 29, 30, 31, 32, 33, 34, 35, 36, 37, 38, 39, 40], [40])])
def spillwaylaw2_FixLaws.B8 : List Nat := [0, 1, 3, 7, 7, 31, 63, 127, 255, 511, 255, 2047, 255, 255, 16383, 32767, 65535, 131071, 262143, 524287, 524287, 524287, 4194303, 8388607, 524287, 524287, 524287, 117964799, 268435455, 536870911, 1073741823, 2147483647, 4294967295, 4294967295, 17179869183, 34359738367, 4294967295, 4294967295, 274877906943, 549755813887, 1099511627775, 2199023255551]
theorem spillwaylaw2_FixLaws.tab8 : rtab .any (opsOf Tryd.f8 8) = spillwaylaw2_FixLaws.T8 := by kernel_rfl
theorem spillwaylaw2_FixLaws.bits8 : waitsOk spillwaylaw2_FixLaws.T8.2 spillwaylaw2_FixLaws.B8 = true := by kernel_rfl
set_option maxHeartbeats 8000000 in
set_option maxRecDepth 100000 in
theorem spillwaylaw2_FixLaws.calls (k : Nat) (a0_0 : Bool) (a0_1 : Int) (a1_0 : Bool) (a1_1 : Int) (a2_0 : Bool) (a2_1 : Int) (r : Bool) (w : World) (hg_ : LaidW w) (h : spillwaylaw2_FixLaws.f k a0_0 a0_1 a1_0 a1_1 a2_0 a2_1 = some r) (hr_ : r = true) :
  Calls Tryd.prog 8 #[.agg #[.bool a0_0, .int .i64 a0_1], .agg #[.bool a1_0, .int .i64 a1_1], .agg #[.bool a2_0, .int .i64 a2_1]] w fun e w' => e = .returned (.bool r) ∧ Below w.heap.size w w' := by
 have HRT := Aside0.mk hr_
 clear hr_
 have HLW := Aside0.mk hg_
 clear hg_
 have hu25 := Tryd.underlying25
 have HB := Aside0.mk (Below.refl w.heap.size w)
 have H : ((spillwaylaw2_known.f).bind fun t104 => (if t104 = true then ((fix_Is.f a0_0 a0_1).bind fun t105 => (if t105 = true then ((fix_Is.f a1_0 a1_1).bind fun t106 => (if t106 = true then ((fix_Is.f a2_0 a2_1).bind fun t107 => (spillwaylaw2_FixLaws.j0 k (!t107) a0_0 a0_1 a1_0 a1_1 a2_0 a2_1)) else (spillwaylaw2_FixLaws.j0 k true a0_0 a0_1 a1_0 a1_1 a2_0 a2_1))) else (spillwaylaw2_FixLaws.j0 k true a0_0 a0_1 a1_0 a1_1 a2_0 a2_1))) else (none))) = some r := h
 clear h
 replace H := Option.bind_eq_some_iff.mp H
 obtain ⟨t104, A40, H⟩ := H
 replace H : (if t104 = true then ((fix_Is.f a0_0 a0_1).bind fun t105 => (if t105 = true then ((fix_Is.f a1_0 a1_1).bind fun t106 => (if t106 = true then ((fix_Is.f a2_0 a2_1).bind fun t107 => (spillwaylaw2_FixLaws.j0 k (!t107) a0_0 a0_1 a1_0 a1_1 a2_0 a2_1)) else (spillwaylaw2_FixLaws.j0 k true a0_0 a0_1 a1_0 a1_1 a2_0 a2_1))) else (spillwaylaw2_FixLaws.j0 k true a0_0 a0_1 a1_0 a1_1 a2_0 a2_1))) else (none)) = some r := H
 have A4 := Aside0.mk A40
 clear A40
 by_cases c5 : t104 = true
 ·subst c5
  have H1 : ((fix_Is.f a0_0 a0_1).bind fun t105 => (if t105 = true then ((fix_Is.f a1_0 a1_1).bind fun t106 => (if t106 = true then ((fix_Is.f a2_0 a2_1).bind fun t107 => (spillwaylaw2_FixLaws.j0 k (!t107) a0_0 a0_1 a1_0 a1_1 a2_0 a2_1)) else (spillwaylaw2_FixLaws.j0 k true a0_0 a0_1 a1_0 a1_1 a2_0 a2_1))) else (spillwaylaw2_FixLaws.j0 k true a0_0 a0_1 a1_0 a1_1 a2_0 a2_1))) = some r := by rw [if_pos rfl] at H; exact H
  clear H
  have H := H1
  clear H1
  have HC6 := Aside0.mk H
  clear H
  go_enter Tryd.func8, Tryd.ntmps8
  go_upto_region 3 with (first | ((with_reducible refine gate_dst (N := 3) rfl ?_); (try (refine gate_guard (by rfl) ?_; dsimp only)); refine box_event ?hg (N := 3) ?hd (cs := #[.bool a0_0, .int .i64 a0_1]) (t := 25) ?hr ?_; (case hd => rfl); (case hg => rfl); (case hr => first | (go_simp; done) | (go_simp; rfl)); intro gb101 hg w7 hbox hb; have n0_ := Aside0.mk (below_step (by repeat (first | (with_reducible first | exact HB.out | apply below_alloc | apply pw_below_drewN | apply below_drew1) | exact HB.out)) hb); have n1_ := Aside0.mk (hbox); have n2_ := Aside0.mk ((by rw [hg]; exact (below_size (by repeat (first | (with_reducible first | exact HB.out | apply below_alloc | apply pw_below_drewN | apply below_drew1) | exact HB.out))) : w.heap.size ≤ gb101)); have n3_ := Aside0.mk ((by rw [hg]; exact (below_size (by repeat (first | (with_reducible first | exact HB.out | apply below_alloc | apply pw_below_drewN | apply below_drew1) | exact HB.out))) : w.heap.size ≤ gb101)); clear HB; have HB := n0_; have BK101 := n1_; have GW101 := n2_; have GE101 := n3_; clear n0_ n1_ n2_ n3_; clear hb hbox hg) | ((with_reducible refine gate_dst (N := 4) rfl ?_); (try (refine gate_guard (by rfl) ?_; dsimp only)); refine box_event ?hg (N := 4) ?hd (cs := #[.bool a1_0, .int .i64 a1_1]) (t := 25) ?hr ?_; (case hd => rfl); (case hg => rfl); (case hr => first | (go_simp; done) | (go_simp; rfl)); intro gb102 hg w8 hbox hb; have n0_ := Aside0.mk (blk_below (g := gb101) (o := .cells #[.bool a0_0, .int .i64 a0_1] 25 (0, 0)) (by (with_reducible repeat (first | refine blk_drewN ?_ _ | refine blk_drew ?_ | refine blk_alloc ?_ _)); exact BK101.out) hb); have n1_ := Aside0.mk (below_step (by repeat (first | (with_reducible first | exact HB.out | apply below_alloc | apply pw_below_drewN | apply below_drew1 | refine below_set ?_ GE101.out) | exact HB.out)) hb); have n2_ := Aside0.mk (hbox); have n3_ := Aside0.mk ((by rw [hg]; exact (below_size (by repeat (first | (with_reducible first | exact HB.out | apply below_alloc | apply pw_below_drewN | apply below_drew1 | refine below_set ?_ GE101.out) | exact HB.out))) : w.heap.size ≤ gb102)); have n4_ := Aside0.mk ((by rw [hg]; exact (below_size (by repeat (first | (with_reducible first | exact HB.out | apply below_alloc | apply pw_below_drewN | apply below_drew1 | refine below_set ?_ GE101.out) | exact HB.out))) : w.heap.size ≤ gb102)); have n5_ := Aside0.mk ((by rw [hg]; exact Nat.ne_of_lt (blk_lt (g := gb101) (o := .cells #[.bool a0_0, .int .i64 a0_1] 25 (0, 0)) (by (with_reducible repeat (first | refine blk_drewN ?_ _ | refine blk_drew ?_ | refine blk_alloc ?_ _)); exact BK101.out)) : gb101 ≠ gb102)); have n6_ := Aside0.mk ((by rw [hg]; exact Nat.ne_of_gt (blk_lt (g := gb101) (o := .cells #[.bool a0_0, .int .i64 a0_1] 25 (0, 0)) (by (with_reducible repeat (first | refine blk_drewN ?_ _ | refine blk_drew ?_ | refine blk_alloc ?_ _)); exact BK101.out)) : gb102 ≠ gb101)); clear BK101; clear HB; have BK101 := n0_; have HB := n1_; have BK102 := n2_; have GW102 := n3_; have GE102 := n4_; have NB101_102 := n5_; have NB102_101 := n6_; clear n0_ n1_ n2_ n3_ n4_ n5_ n6_; clear hb hbox hg) | ((with_reducible refine gate_dst (N := 5) rfl ?_); (try (refine gate_guard (by rfl) ?_; dsimp only)); refine box_event ?hg (N := 5) ?hd (cs := #[.bool a2_0, .int .i64 a2_1]) (t := 25) ?hr ?_; (case hd => rfl); (case hg => rfl); (case hr => first | (go_simp; done) | (go_simp; rfl)); intro gb103 hg w9 hbox hb; have n0_ := Aside0.mk (blk_below (g := gb101) (o := .cells #[.bool a0_0, .int .i64 a0_1] 25 (0, 0)) (by (with_reducible repeat (first | refine blk_drewN ?_ _ | refine blk_drew ?_ | refine blk_alloc ?_ _)); exact BK101.out) hb); have n1_ := Aside0.mk (blk_below (g := gb102) (o := .cells #[.bool a1_0, .int .i64 a1_1] 25 (0, 0)) (by (with_reducible repeat (first | refine blk_drewN ?_ _ | refine blk_drew ?_ | refine blk_alloc ?_ _)); exact BK102.out) hb); have n2_ := Aside0.mk (below_step (by repeat (first | (with_reducible first | exact HB.out | apply below_alloc | apply pw_below_drewN | apply below_drew1 | refine below_set ?_ GE101.out | refine below_set ?_ GE102.out) | exact HB.out)) hb); have n3_ := Aside0.mk (hbox); have n4_ := Aside0.mk ((by rw [hg]; exact (below_size (by repeat (first | (with_reducible first | exact HB.out | apply below_alloc | apply pw_below_drewN | apply below_drew1 | refine below_set ?_ GE101.out | refine below_set ?_ GE102.out) | exact HB.out))) : w.heap.size ≤ gb103)); have n5_ := Aside0.mk ((by rw [hg]; exact (below_size (by repeat (first | (with_reducible first | exact HB.out | apply below_alloc | apply pw_below_drewN | apply below_drew1 | refine below_set ?_ GE101.out | refine below_set ?_ GE102.out) | exact HB.out))) : w.heap.size ≤ gb103)); have n6_ := Aside0.mk ((by rw [hg]; exact Nat.ne_of_lt (blk_lt (g := gb101) (o := .cells #[.bool a0_0, .int .i64 a0_1] 25 (0, 0)) (by (with_reducible repeat (first | refine blk_drewN ?_ _ | refine blk_drew ?_ | refine blk_alloc ?_ _)); exact BK101.out)) : gb101 ≠ gb103)); have n7_ := Aside0.mk ((by rw [hg]; exact Nat.ne_of_gt (blk_lt (g := gb101) (o := .cells #[.bool a0_0, .int .i64 a0_1] 25 (0, 0)) (by (with_reducible repeat (first | refine blk_drewN ?_ _ | refine blk_drew ?_ | refine blk_alloc ?_ _)); exact BK101.out)) : gb103 ≠ gb101)); have n8_ := Aside0.mk ((by rw [hg]; exact Nat.ne_of_lt (blk_lt (g := gb102) (o := .cells #[.bool a1_0, .int .i64 a1_1] 25 (0, 0)) (by (with_reducible repeat (first | refine blk_drewN ?_ _ | refine blk_drew ?_ | refine blk_alloc ?_ _)); exact BK102.out)) : gb102 ≠ gb103)); have n9_ := Aside0.mk ((by rw [hg]; exact Nat.ne_of_gt (blk_lt (g := gb102) (o := .cells #[.bool a1_0, .int .i64 a1_1] 25 (0, 0)) (by (with_reducible repeat (first | refine blk_drewN ?_ _ | refine blk_drew ?_ | refine blk_alloc ?_ _)); exact BK102.out)) : gb103 ≠ gb102)); clear BK101; clear BK102; clear HB; have BK101 := n0_; have BK102 := n1_; have HB := n2_; have BK103 := n3_; have GW103 := n4_; have GE103 := n5_; have NB101_103 := n6_; have NB103_101 := n7_; have NB102_103 := n8_; have NB103_102 := n9_; clear n0_ n1_ n2_ n3_ n4_ n5_ n6_ n7_ n8_ n9_; clear hb hbox hg) | ((with_reducible refine gate_callee (f := 10) rfl ?_); refine goesL_ (some 8) rfl rfl Tryd.func10 (by kernel_rfl) rfl #[] rfl (by (try simp only [List.map_toArray, List.map_cons, List.map_nil]); first | done | rfl | (simp only [List.length_drop, List.length_take]; rfl)) ?_; (with_reducible refine (spillwaylaw2_known.calls  true _ ?side1 A4.out).mono ?_); (case side1 => exact LaidW.below HLW.out (by repeat (first | (with_reducible first | exact HB.out | apply below_alloc | apply pw_below_drewN | apply below_drew1) | exact HB.out))); rintro e w10 ⟨rfl, hb⟩; refine ⟨_, rfl, ?_⟩; have n0_ := Aside0.mk (blk_below (g := gb101) (o := .cells #[.bool a0_0, .int .i64 a0_1] 25 (0, 0)) (by (with_reducible repeat (first | refine blk_drewN ?_ _ | refine blk_drew ?_ | refine blk_alloc ?_ _)); exact BK101.out) hb); have n1_ := Aside0.mk (blk_below (g := gb102) (o := .cells #[.bool a1_0, .int .i64 a1_1] 25 (0, 0)) (by (with_reducible repeat (first | refine blk_drewN ?_ _ | refine blk_drew ?_ | refine blk_alloc ?_ _)); exact BK102.out) hb); have n2_ := Aside0.mk (blk_below (g := gb103) (o := .cells #[.bool a2_0, .int .i64 a2_1] 25 (0, 0)) (by (with_reducible repeat (first | refine blk_drewN ?_ _ | refine blk_drew ?_ | refine blk_alloc ?_ _)); exact BK103.out) hb); have n3_ := Aside0.mk (below_step (by repeat (first | (with_reducible first | exact HB.out | apply below_alloc | apply pw_below_drewN | apply below_drew1 | refine below_set ?_ GE101.out | refine below_set ?_ GE102.out | refine below_set ?_ GE103.out) | exact HB.out)) hb); clear BK101; clear BK102; clear BK103; clear HB; have BK101 := n0_; have BK102 := n1_; have BK103 := n2_; have HB := n3_; clear n0_ n1_ n2_ n3_; (try clear hb); (try clear hb2); (try clear hk); (try clear hi)))
  (try simp only [Act.put, List.setIfInBounds_toArray, List.set_cons_zero, List.set_cons_succ])
  go_cut [22] (fun v22 wc => ∃ (kq : Nat) (x22_5 : Bool), v22 = .bool x22_5 ∧ Aside0 (spillwaylaw2_FixLaws.j0 kq x22_5 a0_0 a0_1 a1_0 a1_1 a2_0 a2_1 = some r) ∧ Aside0 (kq ≤ k) ∧ Aside0 (wc.heap[gb101]? = some (.cells #[.bool a0_0, .int .i64 a0_1] 25 (0, 0))) ∧ Aside0 (wc.heap[gb102]? = some (.cells #[.bool a1_0, .int .i64 a1_1] 25 (0, 0))) ∧ Aside0 (wc.heap[gb103]? = some (.cells #[.bool a2_0, .int .i64 a2_1] 25 (0, 0))) ∧ Aside0 (Below w.heap.size w wc))
  case first =>
   have H := HC6.out
   clear HC6
   replace H := Option.bind_eq_some_iff.mp H
   obtain ⟨t105, A110, H⟩ := H
   replace H : (if t105 = true then ((fix_Is.f a1_0 a1_1).bind fun t106 => (if t106 = true then ((fix_Is.f a2_0 a2_1).bind fun t107 => (spillwaylaw2_FixLaws.j0 k (!t107) a0_0 a0_1 a1_0 a1_1 a2_0 a2_1)) else (spillwaylaw2_FixLaws.j0 k true a0_0 a0_1 a1_0 a1_1 a2_0 a2_1))) else (spillwaylaw2_FixLaws.j0 k true a0_0 a0_1 a1_0 a1_1 a2_0 a2_1)) = some r := H
   have A11 := Aside0.mk A110
   clear A110
   by_cases c12 : t105 = true
   ·subst c12
    have H1 : ((fix_Is.f a1_0 a1_1).bind fun t106 => (if t106 = true then ((fix_Is.f a2_0 a2_1).bind fun t107 => (spillwaylaw2_FixLaws.j0 k (!t107) a0_0 a0_1 a1_0 a1_1 a2_0 a2_1)) else (spillwaylaw2_FixLaws.j0 k true a0_0 a0_1 a1_0 a1_1 a2_0 a2_1))) = some r := by rw [if_pos rfl] at H; exact H
    clear H
    have H := H1
    clear H1
    replace H := Option.bind_eq_some_iff.mp H
    obtain ⟨t106, A130, H⟩ := H
    replace H : (if t106 = true then ((fix_Is.f a2_0 a2_1).bind fun t107 => (spillwaylaw2_FixLaws.j0 k (!t107) a0_0 a0_1 a1_0 a1_1 a2_0 a2_1)) else (spillwaylaw2_FixLaws.j0 k true a0_0 a0_1 a1_0 a1_1 a2_0 a2_1)) = some r := H
    have A13 := Aside0.mk A130
    clear A130
    by_cases c14 : t106 = true
    ·subst c14
     have H1 : ((fix_Is.f a2_0 a2_1).bind fun t107 => (spillwaylaw2_FixLaws.j0 k (!t107) a0_0 a0_1 a1_0 a1_1 a2_0 a2_1)) = some r := by rw [if_pos rfl] at H; exact H
     clear H
     have H := H1
     clear H1
     replace H := Option.bind_eq_some_iff.mp H
     obtain ⟨t107, A150, H⟩ := H
     replace H : (spillwaylaw2_FixLaws.j0 k (!t107) a0_0 a0_1 a1_0 a1_1 a2_0 a2_1) = some r := H
     have A15 := Aside0.mk A150
     clear A150
     have H' := Aside0.mk H
     clear H
     have hnb16 := NB101_102.out
     have hnc16 := NB102_101.out
     have hnb17 := NB101_103.out
     have hnc17 := NB103_101.out
     have hcz18_0 : w10.cell? ⟨gb101, 0, none⟩ = some (.bool a0_0) := (blk_cell BK101.out 0).trans rfl
     have hcz18_1 : w10.cell? ⟨gb101, 1, none⟩ = some (.int .i64 a0_1) := (blk_cell BK101.out 1).trans rfl
     have hfz18_0 := blk_frozen BK101.out 0
     have hfz18_1 := blk_frozen BK101.out 1
     go_wp2_with (first | ((with_reducible refine gate_callee (f := 16) rfl ?_); refine goesL_ (some 11) rfl rfl Tryd.func16 (by kernel_rfl) rfl #[.agg #[.bool a0_0, .int .i64 a0_1]] rfl (by (try simp only [List.map_toArray, List.map_cons, List.map_nil]); first | done | rfl | (simp only [List.length_drop, List.length_take]; rfl)) ?_; (with_reducible refine (fix_Is.calls a0_0 a0_1 true _ A11.out).mono ?_); rintro e w19 ⟨rfl, hb⟩; refine ⟨_, rfl, ?_⟩; have n0_ := Aside0.mk (blk_below (g := gb101) (o := .cells #[.bool a0_0, .int .i64 a0_1] 25 (0, 0)) (by (with_reducible repeat (first | refine blk_drewN ?_ _ | refine blk_drew ?_ | refine blk_alloc ?_ _)); exact BK101.out) hb); have n1_ := Aside0.mk (blk_below (g := gb102) (o := .cells #[.bool a1_0, .int .i64 a1_1] 25 (0, 0)) (by (with_reducible repeat (first | refine blk_drewN ?_ _ | refine blk_drew ?_ | refine blk_alloc ?_ _)); exact BK102.out) hb); have n2_ := Aside0.mk (blk_below (g := gb103) (o := .cells #[.bool a2_0, .int .i64 a2_1] 25 (0, 0)) (by (with_reducible repeat (first | refine blk_drewN ?_ _ | refine blk_drew ?_ | refine blk_alloc ?_ _)); exact BK103.out) hb); have n3_ := Aside0.mk (below_step (by repeat (first | (with_reducible first | exact HB.out | apply below_alloc | apply pw_below_drewN | apply below_drew1 | refine below_set ?_ GE101.out | refine below_set ?_ GE102.out | refine below_set ?_ GE103.out) | exact HB.out)) hb); clear BK101; clear BK102; clear BK103; clear HB; have BK101 := n0_; have BK102 := n1_; have BK103 := n2_; have HB := n3_; clear n0_ n1_ n2_ n3_; (try clear hb); (try clear hb2); (try clear hk); (try clear hi); have hnb20 := NB102_103.out; have hnc20 := NB103_102.out; have hcz21_0 : w19.cell? ⟨gb102, 0, none⟩ = some (.bool a1_0) := (blk_cell BK102.out 0).trans rfl; have hcz21_1 : w19.cell? ⟨gb102, 1, none⟩ = some (.int .i64 a1_1) := (blk_cell BK102.out 1).trans rfl; have hfz21_0 := blk_frozen BK102.out 0; have hfz21_1 := blk_frozen BK102.out 1) | (go_at_call 16; (with_reducible refine (fix_Is.calls a1_0 a1_1 true _ A13.out).mono ?_); rintro e w22 ⟨rfl, hb⟩; have n0_ := Aside0.mk (blk_below (g := gb101) (o := .cells #[.bool a0_0, .int .i64 a0_1] 25 (0, 0)) (by (with_reducible repeat (first | refine blk_drewN ?_ _ | refine blk_drew ?_ | refine blk_alloc ?_ _)); exact BK101.out) hb); have n1_ := Aside0.mk (blk_below (g := gb102) (o := .cells #[.bool a1_0, .int .i64 a1_1] 25 (0, 0)) (by (with_reducible repeat (first | refine blk_drewN ?_ _ | refine blk_drew ?_ | refine blk_alloc ?_ _)); exact BK102.out) hb); have n2_ := Aside0.mk (blk_below (g := gb103) (o := .cells #[.bool a2_0, .int .i64 a2_1] 25 (0, 0)) (by (with_reducible repeat (first | refine blk_drewN ?_ _ | refine blk_drew ?_ | refine blk_alloc ?_ _)); exact BK103.out) hb); have n3_ := Aside0.mk (below_step (by repeat (first | (with_reducible first | exact HB.out | apply below_alloc | apply pw_below_drewN | apply below_drew1 | refine below_set ?_ GE101.out | refine below_set ?_ GE102.out | refine below_set ?_ GE103.out) | exact HB.out)) hb); clear BK101; clear BK102; clear BK103; clear HB; have BK101 := n0_; have BK102 := n1_; have BK103 := n2_; have HB := n3_; clear n0_ n1_ n2_ n3_; (try clear hb); (try clear hb2); (try clear hk); (try clear hi); have hcz23_0 : w22.cell? ⟨gb103, 0, none⟩ = some (.bool a2_0) := (blk_cell BK103.out 0).trans rfl; have hcz23_1 : w22.cell? ⟨gb103, 1, none⟩ = some (.int .i64 a2_1) := (blk_cell BK103.out 1).trans rfl; have hfz23_0 := blk_frozen BK103.out 0; have hfz23_1 := blk_frozen BK103.out 1) | (go_at_call 16; (with_reducible refine (fix_Is.calls a2_0 a2_1 t107 _ A15.out).mono ?_); rintro e w24 ⟨rfl, hb⟩; have n0_ := Aside0.mk (blk_below (g := gb101) (o := .cells #[.bool a0_0, .int .i64 a0_1] 25 (0, 0)) (by (with_reducible repeat (first | refine blk_drewN ?_ _ | refine blk_drew ?_ | refine blk_alloc ?_ _)); exact BK101.out) hb); have n1_ := Aside0.mk (blk_below (g := gb102) (o := .cells #[.bool a1_0, .int .i64 a1_1] 25 (0, 0)) (by (with_reducible repeat (first | refine blk_drewN ?_ _ | refine blk_drew ?_ | refine blk_alloc ?_ _)); exact BK102.out) hb); have n2_ := Aside0.mk (blk_below (g := gb103) (o := .cells #[.bool a2_0, .int .i64 a2_1] 25 (0, 0)) (by (with_reducible repeat (first | refine blk_drewN ?_ _ | refine blk_drew ?_ | refine blk_alloc ?_ _)); exact BK103.out) hb); have n3_ := Aside0.mk (below_step (by repeat (first | (with_reducible first | exact HB.out | apply below_alloc | apply pw_below_drewN | apply below_drew1 | refine below_set ?_ GE101.out | refine below_set ?_ GE102.out | refine below_set ?_ GE103.out) | exact HB.out)) hb); clear BK101; clear BK102; clear BK103; clear HB; have BK101 := n0_; have BK102 := n1_; have BK103 := n2_; have HB := n3_; clear n0_ n1_ n2_ n3_; (try clear hb); (try clear hb2); (try clear hk); (try clear hi)))
     go_meet
     case rel => exact ⟨_, (!t107), (by first | rfl | (simp; done) | (simp [*]; done)), H', ⟨by first | omega | exact Nat.le_refl _⟩, ⟨by (with_reducible repeat (first | refine blk_drewN ?_ _ | refine blk_drew ?_ | refine blk_alloc ?_ _)); exact BK101.out⟩, ⟨by (with_reducible repeat (first | refine blk_drewN ?_ _ | refine blk_drew ?_ | refine blk_alloc ?_ _)); exact BK102.out⟩, ⟨by (with_reducible repeat (first | refine blk_drewN ?_ _ | refine blk_drew ?_ | refine blk_alloc ?_ _)); exact BK103.out⟩, ⟨by repeat (first | (with_reducible first | exact HB.out | apply below_alloc | apply pw_below_drewN | apply below_drew1 | refine below_set ?_ GE101.out | refine below_set ?_ GE102.out | refine below_set ?_ GE103.out) | exact HB.out)⟩⟩
    ·replace c14 := Bool.eq_false_iff.mpr c14
     subst c14
     have H1 : (spillwaylaw2_FixLaws.j0 k true a0_0 a0_1 a1_0 a1_1 a2_0 a2_1) = some r := by rw [if_neg (show ¬ (false = true) by decide)] at H; exact H
     clear H
     have H := H1
     clear H1
     have H' := Aside0.mk H
     clear H
     have hnb25 := NB101_102.out
     have hnc25 := NB102_101.out
     have hnb26 := NB101_103.out
     have hnc26 := NB103_101.out
     have hcz27_0 : w10.cell? ⟨gb101, 0, none⟩ = some (.bool a0_0) := (blk_cell BK101.out 0).trans rfl
     have hcz27_1 : w10.cell? ⟨gb101, 1, none⟩ = some (.int .i64 a0_1) := (blk_cell BK101.out 1).trans rfl
     have hfz27_0 := blk_frozen BK101.out 0
     have hfz27_1 := blk_frozen BK101.out 1
     go_wp2_with (first | ((with_reducible refine gate_callee (f := 16) rfl ?_); refine goesL_ (some 11) rfl rfl Tryd.func16 (by kernel_rfl) rfl #[.agg #[.bool a0_0, .int .i64 a0_1]] rfl (by (try simp only [List.map_toArray, List.map_cons, List.map_nil]); first | done | rfl | (simp only [List.length_drop, List.length_take]; rfl)) ?_; (with_reducible refine (fix_Is.calls a0_0 a0_1 true _ A11.out).mono ?_); rintro e w28 ⟨rfl, hb⟩; refine ⟨_, rfl, ?_⟩; have n0_ := Aside0.mk (blk_below (g := gb101) (o := .cells #[.bool a0_0, .int .i64 a0_1] 25 (0, 0)) (by (with_reducible repeat (first | refine blk_drewN ?_ _ | refine blk_drew ?_ | refine blk_alloc ?_ _)); exact BK101.out) hb); have n1_ := Aside0.mk (blk_below (g := gb102) (o := .cells #[.bool a1_0, .int .i64 a1_1] 25 (0, 0)) (by (with_reducible repeat (first | refine blk_drewN ?_ _ | refine blk_drew ?_ | refine blk_alloc ?_ _)); exact BK102.out) hb); have n2_ := Aside0.mk (blk_below (g := gb103) (o := .cells #[.bool a2_0, .int .i64 a2_1] 25 (0, 0)) (by (with_reducible repeat (first | refine blk_drewN ?_ _ | refine blk_drew ?_ | refine blk_alloc ?_ _)); exact BK103.out) hb); have n3_ := Aside0.mk (below_step (by repeat (first | (with_reducible first | exact HB.out | apply below_alloc | apply pw_below_drewN | apply below_drew1 | refine below_set ?_ GE101.out | refine below_set ?_ GE102.out | refine below_set ?_ GE103.out) | exact HB.out)) hb); clear BK101; clear BK102; clear BK103; clear HB; have BK101 := n0_; have BK102 := n1_; have BK103 := n2_; have HB := n3_; clear n0_ n1_ n2_ n3_; (try clear hb); (try clear hb2); (try clear hk); (try clear hi); have hnb29 := NB102_103.out; have hnc29 := NB103_102.out; have hcz30_0 : w28.cell? ⟨gb102, 0, none⟩ = some (.bool a1_0) := (blk_cell BK102.out 0).trans rfl; have hcz30_1 : w28.cell? ⟨gb102, 1, none⟩ = some (.int .i64 a1_1) := (blk_cell BK102.out 1).trans rfl; have hfz30_0 := blk_frozen BK102.out 0; have hfz30_1 := blk_frozen BK102.out 1) | (go_at_call 16; (with_reducible refine (fix_Is.calls a1_0 a1_1 false _ A13.out).mono ?_); rintro e w31 ⟨rfl, hb⟩; have n0_ := Aside0.mk (blk_below (g := gb101) (o := .cells #[.bool a0_0, .int .i64 a0_1] 25 (0, 0)) (by (with_reducible repeat (first | refine blk_drewN ?_ _ | refine blk_drew ?_ | refine blk_alloc ?_ _)); exact BK101.out) hb); have n1_ := Aside0.mk (blk_below (g := gb102) (o := .cells #[.bool a1_0, .int .i64 a1_1] 25 (0, 0)) (by (with_reducible repeat (first | refine blk_drewN ?_ _ | refine blk_drew ?_ | refine blk_alloc ?_ _)); exact BK102.out) hb); have n2_ := Aside0.mk (blk_below (g := gb103) (o := .cells #[.bool a2_0, .int .i64 a2_1] 25 (0, 0)) (by (with_reducible repeat (first | refine blk_drewN ?_ _ | refine blk_drew ?_ | refine blk_alloc ?_ _)); exact BK103.out) hb); have n3_ := Aside0.mk (below_step (by repeat (first | (with_reducible first | exact HB.out | apply below_alloc | apply pw_below_drewN | apply below_drew1 | refine below_set ?_ GE101.out | refine below_set ?_ GE102.out | refine below_set ?_ GE103.out) | exact HB.out)) hb); clear BK101; clear BK102; clear BK103; clear HB; have BK101 := n0_; have BK102 := n1_; have BK103 := n2_; have HB := n3_; clear n0_ n1_ n2_ n3_; (try clear hb); (try clear hb2); (try clear hk); (try clear hi)))
     go_meet
     case rel => exact ⟨_, (true), (by first | rfl | (simp; done) | (simp [*]; done)), H', ⟨by first | omega | exact Nat.le_refl _⟩, ⟨by (with_reducible repeat (first | refine blk_drewN ?_ _ | refine blk_drew ?_ | refine blk_alloc ?_ _)); exact BK101.out⟩, ⟨by (with_reducible repeat (first | refine blk_drewN ?_ _ | refine blk_drew ?_ | refine blk_alloc ?_ _)); exact BK102.out⟩, ⟨by (with_reducible repeat (first | refine blk_drewN ?_ _ | refine blk_drew ?_ | refine blk_alloc ?_ _)); exact BK103.out⟩, ⟨by repeat (first | (with_reducible first | exact HB.out | apply below_alloc | apply pw_below_drewN | apply below_drew1 | refine below_set ?_ GE101.out | refine below_set ?_ GE102.out | refine below_set ?_ GE103.out) | exact HB.out)⟩⟩
   ·replace c12 := Bool.eq_false_iff.mpr c12
    subst c12
    have H1 : (spillwaylaw2_FixLaws.j0 k true a0_0 a0_1 a1_0 a1_1 a2_0 a2_1) = some r := by rw [if_neg (show ¬ (false = true) by decide)] at H; exact H
    clear H
    have H := H1
    clear H1
    have H' := Aside0.mk H
    clear H
    have hnb32 := NB101_102.out
    have hnc32 := NB102_101.out
    have hnb33 := NB101_103.out
    have hnc33 := NB103_101.out
    have hcz34_0 : w10.cell? ⟨gb101, 0, none⟩ = some (.bool a0_0) := (blk_cell BK101.out 0).trans rfl
    have hcz34_1 : w10.cell? ⟨gb101, 1, none⟩ = some (.int .i64 a0_1) := (blk_cell BK101.out 1).trans rfl
    have hfz34_0 := blk_frozen BK101.out 0
    have hfz34_1 := blk_frozen BK101.out 1
    go_wp2_with (first | ((with_reducible refine gate_callee (f := 16) rfl ?_); refine goesL_ (some 11) rfl rfl Tryd.func16 (by kernel_rfl) rfl #[.agg #[.bool a0_0, .int .i64 a0_1]] rfl (by (try simp only [List.map_toArray, List.map_cons, List.map_nil]); first | done | rfl | (simp only [List.length_drop, List.length_take]; rfl)) ?_; (with_reducible refine (fix_Is.calls a0_0 a0_1 false _ A11.out).mono ?_); rintro e w35 ⟨rfl, hb⟩; refine ⟨_, rfl, ?_⟩; have n0_ := Aside0.mk (blk_below (g := gb101) (o := .cells #[.bool a0_0, .int .i64 a0_1] 25 (0, 0)) (by (with_reducible repeat (first | refine blk_drewN ?_ _ | refine blk_drew ?_ | refine blk_alloc ?_ _)); exact BK101.out) hb); have n1_ := Aside0.mk (blk_below (g := gb102) (o := .cells #[.bool a1_0, .int .i64 a1_1] 25 (0, 0)) (by (with_reducible repeat (first | refine blk_drewN ?_ _ | refine blk_drew ?_ | refine blk_alloc ?_ _)); exact BK102.out) hb); have n2_ := Aside0.mk (blk_below (g := gb103) (o := .cells #[.bool a2_0, .int .i64 a2_1] 25 (0, 0)) (by (with_reducible repeat (first | refine blk_drewN ?_ _ | refine blk_drew ?_ | refine blk_alloc ?_ _)); exact BK103.out) hb); have n3_ := Aside0.mk (below_step (by repeat (first | (with_reducible first | exact HB.out | apply below_alloc | apply pw_below_drewN | apply below_drew1 | refine below_set ?_ GE101.out | refine below_set ?_ GE102.out | refine below_set ?_ GE103.out) | exact HB.out)) hb); clear BK101; clear BK102; clear BK103; clear HB; have BK101 := n0_; have BK102 := n1_; have BK103 := n2_; have HB := n3_; clear n0_ n1_ n2_ n3_; (try clear hb); (try clear hb2); (try clear hk); (try clear hi)))
    go_meet
    case rel => exact ⟨_, (true), (by first | rfl | (simp; done) | (simp [*]; done)), H', ⟨by first | omega | exact Nat.le_refl _⟩, ⟨by (with_reducible repeat (first | refine blk_drewN ?_ _ | refine blk_drew ?_ | refine blk_alloc ?_ _)); exact BK101.out⟩, ⟨by (with_reducible repeat (first | refine blk_drewN ?_ _ | refine blk_drew ?_ | refine blk_alloc ?_ _)); exact BK102.out⟩, ⟨by (with_reducible repeat (first | refine blk_drewN ?_ _ | refine blk_drew ?_ | refine blk_alloc ?_ _)); exact BK103.out⟩, ⟨by repeat (first | (with_reducible first | exact HB.out | apply below_alloc | apply pw_below_drewN | apply below_drew1 | refine below_set ?_ GE101.out | refine below_set ?_ GE102.out | refine below_set ?_ GE103.out) | exact HB.out)⟩⟩
  case rest =>
   clear HC6
   try clear c1
   try clear c2
   try clear p2
   try clear c3
   try clear c5
   try clear c8
   try clear c10
   try clear c12
   try clear c14
   try clear c16
   try clear c17
   try clear c20
   try clear c25
   try clear c26
   try clear c29
   try clear c32
   try clear c33
   try clear hcz18_0
   try clear hcz18_1
   try clear hcz21_0
   try clear hcz21_1
   try clear hcz23_0
   try clear hcz23_1
   try clear hcz27_0
   try clear hcz27_1
   try clear hcz30_0
   try clear hcz30_1
   try clear hcz34_0
   try clear hcz34_1
   try clear hfz18_0
   try clear hfz18_1
   try clear hfz21_0
   try clear hfz21_1
   try clear hfz23_0
   try clear hfz23_1
   try clear hfz27_0
   try clear hfz27_1
   try clear hfz30_0
   try clear hfz30_1
   try clear hfz34_0
   try clear hfz34_1
   obtain ⟨kq, x22_5, rfl, HA, HJ5, BK101, BK102, BK103, HB⟩ := hcut
   cases kq with
   | zero => exact absurd HA.out (by simp [spillwaylaw2_FixLaws.j0])
   | succ kj5 =>
    have H := HA.out
    clear HA
    simp only [spillwaylaw2_FixLaws.j0] at H
    by_cases c36 : x22_5 = true
    ·subst c36
     have H1 : (some true) = some r := by rw [if_pos rfl] at H; exact H
     clear H
     have H := H1
     clear H1
     obtain rfl := Option.some.inj H
     go_wp2
     go_ret
     exact ⟨by first | rfl | (simp [errW_none, errW_some] <;> rfl) | (simp [*, errW_none, errW_some] <;> rfl), by repeat (first | (with_reducible first | exact HB.out | apply below_alloc | apply pw_below_drewN | apply below_drew1 | refine below_set ?_ GE101.out | refine below_set ?_ GE102.out | refine below_set ?_ GE103.out) | exact HB.out)⟩
    ·replace c36 := Bool.eq_false_iff.mpr c36
     subst c36
     have H1 : ((fix_Add.f kj5 a0_0 a0_1 a1_0 a1_1).bind fun bt108 => ((fix_Add.f kj5 a1_0 a1_1 a0_0 a0_1).bind fun bt110 => (if (!(bt108.1 == bt110.1) || (!(bt108.2 == bt110.2))) = true then (none) else ((fix_Mul.f kj5 a0_0 a0_1 a1_0 a1_1).bind fun bt112 => ((fix_Mul.f kj5 a1_0 a1_1 a0_0 a0_1).bind fun bt114 => (if (!(bt112.1 == bt114.1) || (!(bt112.2 == bt114.2))) = true then (none) else ((fix_Sub.f kj5 a0_0 a0_1 a1_0 a1_1).bind fun bt116 => ((fix_Neg.f a1_0 a1_1).bind fun bt118 => ((fix_Add.f kj5 a0_0 a0_1 bt118.1 bt118.2).bind fun bt120 => (if (!(bt116.1 == bt120.1) || (!(bt116.2 == bt120.2))) = true then (none) else ((fix_Neg.f a0_0 a0_1).bind fun bt122 => ((fix_Neg.f bt122.1 bt122.2).bind fun bt124 => (if (!(bt124.1 == a0_0) || (!(bt124.2 == a0_1))) = true then (none) else ((fix_Of.f kj5 1).bind fun bt126 => ((fix_Mul.f kj5 a0_0 a0_1 bt126.1 bt126.2).bind fun bt128 => (if (!(bt128.1 == a0_0) || (!(bt128.2 == a0_1))) = true then (none) else ((fix_Of.f kj5 1).bind fun bt130 => ((fix_Div.f kj5 a0_0 a0_1 bt130.1 bt130.2).bind fun bt132 => (if (!(bt132.1 == a0_0) || (!(bt132.2 == a0_1))) = true then (none) else ((fix_Add.f kj5 a0_0 a0_1 false 0).bind fun bt134 => (spillwaylaw2_FixLaws.j1 kj5 (!(bt134.1 == a0_0) || (!(bt134.2 == a0_1))) a0_0 a0_1 a1_0 a1_1 a2_0 a2_1))))))))))))))))))))) = some r := by rw [if_neg (show ¬ (false = true) by decide)] at H; exact H
     clear H
     have H := H1
     clear H1
     have HC37 := Aside0.mk H
     clear H
     go_upto_region 5 with (fail)
     go_cut [76] (fun v76 wc => ∃ (kq : Nat) (x76_36 : Bool), v76 = .bool x76_36 ∧ Aside0 (spillwaylaw2_FixLaws.j1 kq x76_36 a0_0 a0_1 a1_0 a1_1 a2_0 a2_1 = some r) ∧ Aside0 (kq ≤ kj5) ∧ Aside0 (wc.heap[gb101]? = some (.cells #[.bool a0_0, .int .i64 a0_1] 25 (0, 0))) ∧ Aside0 (wc.heap[gb102]? = some (.cells #[.bool a1_0, .int .i64 a1_1] 25 (0, 0))) ∧ Aside0 (wc.heap[gb103]? = some (.cells #[.bool a2_0, .int .i64 a2_1] 25 (0, 0))) ∧ Aside0 (Below w.heap.size w wc))
     case first =>
      have H := HC37.out
      clear HC37
      replace H := Option.bind_eq_some_iff.mp H
      obtain ⟨⟨t108, t109⟩, A380, H⟩ := H
      replace H : ((fix_Add.f kj5 a1_0 a1_1 a0_0 a0_1).bind fun bt110 => (if (!(t108 == bt110.1) || (!(t109 == bt110.2))) = true then (none) else ((fix_Mul.f kj5 a0_0 a0_1 a1_0 a1_1).bind fun bt112 => ((fix_Mul.f kj5 a1_0 a1_1 a0_0 a0_1).bind fun bt114 => (if (!(bt112.1 == bt114.1) || (!(bt112.2 == bt114.2))) = true then (none) else ((fix_Sub.f kj5 a0_0 a0_1 a1_0 a1_1).bind fun bt116 => ((fix_Neg.f a1_0 a1_1).bind fun bt118 => ((fix_Add.f kj5 a0_0 a0_1 bt118.1 bt118.2).bind fun bt120 => (if (!(bt116.1 == bt120.1) || (!(bt116.2 == bt120.2))) = true then (none) else ((fix_Neg.f a0_0 a0_1).bind fun bt122 => ((fix_Neg.f bt122.1 bt122.2).bind fun bt124 => (if (!(bt124.1 == a0_0) || (!(bt124.2 == a0_1))) = true then (none) else ((fix_Of.f kj5 1).bind fun bt126 => ((fix_Mul.f kj5 a0_0 a0_1 bt126.1 bt126.2).bind fun bt128 => (if (!(bt128.1 == a0_0) || (!(bt128.2 == a0_1))) = true then (none) else ((fix_Of.f kj5 1).bind fun bt130 => ((fix_Div.f kj5 a0_0 a0_1 bt130.1 bt130.2).bind fun bt132 => (if (!(bt132.1 == a0_0) || (!(bt132.2 == a0_1))) = true then (none) else ((fix_Add.f kj5 a0_0 a0_1 false 0).bind fun bt134 => (spillwaylaw2_FixLaws.j1 kj5 (!(bt134.1 == a0_0) || (!(bt134.2 == a0_1))) a0_0 a0_1 a1_0 a1_1 a2_0 a2_1)))))))))))))))))))) = some r := H
      have A38 := Aside0.mk A380
      clear A380
      replace H := Option.bind_eq_some_iff.mp H
      obtain ⟨⟨t110, t111⟩, A390, H⟩ := H
      replace H : (if (!(t108 == t110) || (!(t109 == t111))) = true then (none) else ((fix_Mul.f kj5 a0_0 a0_1 a1_0 a1_1).bind fun bt112 => ((fix_Mul.f kj5 a1_0 a1_1 a0_0 a0_1).bind fun bt114 => (if (!(bt112.1 == bt114.1) || (!(bt112.2 == bt114.2))) = true then (none) else ((fix_Sub.f kj5 a0_0 a0_1 a1_0 a1_1).bind fun bt116 => ((fix_Neg.f a1_0 a1_1).bind fun bt118 => ((fix_Add.f kj5 a0_0 a0_1 bt118.1 bt118.2).bind fun bt120 => (if (!(bt116.1 == bt120.1) || (!(bt116.2 == bt120.2))) = true then (none) else ((fix_Neg.f a0_0 a0_1).bind fun bt122 => ((fix_Neg.f bt122.1 bt122.2).bind fun bt124 => (if (!(bt124.1 == a0_0) || (!(bt124.2 == a0_1))) = true then (none) else ((fix_Of.f kj5 1).bind fun bt126 => ((fix_Mul.f kj5 a0_0 a0_1 bt126.1 bt126.2).bind fun bt128 => (if (!(bt128.1 == a0_0) || (!(bt128.2 == a0_1))) = true then (none) else ((fix_Of.f kj5 1).bind fun bt130 => ((fix_Div.f kj5 a0_0 a0_1 bt130.1 bt130.2).bind fun bt132 => (if (!(bt132.1 == a0_0) || (!(bt132.2 == a0_1))) = true then (none) else ((fix_Add.f kj5 a0_0 a0_1 false 0).bind fun bt134 => (spillwaylaw2_FixLaws.j1 kj5 (!(bt134.1 == a0_0) || (!(bt134.2 == a0_1))) a0_0 a0_1 a1_0 a1_1 a2_0 a2_1))))))))))))))))))) = some r := H
      have A39 := Aside0.mk A390
      clear A390
      by_cases c40 : (!(t108 == t110) || (!(t109 == t111))) = true
      ·rw [if_pos c40] at H
       exact absurd H (by simp)
      ·rw [if_neg c40] at H
       have c40b0 : (!(t108 == t110) || (!(t109 == t111))) = false := by simpa using c40
       clear c40
       (first | rw [c40b0] | (simp only [i64_w, i32_w]; rw [c40b0]) | skip)
       replace H := Option.bind_eq_some_iff.mp H
       obtain ⟨⟨t112, t113⟩, A410, H⟩ := H
       replace H : ((fix_Mul.f kj5 a1_0 a1_1 a0_0 a0_1).bind fun bt114 => (if (!(t112 == bt114.1) || (!(t113 == bt114.2))) = true then (none) else ((fix_Sub.f kj5 a0_0 a0_1 a1_0 a1_1).bind fun bt116 => ((fix_Neg.f a1_0 a1_1).bind fun bt118 => ((fix_Add.f kj5 a0_0 a0_1 bt118.1 bt118.2).bind fun bt120 => (if (!(bt116.1 == bt120.1) || (!(bt116.2 == bt120.2))) = true then (none) else ((fix_Neg.f a0_0 a0_1).bind fun bt122 => ((fix_Neg.f bt122.1 bt122.2).bind fun bt124 => (if (!(bt124.1 == a0_0) || (!(bt124.2 == a0_1))) = true then (none) else ((fix_Of.f kj5 1).bind fun bt126 => ((fix_Mul.f kj5 a0_0 a0_1 bt126.1 bt126.2).bind fun bt128 => (if (!(bt128.1 == a0_0) || (!(bt128.2 == a0_1))) = true then (none) else ((fix_Of.f kj5 1).bind fun bt130 => ((fix_Div.f kj5 a0_0 a0_1 bt130.1 bt130.2).bind fun bt132 => (if (!(bt132.1 == a0_0) || (!(bt132.2 == a0_1))) = true then (none) else ((fix_Add.f kj5 a0_0 a0_1 false 0).bind fun bt134 => (spillwaylaw2_FixLaws.j1 kj5 (!(bt134.1 == a0_0) || (!(bt134.2 == a0_1))) a0_0 a0_1 a1_0 a1_1 a2_0 a2_1))))))))))))))))) = some r := H
       have A41 := Aside0.mk A410
       clear A410
       replace H := Option.bind_eq_some_iff.mp H
       obtain ⟨⟨t114, t115⟩, A420, H⟩ := H
       replace H : (if (!(t112 == t114) || (!(t113 == t115))) = true then (none) else ((fix_Sub.f kj5 a0_0 a0_1 a1_0 a1_1).bind fun bt116 => ((fix_Neg.f a1_0 a1_1).bind fun bt118 => ((fix_Add.f kj5 a0_0 a0_1 bt118.1 bt118.2).bind fun bt120 => (if (!(bt116.1 == bt120.1) || (!(bt116.2 == bt120.2))) = true then (none) else ((fix_Neg.f a0_0 a0_1).bind fun bt122 => ((fix_Neg.f bt122.1 bt122.2).bind fun bt124 => (if (!(bt124.1 == a0_0) || (!(bt124.2 == a0_1))) = true then (none) else ((fix_Of.f kj5 1).bind fun bt126 => ((fix_Mul.f kj5 a0_0 a0_1 bt126.1 bt126.2).bind fun bt128 => (if (!(bt128.1 == a0_0) || (!(bt128.2 == a0_1))) = true then (none) else ((fix_Of.f kj5 1).bind fun bt130 => ((fix_Div.f kj5 a0_0 a0_1 bt130.1 bt130.2).bind fun bt132 => (if (!(bt132.1 == a0_0) || (!(bt132.2 == a0_1))) = true then (none) else ((fix_Add.f kj5 a0_0 a0_1 false 0).bind fun bt134 => (spillwaylaw2_FixLaws.j1 kj5 (!(bt134.1 == a0_0) || (!(bt134.2 == a0_1))) a0_0 a0_1 a1_0 a1_1 a2_0 a2_1)))))))))))))))) = some r := H
       have A42 := Aside0.mk A420
       clear A420
       by_cases c43 : (!(t112 == t114) || (!(t113 == t115))) = true
       ·rw [if_pos c43] at H
        exact absurd H (by simp)
       ·rw [if_neg c43] at H
        have c43b0 : (!(t112 == t114) || (!(t113 == t115))) = false := by simpa using c43
        clear c43
        replace H := Option.bind_eq_some_iff.mp H
        obtain ⟨⟨t116, t117⟩, A440, H⟩ := H
        replace H : ((fix_Neg.f a1_0 a1_1).bind fun bt118 => ((fix_Add.f kj5 a0_0 a0_1 bt118.1 bt118.2).bind fun bt120 => (if (!(t116 == bt120.1) || (!(t117 == bt120.2))) = true then (none) else ((fix_Neg.f a0_0 a0_1).bind fun bt122 => ((fix_Neg.f bt122.1 bt122.2).bind fun bt124 => (if (!(bt124.1 == a0_0) || (!(bt124.2 == a0_1))) = true then (none) else ((fix_Of.f kj5 1).bind fun bt126 => ((fix_Mul.f kj5 a0_0 a0_1 bt126.1 bt126.2).bind fun bt128 => (if (!(bt128.1 == a0_0) || (!(bt128.2 == a0_1))) = true then (none) else ((fix_Of.f kj5 1).bind fun bt130 => ((fix_Div.f kj5 a0_0 a0_1 bt130.1 bt130.2).bind fun bt132 => (if (!(bt132.1 == a0_0) || (!(bt132.2 == a0_1))) = true then (none) else ((fix_Add.f kj5 a0_0 a0_1 false 0).bind fun bt134 => (spillwaylaw2_FixLaws.j1 kj5 (!(bt134.1 == a0_0) || (!(bt134.2 == a0_1))) a0_0 a0_1 a1_0 a1_1 a2_0 a2_1)))))))))))))) = some r := H
        have A44 := Aside0.mk A440
        clear A440
        replace H := Option.bind_eq_some_iff.mp H
        obtain ⟨⟨t118, t119⟩, A450, H⟩ := H
        replace H : ((fix_Add.f kj5 a0_0 a0_1 t118 t119).bind fun bt120 => (if (!(t116 == bt120.1) || (!(t117 == bt120.2))) = true then (none) else ((fix_Neg.f a0_0 a0_1).bind fun bt122 => ((fix_Neg.f bt122.1 bt122.2).bind fun bt124 => (if (!(bt124.1 == a0_0) || (!(bt124.2 == a0_1))) = true then (none) else ((fix_Of.f kj5 1).bind fun bt126 => ((fix_Mul.f kj5 a0_0 a0_1 bt126.1 bt126.2).bind fun bt128 => (if (!(bt128.1 == a0_0) || (!(bt128.2 == a0_1))) = true then (none) else ((fix_Of.f kj5 1).bind fun bt130 => ((fix_Div.f kj5 a0_0 a0_1 bt130.1 bt130.2).bind fun bt132 => (if (!(bt132.1 == a0_0) || (!(bt132.2 == a0_1))) = true then (none) else ((fix_Add.f kj5 a0_0 a0_1 false 0).bind fun bt134 => (spillwaylaw2_FixLaws.j1 kj5 (!(bt134.1 == a0_0) || (!(bt134.2 == a0_1))) a0_0 a0_1 a1_0 a1_1 a2_0 a2_1))))))))))))) = some r := H
        have A45 := Aside0.mk A450
        clear A450
        replace H := Option.bind_eq_some_iff.mp H
        obtain ⟨⟨t120, t121⟩, A460, H⟩ := H
        replace H : (if (!(t116 == t120) || (!(t117 == t121))) = true then (none) else ((fix_Neg.f a0_0 a0_1).bind fun bt122 => ((fix_Neg.f bt122.1 bt122.2).bind fun bt124 => (if (!(bt124.1 == a0_0) || (!(bt124.2 == a0_1))) = true then (none) else ((fix_Of.f kj5 1).bind fun bt126 => ((fix_Mul.f kj5 a0_0 a0_1 bt126.1 bt126.2).bind fun bt128 => (if (!(bt128.1 == a0_0) || (!(bt128.2 == a0_1))) = true then (none) else ((fix_Of.f kj5 1).bind fun bt130 => ((fix_Div.f kj5 a0_0 a0_1 bt130.1 bt130.2).bind fun bt132 => (if (!(bt132.1 == a0_0) || (!(bt132.2 == a0_1))) = true then (none) else ((fix_Add.f kj5 a0_0 a0_1 false 0).bind fun bt134 => (spillwaylaw2_FixLaws.j1 kj5 (!(bt134.1 == a0_0) || (!(bt134.2 == a0_1))) a0_0 a0_1 a1_0 a1_1 a2_0 a2_1)))))))))))) = some r := H
        have A46 := Aside0.mk A460
        clear A460
        by_cases c47 : (!(t116 == t120) || (!(t117 == t121))) = true
        ·rw [if_pos c47] at H
         exact absurd H (by simp)
        ·rw [if_neg c47] at H
         have c47b0 : (!(t116 == t120) || (!(t117 == t121))) = false := by simpa using c47
         clear c47
         replace H := Option.bind_eq_some_iff.mp H
         obtain ⟨⟨t122, t123⟩, A480, H⟩ := H
         replace H : ((fix_Neg.f t122 t123).bind fun bt124 => (if (!(bt124.1 == a0_0) || (!(bt124.2 == a0_1))) = true then (none) else ((fix_Of.f kj5 1).bind fun bt126 => ((fix_Mul.f kj5 a0_0 a0_1 bt126.1 bt126.2).bind fun bt128 => (if (!(bt128.1 == a0_0) || (!(bt128.2 == a0_1))) = true then (none) else ((fix_Of.f kj5 1).bind fun bt130 => ((fix_Div.f kj5 a0_0 a0_1 bt130.1 bt130.2).bind fun bt132 => (if (!(bt132.1 == a0_0) || (!(bt132.2 == a0_1))) = true then (none) else ((fix_Add.f kj5 a0_0 a0_1 false 0).bind fun bt134 => (spillwaylaw2_FixLaws.j1 kj5 (!(bt134.1 == a0_0) || (!(bt134.2 == a0_1))) a0_0 a0_1 a1_0 a1_1 a2_0 a2_1)))))))))) = some r := H
         have A48 := Aside0.mk A480
         clear A480
         replace H := Option.bind_eq_some_iff.mp H
         obtain ⟨⟨t124, t125⟩, A490, H⟩ := H
         replace H : (if (!(t124 == a0_0) || (!(t125 == a0_1))) = true then (none) else ((fix_Of.f kj5 1).bind fun bt126 => ((fix_Mul.f kj5 a0_0 a0_1 bt126.1 bt126.2).bind fun bt128 => (if (!(bt128.1 == a0_0) || (!(bt128.2 == a0_1))) = true then (none) else ((fix_Of.f kj5 1).bind fun bt130 => ((fix_Div.f kj5 a0_0 a0_1 bt130.1 bt130.2).bind fun bt132 => (if (!(bt132.1 == a0_0) || (!(bt132.2 == a0_1))) = true then (none) else ((fix_Add.f kj5 a0_0 a0_1 false 0).bind fun bt134 => (spillwaylaw2_FixLaws.j1 kj5 (!(bt134.1 == a0_0) || (!(bt134.2 == a0_1))) a0_0 a0_1 a1_0 a1_1 a2_0 a2_1))))))))) = some r := H
         have A49 := Aside0.mk A490
         clear A490
         by_cases c50 : (!(t124 == a0_0) || (!(t125 == a0_1))) = true
         ·rw [if_pos c50] at H
          exact absurd H (by simp)
         ·rw [if_neg c50] at H
          have c50b0 : (!(t124 == a0_0) || (!(t125 == a0_1))) = false := by simpa using c50
          clear c50
          replace H := Option.bind_eq_some_iff.mp H
          obtain ⟨⟨t126, t127⟩, A510, H⟩ := H
          replace H : ((fix_Mul.f kj5 a0_0 a0_1 t126 t127).bind fun bt128 => (if (!(bt128.1 == a0_0) || (!(bt128.2 == a0_1))) = true then (none) else ((fix_Of.f kj5 1).bind fun bt130 => ((fix_Div.f kj5 a0_0 a0_1 bt130.1 bt130.2).bind fun bt132 => (if (!(bt132.1 == a0_0) || (!(bt132.2 == a0_1))) = true then (none) else ((fix_Add.f kj5 a0_0 a0_1 false 0).bind fun bt134 => (spillwaylaw2_FixLaws.j1 kj5 (!(bt134.1 == a0_0) || (!(bt134.2 == a0_1))) a0_0 a0_1 a1_0 a1_1 a2_0 a2_1))))))) = some r := H
          have A51 := Aside0.mk A510
          clear A510
          replace H := Option.bind_eq_some_iff.mp H
          obtain ⟨⟨t128, t129⟩, A520, H⟩ := H
          replace H : (if (!(t128 == a0_0) || (!(t129 == a0_1))) = true then (none) else ((fix_Of.f kj5 1).bind fun bt130 => ((fix_Div.f kj5 a0_0 a0_1 bt130.1 bt130.2).bind fun bt132 => (if (!(bt132.1 == a0_0) || (!(bt132.2 == a0_1))) = true then (none) else ((fix_Add.f kj5 a0_0 a0_1 false 0).bind fun bt134 => (spillwaylaw2_FixLaws.j1 kj5 (!(bt134.1 == a0_0) || (!(bt134.2 == a0_1))) a0_0 a0_1 a1_0 a1_1 a2_0 a2_1)))))) = some r := H
          have A52 := Aside0.mk A520
          clear A520
          by_cases c53 : (!(t128 == a0_0) || (!(t129 == a0_1))) = true
          ·rw [if_pos c53] at H
           exact absurd H (by simp)
          ·rw [if_neg c53] at H
           have c53b0 : (!(t128 == a0_0) || (!(t129 == a0_1))) = false := by simpa using c53
           clear c53
           replace H := Option.bind_eq_some_iff.mp H
           obtain ⟨⟨t130, t131⟩, A540, H⟩ := H
           replace H : ((fix_Div.f kj5 a0_0 a0_1 t130 t131).bind fun bt132 => (if (!(bt132.1 == a0_0) || (!(bt132.2 == a0_1))) = true then (none) else ((fix_Add.f kj5 a0_0 a0_1 false 0).bind fun bt134 => (spillwaylaw2_FixLaws.j1 kj5 (!(bt134.1 == a0_0) || (!(bt134.2 == a0_1))) a0_0 a0_1 a1_0 a1_1 a2_0 a2_1)))) = some r := H
           have A54 := Aside0.mk A540
           clear A540
           replace H := Option.bind_eq_some_iff.mp H
           obtain ⟨⟨t132, t133⟩, A550, H⟩ := H
           replace H : (if (!(t132 == a0_0) || (!(t133 == a0_1))) = true then (none) else ((fix_Add.f kj5 a0_0 a0_1 false 0).bind fun bt134 => (spillwaylaw2_FixLaws.j1 kj5 (!(bt134.1 == a0_0) || (!(bt134.2 == a0_1))) a0_0 a0_1 a1_0 a1_1 a2_0 a2_1))) = some r := H
           have A55 := Aside0.mk A550
           clear A550
           by_cases c56 : (!(t132 == a0_0) || (!(t133 == a0_1))) = true
           ·rw [if_pos c56] at H
            exact absurd H (by simp)
           ·rw [if_neg c56] at H
            have c56b0 : (!(t132 == a0_0) || (!(t133 == a0_1))) = false := by simpa using c56
            clear c56
            replace H := Option.bind_eq_some_iff.mp H
            obtain ⟨⟨t134, t135⟩, A570, H⟩ := H
            replace H : (spillwaylaw2_FixLaws.j1 kj5 (!(t134 == a0_0) || (!(t135 == a0_1))) a0_0 a0_1 a1_0 a1_1 a2_0 a2_1) = some r := H
            have A57 := Aside0.mk A570
            clear A570
            have H' := Aside0.mk H
            clear H
            try go_wp2
            have n0_ := Aside0.mk (blk_drew BK101.out)
            have n1_ := Aside0.mk (blk_drew BK102.out)
            have n2_ := Aside0.mk (blk_drew BK103.out)
            have n3_ := Aside0.mk (below_drew1 HB.out)
            clear BK101
            clear BK102
            clear BK103
            clear HB
            have BK101 := n0_
            have BK102 := n1_
            have BK103 := n2_
            have HB := n3_
            clear n0_ n1_ n2_ n3_
            refine start_ (n := 54) (S := fun w' => w'.cell? ⟨gb101, 0, none⟩ = some (.bool a0_0) ∧ w'.cell? ⟨gb101, 1, none⟩ = some (.int .i64 a0_1) ∧ w'.cell? ⟨gb102, 0, none⟩ = some (.bool a1_0) ∧ w'.cell? ⟨gb102, 1, none⟩ = some (.int .i64 a1_1)) (ds := []) #[false, false, false, false, false, false, false, false, false, false, false, false, false, false, false, false, false, false, false, false, false, false, false, false, false, false, false, false, false, false, false, false, false, false, false, false, false, false, false, false, false, false, false, false, false, false, false, false, false, false, false, false, false, false] (by kernel_rfl) rfl rfl ⟨(blk_cell BK101.out 0).trans rfl, (blk_cell BK101.out 1).trans rfl, (blk_cell BK102.out 0).trans rfl, (blk_cell BK102.out 1).trans rfl⟩ (fun hHeld => ?_); refine with_tabW spillwaylaw2_FixLaws.tab5 spillwaylaw2_FixLaws.bits5 (fun HT_ HW_ => ?_)
            generalize wc.drew = w58 at BK101 BK102 BK103 HB hHeld ⊢
            refine take_ (i := 0) (N := some 23) (v := ?_) (a' := ?_) #[true, false, false, false, false, false, false, false, false, false, false, false, false, false, false, false, false, false, false, false, false, false, false, false, false, false, false, false, false, false, false, false, false, false, false, false, false, false, false, false, false, false, false, false, false, false, false, false, false, false, false, false, false, false] rfl rfl (take_ofW HT_.out HW_.out (by kernel_rfl)) (fun _ _ _ h => h) (Or.inl ⟨by rfl, ?_⟩) hHeld ?_ ?_
            rotate_left
            ·rintro w' ⟨s0, s1, s2, s3⟩
             go_simp
             with_reducible rfl
            rotate_left
            ·simp only [Act.put, List.setIfInBounds_toArray, List.set_cons_zero, List.set_cons_succ, i64_w, i32_w]
             rfl
            refine take_ (i := 1) (N := some 24) (v := ?_) (a' := ?_) #[true, true, false, false, false, false, false, false, false, false, false, false, false, false, false, false, false, false, false, false, false, false, false, false, false, false, false, false, false, false, false, false, false, false, false, false, false, false, false, false, false, false, false, false, false, false, false, false, false, false, false, false, false, false] rfl rfl (take_ofW HT_.out HW_.out (by kernel_rfl)) (fun _ _ _ h => h) (Or.inl ⟨by rfl, ?_⟩) hHeld ?_ ?_
            rotate_left
            ·rintro w' ⟨s0, s1, s2, s3⟩
             go_simp
             with_reducible rfl
            rotate_left
            ·simp only [Act.put, List.setIfInBounds_toArray, List.set_cons_zero, List.set_cons_succ, i64_w, i32_w]
             rfl
            refine take_ (i := 3) (N := some 26) (v := ?_) (a' := ?_) #[true, true, false, true, false, false, false, false, false, false, false, false, false, false, false, false, false, false, false, false, false, false, false, false, false, false, false, false, false, false, false, false, false, false, false, false, false, false, false, false, false, false, false, false, false, false, false, false, false, false, false, false, false, false] rfl rfl (take_ofW HT_.out HW_.out (by kernel_rfl)) (fun _ _ _ h => h) (Or.inl ⟨by rfl, ?_⟩) hHeld ?_ ?_
            rotate_left
            ·rintro w' ⟨s0, s1, s2, s3⟩
             go_simp
             with_reducible rfl
            rotate_left
            ·simp only [Act.put, List.setIfInBounds_toArray, List.set_cons_zero, List.set_cons_succ, i64_w, i32_w]
             rfl
            refine take_ (i := 4) (N := some 27) (v := ?_) (a' := ?_) #[true, true, false, true, true, false, false, false, false, false, false, false, false, false, false, false, false, false, false, false, false, false, false, false, false, false, false, false, false, false, false, false, false, false, false, false, false, false, false, false, false, false, false, false, false, false, false, false, false, false, false, false, false, false] rfl rfl (take_ofW HT_.out HW_.out (by kernel_rfl)) (fun _ _ _ h => h) (Or.inl ⟨by rfl, ?_⟩) hHeld ?_ ?_
            rotate_left
            ·rintro w' ⟨s0, s1, s2, s3⟩
             go_simp
             with_reducible rfl
            rotate_left
            ·simp only [Act.put, List.setIfInBounds_toArray, List.set_cons_zero, List.set_cons_succ, i64_w, i32_w]
             rfl
            refine one_ (i := 2) (N := some 25) #[true, true, true, true, true, false, false, false, false, false, false, false, false, false, false, false, false, false, false, false, false, false, false, false, false, false, false, false, false, false, false, false, false, false, false, false, false, false, false, false, false, false, false, false, false, false, false, false, false, false, false, false, false, false] rfl rfl (one_of HT_.out (by kernel_rfl)) (by decide) (fun K hK => ?_)
            refine goes_ Tryd.func18 (by kernel_rfl) rfl #[.agg #[.bool a0_0, .int .i64 a0_1], .agg #[.bool a1_0, .int .i64 a1_1]] (by rfl) rfl rfl (by (try simp only [List.map_toArray, List.map_cons, List.map_nil]); first | done | rfl | (simp only [List.length_drop, List.length_take]; rfl)) ?_
            with_reducible refine (fix_Add.calls kj5 a0_0 a0_1 a1_0 a1_1 t108 t109 _ A38.out).mono ?_
            rintro e w59 ⟨rfl, hb⟩
            refine ⟨_, rfl, ?_⟩
            have n0_ := Aside0.mk (blk_below (g := gb101) (o := .cells #[.bool a0_0, .int .i64 a0_1] 25 (0, 0)) (by (with_reducible repeat (first | refine blk_drewN ?_ _ | refine blk_drew ?_ | refine blk_alloc ?_ _)); exact BK101.out) hb)
            have n1_ := Aside0.mk (blk_below (g := gb102) (o := .cells #[.bool a1_0, .int .i64 a1_1] 25 (0, 0)) (by (with_reducible repeat (first | refine blk_drewN ?_ _ | refine blk_drew ?_ | refine blk_alloc ?_ _)); exact BK102.out) hb)
            have n2_ := Aside0.mk (blk_below (g := gb103) (o := .cells #[.bool a2_0, .int .i64 a2_1] 25 (0, 0)) (by (with_reducible repeat (first | refine blk_drewN ?_ _ | refine blk_drew ?_ | refine blk_alloc ?_ _)); exact BK103.out) hb)
            have n3_ := Aside0.mk (below_step (by repeat (first | (with_reducible first | exact HB.out | apply below_alloc | apply pw_below_drewN | apply below_drew1 | refine below_set ?_ GE101.out | refine below_set ?_ GE102.out | refine below_set ?_ GE103.out) | exact HB.out)) hb)
            clear BK101
            clear BK102
            clear BK103
            clear HB
            have BK101 := n0_
            have BK102 := n1_
            have BK103 := n2_
            have HB := n3_
            clear n0_ n1_ n2_ n3_
            (try clear hb)
            (try clear hb2)
            (try clear hk)
            (try clear hi)
            refine hK.out _ _ ⟨(blk_cell BK101.out 0).trans rfl, (blk_cell BK101.out 1).trans rfl, (blk_cell BK102.out 0).trans rfl, (blk_cell BK102.out 1).trans rfl⟩ (fun hHeld => ?_)
            clear hK K
            refine norm_ (a' := ?_) ?_ ?_
            rotate_left
            ·show Act.put _ (some 25) _ = _
             simp only [Act.put, List.setIfInBounds_toArray, List.set_cons_zero, List.set_cons_succ, i64_w, i32_w]
             rfl
            refine one_ (i := 5) (N := some 28) #[true, true, true, true, true, true, false, false, false, false, false, false, false, false, false, false, false, false, false, false, false, false, false, false, false, false, false, false, false, false, false, false, false, false, false, false, false, false, false, false, false, false, false, false, false, false, false, false, false, false, false, false, false, false] rfl rfl (one_of HT_.out (by kernel_rfl)) (by decide) (fun K hK => ?_)
            refine goes_ Tryd.func18 (by kernel_rfl) rfl #[.agg #[.bool a1_0, .int .i64 a1_1], .agg #[.bool a0_0, .int .i64 a0_1]] (by rfl) rfl rfl (by (try simp only [List.map_toArray, List.map_cons, List.map_nil]); first | done | rfl | (simp only [List.length_drop, List.length_take]; rfl)) ?_
            with_reducible refine (fix_Add.calls kj5 a1_0 a1_1 a0_0 a0_1 t110 t111 _ A39.out).mono ?_
            rintro e w60 ⟨rfl, hb⟩
            refine ⟨_, rfl, ?_⟩
            have n0_ := Aside0.mk (blk_below (g := gb101) (o := .cells #[.bool a0_0, .int .i64 a0_1] 25 (0, 0)) (by (with_reducible repeat (first | refine blk_drewN ?_ _ | refine blk_drew ?_ | refine blk_alloc ?_ _)); exact BK101.out) hb)
            have n1_ := Aside0.mk (blk_below (g := gb102) (o := .cells #[.bool a1_0, .int .i64 a1_1] 25 (0, 0)) (by (with_reducible repeat (first | refine blk_drewN ?_ _ | refine blk_drew ?_ | refine blk_alloc ?_ _)); exact BK102.out) hb)
            have n2_ := Aside0.mk (blk_below (g := gb103) (o := .cells #[.bool a2_0, .int .i64 a2_1] 25 (0, 0)) (by (with_reducible repeat (first | refine blk_drewN ?_ _ | refine blk_drew ?_ | refine blk_alloc ?_ _)); exact BK103.out) hb)
            have n3_ := Aside0.mk (below_step (by repeat (first | (with_reducible first | exact HB.out | apply below_alloc | apply pw_below_drewN | apply below_drew1 | refine below_set ?_ GE101.out | refine below_set ?_ GE102.out | refine below_set ?_ GE103.out) | exact HB.out)) hb)
            clear BK101
            clear BK102
            clear BK103
            clear HB
            have BK101 := n0_
            have BK102 := n1_
            have BK103 := n2_
            have HB := n3_
            clear n0_ n1_ n2_ n3_
            (try clear hb)
            (try clear hb2)
            (try clear hk)
            (try clear hi)
            refine hK.out _ _ ⟨(blk_cell BK101.out 0).trans rfl, (blk_cell BK101.out 1).trans rfl, (blk_cell BK102.out 0).trans rfl, (blk_cell BK102.out 1).trans rfl⟩ (fun hHeld => ?_)
            clear hK K
            refine norm_ (a' := ?_) ?_ ?_
            rotate_left
            ·show Act.put _ (some 28) _ = _
             simp only [Act.put, List.setIfInBounds_toArray, List.set_cons_zero, List.set_cons_succ, i64_w, i32_w]
             rfl
            refine pure_ (i := 6) (N := some 29) (v := ?_) (a' := ?_) #[true, true, true, true, true, true, true, false, false, false, false, false, false, false, false, false, false, false, false, false, false, false, false, false, false, false, false, false, false, false, false, false, false, false, false, false, false, false, false, false, false, false, false, false, false, false, false, false, false, false, false, false, false, false] rfl rfl (any_of HT_.out (by kernel_rfl)) (fun _ _ _ h => h) (Or.inl ⟨by rfl, ?_⟩) ?_ ?_
            rotate_left
            ·intro w'
             go_simp
             with_reducible rfl
            rotate_left
            ·simp only [Act.put, List.setIfInBounds_toArray, List.set_cons_zero, List.set_cons_succ, i64_w, i32_w]
             rfl
            refine pure_ (i := 7) (N := some 30) (v := ?_) (a' := ?_) #[true, true, true, true, true, true, true, true, false, false, false, false, false, false, false, false, false, false, false, false, false, false, false, false, false, false, false, false, false, false, false, false, false, false, false, false, false, false, false, false, false, false, false, false, false, false, false, false, false, false, false, false, false, false] rfl rfl (any_of HT_.out (by kernel_rfl)) (fun _ _ _ h => h) (Or.inl ⟨by rfl, ?_⟩) ?_ ?_
            rotate_left
            ·intro w'
             go_simp
             with_reducible rfl
            rotate_left
            ·simp only [Act.put, List.setIfInBounds_toArray, List.set_cons_zero, List.set_cons_succ, i64_w, i32_w]
             rfl
            refine take_ (i := 8) (N := some 31) (v := ?_) (a' := ?_) #[true, true, true, true, true, true, true, true, true, false, false, false, false, false, false, false, false, false, false, false, false, false, false, false, false, false, false, false, false, false, false, false, false, false, false, false, false, false, false, false, false, false, false, false, false, false, false, false, false, false, false, false, false, false] rfl rfl (take_ofW HT_.out HW_.out (by kernel_rfl)) (fun _ _ _ h => h) (Or.inl ⟨by rfl, ?_⟩) hHeld ?_ ?_
            rotate_left
            ·rintro w' ⟨s0, s1, s2, s3⟩
             go_simp
             with_reducible rfl
            rotate_left
            ·simp only [Act.put, List.setIfInBounds_toArray, List.set_cons_zero, List.set_cons_succ, i64_w, i32_w]
             rfl
            refine take_ (i := 9) (N := some 32) (v := ?_) (a' := ?_) #[true, true, true, true, true, true, true, true, true, true, false, false, false, false, false, false, false, false, false, false, false, false, false, false, false, false, false, false, false, false, false, false, false, false, false, false, false, false, false, false, false, false, false, false, false, false, false, false, false, false, false, false, false, false] rfl rfl (take_ofW HT_.out HW_.out (by kernel_rfl)) (fun _ _ _ h => h) (Or.inl ⟨by rfl, ?_⟩) hHeld ?_ ?_
            rotate_left
            ·rintro w' ⟨s0, s1, s2, s3⟩
             go_simp
             with_reducible rfl
            rotate_left
            ·simp only [Act.put, List.setIfInBounds_toArray, List.set_cons_zero, List.set_cons_succ, i64_w, i32_w]
             rfl
            refine take_ (i := 11) (N := some 34) (v := ?_) (a' := ?_) #[true, true, true, true, true, true, true, true, true, true, false, true, false, false, false, false, false, false, false, false, false, false, false, false, false, false, false, false, false, false, false, false, false, false, false, false, false, false, false, false, false, false, false, false, false, false, false, false, false, false, false, false, false, false] rfl rfl (take_ofW HT_.out HW_.out (by kernel_rfl)) (fun _ _ _ h => h) (Or.inl ⟨by rfl, ?_⟩) hHeld ?_ ?_
            rotate_left
            ·rintro w' ⟨s0, s1, s2, s3⟩
             go_simp
             with_reducible rfl
            rotate_left
            ·simp only [Act.put, List.setIfInBounds_toArray, List.set_cons_zero, List.set_cons_succ, i64_w, i32_w]
             rfl
            refine take_ (i := 12) (N := some 35) (v := ?_) (a' := ?_) #[true, true, true, true, true, true, true, true, true, true, false, true, true, false, false, false, false, false, false, false, false, false, false, false, false, false, false, false, false, false, false, false, false, false, false, false, false, false, false, false, false, false, false, false, false, false, false, false, false, false, false, false, false, false] rfl rfl (take_ofW HT_.out HW_.out (by kernel_rfl)) (fun _ _ _ h => h) (Or.inl ⟨by rfl, ?_⟩) hHeld ?_ ?_
            rotate_left
            ·rintro w' ⟨s0, s1, s2, s3⟩
             go_simp
             with_reducible rfl
            rotate_left
            ·simp only [Act.put, List.setIfInBounds_toArray, List.set_cons_zero, List.set_cons_succ, i64_w, i32_w]
             rfl
            refine one_ (i := 10) (N := some 33) #[true, true, true, true, true, true, true, true, true, true, true, true, true, false, false, false, false, false, false, false, false, false, false, false, false, false, false, false, false, false, false, false, false, false, false, false, false, false, false, false, false, false, false, false, false, false, false, false, false, false, false, false, false, false] rfl rfl (one_of HT_.out (by kernel_rfl)) (by decide) (fun K hK => ?_)
            refine goes_ Tryd.func19 (by kernel_rfl) rfl #[.agg #[.bool a0_0, .int .i64 a0_1], .agg #[.bool a1_0, .int .i64 a1_1]] (by rfl) rfl rfl (by (try simp only [List.map_toArray, List.map_cons, List.map_nil]); first | done | rfl | (simp only [List.length_drop, List.length_take]; rfl)) ?_
            with_reducible refine (fix_Mul.calls kj5 a0_0 a0_1 a1_0 a1_1 t112 t113 _ A41.out).mono ?_
            rintro e w61 ⟨rfl, hb⟩
            refine ⟨_, rfl, ?_⟩
            have n0_ := Aside0.mk (blk_below (g := gb101) (o := .cells #[.bool a0_0, .int .i64 a0_1] 25 (0, 0)) (by (with_reducible repeat (first | refine blk_drewN ?_ _ | refine blk_drew ?_ | refine blk_alloc ?_ _)); exact BK101.out) hb)
            have n1_ := Aside0.mk (blk_below (g := gb102) (o := .cells #[.bool a1_0, .int .i64 a1_1] 25 (0, 0)) (by (with_reducible repeat (first | refine blk_drewN ?_ _ | refine blk_drew ?_ | refine blk_alloc ?_ _)); exact BK102.out) hb)
            have n2_ := Aside0.mk (blk_below (g := gb103) (o := .cells #[.bool a2_0, .int .i64 a2_1] 25 (0, 0)) (by (with_reducible repeat (first | refine blk_drewN ?_ _ | refine blk_drew ?_ | refine blk_alloc ?_ _)); exact BK103.out) hb)
            have n3_ := Aside0.mk (below_step (by repeat (first | (with_reducible first | exact HB.out | apply below_alloc | apply pw_below_drewN | apply below_drew1 | refine below_set ?_ GE101.out | refine below_set ?_ GE102.out | refine below_set ?_ GE103.out) | exact HB.out)) hb)
            clear BK101
            clear BK102
            clear BK103
            clear HB
            have BK101 := n0_
            have BK102 := n1_
            have BK103 := n2_
            have HB := n3_
            clear n0_ n1_ n2_ n3_
            (try clear hb)
            (try clear hb2)
            (try clear hk)
            (try clear hi)
            refine hK.out _ _ ⟨(blk_cell BK101.out 0).trans rfl, (blk_cell BK101.out 1).trans rfl, (blk_cell BK102.out 0).trans rfl, (blk_cell BK102.out 1).trans rfl⟩ (fun hHeld => ?_)
            clear hK K
            refine norm_ (a' := ?_) ?_ ?_
            rotate_left
            ·show Act.put _ (some 33) _ = _
             simp only [Act.put, List.setIfInBounds_toArray, List.set_cons_zero, List.set_cons_succ, i64_w, i32_w]
             rfl
            refine one_ (i := 13) (N := some 36) #[true, true, true, true, true, true, true, true, true, true, true, true, true, true, false, false, false, false, false, false, false, false, false, false, false, false, false, false, false, false, false, false, false, false, false, false, false, false, false, false, false, false, false, false, false, false, false, false, false, false, false, false, false, false] rfl rfl (one_of HT_.out (by kernel_rfl)) (by decide) (fun K hK => ?_)
            refine goes_ Tryd.func19 (by kernel_rfl) rfl #[.agg #[.bool a1_0, .int .i64 a1_1], .agg #[.bool a0_0, .int .i64 a0_1]] (by rfl) rfl rfl (by (try simp only [List.map_toArray, List.map_cons, List.map_nil]); first | done | rfl | (simp only [List.length_drop, List.length_take]; rfl)) ?_
            with_reducible refine (fix_Mul.calls kj5 a1_0 a1_1 a0_0 a0_1 t114 t115 _ A42.out).mono ?_
            rintro e w62 ⟨rfl, hb⟩
            refine ⟨_, rfl, ?_⟩
            have n0_ := Aside0.mk (blk_below (g := gb101) (o := .cells #[.bool a0_0, .int .i64 a0_1] 25 (0, 0)) (by (with_reducible repeat (first | refine blk_drewN ?_ _ | refine blk_drew ?_ | refine blk_alloc ?_ _)); exact BK101.out) hb)
            have n1_ := Aside0.mk (blk_below (g := gb102) (o := .cells #[.bool a1_0, .int .i64 a1_1] 25 (0, 0)) (by (with_reducible repeat (first | refine blk_drewN ?_ _ | refine blk_drew ?_ | refine blk_alloc ?_ _)); exact BK102.out) hb)
            have n2_ := Aside0.mk (blk_below (g := gb103) (o := .cells #[.bool a2_0, .int .i64 a2_1] 25 (0, 0)) (by (with_reducible repeat (first | refine blk_drewN ?_ _ | refine blk_drew ?_ | refine blk_alloc ?_ _)); exact BK103.out) hb)
            have n3_ := Aside0.mk (below_step (by repeat (first | (with_reducible first | exact HB.out | apply below_alloc | apply pw_below_drewN | apply below_drew1 | refine below_set ?_ GE101.out | refine below_set ?_ GE102.out | refine below_set ?_ GE103.out) | exact HB.out)) hb)
            clear BK101
            clear BK102
            clear BK103
            clear HB
            have BK101 := n0_
            have BK102 := n1_
            have BK103 := n2_
            have HB := n3_
            clear n0_ n1_ n2_ n3_
            (try clear hb)
            (try clear hb2)
            (try clear hk)
            (try clear hi)
            refine hK.out _ _ ⟨(blk_cell BK101.out 0).trans rfl, (blk_cell BK101.out 1).trans rfl, (blk_cell BK102.out 0).trans rfl, (blk_cell BK102.out 1).trans rfl⟩ (fun hHeld => ?_)
            clear hK K
            refine norm_ (a' := ?_) ?_ ?_
            rotate_left
            ·show Act.put _ (some 36) _ = _
             simp only [Act.put, List.setIfInBounds_toArray, List.set_cons_zero, List.set_cons_succ, i64_w, i32_w]
             rfl
            refine pure_ (i := 14) (N := some 37) (v := ?_) (a' := ?_) #[true, true, true, true, true, true, true, true, true, true, true, true, true, true, true, false, false, false, false, false, false, false, false, false, false, false, false, false, false, false, false, false, false, false, false, false, false, false, false, false, false, false, false, false, false, false, false, false, false, false, false, false, false, false] rfl rfl (any_of HT_.out (by kernel_rfl)) (fun _ _ _ h => h) (Or.inl ⟨by rfl, ?_⟩) ?_ ?_
            rotate_left
            ·intro w'
             go_simp
             with_reducible rfl
            rotate_left
            ·simp only [Act.put, List.setIfInBounds_toArray, List.set_cons_zero, List.set_cons_succ, i64_w, i32_w]
             rfl
            refine pure_ (i := 15) (N := some 38) (v := ?_) (a' := ?_) #[true, true, true, true, true, true, true, true, true, true, true, true, true, true, true, true, false, false, false, false, false, false, false, false, false, false, false, false, false, false, false, false, false, false, false, false, false, false, false, false, false, false, false, false, false, false, false, false, false, false, false, false, false, false] rfl rfl (any_of HT_.out (by kernel_rfl)) (fun _ _ _ h => h) (Or.inl ⟨by rfl, ?_⟩) ?_ ?_
            rotate_left
            ·intro w'
             go_simp
             with_reducible rfl
            rotate_left
            ·simp only [Act.put, List.setIfInBounds_toArray, List.set_cons_zero, List.set_cons_succ, i64_w, i32_w]
             rfl
            refine pure_ (i := 16) (N := some 39) (v := ?_) (a' := ?_) #[true, true, true, true, true, true, true, true, true, true, true, true, true, true, true, true, true, false, false, false, false, false, false, false, false, false, false, false, false, false, false, false, false, false, false, false, false, false, false, false, false, false, false, false, false, false, false, false, false, false, false, false, false, false] rfl rfl (any_of HT_.out (by kernel_rfl)) (fun _ _ _ h => h) (Or.inl ⟨by rfl, ?_⟩) ?_ ?_
            rotate_left
            ·intro w'
             go_simp
             with_reducible rfl
            rotate_left
            ·simp only [Act.put, List.setIfInBounds_toArray, List.set_cons_zero, List.set_cons_succ, i64_w, i32_w]
             rfl
            refine take_ (i := 17) (N := some 40) (v := ?_) (a' := ?_) #[true, true, true, true, true, true, true, true, true, true, true, true, true, true, true, true, true, true, false, false, false, false, false, false, false, false, false, false, false, false, false, false, false, false, false, false, false, false, false, false, false, false, false, false, false, false, false, false, false, false, false, false, false, false] rfl rfl (take_ofW HT_.out HW_.out (by kernel_rfl)) (fun _ _ _ h => h) (Or.inl ⟨by rfl, ?_⟩) hHeld ?_ ?_
            rotate_left
            ·rintro w' ⟨s0, s1, s2, s3⟩
             go_simp
             with_reducible rfl
            rotate_left
            ·simp only [Act.put, List.setIfInBounds_toArray, List.set_cons_zero, List.set_cons_succ, i64_w, i32_w]
             rfl
            refine take_ (i := 18) (N := some 41) (v := ?_) (a' := ?_) #[true, true, true, true, true, true, true, true, true, true, true, true, true, true, true, true, true, true, true, false, false, false, false, false, false, false, false, false, false, false, false, false, false, false, false, false, false, false, false, false, false, false, false, false, false, false, false, false, false, false, false, false, false, false] rfl rfl (take_ofW HT_.out HW_.out (by kernel_rfl)) (fun _ _ _ h => h) (Or.inl ⟨by rfl, ?_⟩) hHeld ?_ ?_
            rotate_left
            ·rintro w' ⟨s0, s1, s2, s3⟩
             go_simp
             with_reducible rfl
            rotate_left
            ·simp only [Act.put, List.setIfInBounds_toArray, List.set_cons_zero, List.set_cons_succ, i64_w, i32_w]
             rfl
            refine take_ (i := 20) (N := some 43) (v := ?_) (a' := ?_) #[true, true, true, true, true, true, true, true, true, true, true, true, true, true, true, true, true, true, true, false, true, false, false, false, false, false, false, false, false, false, false, false, false, false, false, false, false, false, false, false, false, false, false, false, false, false, false, false, false, false, false, false, false, false] rfl rfl (take_ofW HT_.out HW_.out (by kernel_rfl)) (fun _ _ _ h => h) (Or.inl ⟨by rfl, ?_⟩) hHeld ?_ ?_
            rotate_left
            ·rintro w' ⟨s0, s1, s2, s3⟩
             go_simp
             with_reducible rfl
            rotate_left
            ·simp only [Act.put, List.setIfInBounds_toArray, List.set_cons_zero, List.set_cons_succ, i64_w, i32_w]
             rfl
            refine take_ (i := 21) (N := some 44) (v := ?_) (a' := ?_) #[true, true, true, true, true, true, true, true, true, true, true, true, true, true, true, true, true, true, true, false, true, true, false, false, false, false, false, false, false, false, false, false, false, false, false, false, false, false, false, false, false, false, false, false, false, false, false, false, false, false, false, false, false, false] rfl rfl (take_ofW HT_.out HW_.out (by kernel_rfl)) (fun _ _ _ h => h) (Or.inl ⟨by rfl, ?_⟩) hHeld ?_ ?_
            rotate_left
            ·rintro w' ⟨s0, s1, s2, s3⟩
             go_simp
             with_reducible rfl
            rotate_left
            ·simp only [Act.put, List.setIfInBounds_toArray, List.set_cons_zero, List.set_cons_succ, i64_w, i32_w]
             rfl
            refine one_ (i := 19) (N := some 42) #[true, true, true, true, true, true, true, true, true, true, true, true, true, true, true, true, true, true, true, true, true, true, false, false, false, false, false, false, false, false, false, false, false, false, false, false, false, false, false, false, false, false, false, false, false, false, false, false, false, false, false, false, false, false] rfl rfl (one_of HT_.out (by kernel_rfl)) (by decide) (fun K hK => ?_)
            refine goes_ Tryd.func23 (by kernel_rfl) rfl #[.agg #[.bool a0_0, .int .i64 a0_1], .agg #[.bool a1_0, .int .i64 a1_1]] (by rfl) rfl rfl (by (try simp only [List.map_toArray, List.map_cons, List.map_nil]); first | done | rfl | (simp only [List.length_drop, List.length_take]; rfl)) ?_
            with_reducible refine (fix_Sub.calls kj5 a0_0 a0_1 a1_0 a1_1 t116 t117 _ A44.out).mono ?_
            rintro e w63 ⟨rfl, hb⟩
            refine ⟨_, rfl, ?_⟩
            have n0_ := Aside0.mk (blk_below (g := gb101) (o := .cells #[.bool a0_0, .int .i64 a0_1] 25 (0, 0)) (by (with_reducible repeat (first | refine blk_drewN ?_ _ | refine blk_drew ?_ | refine blk_alloc ?_ _)); exact BK101.out) hb)
            have n1_ := Aside0.mk (blk_below (g := gb102) (o := .cells #[.bool a1_0, .int .i64 a1_1] 25 (0, 0)) (by (with_reducible repeat (first | refine blk_drewN ?_ _ | refine blk_drew ?_ | refine blk_alloc ?_ _)); exact BK102.out) hb)
            have n2_ := Aside0.mk (blk_below (g := gb103) (o := .cells #[.bool a2_0, .int .i64 a2_1] 25 (0, 0)) (by (with_reducible repeat (first | refine blk_drewN ?_ _ | refine blk_drew ?_ | refine blk_alloc ?_ _)); exact BK103.out) hb)
            have n3_ := Aside0.mk (below_step (by repeat (first | (with_reducible first | exact HB.out | apply below_alloc | apply pw_below_drewN | apply below_drew1 | refine below_set ?_ GE101.out | refine below_set ?_ GE102.out | refine below_set ?_ GE103.out) | exact HB.out)) hb)
            clear BK101
            clear BK102
            clear BK103
            clear HB
            have BK101 := n0_
            have BK102 := n1_
            have BK103 := n2_
            have HB := n3_
            clear n0_ n1_ n2_ n3_
            (try clear hb)
            (try clear hb2)
            (try clear hk)
            (try clear hi)
            refine hK.out _ _ ⟨(blk_cell BK101.out 0).trans rfl, (blk_cell BK101.out 1).trans rfl, (blk_cell BK102.out 0).trans rfl, (blk_cell BK102.out 1).trans rfl⟩ (fun hHeld => ?_)
            clear hK K
            refine norm_ (a' := ?_) ?_ ?_
            rotate_left
            ·show Act.put _ (some 42) _ = _
             simp only [Act.put, List.setIfInBounds_toArray, List.set_cons_zero, List.set_cons_succ, i64_w, i32_w]
             rfl
            refine one_ (i := 22) (N := some 45) #[true, true, true, true, true, true, true, true, true, true, true, true, true, true, true, true, true, true, true, true, true, true, true, false, false, false, false, false, false, false, false, false, false, false, false, false, false, false, false, false, false, false, false, false, false, false, false, false, false, false, false, false, false, false] rfl rfl (one_of HT_.out (by kernel_rfl)) (by decide) (fun K hK => ?_)
            refine goes_ Tryd.func21 (by kernel_rfl) rfl #[.agg #[.bool a1_0, .int .i64 a1_1]] (by rfl) rfl rfl (by (try simp only [List.map_toArray, List.map_cons, List.map_nil]); first | done | rfl | (simp only [List.length_drop, List.length_take]; rfl)) ?_
            with_reducible refine (fix_Neg.calls a1_0 a1_1 t118 t119 _ A45.out).mono ?_
            rintro e w64 ⟨rfl, hb⟩
            refine ⟨_, rfl, ?_⟩
            have n0_ := Aside0.mk (blk_below (g := gb101) (o := .cells #[.bool a0_0, .int .i64 a0_1] 25 (0, 0)) (by (with_reducible repeat (first | refine blk_drewN ?_ _ | refine blk_drew ?_ | refine blk_alloc ?_ _)); exact BK101.out) hb)
            have n1_ := Aside0.mk (blk_below (g := gb102) (o := .cells #[.bool a1_0, .int .i64 a1_1] 25 (0, 0)) (by (with_reducible repeat (first | refine blk_drewN ?_ _ | refine blk_drew ?_ | refine blk_alloc ?_ _)); exact BK102.out) hb)
            have n2_ := Aside0.mk (blk_below (g := gb103) (o := .cells #[.bool a2_0, .int .i64 a2_1] 25 (0, 0)) (by (with_reducible repeat (first | refine blk_drewN ?_ _ | refine blk_drew ?_ | refine blk_alloc ?_ _)); exact BK103.out) hb)
            have n3_ := Aside0.mk (below_step (by repeat (first | (with_reducible first | exact HB.out | apply below_alloc | apply pw_below_drewN | apply below_drew1 | refine below_set ?_ GE101.out | refine below_set ?_ GE102.out | refine below_set ?_ GE103.out) | exact HB.out)) hb)
            clear BK101
            clear BK102
            clear BK103
            clear HB
            have BK101 := n0_
            have BK102 := n1_
            have BK103 := n2_
            have HB := n3_
            clear n0_ n1_ n2_ n3_
            (try clear hb)
            (try clear hb2)
            (try clear hk)
            (try clear hi)
            refine hK.out _ _ ⟨(blk_cell BK101.out 0).trans rfl, (blk_cell BK101.out 1).trans rfl, (blk_cell BK102.out 0).trans rfl, (blk_cell BK102.out 1).trans rfl⟩ (fun hHeld => ?_)
            clear hK K
            refine norm_ (a' := ?_) ?_ ?_
            rotate_left
            ·show Act.put _ (some 45) _ = _
             simp only [Act.put, List.setIfInBounds_toArray, List.set_cons_zero, List.set_cons_succ, i64_w, i32_w]
             rfl
            refine one_ (i := 23) (N := some 46) #[true, true, true, true, true, true, true, true, true, true, true, true, true, true, true, true, true, true, true, true, true, true, true, true, false, false, false, false, false, false, false, false, false, false, false, false, false, false, false, false, false, false, false, false, false, false, false, false, false, false, false, false, false, false] rfl rfl (one_of HT_.out (by kernel_rfl)) (by decide) (fun K hK => ?_)
            refine goes_ Tryd.func18 (by kernel_rfl) rfl #[.agg #[.bool a0_0, .int .i64 a0_1], .agg #[.bool t118, .int .i64 t119]] (by rfl) rfl rfl (by (try simp only [List.map_toArray, List.map_cons, List.map_nil]); first | done | rfl | (simp only [List.length_drop, List.length_take]; rfl)) ?_
            with_reducible refine (fix_Add.calls kj5 a0_0 a0_1 t118 t119 t120 t121 _ A46.out).mono ?_
            rintro e w65 ⟨rfl, hb⟩
            refine ⟨_, rfl, ?_⟩
            have n0_ := Aside0.mk (blk_below (g := gb101) (o := .cells #[.bool a0_0, .int .i64 a0_1] 25 (0, 0)) (by (with_reducible repeat (first | refine blk_drewN ?_ _ | refine blk_drew ?_ | refine blk_alloc ?_ _)); exact BK101.out) hb)
            have n1_ := Aside0.mk (blk_below (g := gb102) (o := .cells #[.bool a1_0, .int .i64 a1_1] 25 (0, 0)) (by (with_reducible repeat (first | refine blk_drewN ?_ _ | refine blk_drew ?_ | refine blk_alloc ?_ _)); exact BK102.out) hb)
            have n2_ := Aside0.mk (blk_below (g := gb103) (o := .cells #[.bool a2_0, .int .i64 a2_1] 25 (0, 0)) (by (with_reducible repeat (first | refine blk_drewN ?_ _ | refine blk_drew ?_ | refine blk_alloc ?_ _)); exact BK103.out) hb)
            have n3_ := Aside0.mk (below_step (by repeat (first | (with_reducible first | exact HB.out | apply below_alloc | apply pw_below_drewN | apply below_drew1 | refine below_set ?_ GE101.out | refine below_set ?_ GE102.out | refine below_set ?_ GE103.out) | exact HB.out)) hb)
            clear BK101
            clear BK102
            clear BK103
            clear HB
            have BK101 := n0_
            have BK102 := n1_
            have BK103 := n2_
            have HB := n3_
            clear n0_ n1_ n2_ n3_
            (try clear hb)
            (try clear hb2)
            (try clear hk)
            (try clear hi)
            refine hK.out _ _ ⟨(blk_cell BK101.out 0).trans rfl, (blk_cell BK101.out 1).trans rfl, (blk_cell BK102.out 0).trans rfl, (blk_cell BK102.out 1).trans rfl⟩ (fun hHeld => ?_)
            clear hK K
            refine norm_ (a' := ?_) ?_ ?_
            rotate_left
            ·show Act.put _ (some 46) _ = _
             simp only [Act.put, List.setIfInBounds_toArray, List.set_cons_zero, List.set_cons_succ, i64_w, i32_w]
             rfl
            refine pure_ (i := 24) (N := some 47) (v := ?_) (a' := ?_) #[true, true, true, true, true, true, true, true, true, true, true, true, true, true, true, true, true, true, true, true, true, true, true, true, true, false, false, false, false, false, false, false, false, false, false, false, false, false, false, false, false, false, false, false, false, false, false, false, false, false, false, false, false, false] rfl rfl (any_of HT_.out (by kernel_rfl)) (fun _ _ _ h => h) (Or.inl ⟨by rfl, ?_⟩) ?_ ?_
            rotate_left
            ·intro w'
             go_simp
             with_reducible rfl
            rotate_left
            ·simp only [Act.put, List.setIfInBounds_toArray, List.set_cons_zero, List.set_cons_succ, i64_w, i32_w]
             rfl
            refine pure_ (i := 25) (N := some 48) (v := ?_) (a' := ?_) #[true, true, true, true, true, true, true, true, true, true, true, true, true, true, true, true, true, true, true, true, true, true, true, true, true, true, false, false, false, false, false, false, false, false, false, false, false, false, false, false, false, false, false, false, false, false, false, false, false, false, false, false, false, false] rfl rfl (any_of HT_.out (by kernel_rfl)) (fun _ _ _ h => h) (Or.inl ⟨by rfl, ?_⟩) ?_ ?_
            rotate_left
            ·intro w'
             go_simp
             with_reducible rfl
            rotate_left
            ·simp only [Act.put, List.setIfInBounds_toArray, List.set_cons_zero, List.set_cons_succ, i64_w, i32_w]
             rfl
            refine pure_ (i := 26) (N := some 49) (v := ?_) (a' := ?_) #[true, true, true, true, true, true, true, true, true, true, true, true, true, true, true, true, true, true, true, true, true, true, true, true, true, true, true, false, false, false, false, false, false, false, false, false, false, false, false, false, false, false, false, false, false, false, false, false, false, false, false, false, false, false] rfl rfl (any_of HT_.out (by kernel_rfl)) (fun _ _ _ h => h) (Or.inl ⟨by rfl, ?_⟩) ?_ ?_
            rotate_left
            ·intro w'
             go_simp
             with_reducible rfl
            rotate_left
            ·simp only [Act.put, List.setIfInBounds_toArray, List.set_cons_zero, List.set_cons_succ, i64_w, i32_w]
             rfl
            refine take_ (i := 27) (N := some 50) (v := ?_) (a' := ?_) #[true, true, true, true, true, true, true, true, true, true, true, true, true, true, true, true, true, true, true, true, true, true, true, true, true, true, true, true, false, false, false, false, false, false, false, false, false, false, false, false, false, false, false, false, false, false, false, false, false, false, false, false, false, false] rfl rfl (take_ofW HT_.out HW_.out (by kernel_rfl)) (fun _ _ _ h => h) (Or.inl ⟨by rfl, ?_⟩) hHeld ?_ ?_
            rotate_left
            ·rintro w' ⟨s0, s1, s2, s3⟩
             go_simp
             with_reducible rfl
            rotate_left
            ·simp only [Act.put, List.setIfInBounds_toArray, List.set_cons_zero, List.set_cons_succ, i64_w, i32_w]
             rfl
            refine take_ (i := 30) (N := some 53) (v := ?_) (a' := ?_) #[true, true, true, true, true, true, true, true, true, true, true, true, true, true, true, true, true, true, true, true, true, true, true, true, true, true, true, true, false, false, true, false, false, false, false, false, false, false, false, false, false, false, false, false, false, false, false, false, false, false, false, false, false, false] rfl rfl (take_ofW HT_.out HW_.out (by kernel_rfl)) (fun _ _ _ h => h) (Or.inl ⟨by rfl, ?_⟩) hHeld ?_ ?_
            rotate_left
            ·rintro w' ⟨s0, s1, s2, s3⟩
             go_simp
             with_reducible rfl
            rotate_left
            ·simp only [Act.put, List.setIfInBounds_toArray, List.set_cons_zero, List.set_cons_succ, i64_w, i32_w]
             rfl
            refine one_ (i := 28) (N := some 51) #[true, true, true, true, true, true, true, true, true, true, true, true, true, true, true, true, true, true, true, true, true, true, true, true, true, true, true, true, true, false, true, false, false, false, false, false, false, false, false, false, false, false, false, false, false, false, false, false, false, false, false, false, false, false] rfl rfl (one_of HT_.out (by kernel_rfl)) (by decide) (fun K hK => ?_)
            refine goes_ Tryd.func21 (by kernel_rfl) rfl #[.agg #[.bool a0_0, .int .i64 a0_1]] (by rfl) rfl rfl (by (try simp only [List.map_toArray, List.map_cons, List.map_nil]); first | done | rfl | (simp only [List.length_drop, List.length_take]; rfl)) ?_
            with_reducible refine (fix_Neg.calls a0_0 a0_1 t122 t123 _ A48.out).mono ?_
            rintro e w66 ⟨rfl, hb⟩
            refine ⟨_, rfl, ?_⟩
            have n0_ := Aside0.mk (blk_below (g := gb101) (o := .cells #[.bool a0_0, .int .i64 a0_1] 25 (0, 0)) (by (with_reducible repeat (first | refine blk_drewN ?_ _ | refine blk_drew ?_ | refine blk_alloc ?_ _)); exact BK101.out) hb)
            have n1_ := Aside0.mk (blk_below (g := gb102) (o := .cells #[.bool a1_0, .int .i64 a1_1] 25 (0, 0)) (by (with_reducible repeat (first | refine blk_drewN ?_ _ | refine blk_drew ?_ | refine blk_alloc ?_ _)); exact BK102.out) hb)
            have n2_ := Aside0.mk (blk_below (g := gb103) (o := .cells #[.bool a2_0, .int .i64 a2_1] 25 (0, 0)) (by (with_reducible repeat (first | refine blk_drewN ?_ _ | refine blk_drew ?_ | refine blk_alloc ?_ _)); exact BK103.out) hb)
            have n3_ := Aside0.mk (below_step (by repeat (first | (with_reducible first | exact HB.out | apply below_alloc | apply pw_below_drewN | apply below_drew1 | refine below_set ?_ GE101.out | refine below_set ?_ GE102.out | refine below_set ?_ GE103.out) | exact HB.out)) hb)
            clear BK101
            clear BK102
            clear BK103
            clear HB
            have BK101 := n0_
            have BK102 := n1_
            have BK103 := n2_
            have HB := n3_
            clear n0_ n1_ n2_ n3_
            (try clear hb)
            (try clear hb2)
            (try clear hk)
            (try clear hi)
            refine hK.out _ _ ⟨(blk_cell BK101.out 0).trans rfl, (blk_cell BK101.out 1).trans rfl, (blk_cell BK102.out 0).trans rfl, (blk_cell BK102.out 1).trans rfl⟩ (fun hHeld => ?_)
            clear hK K
            refine norm_ (a' := ?_) ?_ ?_
            rotate_left
            ·show Act.put _ (some 51) _ = _
             simp only [Act.put, List.setIfInBounds_toArray, List.set_cons_zero, List.set_cons_succ, i64_w, i32_w]
             rfl
            refine one_ (i := 29) (N := some 52) #[true, true, true, true, true, true, true, true, true, true, true, true, true, true, true, true, true, true, true, true, true, true, true, true, true, true, true, true, true, true, true, false, false, false, false, false, false, false, false, false, false, false, false, false, false, false, false, false, false, false, false, false, false, false] rfl rfl (one_of HT_.out (by kernel_rfl)) (by decide) (fun K hK => ?_)
            refine goes_ Tryd.func21 (by kernel_rfl) rfl #[.agg #[.bool t122, .int .i64 t123]] (by rfl) rfl rfl (by (try simp only [List.map_toArray, List.map_cons, List.map_nil]); first | done | rfl | (simp only [List.length_drop, List.length_take]; rfl)) ?_
            with_reducible refine (fix_Neg.calls t122 t123 t124 t125 _ A49.out).mono ?_
            rintro e w67 ⟨rfl, hb⟩
            refine ⟨_, rfl, ?_⟩
            have n0_ := Aside0.mk (blk_below (g := gb101) (o := .cells #[.bool a0_0, .int .i64 a0_1] 25 (0, 0)) (by (with_reducible repeat (first | refine blk_drewN ?_ _ | refine blk_drew ?_ | refine blk_alloc ?_ _)); exact BK101.out) hb)
            have n1_ := Aside0.mk (blk_below (g := gb102) (o := .cells #[.bool a1_0, .int .i64 a1_1] 25 (0, 0)) (by (with_reducible repeat (first | refine blk_drewN ?_ _ | refine blk_drew ?_ | refine blk_alloc ?_ _)); exact BK102.out) hb)
            have n2_ := Aside0.mk (blk_below (g := gb103) (o := .cells #[.bool a2_0, .int .i64 a2_1] 25 (0, 0)) (by (with_reducible repeat (first | refine blk_drewN ?_ _ | refine blk_drew ?_ | refine blk_alloc ?_ _)); exact BK103.out) hb)
            have n3_ := Aside0.mk (below_step (by repeat (first | (with_reducible first | exact HB.out | apply below_alloc | apply pw_below_drewN | apply below_drew1 | refine below_set ?_ GE101.out | refine below_set ?_ GE102.out | refine below_set ?_ GE103.out) | exact HB.out)) hb)
            clear BK101
            clear BK102
            clear BK103
            clear HB
            have BK101 := n0_
            have BK102 := n1_
            have BK103 := n2_
            have HB := n3_
            clear n0_ n1_ n2_ n3_
            (try clear hb)
            (try clear hb2)
            (try clear hk)
            (try clear hi)
            refine hK.out _ _ ⟨(blk_cell BK101.out 0).trans rfl, (blk_cell BK101.out 1).trans rfl, (blk_cell BK102.out 0).trans rfl, (blk_cell BK102.out 1).trans rfl⟩ (fun hHeld => ?_)
            clear hK K
            refine norm_ (a' := ?_) ?_ ?_
            rotate_left
            ·show Act.put _ (some 52) _ = _
             simp only [Act.put, List.setIfInBounds_toArray, List.set_cons_zero, List.set_cons_succ, i64_w, i32_w]
             rfl
            refine pure_ (i := 31) (N := some 54) (v := ?_) (a' := ?_) #[true, true, true, true, true, true, true, true, true, true, true, true, true, true, true, true, true, true, true, true, true, true, true, true, true, true, true, true, true, true, true, true, false, false, false, false, false, false, false, false, false, false, false, false, false, false, false, false, false, false, false, false, false, false] rfl rfl (any_of HT_.out (by kernel_rfl)) (fun _ _ _ h => h) (Or.inl ⟨by rfl, ?_⟩) ?_ ?_
            rotate_left
            ·intro w'
             go_simp
             with_reducible rfl
            rotate_left
            ·simp only [Act.put, List.setIfInBounds_toArray, List.set_cons_zero, List.set_cons_succ, i64_w, i32_w]
             rfl
            refine pure_ (i := 32) (N := some 55) (v := ?_) (a' := ?_) #[true, true, true, true, true, true, true, true, true, true, true, true, true, true, true, true, true, true, true, true, true, true, true, true, true, true, true, true, true, true, true, true, true, false, false, false, false, false, false, false, false, false, false, false, false, false, false, false, false, false, false, false, false, false] rfl rfl (any_of HT_.out (by kernel_rfl)) (fun _ _ _ h => h) (Or.inl ⟨by rfl, ?_⟩) ?_ ?_
            rotate_left
            ·intro w'
             go_simp
             with_reducible rfl
            rotate_left
            ·simp only [Act.put, List.setIfInBounds_toArray, List.set_cons_zero, List.set_cons_succ, i64_w, i32_w]
             rfl
            refine pure_ (i := 33) (N := some 56) (v := ?_) (a' := ?_) #[true, true, true, true, true, true, true, true, true, true, true, true, true, true, true, true, true, true, true, true, true, true, true, true, true, true, true, true, true, true, true, true, true, true, false, false, false, false, false, false, false, false, false, false, false, false, false, false, false, false, false, false, false, false] rfl rfl (any_of HT_.out (by kernel_rfl)) (fun _ _ _ h => h) (Or.inl ⟨by rfl, ?_⟩) ?_ ?_
            rotate_left
            ·intro w'
             go_simp
             with_reducible rfl
            rotate_left
            ·simp only [Act.put, List.setIfInBounds_toArray, List.set_cons_zero, List.set_cons_succ, i64_w, i32_w]
             rfl
            refine take_ (i := 34) (N := some 57) (v := ?_) (a' := ?_) #[true, true, true, true, true, true, true, true, true, true, true, true, true, true, true, true, true, true, true, true, true, true, true, true, true, true, true, true, true, true, true, true, true, true, true, false, false, false, false, false, false, false, false, false, false, false, false, false, false, false, false, false, false, false] rfl rfl (take_ofW HT_.out HW_.out (by kernel_rfl)) (fun _ _ _ h => h) (Or.inl ⟨by rfl, ?_⟩) hHeld ?_ ?_
            rotate_left
            ·rintro w' ⟨s0, s1, s2, s3⟩
             go_simp
             with_reducible rfl
            rotate_left
            ·simp only [Act.put, List.setIfInBounds_toArray, List.set_cons_zero, List.set_cons_succ, i64_w, i32_w]
             rfl
            refine take_ (i := 37) (N := some 60) (v := ?_) (a' := ?_) #[true, true, true, true, true, true, true, true, true, true, true, true, true, true, true, true, true, true, true, true, true, true, true, true, true, true, true, true, true, true, true, true, true, true, true, false, false, true, false, false, false, false, false, false, false, false, false, false, false, false, false, false, false, false] rfl rfl (take_ofW HT_.out HW_.out (by kernel_rfl)) (fun _ _ _ h => h) (Or.inl ⟨by rfl, ?_⟩) hHeld ?_ ?_
            rotate_left
            ·rintro w' ⟨s0, s1, s2, s3⟩
             go_simp
             with_reducible rfl
            rotate_left
            ·simp only [Act.put, List.setIfInBounds_toArray, List.set_cons_zero, List.set_cons_succ, i64_w, i32_w]
             rfl
            refine one_ (i := 35) (N := some 58) #[true, true, true, true, true, true, true, true, true, true, true, true, true, true, true, true, true, true, true, true, true, true, true, true, true, true, true, true, true, true, true, true, true, true, true, true, false, true, false, false, false, false, false, false, false, false, false, false, false, false, false, false, false, false] rfl rfl (one_of HT_.out (by kernel_rfl)) (by decide) (fun K hK => ?_)
            refine goes_ Tryd.func22 (by kernel_rfl) rfl #[.int .i64 1] (by rfl) rfl rfl (by (try simp only [List.map_toArray, List.map_cons, List.map_nil]); first | done | rfl | (simp only [List.length_drop, List.length_take]; rfl)) ?_
            with_reducible refine (fix_Of.calls kj5 1 t126 t127 _ A51.out).mono ?_
            rintro e w68 ⟨rfl, hb⟩
            refine ⟨_, rfl, ?_⟩
            have n0_ := Aside0.mk (blk_below (g := gb101) (o := .cells #[.bool a0_0, .int .i64 a0_1] 25 (0, 0)) (by (with_reducible repeat (first | refine blk_drewN ?_ _ | refine blk_drew ?_ | refine blk_alloc ?_ _)); exact BK101.out) hb)
            have n1_ := Aside0.mk (blk_below (g := gb102) (o := .cells #[.bool a1_0, .int .i64 a1_1] 25 (0, 0)) (by (with_reducible repeat (first | refine blk_drewN ?_ _ | refine blk_drew ?_ | refine blk_alloc ?_ _)); exact BK102.out) hb)
            have n2_ := Aside0.mk (blk_below (g := gb103) (o := .cells #[.bool a2_0, .int .i64 a2_1] 25 (0, 0)) (by (with_reducible repeat (first | refine blk_drewN ?_ _ | refine blk_drew ?_ | refine blk_alloc ?_ _)); exact BK103.out) hb)
            have n3_ := Aside0.mk (below_step (by repeat (first | (with_reducible first | exact HB.out | apply below_alloc | apply pw_below_drewN | apply below_drew1 | refine below_set ?_ GE101.out | refine below_set ?_ GE102.out | refine below_set ?_ GE103.out) | exact HB.out)) hb)
            clear BK101
            clear BK102
            clear BK103
            clear HB
            have BK101 := n0_
            have BK102 := n1_
            have BK103 := n2_
            have HB := n3_
            clear n0_ n1_ n2_ n3_
            (try clear hb)
            (try clear hb2)
            (try clear hk)
            (try clear hi)
            refine hK.out _ _ ⟨(blk_cell BK101.out 0).trans rfl, (blk_cell BK101.out 1).trans rfl, (blk_cell BK102.out 0).trans rfl, (blk_cell BK102.out 1).trans rfl⟩ (fun hHeld => ?_)
            clear hK K
            refine norm_ (a' := ?_) ?_ ?_
            rotate_left
            ·show Act.put _ (some 58) _ = _
             simp only [Act.put, List.setIfInBounds_toArray, List.set_cons_zero, List.set_cons_succ, i64_w, i32_w]
             rfl
            refine one_ (i := 36) (N := some 59) #[true, true, true, true, true, true, true, true, true, true, true, true, true, true, true, true, true, true, true, true, true, true, true, true, true, true, true, true, true, true, true, true, true, true, true, true, true, true, false, false, false, false, false, false, false, false, false, false, false, false, false, false, false, false] rfl rfl (one_of HT_.out (by kernel_rfl)) (by decide) (fun K hK => ?_)
            refine goes_ Tryd.func19 (by kernel_rfl) rfl #[.agg #[.bool a0_0, .int .i64 a0_1], .agg #[.bool t126, .int .i64 t127]] (by rfl) rfl rfl (by (try simp only [List.map_toArray, List.map_cons, List.map_nil]); first | done | rfl | (simp only [List.length_drop, List.length_take]; rfl)) ?_
            with_reducible refine (fix_Mul.calls kj5 a0_0 a0_1 t126 t127 t128 t129 _ A52.out).mono ?_
            rintro e w69 ⟨rfl, hb⟩
            refine ⟨_, rfl, ?_⟩
            have n0_ := Aside0.mk (blk_below (g := gb101) (o := .cells #[.bool a0_0, .int .i64 a0_1] 25 (0, 0)) (by (with_reducible repeat (first | refine blk_drewN ?_ _ | refine blk_drew ?_ | refine blk_alloc ?_ _)); exact BK101.out) hb)
            have n1_ := Aside0.mk (blk_below (g := gb102) (o := .cells #[.bool a1_0, .int .i64 a1_1] 25 (0, 0)) (by (with_reducible repeat (first | refine blk_drewN ?_ _ | refine blk_drew ?_ | refine blk_alloc ?_ _)); exact BK102.out) hb)
            have n2_ := Aside0.mk (blk_below (g := gb103) (o := .cells #[.bool a2_0, .int .i64 a2_1] 25 (0, 0)) (by (with_reducible repeat (first | refine blk_drewN ?_ _ | refine blk_drew ?_ | refine blk_alloc ?_ _)); exact BK103.out) hb)
            have n3_ := Aside0.mk (below_step (by repeat (first | (with_reducible first | exact HB.out | apply below_alloc | apply pw_below_drewN | apply below_drew1 | refine below_set ?_ GE101.out | refine below_set ?_ GE102.out | refine below_set ?_ GE103.out) | exact HB.out)) hb)
            clear BK101
            clear BK102
            clear BK103
            clear HB
            have BK101 := n0_
            have BK102 := n1_
            have BK103 := n2_
            have HB := n3_
            clear n0_ n1_ n2_ n3_
            (try clear hb)
            (try clear hb2)
            (try clear hk)
            (try clear hi)
            refine hK.out _ _ ⟨(blk_cell BK101.out 0).trans rfl, (blk_cell BK101.out 1).trans rfl, (blk_cell BK102.out 0).trans rfl, (blk_cell BK102.out 1).trans rfl⟩ (fun hHeld => ?_)
            clear hK K
            refine norm_ (a' := ?_) ?_ ?_
            rotate_left
            ·show Act.put _ (some 59) _ = _
             simp only [Act.put, List.setIfInBounds_toArray, List.set_cons_zero, List.set_cons_succ, i64_w, i32_w]
             rfl
            refine pure_ (i := 38) (N := some 61) (v := ?_) (a' := ?_) #[true, true, true, true, true, true, true, true, true, true, true, true, true, true, true, true, true, true, true, true, true, true, true, true, true, true, true, true, true, true, true, true, true, true, true, true, true, true, true, false, false, false, false, false, false, false, false, false, false, false, false, false, false, false] rfl rfl (any_of HT_.out (by kernel_rfl)) (fun _ _ _ h => h) (Or.inl ⟨by rfl, ?_⟩) ?_ ?_
            rotate_left
            ·intro w'
             go_simp
             with_reducible rfl
            rotate_left
            ·simp only [Act.put, List.setIfInBounds_toArray, List.set_cons_zero, List.set_cons_succ, i64_w, i32_w]
             rfl
            refine pure_ (i := 39) (N := some 62) (v := ?_) (a' := ?_) #[true, true, true, true, true, true, true, true, true, true, true, true, true, true, true, true, true, true, true, true, true, true, true, true, true, true, true, true, true, true, true, true, true, true, true, true, true, true, true, true, false, false, false, false, false, false, false, false, false, false, false, false, false, false] rfl rfl (any_of HT_.out (by kernel_rfl)) (fun _ _ _ h => h) (Or.inl ⟨by rfl, ?_⟩) ?_ ?_
            rotate_left
            ·intro w'
             go_simp
             with_reducible rfl
            rotate_left
            ·simp only [Act.put, List.setIfInBounds_toArray, List.set_cons_zero, List.set_cons_succ, i64_w, i32_w]
             rfl
            refine pure_ (i := 40) (N := some 63) (v := ?_) (a' := ?_) #[true, true, true, true, true, true, true, true, true, true, true, true, true, true, true, true, true, true, true, true, true, true, true, true, true, true, true, true, true, true, true, true, true, true, true, true, true, true, true, true, true, false, false, false, false, false, false, false, false, false, false, false, false, false] rfl rfl (any_of HT_.out (by kernel_rfl)) (fun _ _ _ h => h) (Or.inl ⟨by rfl, ?_⟩) ?_ ?_
            rotate_left
            ·intro w'
             go_simp
             with_reducible rfl
            rotate_left
            ·simp only [Act.put, List.setIfInBounds_toArray, List.set_cons_zero, List.set_cons_succ, i64_w, i32_w]
             rfl
            refine take_ (i := 41) (N := some 64) (v := ?_) (a' := ?_) #[true, true, true, true, true, true, true, true, true, true, true, true, true, true, true, true, true, true, true, true, true, true, true, true, true, true, true, true, true, true, true, true, true, true, true, true, true, true, true, true, true, true, false, false, false, false, false, false, false, false, false, false, false, false] rfl rfl (take_ofW HT_.out HW_.out (by kernel_rfl)) (fun _ _ _ h => h) (Or.inl ⟨by rfl, ?_⟩) hHeld ?_ ?_
            rotate_left
            ·rintro w' ⟨s0, s1, s2, s3⟩
             go_simp
             with_reducible rfl
            rotate_left
            ·simp only [Act.put, List.setIfInBounds_toArray, List.set_cons_zero, List.set_cons_succ, i64_w, i32_w]
             rfl
            refine take_ (i := 44) (N := some 67) (v := ?_) (a' := ?_) #[true, true, true, true, true, true, true, true, true, true, true, true, true, true, true, true, true, true, true, true, true, true, true, true, true, true, true, true, true, true, true, true, true, true, true, true, true, true, true, true, true, true, false, false, true, false, false, false, false, false, false, false, false, false] rfl rfl (take_ofW HT_.out HW_.out (by kernel_rfl)) (fun _ _ _ h => h) (Or.inl ⟨by rfl, ?_⟩) hHeld ?_ ?_
            rotate_left
            ·rintro w' ⟨s0, s1, s2, s3⟩
             go_simp
             with_reducible rfl
            rotate_left
            ·simp only [Act.put, List.setIfInBounds_toArray, List.set_cons_zero, List.set_cons_succ, i64_w, i32_w]
             rfl
            refine one_ (i := 42) (N := some 65) #[true, true, true, true, true, true, true, true, true, true, true, true, true, true, true, true, true, true, true, true, true, true, true, true, true, true, true, true, true, true, true, true, true, true, true, true, true, true, true, true, true, true, true, false, true, false, false, false, false, false, false, false, false, false] rfl rfl (one_of HT_.out (by kernel_rfl)) (by decide) (fun K hK => ?_)
            refine goes_ Tryd.func22 (by kernel_rfl) rfl #[.int .i64 1] (by rfl) rfl rfl (by (try simp only [List.map_toArray, List.map_cons, List.map_nil]); first | done | rfl | (simp only [List.length_drop, List.length_take]; rfl)) ?_
            with_reducible refine (fix_Of.calls kj5 1 t130 t131 _ A54.out).mono ?_
            rintro e w70 ⟨rfl, hb⟩
            refine ⟨_, rfl, ?_⟩
            have n0_ := Aside0.mk (blk_below (g := gb101) (o := .cells #[.bool a0_0, .int .i64 a0_1] 25 (0, 0)) (by (with_reducible repeat (first | refine blk_drewN ?_ _ | refine blk_drew ?_ | refine blk_alloc ?_ _)); exact BK101.out) hb)
            have n1_ := Aside0.mk (blk_below (g := gb102) (o := .cells #[.bool a1_0, .int .i64 a1_1] 25 (0, 0)) (by (with_reducible repeat (first | refine blk_drewN ?_ _ | refine blk_drew ?_ | refine blk_alloc ?_ _)); exact BK102.out) hb)
            have n2_ := Aside0.mk (blk_below (g := gb103) (o := .cells #[.bool a2_0, .int .i64 a2_1] 25 (0, 0)) (by (with_reducible repeat (first | refine blk_drewN ?_ _ | refine blk_drew ?_ | refine blk_alloc ?_ _)); exact BK103.out) hb)
            have n3_ := Aside0.mk (below_step (by repeat (first | (with_reducible first | exact HB.out | apply below_alloc | apply pw_below_drewN | apply below_drew1 | refine below_set ?_ GE101.out | refine below_set ?_ GE102.out | refine below_set ?_ GE103.out) | exact HB.out)) hb)
            clear BK101
            clear BK102
            clear BK103
            clear HB
            have BK101 := n0_
            have BK102 := n1_
            have BK103 := n2_
            have HB := n3_
            clear n0_ n1_ n2_ n3_
            (try clear hb)
            (try clear hb2)
            (try clear hk)
            (try clear hi)
            refine hK.out _ _ ⟨(blk_cell BK101.out 0).trans rfl, (blk_cell BK101.out 1).trans rfl, (blk_cell BK102.out 0).trans rfl, (blk_cell BK102.out 1).trans rfl⟩ (fun hHeld => ?_)
            clear hK K
            refine norm_ (a' := ?_) ?_ ?_
            rotate_left
            ·show Act.put _ (some 65) _ = _
             simp only [Act.put, List.setIfInBounds_toArray, List.set_cons_zero, List.set_cons_succ, i64_w, i32_w]
             rfl
            refine one_ (i := 43) (N := some 66) #[true, true, true, true, true, true, true, true, true, true, true, true, true, true, true, true, true, true, true, true, true, true, true, true, true, true, true, true, true, true, true, true, true, true, true, true, true, true, true, true, true, true, true, true, true, false, false, false, false, false, false, false, false, false] rfl rfl (one_of HT_.out (by kernel_rfl)) (by decide) (fun K hK => ?_)
            refine goes_ Tryd.func20 (by kernel_rfl) rfl #[.agg #[.bool a0_0, .int .i64 a0_1], .agg #[.bool t130, .int .i64 t131]] (by rfl) rfl rfl (by (try simp only [List.map_toArray, List.map_cons, List.map_nil]); first | done | rfl | (simp only [List.length_drop, List.length_take]; rfl)) ?_
            with_reducible refine (fix_Div.calls kj5 a0_0 a0_1 t130 t131 t132 t133 _ A55.out).mono ?_
            rintro e w71 ⟨rfl, hb⟩
            refine ⟨_, rfl, ?_⟩
            have n0_ := Aside0.mk (blk_below (g := gb101) (o := .cells #[.bool a0_0, .int .i64 a0_1] 25 (0, 0)) (by (with_reducible repeat (first | refine blk_drewN ?_ _ | refine blk_drew ?_ | refine blk_alloc ?_ _)); exact BK101.out) hb)
            have n1_ := Aside0.mk (blk_below (g := gb102) (o := .cells #[.bool a1_0, .int .i64 a1_1] 25 (0, 0)) (by (with_reducible repeat (first | refine blk_drewN ?_ _ | refine blk_drew ?_ | refine blk_alloc ?_ _)); exact BK102.out) hb)
            have n2_ := Aside0.mk (blk_below (g := gb103) (o := .cells #[.bool a2_0, .int .i64 a2_1] 25 (0, 0)) (by (with_reducible repeat (first | refine blk_drewN ?_ _ | refine blk_drew ?_ | refine blk_alloc ?_ _)); exact BK103.out) hb)
            have n3_ := Aside0.mk (below_step (by repeat (first | (with_reducible first | exact HB.out | apply below_alloc | apply pw_below_drewN | apply below_drew1 | refine below_set ?_ GE101.out | refine below_set ?_ GE102.out | refine below_set ?_ GE103.out) | exact HB.out)) hb)
            clear BK101
            clear BK102
            clear BK103
            clear HB
            have BK101 := n0_
            have BK102 := n1_
            have BK103 := n2_
            have HB := n3_
            clear n0_ n1_ n2_ n3_
            (try clear hb)
            (try clear hb2)
            (try clear hk)
            (try clear hi)
            refine hK.out _ _ ⟨(blk_cell BK101.out 0).trans rfl, (blk_cell BK101.out 1).trans rfl, (blk_cell BK102.out 0).trans rfl, (blk_cell BK102.out 1).trans rfl⟩ (fun hHeld => ?_)
            clear hK K
            refine norm_ (a' := ?_) ?_ ?_
            rotate_left
            ·show Act.put _ (some 66) _ = _
             simp only [Act.put, List.setIfInBounds_toArray, List.set_cons_zero, List.set_cons_succ, i64_w, i32_w]
             rfl
            refine pure_ (i := 45) (N := some 68) (v := ?_) (a' := ?_) #[true, true, true, true, true, true, true, true, true, true, true, true, true, true, true, true, true, true, true, true, true, true, true, true, true, true, true, true, true, true, true, true, true, true, true, true, true, true, true, true, true, true, true, true, true, true, false, false, false, false, false, false, false, false] rfl rfl (any_of HT_.out (by kernel_rfl)) (fun _ _ _ h => h) (Or.inl ⟨by rfl, ?_⟩) ?_ ?_
            rotate_left
            ·intro w'
             go_simp
             with_reducible rfl
            rotate_left
            ·simp only [Act.put, List.setIfInBounds_toArray, List.set_cons_zero, List.set_cons_succ, i64_w, i32_w]
             rfl
            refine pure_ (i := 46) (N := some 69) (v := ?_) (a' := ?_) #[true, true, true, true, true, true, true, true, true, true, true, true, true, true, true, true, true, true, true, true, true, true, true, true, true, true, true, true, true, true, true, true, true, true, true, true, true, true, true, true, true, true, true, true, true, true, true, false, false, false, false, false, false, false] rfl rfl (any_of HT_.out (by kernel_rfl)) (fun _ _ _ h => h) (Or.inl ⟨by rfl, ?_⟩) ?_ ?_
            rotate_left
            ·intro w'
             go_simp
             with_reducible rfl
            rotate_left
            ·simp only [Act.put, List.setIfInBounds_toArray, List.set_cons_zero, List.set_cons_succ, i64_w, i32_w]
             rfl
            refine pure_ (i := 47) (N := some 70) (v := ?_) (a' := ?_) #[true, true, true, true, true, true, true, true, true, true, true, true, true, true, true, true, true, true, true, true, true, true, true, true, true, true, true, true, true, true, true, true, true, true, true, true, true, true, true, true, true, true, true, true, true, true, true, true, false, false, false, false, false, false] rfl rfl (any_of HT_.out (by kernel_rfl)) (fun _ _ _ h => h) (Or.inl ⟨by rfl, ?_⟩) ?_ ?_
            rotate_left
            ·intro w'
             go_simp
             with_reducible rfl
            rotate_left
            ·simp only [Act.put, List.setIfInBounds_toArray, List.set_cons_zero, List.set_cons_succ, i64_w, i32_w]
             rfl
            refine pure_ (i := 49) (N := some 72) (v := ?_) (a' := ?_) #[true, true, true, true, true, true, true, true, true, true, true, true, true, true, true, true, true, true, true, true, true, true, true, true, true, true, true, true, true, true, true, true, true, true, true, true, true, true, true, true, true, true, true, true, true, true, true, true, false, true, false, false, false, false] rfl rfl (any_of HT_.out (by kernel_rfl)) (fun _ _ _ h => h) (Or.inl ⟨by rfl, ?_⟩) ?_ ?_
            rotate_left
            ·intro w'
             go_simp
             with_reducible rfl
            rotate_left
            ·simp only [Act.put, List.setIfInBounds_toArray, List.set_cons_zero, List.set_cons_succ, i64_w, i32_w]
             rfl
            refine take_ (i := 48) (N := some 71) (v := ?_) (a' := ?_) #[true, true, true, true, true, true, true, true, true, true, true, true, true, true, true, true, true, true, true, true, true, true, true, true, true, true, true, true, true, true, true, true, true, true, true, true, true, true, true, true, true, true, true, true, true, true, true, true, true, true, false, false, false, false] rfl rfl (take_ofW HT_.out HW_.out (by kernel_rfl)) (fun _ _ _ h => h) (Or.inl ⟨by rfl, ?_⟩) hHeld ?_ ?_
            rotate_left
            ·rintro w' ⟨s0, s1, s2, s3⟩
             go_simp
             with_reducible rfl
            rotate_left
            ·simp only [Act.put, List.setIfInBounds_toArray, List.set_cons_zero, List.set_cons_succ, i64_w, i32_w]
             rfl
            refine take_ (i := 51) (N := some 74) (v := ?_) (a' := ?_) #[true, true, true, true, true, true, true, true, true, true, true, true, true, true, true, true, true, true, true, true, true, true, true, true, true, true, true, true, true, true, true, true, true, true, true, true, true, true, true, true, true, true, true, true, true, true, true, true, true, true, false, true, false, false] rfl rfl (take_ofW HT_.out HW_.out (by kernel_rfl)) (fun _ _ _ h => h) (Or.inl ⟨by rfl, ?_⟩) hHeld ?_ ?_
            rotate_left
            ·rintro w' ⟨s0, s1, s2, s3⟩
             go_simp
             with_reducible rfl
            rotate_left
            ·simp only [Act.put, List.setIfInBounds_toArray, List.set_cons_zero, List.set_cons_succ, i64_w, i32_w]
             rfl
            refine one_ (i := 50) (N := some 73) #[true, true, true, true, true, true, true, true, true, true, true, true, true, true, true, true, true, true, true, true, true, true, true, true, true, true, true, true, true, true, true, true, true, true, true, true, true, true, true, true, true, true, true, true, true, true, true, true, true, true, true, true, false, false] rfl rfl (one_of HT_.out (by kernel_rfl)) (by decide) (fun K hK => ?_)
            refine goes_ Tryd.func18 (by kernel_rfl) rfl #[.agg #[.bool a0_0, .int .i64 a0_1], .agg #[.bool false, .int .i64 0]] (by rfl) rfl rfl (by (try simp only [List.map_toArray, List.map_cons, List.map_nil]); first | done | rfl | (simp only [List.length_drop, List.length_take]; rfl)) ?_
            with_reducible refine (fix_Add.calls kj5 a0_0 a0_1 false 0 t134 t135 _ A57.out).mono ?_
            rintro e w72 ⟨rfl, hb⟩
            refine ⟨_, rfl, ?_⟩
            have n0_ := Aside0.mk (blk_below (g := gb101) (o := .cells #[.bool a0_0, .int .i64 a0_1] 25 (0, 0)) (by (with_reducible repeat (first | refine blk_drewN ?_ _ | refine blk_drew ?_ | refine blk_alloc ?_ _)); exact BK101.out) hb)
            have n1_ := Aside0.mk (blk_below (g := gb102) (o := .cells #[.bool a1_0, .int .i64 a1_1] 25 (0, 0)) (by (with_reducible repeat (first | refine blk_drewN ?_ _ | refine blk_drew ?_ | refine blk_alloc ?_ _)); exact BK102.out) hb)
            have n2_ := Aside0.mk (blk_below (g := gb103) (o := .cells #[.bool a2_0, .int .i64 a2_1] 25 (0, 0)) (by (with_reducible repeat (first | refine blk_drewN ?_ _ | refine blk_drew ?_ | refine blk_alloc ?_ _)); exact BK103.out) hb)
            have n3_ := Aside0.mk (below_step (by repeat (first | (with_reducible first | exact HB.out | apply below_alloc | apply pw_below_drewN | apply below_drew1 | refine below_set ?_ GE101.out | refine below_set ?_ GE102.out | refine below_set ?_ GE103.out) | exact HB.out)) hb)
            clear BK101
            clear BK102
            clear BK103
            clear HB
            have BK101 := n0_
            have BK102 := n1_
            have BK103 := n2_
            have HB := n3_
            clear n0_ n1_ n2_ n3_
            (try clear hb)
            (try clear hb2)
            (try clear hk)
            (try clear hi)
            refine hK.out _ _ ⟨(blk_cell BK101.out 0).trans rfl, (blk_cell BK101.out 1).trans rfl, (blk_cell BK102.out 0).trans rfl, (blk_cell BK102.out 1).trans rfl⟩ (fun hHeld => ?_)
            clear hK K
            refine norm_ (a' := ?_) ?_ ?_
            rotate_left
            ·show Act.put _ (some 73) _ = _
             simp only [Act.put, List.setIfInBounds_toArray, List.set_cons_zero, List.set_cons_succ, i64_w, i32_w]
             rfl
            refine pure_ (i := 52) (N := some 75) (v := ?_) (a' := ?_) #[true, true, true, true, true, true, true, true, true, true, true, true, true, true, true, true, true, true, true, true, true, true, true, true, true, true, true, true, true, true, true, true, true, true, true, true, true, true, true, true, true, true, true, true, true, true, true, true, true, true, true, true, true, false] rfl rfl (any_of HT_.out (by kernel_rfl)) (fun _ _ _ h => h) (Or.inl ⟨by rfl, ?_⟩) ?_ ?_
            rotate_left
            ·intro w'
             go_simp
             with_reducible rfl
            rotate_left
            ·simp only [Act.put, List.setIfInBounds_toArray, List.set_cons_zero, List.set_cons_succ, i64_w, i32_w]
             rfl
            refine pure_ (i := 53) (N := some 76) (v := ?_) (a' := ?_) #[true, true, true, true, true, true, true, true, true, true, true, true, true, true, true, true, true, true, true, true, true, true, true, true, true, true, true, true, true, true, true, true, true, true, true, true, true, true, true, true, true, true, true, true, true, true, true, true, true, true, true, true, true, true] rfl rfl (any_of HT_.out (by kernel_rfl)) (fun _ _ _ h => h) (Or.inl ⟨by rfl, ?_⟩) ?_ ?_
            rotate_left
            ·intro w'
             go_simp
             with_reducible rfl
            rotate_left
            ·simp only [Act.put, List.setIfInBounds_toArray, List.set_cons_zero, List.set_cons_succ, i64_w, i32_w]
             rfl
            refine done_ (done_of HT_.out (by kernel_rfl)) ?_
            try go_wp2
            go_meet
            case rel => exact ⟨_, ((!(t134 == a0_0) || (!(t135 == a0_1)))), (by first | rfl | (simp; done) | (simp [*]; done)), H', ⟨by have := HJ5.out; first | omega | exact Nat.le_refl _⟩, ⟨by (with_reducible repeat (first | refine blk_drewN ?_ _ | refine blk_drew ?_ | refine blk_alloc ?_ _)); exact BK101.out⟩, ⟨by (with_reducible repeat (first | refine blk_drewN ?_ _ | refine blk_drew ?_ | refine blk_alloc ?_ _)); exact BK102.out⟩, ⟨by (with_reducible repeat (first | refine blk_drewN ?_ _ | refine blk_drew ?_ | refine blk_alloc ?_ _)); exact BK103.out⟩, ⟨by repeat (first | (with_reducible first | exact HB.out | apply below_alloc | apply pw_below_drewN | apply below_drew1 | refine below_set ?_ GE101.out | refine below_set ?_ GE102.out | refine below_set ?_ GE103.out) | exact HB.out)⟩⟩
     case rest =>
      clear HC37
      try clear c1
      try clear c2
      try clear p2
      try clear c18
      try clear c19
      try clear c20
      try clear c21
      try clear c22
      try clear c23
      obtain ⟨kq, x76_36, rfl, HA, HJ36, BK101, BK102, BK103, HB⟩ := hcut
      cases kq with
      | zero => exact absurd HA.out (by simp [spillwaylaw2_FixLaws.j1])
      | succ kj36 =>
       have H := HA.out
       clear HA
       simp only [spillwaylaw2_FixLaws.j1] at H
       by_cases c73 : x76_36 = true
       ·subst c73
        have H1 : (none) = some r := by rw [if_pos rfl] at H; exact H
        clear H
        have H := H1
        clear H1
        exact absurd H (by simp)
       ·replace c73 := Bool.eq_false_iff.mpr c73
        subst c73
        have H1 : ((fix_Add.f kj36 a0_0 a0_1 a1_0 a1_1).bind fun bt136 => ((fix_Sub.f kj36 bt136.1 bt136.2 a1_0 a1_1).bind fun bt138 => (if bt138.1 = true then ((fix_Neg.f a0_0 a0_1).bind fun bt141 => ((fix_Mul.f kj36 bt141.1 bt141.2 a1_0 a1_1).bind fun bt143 => ((fix_Mul.f kj36 a0_0 a0_1 a1_0 a1_1).bind fun bt145 => ((fix_Neg.f bt145.1 bt145.2).bind fun bt147 => (if (bt143.1 == bt147.1 && (bt143.2 == bt147.2)) = true then ((fix_Sum.f kj36 (([(⟨a0_0, a0_1⟩ : S25), (⟨a1_0, a1_1⟩ : S25), (⟨a2_0, a2_1⟩ : S25)] : List (S25)))).bind fun bt152 => ((fix_Sum.f kj36 (([(⟨a2_0, a2_1⟩ : S25), (⟨a0_0, a0_1⟩ : S25), (⟨a1_0, a1_1⟩ : S25)] : List (S25)))).bind fun bt157 => (if (bt152.1 == bt157.1 && (bt152.2 == bt157.2)) = true then ((fix_Sum.f kj36 (([(⟨a0_0, a0_1⟩ : S25), (⟨a1_0, a1_1⟩ : S25)] : List (S25)))).bind fun bt162 => ((fix_Add.f kj36 a0_0 a0_1 a1_0 a1_1).bind fun bt164 => (some (bt162.1 == bt164.1 && (bt162.2 == bt164.2))))) else (none)))) else (none)))))) else (none)))) = some r := by rw [if_neg (show ¬ (false = true) by decide)] at H; exact H
        clear H
        have H := H1
        clear H1
        replace H := Option.bind_eq_some_iff.mp H
        obtain ⟨⟨t136, t137⟩, A740, H⟩ := H
        replace H : ((fix_Sub.f kj36 t136 t137 a1_0 a1_1).bind fun bt138 => (if bt138.1 = true then ((fix_Neg.f a0_0 a0_1).bind fun bt141 => ((fix_Mul.f kj36 bt141.1 bt141.2 a1_0 a1_1).bind fun bt143 => ((fix_Mul.f kj36 a0_0 a0_1 a1_0 a1_1).bind fun bt145 => ((fix_Neg.f bt145.1 bt145.2).bind fun bt147 => (if (bt143.1 == bt147.1 && (bt143.2 == bt147.2)) = true then ((fix_Sum.f kj36 (([(⟨a0_0, a0_1⟩ : S25), (⟨a1_0, a1_1⟩ : S25), (⟨a2_0, a2_1⟩ : S25)] : List (S25)))).bind fun bt152 => ((fix_Sum.f kj36 (([(⟨a2_0, a2_1⟩ : S25), (⟨a0_0, a0_1⟩ : S25), (⟨a1_0, a1_1⟩ : S25)] : List (S25)))).bind fun bt157 => (if (bt152.1 == bt157.1 && (bt152.2 == bt157.2)) = true then ((fix_Sum.f kj36 (([(⟨a0_0, a0_1⟩ : S25), (⟨a1_0, a1_1⟩ : S25)] : List (S25)))).bind fun bt162 => ((fix_Add.f kj36 a0_0 a0_1 a1_0 a1_1).bind fun bt164 => (some (bt162.1 == bt164.1 && (bt162.2 == bt164.2))))) else (none)))) else (none)))))) else (none))) = some r := H
        have A74 := Aside0.mk A740
        clear A740
        replace H := Option.bind_eq_some_iff.mp H
        obtain ⟨⟨t138, t139⟩, A750, H⟩ := H
        replace H : (if t138 = true then ((fix_Neg.f a0_0 a0_1).bind fun bt141 => ((fix_Mul.f kj36 bt141.1 bt141.2 a1_0 a1_1).bind fun bt143 => ((fix_Mul.f kj36 a0_0 a0_1 a1_0 a1_1).bind fun bt145 => ((fix_Neg.f bt145.1 bt145.2).bind fun bt147 => (if (bt143.1 == bt147.1 && (bt143.2 == bt147.2)) = true then ((fix_Sum.f kj36 (([(⟨a0_0, a0_1⟩ : S25), (⟨a1_0, a1_1⟩ : S25), (⟨a2_0, a2_1⟩ : S25)] : List (S25)))).bind fun bt152 => ((fix_Sum.f kj36 (([(⟨a2_0, a2_1⟩ : S25), (⟨a0_0, a0_1⟩ : S25), (⟨a1_0, a1_1⟩ : S25)] : List (S25)))).bind fun bt157 => (if (bt152.1 == bt157.1 && (bt152.2 == bt157.2)) = true then ((fix_Sum.f kj36 (([(⟨a0_0, a0_1⟩ : S25), (⟨a1_0, a1_1⟩ : S25)] : List (S25)))).bind fun bt162 => ((fix_Add.f kj36 a0_0 a0_1 a1_0 a1_1).bind fun bt164 => (some (bt162.1 == bt164.1 && (bt162.2 == bt164.2))))) else (none)))) else (none)))))) else (none)) = some r := H
        have A75 := Aside0.mk A750
        clear A750
        by_cases c76 : t138 = true
        ·subst c76
         have H1 : ((fix_Neg.f a0_0 a0_1).bind fun bt141 => ((fix_Mul.f kj36 bt141.1 bt141.2 a1_0 a1_1).bind fun bt143 => ((fix_Mul.f kj36 a0_0 a0_1 a1_0 a1_1).bind fun bt145 => ((fix_Neg.f bt145.1 bt145.2).bind fun bt147 => (if (bt143.1 == bt147.1 && (bt143.2 == bt147.2)) = true then ((fix_Sum.f kj36 (([(⟨a0_0, a0_1⟩ : S25), (⟨a1_0, a1_1⟩ : S25), (⟨a2_0, a2_1⟩ : S25)] : List (S25)))).bind fun bt152 => ((fix_Sum.f kj36 (([(⟨a2_0, a2_1⟩ : S25), (⟨a0_0, a0_1⟩ : S25), (⟨a1_0, a1_1⟩ : S25)] : List (S25)))).bind fun bt157 => (if (bt152.1 == bt157.1 && (bt152.2 == bt157.2)) = true then ((fix_Sum.f kj36 (([(⟨a0_0, a0_1⟩ : S25), (⟨a1_0, a1_1⟩ : S25)] : List (S25)))).bind fun bt162 => ((fix_Add.f kj36 a0_0 a0_1 a1_0 a1_1).bind fun bt164 => (some (bt162.1 == bt164.1 && (bt162.2 == bt164.2))))) else (none)))) else (none)))))) = some r := by rw [if_pos rfl] at H; exact H
         clear H
         have H := H1
         clear H1
         replace H := Option.bind_eq_some_iff.mp H
         obtain ⟨⟨t141, t142⟩, A770, H⟩ := H
         replace H : ((fix_Mul.f kj36 t141 t142 a1_0 a1_1).bind fun bt143 => ((fix_Mul.f kj36 a0_0 a0_1 a1_0 a1_1).bind fun bt145 => ((fix_Neg.f bt145.1 bt145.2).bind fun bt147 => (if (bt143.1 == bt147.1 && (bt143.2 == bt147.2)) = true then ((fix_Sum.f kj36 (([(⟨a0_0, a0_1⟩ : S25), (⟨a1_0, a1_1⟩ : S25), (⟨a2_0, a2_1⟩ : S25)] : List (S25)))).bind fun bt152 => ((fix_Sum.f kj36 (([(⟨a2_0, a2_1⟩ : S25), (⟨a0_0, a0_1⟩ : S25), (⟨a1_0, a1_1⟩ : S25)] : List (S25)))).bind fun bt157 => (if (bt152.1 == bt157.1 && (bt152.2 == bt157.2)) = true then ((fix_Sum.f kj36 (([(⟨a0_0, a0_1⟩ : S25), (⟨a1_0, a1_1⟩ : S25)] : List (S25)))).bind fun bt162 => ((fix_Add.f kj36 a0_0 a0_1 a1_0 a1_1).bind fun bt164 => (some (bt162.1 == bt164.1 && (bt162.2 == bt164.2))))) else (none)))) else (none))))) = some r := H
         have A77 := Aside0.mk A770
         clear A770
         replace H := Option.bind_eq_some_iff.mp H
         obtain ⟨⟨t143, t144⟩, A780, H⟩ := H
         replace H : ((fix_Mul.f kj36 a0_0 a0_1 a1_0 a1_1).bind fun bt145 => ((fix_Neg.f bt145.1 bt145.2).bind fun bt147 => (if (t143 == bt147.1 && (t144 == bt147.2)) = true then ((fix_Sum.f kj36 (([(⟨a0_0, a0_1⟩ : S25), (⟨a1_0, a1_1⟩ : S25), (⟨a2_0, a2_1⟩ : S25)] : List (S25)))).bind fun bt152 => ((fix_Sum.f kj36 (([(⟨a2_0, a2_1⟩ : S25), (⟨a0_0, a0_1⟩ : S25), (⟨a1_0, a1_1⟩ : S25)] : List (S25)))).bind fun bt157 => (if (bt152.1 == bt157.1 && (bt152.2 == bt157.2)) = true then ((fix_Sum.f kj36 (([(⟨a0_0, a0_1⟩ : S25), (⟨a1_0, a1_1⟩ : S25)] : List (S25)))).bind fun bt162 => ((fix_Add.f kj36 a0_0 a0_1 a1_0 a1_1).bind fun bt164 => (some (bt162.1 == bt164.1 && (bt162.2 == bt164.2))))) else (none)))) else (none)))) = some r := H
         have A78 := Aside0.mk A780
         clear A780
         replace H := Option.bind_eq_some_iff.mp H
         obtain ⟨⟨t145, t146⟩, A790, H⟩ := H
         replace H : ((fix_Neg.f t145 t146).bind fun bt147 => (if (t143 == bt147.1 && (t144 == bt147.2)) = true then ((fix_Sum.f kj36 (([(⟨a0_0, a0_1⟩ : S25), (⟨a1_0, a1_1⟩ : S25), (⟨a2_0, a2_1⟩ : S25)] : List (S25)))).bind fun bt152 => ((fix_Sum.f kj36 (([(⟨a2_0, a2_1⟩ : S25), (⟨a0_0, a0_1⟩ : S25), (⟨a1_0, a1_1⟩ : S25)] : List (S25)))).bind fun bt157 => (if (bt152.1 == bt157.1 && (bt152.2 == bt157.2)) = true then ((fix_Sum.f kj36 (([(⟨a0_0, a0_1⟩ : S25), (⟨a1_0, a1_1⟩ : S25)] : List (S25)))).bind fun bt162 => ((fix_Add.f kj36 a0_0 a0_1 a1_0 a1_1).bind fun bt164 => (some (bt162.1 == bt164.1 && (bt162.2 == bt164.2))))) else (none)))) else (none))) = some r := H
         have A79 := Aside0.mk A790
         clear A790
         replace H := Option.bind_eq_some_iff.mp H
         obtain ⟨⟨t147, t148⟩, A800, H⟩ := H
         replace H : (if (t143 == t147 && (t144 == t148)) = true then ((fix_Sum.f kj36 (([(⟨a0_0, a0_1⟩ : S25), (⟨a1_0, a1_1⟩ : S25), (⟨a2_0, a2_1⟩ : S25)] : List (S25)))).bind fun bt152 => ((fix_Sum.f kj36 (([(⟨a2_0, a2_1⟩ : S25), (⟨a0_0, a0_1⟩ : S25), (⟨a1_0, a1_1⟩ : S25)] : List (S25)))).bind fun bt157 => (if (bt152.1 == bt157.1 && (bt152.2 == bt157.2)) = true then ((fix_Sum.f kj36 (([(⟨a0_0, a0_1⟩ : S25), (⟨a1_0, a1_1⟩ : S25)] : List (S25)))).bind fun bt162 => ((fix_Add.f kj36 a0_0 a0_1 a1_0 a1_1).bind fun bt164 => (some (bt162.1 == bt164.1 && (bt162.2 == bt164.2))))) else (none)))) else (none)) = some r := H
         have A80 := Aside0.mk A800
         clear A800
         by_cases c81 : (t143 == t147 && (t144 == t148)) = true
         ·rw [if_pos c81] at H
          have c81b0 : (t143 == t147 && (t144 == t148)) = true := c81
          (try (have c81b1 : decide (t143 = t147 && (t144 == t148)) = true := by simpa using c81))
          (try (have c81b2 : (t143 == t147 && (t144 == t148)) = true := by simpa using c81))
          clear c81
          obtain ⟨y149, hy149⟩ : ∃ y_ : List (S25), y_ = (([(⟨a0_0, a0_1⟩ : S25), (⟨a1_0, a1_1⟩ : S25), (⟨a2_0, a2_1⟩ : S25)] : List (S25))) := ⟨_, rfl⟩
          replace H : ((fix_Sum.f kj36 y149).bind fun bt152 => ((fix_Sum.f kj36 (([(⟨a2_0, a2_1⟩ : S25), (⟨a0_0, a0_1⟩ : S25), (⟨a1_0, a1_1⟩ : S25)] : List (S25)))).bind fun bt157 => (if (bt152.1 == bt157.1 && (bt152.2 == bt157.2)) = true then ((fix_Sum.f kj36 (([(⟨a0_0, a0_1⟩ : S25), (⟨a1_0, a1_1⟩ : S25)] : List (S25)))).bind fun bt162 => ((fix_Add.f kj36 a0_0 a0_1 a1_0 a1_1).bind fun bt164 => (some (bt162.1 == bt164.1 && (bt162.2 == bt164.2))))) else (none)))) = some r := by first | (rw [hy149]; with_reducible exact H) | (have H2_ := (Option.bind_some _ _).symm.trans H; rw [hy149]; with_reducible exact H2_) | (have H2_ := (Option.bind_some _ _).symm.trans H; with_reducible exact H2_) | with_reducible exact H | (rw [hy149]; exact H) | exact H
          have Ny149 := Aside0.mk hy149
          clear hy149
          replace H := Option.bind_eq_some_iff.mp H
          obtain ⟨⟨t152, t153⟩, A820, H⟩ := H
          replace H : ((fix_Sum.f kj36 (([(⟨a2_0, a2_1⟩ : S25), (⟨a0_0, a0_1⟩ : S25), (⟨a1_0, a1_1⟩ : S25)] : List (S25)))).bind fun bt157 => (if (t152 == bt157.1 && (t153 == bt157.2)) = true then ((fix_Sum.f kj36 (([(⟨a0_0, a0_1⟩ : S25), (⟨a1_0, a1_1⟩ : S25)] : List (S25)))).bind fun bt162 => ((fix_Add.f kj36 a0_0 a0_1 a1_0 a1_1).bind fun bt164 => (some (bt162.1 == bt164.1 && (bt162.2 == bt164.2))))) else (none))) = some r := H
          have A82 := Aside0.mk A820
          clear A820
          obtain ⟨y154, hy154⟩ : ∃ y_ : List (S25), y_ = (([(⟨a2_0, a2_1⟩ : S25), (⟨a0_0, a0_1⟩ : S25), (⟨a1_0, a1_1⟩ : S25)] : List (S25))) := ⟨_, rfl⟩
          replace H : ((fix_Sum.f kj36 y154).bind fun bt157 => (if (t152 == bt157.1 && (t153 == bt157.2)) = true then ((fix_Sum.f kj36 (([(⟨a0_0, a0_1⟩ : S25), (⟨a1_0, a1_1⟩ : S25)] : List (S25)))).bind fun bt162 => ((fix_Add.f kj36 a0_0 a0_1 a1_0 a1_1).bind fun bt164 => (some (bt162.1 == bt164.1 && (bt162.2 == bt164.2))))) else (none))) = some r := by first | (rw [hy154]; with_reducible exact H) | (have H2_ := (Option.bind_some _ _).symm.trans H; rw [hy154]; with_reducible exact H2_) | (have H2_ := (Option.bind_some _ _).symm.trans H; with_reducible exact H2_) | with_reducible exact H | (rw [hy154]; exact H) | exact H
          have Ny154 := Aside0.mk hy154
          clear hy154
          replace H := Option.bind_eq_some_iff.mp H
          obtain ⟨⟨t157, t158⟩, A830, H⟩ := H
          replace H : (if (t152 == t157 && (t153 == t158)) = true then ((fix_Sum.f kj36 (([(⟨a0_0, a0_1⟩ : S25), (⟨a1_0, a1_1⟩ : S25)] : List (S25)))).bind fun bt162 => ((fix_Add.f kj36 a0_0 a0_1 a1_0 a1_1).bind fun bt164 => (some (bt162.1 == bt164.1 && (bt162.2 == bt164.2))))) else (none)) = some r := H
          have A83 := Aside0.mk A830
          clear A830
          by_cases c84 : (t152 == t157 && (t153 == t158)) = true
          ·rw [if_pos c84] at H
           have c84b0 : (t152 == t157 && (t153 == t158)) = true := c84
           (try (have c84b1 : decide (t152 = t157 && (t153 == t158)) = true := by simpa using c84))
           (try (have c84b2 : (t152 == t157 && (t153 == t158)) = true := by simpa using c84))
           clear c84
           obtain ⟨y159, hy159⟩ : ∃ y_ : List (S25), y_ = (([(⟨a0_0, a0_1⟩ : S25), (⟨a1_0, a1_1⟩ : S25)] : List (S25))) := ⟨_, rfl⟩
           replace H : ((fix_Sum.f kj36 y159).bind fun bt162 => ((fix_Add.f kj36 a0_0 a0_1 a1_0 a1_1).bind fun bt164 => (some (bt162.1 == bt164.1 && (bt162.2 == bt164.2))))) = some r := by first | (rw [hy159]; with_reducible exact H) | (have H2_ := (Option.bind_some _ _).symm.trans H; rw [hy159]; with_reducible exact H2_) | (have H2_ := (Option.bind_some _ _).symm.trans H; with_reducible exact H2_) | with_reducible exact H | (rw [hy159]; exact H) | exact H
           have Ny159 := Aside0.mk hy159
           clear hy159
           replace H := Option.bind_eq_some_iff.mp H
           obtain ⟨⟨t162, t163⟩, A850, H⟩ := H
           replace H : ((fix_Add.f kj36 a0_0 a0_1 a1_0 a1_1).bind fun bt164 => (some (t162 == bt164.1 && (t163 == bt164.2)))) = some r := H
           have A85 := Aside0.mk A850
           clear A850
           replace H := Option.bind_eq_some_iff.mp H
           obtain ⟨⟨t164, t165⟩, A860, H⟩ := H
           replace H : (some (t162 == t164 && (t163 == t165))) = some r := H
           have A86 := Aside0.mk A860
           clear A860
           obtain rfl := Option.some.inj H
           try go_wp2
           have n0_ := Aside0.mk (blk_drew BK101.out)
           have n1_ := Aside0.mk (blk_drew BK102.out)
           have n2_ := Aside0.mk (blk_drew BK103.out)
           have n3_ := Aside0.mk (below_drew1 HB.out)
           clear BK101
           clear BK102
           clear BK103
           clear HB
           have BK101 := n0_
           have BK102 := n1_
           have BK103 := n2_
           have HB := n3_
           clear n0_ n1_ n2_ n3_
           refine start_ (n := 7) (S := fun w' => True) (ds := []) #[false, false, false, false, false, false, false] (by kernel_rfl) rfl rfl trivial (fun hHeld => ?_); refine with_tabW spillwaylaw2_FixLaws.tab7 spillwaylaw2_FixLaws.bits7 (fun HT_ HW_ => ?_)
           generalize wc.drew = w87 at BK101 BK102 BK103 HB hHeld ⊢
           refine inv_at [0, 1, 2, 3, 4, 5, 6] (fun a0_ b a w' => ∃ (gb140 : Nat) (m5_ : Value), a = putSel a0_ b [(0, 77, .agg #[.bool a0_0, .int .i64 a0_1]), (1, 78, .agg #[.bool a1_0, .int .i64 a1_1]), (2, 79, .agg #[.bool t136, .int .i64 t137]), (3, 80, .agg #[.bool a1_0, .int .i64 a1_1]), (4, 81, .agg #[.bool true, .int .i64 t139]), (5, 7, m5_)] ∧ (w'.heap[gb101]? = some (.cells #[.bool a0_0, .int .i64 a0_1] 25 (0, 0))) ∧ (w'.heap[gb102]? = some (.cells #[.bool a1_0, .int .i64 a1_1] 25 (0, 0))) ∧ (w'.heap[gb103]? = some (.cells #[.bool a2_0, .int .i64 a2_1] 25 (0, 0))) ∧ (Below w.heap.size w w') ∧ (b 5 = true → b 6 = false → w'.heap[gb140]? = some (.cells #[.bool false, .int .i64 0] 25 (0, 0))) ∧ (b 5 = true → w.heap.size ≤ gb140) ∧ (b 5 = true → w.heap.size ≤ gb140) ∧ (b 5 = true → gb101 ≠ gb140) ∧ (b 5 = true → gb140 ≠ gb101) ∧ (b 5 = true → gb102 ≠ gb140) ∧ (b 5 = true → gb140 ≠ gb102) ∧ (b 5 = true → gb103 ≠ gb140) ∧ (b 5 = true → gb140 ≠ gb103) ∧ (b 6 = true → w'.heap[gb140]? = some (.cells #[.bool true, .int .i64 t139] 25 (0, 0))) ∧ (b 5 = true → (m5_ : Value) = .pointer (some ⟨gb140, 0, none⟩))) HT_.out HW_.out (by kernel_rfl) (by kernel_rfl) ?_ ?_ ?_
           ·exact ⟨0, .bool false, by simp only [putSel, Bool.false_eq_true, if_false], BK101.out, BK102.out, BK103.out, HB.out, fun h_ => absurd h_ (by decide), fun h_ => absurd h_ (by decide), fun h_ => absurd h_ (by decide), fun h_ => absurd h_ (by decide), fun h_ => absurd h_ (by decide), fun h_ => absurd h_ (by decide), fun h_ => absurd h_ (by decide), fun h_ => absurd h_ (by decide), fun h_ => absurd h_ (by decide), fun h_ => absurd h_ (by decide), fun h_ => absurd h_ (by decide)⟩
           ·skip
            clear BK101 BK102 BK103 HB
            refine steps_cons ?_ ?_
            ·rintro b a w' ⟨gb140, m5_, ha, Q_BK101, Q_BK102, Q_BK103, Q_HB, Q_BK140, Q_GW140, Q_GE140, Q_NB101_140, Q_NB140_101, Q_NB102_140, Q_NB140_102, Q_NB103_140, Q_NB140_103, Q_BK140_e6, Q_X5_⟩ hb_ hon hoff
             refine ⟨_, rfl, fun K hK => ?_⟩
             have e3 : a.tmps[3]? = some (.pointer (some ⟨gb101, 0, none⟩)) := by rw [ha]; exact (putSel_off rfl).trans rfl
             replace ha := Aside0.mk ha
             have BK101 := Aside0.mk Q_BK101
             have BK102 := Aside0.mk Q_BK102
             have BK103 := Aside0.mk Q_BK103
             have HB := Aside0.mk Q_HB
             have hc0_ : w'.cell? ⟨gb101, 0, none⟩ = some (.bool a0_0) := (blk_cell BK101.out 0).trans rfl
             have hc1_ : w'.cell? ⟨gb101, 1, none⟩ = some (.int .i64 a0_1) := (blk_cell BK101.out 1).trans rfl
             refine value_ (w1 := w') (v := .agg #[.bool a0_0, .int .i64 a0_1]) (by rfl) rfl ?_ ?_
             ·go_simp
              (try simp only [i64_w])
              try rfl
             refine hK.out _ _ ⟨gb140, m5_, (by rw [ha.out]; exact putSel_upk 0 hb_ rfl rfl rfl), Q_BK101, Q_BK102, Q_BK103, Q_HB, Q_BK140, Q_GW140, Q_GE140, Q_NB101_140, Q_NB140_101, Q_NB102_140, Q_NB140_102, Q_NB103_140, Q_NB140_103, fun h0_ => absurd ((hoff 6 (by kernel_rfl)).symm.trans h0_) (by decide), Q_X5_⟩
            refine steps_cons ?_ ?_
            ·rintro b a w' ⟨gb140, m5_, ha, Q_BK101, Q_BK102, Q_BK103, Q_HB, Q_BK140, Q_GW140, Q_GE140, Q_NB101_140, Q_NB140_101, Q_NB102_140, Q_NB140_102, Q_NB103_140, Q_NB140_103, Q_BK140_e6, Q_X5_⟩ hb_ hon hoff
             refine ⟨_, rfl, fun K hK => ?_⟩
             have e4 : a.tmps[4]? = some (.pointer (some ⟨gb102, 0, none⟩)) := by rw [ha]; exact (putSel_off rfl).trans rfl
             replace ha := Aside0.mk ha
             have BK101 := Aside0.mk Q_BK101
             have BK102 := Aside0.mk Q_BK102
             have BK103 := Aside0.mk Q_BK103
             have HB := Aside0.mk Q_HB
             have hc0_ : w'.cell? ⟨gb102, 0, none⟩ = some (.bool a1_0) := (blk_cell BK102.out 0).trans rfl
             have hc1_ : w'.cell? ⟨gb102, 1, none⟩ = some (.int .i64 a1_1) := (blk_cell BK102.out 1).trans rfl
             refine value_ (w1 := w') (v := .agg #[.bool a1_0, .int .i64 a1_1]) (by rfl) rfl ?_ ?_
             ·go_simp
              (try simp only [i64_w])
              try rfl
             refine hK.out _ _ ⟨gb140, m5_, (by rw [ha.out]; exact putSel_upk 1 hb_ rfl rfl rfl), Q_BK101, Q_BK102, Q_BK103, Q_HB, Q_BK140, Q_GW140, Q_GE140, Q_NB101_140, Q_NB140_101, Q_NB102_140, Q_NB140_102, Q_NB103_140, Q_NB140_103, fun h0_ => absurd ((hoff 6 (by kernel_rfl)).symm.trans h0_) (by decide), Q_X5_⟩
            refine steps_cons ?_ ?_
            ·rintro b a w' ⟨gb140, m5_, ha, Q_BK101, Q_BK102, Q_BK103, Q_HB, Q_BK140, Q_GW140, Q_GE140, Q_NB101_140, Q_NB140_101, Q_NB102_140, Q_NB140_102, Q_NB103_140, Q_NB140_103, Q_BK140_e6, Q_X5_⟩ hb_ hon hoff
             refine ⟨_, rfl, fun K hK => ?_⟩
             have e77 : a.tmps[77]? = some (.agg #[.bool a0_0, .int .i64 a0_1]) := by rw [ha]; exact putSel_on (e := (0, 77, .agg #[.bool a0_0, .int .i64 a0_1])) 0 rfl rfl (hon 0 (by kernel_rfl)) rfl
             have e78 : a.tmps[78]? = some (.agg #[.bool a1_0, .int .i64 a1_1]) := by rw [ha]; exact putSel_on (e := (1, 78, .agg #[.bool a1_0, .int .i64 a1_1])) 1 rfl rfl (hon 1 (by kernel_rfl)) rfl
             replace ha := Aside0.mk ha
             have BK101 := Aside0.mk Q_BK101
             have BK102 := Aside0.mk Q_BK102
             have BK103 := Aside0.mk Q_BK103
             have HB := Aside0.mk Q_HB
             refine goes_ Tryd.func18 (by kernel_rfl) rfl #[.agg #[.bool a0_0, .int .i64 a0_1], .agg #[.bool a1_0, .int .i64 a1_1]] (by first | rfl | exact wanted_on rfl rfl rfl (by first | assumption | (simp only [*]; done) | (simp [*]; done))) rfl rfl (by first | (simp only [List.map_toArray, List.map_cons, List.map_nil, Act.eval, Array.getD_eq_getD_getElem?, Option.getD_some, e77, e78]; done) | (simp only [List.map_toArray, List.map_cons, List.map_nil, Act.eval, Array.getD_eq_getD_getElem?, Option.getD_some, e77, e78]; rfl)) ?_
             with_reducible refine (fix_Add.calls kj36 a0_0 a0_1 a1_0 a1_1 t136 t137 _ A74.out).mono ?_
             rintro e w88 ⟨rfl, hb⟩
             refine ⟨_, rfl, ?_⟩
             have n0_ := Aside0.mk (blk_below (g := gb101) (o := .cells #[.bool a0_0, .int .i64 a0_1] 25 (0, 0)) (by (with_reducible repeat (first | refine blk_drewN ?_ _ | refine blk_drew ?_ | refine blk_alloc ?_ _)); exact BK101.out) hb)
             have n1_ := Aside0.mk (blk_below (g := gb102) (o := .cells #[.bool a1_0, .int .i64 a1_1] 25 (0, 0)) (by (with_reducible repeat (first | refine blk_drewN ?_ _ | refine blk_drew ?_ | refine blk_alloc ?_ _)); exact BK102.out) hb)
             have n2_ := Aside0.mk (blk_below (g := gb103) (o := .cells #[.bool a2_0, .int .i64 a2_1] 25 (0, 0)) (by (with_reducible repeat (first | refine blk_drewN ?_ _ | refine blk_drew ?_ | refine blk_alloc ?_ _)); exact BK103.out) hb)
             have n3_ := Aside0.mk (below_step (by repeat (first | (with_reducible first | exact HB.out | apply below_alloc | apply pw_below_drewN | apply below_drew1 | refine below_set ?_ GE101.out | refine below_set ?_ GE102.out | refine below_set ?_ GE103.out) | exact HB.out)) hb)
             have z_BK140 := fun (h0_ : b 5 = true) (h1_ : b 6 = false) => (show w88.heap[gb140]? = some (.cells #[.bool false, .int .i64 0] 25 (0, 0)) from by first | exact (blk_below (g := gb140) (o := .cells #[.bool false, .int .i64 0] 25 (0, 0)) (by (with_reducible repeat (first | refine blk_drewN ?_ _ | refine blk_drew ?_ | refine blk_alloc ?_ _)); exact (Q_BK140 h0_ h1_)) hb))
             clear BK101
             clear BK102
             clear BK103
             clear HB
             have BK101 := n0_
             have BK102 := n1_
             have BK103 := n2_
             have HB := n3_
             clear n0_ n1_ n2_ n3_
             (try clear hb)
             (try clear hb2)
             (try clear hk)
             (try clear hi)
             refine hK.out _ _ ⟨gb140, m5_, (by rw [ha.out]; exact putSel_upk 2 hb_ rfl rfl rfl), (by (with_reducible repeat (first | refine blk_drewN ?_ _ | refine blk_drew ?_ | refine blk_alloc ?_ _)); exact BK101.out), (by (with_reducible repeat (first | refine blk_drewN ?_ _ | refine blk_drew ?_ | refine blk_alloc ?_ _)); exact BK102.out), (by (with_reducible repeat (first | refine blk_drewN ?_ _ | refine blk_drew ?_ | refine blk_alloc ?_ _)); exact BK103.out), (by repeat (first | (with_reducible first | exact HB.out | apply below_alloc | apply pw_below_drewN | apply below_drew1 | refine below_set ?_ GE101.out | refine below_set ?_ GE102.out | refine below_set ?_ GE103.out) | exact HB.out)), z_BK140, Q_GW140, Q_GE140, Q_NB101_140, Q_NB140_101, Q_NB102_140, Q_NB140_102, Q_NB103_140, Q_NB140_103, fun h0_ => absurd ((hoff 6 (by kernel_rfl)).symm.trans h0_) (by decide), Q_X5_⟩
            refine steps_cons ?_ ?_
            ·rintro b a w' ⟨gb140, m5_, ha, Q_BK101, Q_BK102, Q_BK103, Q_HB, Q_BK140, Q_GW140, Q_GE140, Q_NB101_140, Q_NB140_101, Q_NB102_140, Q_NB140_102, Q_NB103_140, Q_NB140_103, Q_BK140_e6, Q_X5_⟩ hb_ hon hoff
             refine ⟨_, rfl, fun K hK => ?_⟩
             have e4 : a.tmps[4]? = some (.pointer (some ⟨gb102, 0, none⟩)) := by rw [ha]; exact (putSel_off rfl).trans rfl
             replace ha := Aside0.mk ha
             have BK101 := Aside0.mk Q_BK101
             have BK102 := Aside0.mk Q_BK102
             have BK103 := Aside0.mk Q_BK103
             have HB := Aside0.mk Q_HB
             have hc0_ : w'.cell? ⟨gb102, 0, none⟩ = some (.bool a1_0) := (blk_cell BK102.out 0).trans rfl
             have hc1_ : w'.cell? ⟨gb102, 1, none⟩ = some (.int .i64 a1_1) := (blk_cell BK102.out 1).trans rfl
             refine value_ (w1 := w') (v := .agg #[.bool a1_0, .int .i64 a1_1]) (by rfl) rfl ?_ ?_
             ·go_simp
              (try simp only [i64_w])
              try rfl
             refine hK.out _ _ ⟨gb140, m5_, (by rw [ha.out]; exact putSel_upk 3 hb_ rfl rfl rfl), Q_BK101, Q_BK102, Q_BK103, Q_HB, Q_BK140, Q_GW140, Q_GE140, Q_NB101_140, Q_NB140_101, Q_NB102_140, Q_NB140_102, Q_NB103_140, Q_NB140_103, fun h0_ => absurd ((hoff 6 (by kernel_rfl)).symm.trans h0_) (by decide), Q_X5_⟩
            refine steps_cons ?_ ?_
            ·rintro b a w' ⟨gb140, m5_, ha, Q_BK101, Q_BK102, Q_BK103, Q_HB, Q_BK140, Q_GW140, Q_GE140, Q_NB101_140, Q_NB140_101, Q_NB102_140, Q_NB140_102, Q_NB103_140, Q_NB140_103, Q_BK140_e6, Q_X5_⟩ hb_ hon hoff
             refine ⟨_, rfl, fun K hK => ?_⟩
             have e79 : a.tmps[79]? = some (.agg #[.bool t136, .int .i64 t137]) := by rw [ha]; exact putSel_on (e := (2, 79, .agg #[.bool t136, .int .i64 t137])) 2 rfl rfl (hon 2 (by kernel_rfl)) rfl
             have e80 : a.tmps[80]? = some (.agg #[.bool a1_0, .int .i64 a1_1]) := by rw [ha]; exact putSel_on (e := (3, 80, .agg #[.bool a1_0, .int .i64 a1_1])) 3 rfl rfl (hon 3 (by kernel_rfl)) rfl
             replace ha := Aside0.mk ha
             have BK101 := Aside0.mk Q_BK101
             have BK102 := Aside0.mk Q_BK102
             have BK103 := Aside0.mk Q_BK103
             have HB := Aside0.mk Q_HB
             refine goes_ Tryd.func23 (by kernel_rfl) rfl #[.agg #[.bool t136, .int .i64 t137], .agg #[.bool a1_0, .int .i64 a1_1]] (by first | rfl | exact wanted_on rfl rfl rfl (by first | assumption | (simp only [*]; done) | (simp [*]; done))) rfl rfl (by first | (simp only [List.map_toArray, List.map_cons, List.map_nil, Act.eval, Array.getD_eq_getD_getElem?, Option.getD_some, e79, e80]; done) | (simp only [List.map_toArray, List.map_cons, List.map_nil, Act.eval, Array.getD_eq_getD_getElem?, Option.getD_some, e79, e80]; rfl)) ?_
             with_reducible refine (fix_Sub.calls kj36 t136 t137 a1_0 a1_1 true t139 _ A75.out).mono ?_
             rintro e w90 ⟨rfl, hb⟩
             refine ⟨_, rfl, ?_⟩
             have n0_ := Aside0.mk (blk_below (g := gb101) (o := .cells #[.bool a0_0, .int .i64 a0_1] 25 (0, 0)) (by (with_reducible repeat (first | refine blk_drewN ?_ _ | refine blk_drew ?_ | refine blk_alloc ?_ _)); exact BK101.out) hb)
             have n1_ := Aside0.mk (blk_below (g := gb102) (o := .cells #[.bool a1_0, .int .i64 a1_1] 25 (0, 0)) (by (with_reducible repeat (first | refine blk_drewN ?_ _ | refine blk_drew ?_ | refine blk_alloc ?_ _)); exact BK102.out) hb)
             have n2_ := Aside0.mk (blk_below (g := gb103) (o := .cells #[.bool a2_0, .int .i64 a2_1] 25 (0, 0)) (by (with_reducible repeat (first | refine blk_drewN ?_ _ | refine blk_drew ?_ | refine blk_alloc ?_ _)); exact BK103.out) hb)
             have n3_ := Aside0.mk (below_step (by repeat (first | (with_reducible first | exact HB.out | apply below_alloc | apply pw_below_drewN | apply below_drew1 | refine below_set ?_ GE101.out | refine below_set ?_ GE102.out | refine below_set ?_ GE103.out) | exact HB.out)) hb)
             have z_BK140 := fun (h0_ : b 5 = true) (h1_ : b 6 = false) => (show w90.heap[gb140]? = some (.cells #[.bool false, .int .i64 0] 25 (0, 0)) from by first | exact (blk_below (g := gb140) (o := .cells #[.bool false, .int .i64 0] 25 (0, 0)) (by (with_reducible repeat (first | refine blk_drewN ?_ _ | refine blk_drew ?_ | refine blk_alloc ?_ _)); exact (Q_BK140 h0_ h1_)) hb))
             clear BK101
             clear BK102
             clear BK103
             clear HB
             have BK101 := n0_
             have BK102 := n1_
             have BK103 := n2_
             have HB := n3_
             clear n0_ n1_ n2_ n3_
             (try clear hb)
             (try clear hb2)
             (try clear hk)
             (try clear hi)
             refine hK.out _ _ ⟨gb140, m5_, (by rw [ha.out]; exact putSel_upk 4 hb_ rfl rfl rfl), (by (with_reducible repeat (first | refine blk_drewN ?_ _ | refine blk_drew ?_ | refine blk_alloc ?_ _)); exact BK101.out), (by (with_reducible repeat (first | refine blk_drewN ?_ _ | refine blk_drew ?_ | refine blk_alloc ?_ _)); exact BK102.out), (by (with_reducible repeat (first | refine blk_drewN ?_ _ | refine blk_drew ?_ | refine blk_alloc ?_ _)); exact BK103.out), (by repeat (first | (with_reducible first | exact HB.out | apply below_alloc | apply pw_below_drewN | apply below_drew1 | refine below_set ?_ GE101.out | refine below_set ?_ GE102.out | refine below_set ?_ GE103.out) | exact HB.out)), z_BK140, Q_GW140, Q_GE140, Q_NB101_140, Q_NB140_101, Q_NB102_140, Q_NB140_102, Q_NB103_140, Q_NB140_103, fun h0_ => absurd ((hoff 6 (by kernel_rfl)).symm.trans h0_) (by decide), Q_X5_⟩
            refine steps_cons ?_ ?_
            ·rintro b a w' ⟨gb140, m5_, ha, Q_BK101, Q_BK102, Q_BK103, Q_HB, Q_BK140, Q_GW140, Q_GE140, Q_NB101_140, Q_NB140_101, Q_NB102_140, Q_NB140_102, Q_NB103_140, Q_NB140_103, Q_BK140_e6, Q_X5_⟩ hb_ hon hoff
             refine ⟨_, rfl, fun K hK => ?_⟩
             replace ha := Aside0.mk ha
             have BK101 := Aside0.mk Q_BK101
             have BK102 := Aside0.mk Q_BK102
             have BK103 := Aside0.mk Q_BK103
             have HB := Aside0.mk Q_HB
             refine box_step ?hg (N := 7) ?hd (cs := #[.bool false, .int .i64 0]) (t := 25) ?hr ?_; (case hd => rfl); (case hg => first | rfl | exact wanted_on rfl rfl rfl (by first | assumption | (simp only [*]; done) | (simp [*]; done))); (case hr => first | (go_simp; done) | (go_simp; rfl))
             intro gb140 hg w88 hbox hb
             have n0_ := Aside0.mk (blk_below (g := gb101) (o := .cells #[.bool a0_0, .int .i64 a0_1] 25 (0, 0)) (by (with_reducible repeat (first | refine blk_drewN ?_ _ | refine blk_drew ?_ | refine blk_alloc ?_ _)); exact BK101.out) hb)
             have n1_ := Aside0.mk (blk_below (g := gb102) (o := .cells #[.bool a1_0, .int .i64 a1_1] 25 (0, 0)) (by (with_reducible repeat (first | refine blk_drewN ?_ _ | refine blk_drew ?_ | refine blk_alloc ?_ _)); exact BK102.out) hb)
             have n2_ := Aside0.mk (blk_below (g := gb103) (o := .cells #[.bool a2_0, .int .i64 a2_1] 25 (0, 0)) (by (with_reducible repeat (first | refine blk_drewN ?_ _ | refine blk_drew ?_ | refine blk_alloc ?_ _)); exact BK103.out) hb)
             have n3_ := Aside0.mk (below_step (by repeat (first | (with_reducible first | exact HB.out | apply below_alloc | apply pw_below_drewN | apply below_drew1 | refine below_set ?_ GE101.out | refine below_set ?_ GE102.out | refine below_set ?_ GE103.out) | exact HB.out)) hb)
             have n4_ := Aside0.mk (hbox)
             have n5_ := Aside0.mk ((by rw [hg]; exact (below_size (by repeat (first | (with_reducible first | exact HB.out | apply below_alloc | apply pw_below_drewN | apply below_drew1 | refine below_set ?_ GE101.out | refine below_set ?_ GE102.out | refine below_set ?_ GE103.out) | exact HB.out))) : w.heap.size ≤ gb140))
             have n6_ := Aside0.mk ((by rw [hg]; exact (below_size (by repeat (first | (with_reducible first | exact HB.out | apply below_alloc | apply pw_below_drewN | apply below_drew1 | refine below_set ?_ GE101.out | refine below_set ?_ GE102.out | refine below_set ?_ GE103.out) | exact HB.out))) : w.heap.size ≤ gb140))
             have n7_ := Aside0.mk ((by rw [hg]; exact Nat.ne_of_lt (blk_lt (g := gb101) (o := .cells #[.bool a0_0, .int .i64 a0_1] 25 (0, 0)) (by (with_reducible repeat (first | refine blk_drewN ?_ _ | refine blk_drew ?_ | refine blk_alloc ?_ _)); exact BK101.out)) : gb101 ≠ gb140))
             have n8_ := Aside0.mk ((by rw [hg]; exact Nat.ne_of_gt (blk_lt (g := gb101) (o := .cells #[.bool a0_0, .int .i64 a0_1] 25 (0, 0)) (by (with_reducible repeat (first | refine blk_drewN ?_ _ | refine blk_drew ?_ | refine blk_alloc ?_ _)); exact BK101.out)) : gb140 ≠ gb101))
             have n9_ := Aside0.mk ((by rw [hg]; exact Nat.ne_of_lt (blk_lt (g := gb102) (o := .cells #[.bool a1_0, .int .i64 a1_1] 25 (0, 0)) (by (with_reducible repeat (first | refine blk_drewN ?_ _ | refine blk_drew ?_ | refine blk_alloc ?_ _)); exact BK102.out)) : gb102 ≠ gb140))
             have n10_ := Aside0.mk ((by rw [hg]; exact Nat.ne_of_gt (blk_lt (g := gb102) (o := .cells #[.bool a1_0, .int .i64 a1_1] 25 (0, 0)) (by (with_reducible repeat (first | refine blk_drewN ?_ _ | refine blk_drew ?_ | refine blk_alloc ?_ _)); exact BK102.out)) : gb140 ≠ gb102))
             have n11_ := Aside0.mk ((by rw [hg]; exact Nat.ne_of_lt (blk_lt (g := gb103) (o := .cells #[.bool a2_0, .int .i64 a2_1] 25 (0, 0)) (by (with_reducible repeat (first | refine blk_drewN ?_ _ | refine blk_drew ?_ | refine blk_alloc ?_ _)); exact BK103.out)) : gb103 ≠ gb140))
             have n12_ := Aside0.mk ((by rw [hg]; exact Nat.ne_of_gt (blk_lt (g := gb103) (o := .cells #[.bool a2_0, .int .i64 a2_1] 25 (0, 0)) (by (with_reducible repeat (first | refine blk_drewN ?_ _ | refine blk_drew ?_ | refine blk_alloc ?_ _)); exact BK103.out)) : gb140 ≠ gb103))
             clear BK101
             clear BK102
             clear BK103
             clear HB
             have BK101 := n0_
             have BK102 := n1_
             have BK103 := n2_
             have HB := n3_
             have BK140 := n4_
             have GW140 := n5_
             have GE140 := n6_
             have NB101_140 := n7_
             have NB140_101 := n8_
             have NB102_140 := n9_
             have NB140_102 := n10_
             have NB103_140 := n11_
             have NB140_103 := n12_
             clear n0_ n1_ n2_ n3_ n4_ n5_ n6_ n7_ n8_ n9_ n10_ n11_ n12_
             clear hb hbox hg
             refine hK.out _ _ ⟨gb140, (.pointer (some ⟨gb140, 0, none⟩)), (by rw [ha.out]; exact putSel_upk 5 hb_ rfl rfl rfl), (by (with_reducible repeat (first | refine blk_drewN ?_ _ | refine blk_drew ?_ | refine blk_alloc ?_ _)); exact BK101.out), (by (with_reducible repeat (first | refine blk_drewN ?_ _ | refine blk_drew ?_ | refine blk_alloc ?_ _)); exact BK102.out), (by (with_reducible repeat (first | refine blk_drewN ?_ _ | refine blk_drew ?_ | refine blk_alloc ?_ _)); exact BK103.out), (by repeat (first | (with_reducible first | exact HB.out | apply below_alloc | apply pw_below_drewN | apply below_drew1 | refine below_set ?_ GE101.out | refine below_set ?_ GE102.out | refine below_set ?_ GE103.out | refine below_set ?_ GE140.out) | exact HB.out)), fun _ _ => (by (with_reducible repeat (first | refine blk_drewN ?_ _ | refine blk_drew ?_ | refine blk_alloc ?_ _)); exact BK140.out), fun _ => GW140.out, fun _ => GE140.out, fun _ => NB101_140.out, fun _ => NB140_101.out, fun _ => NB102_140.out, fun _ => NB140_102.out, fun _ => NB103_140.out, fun _ => NB140_103.out, fun h0_ => absurd ((hoff 6 (by kernel_rfl)).symm.trans h0_) (by decide), fun _ => rfl⟩
            refine steps_cons ?_ ?_
            ·rintro b a w' ⟨gb140, m5_, ha, Q_BK101, Q_BK102, Q_BK103, Q_HB, Q_BK140, Q_GW140, Q_GE140, Q_NB101_140, Q_NB140_101, Q_NB102_140, Q_NB140_102, Q_NB103_140, Q_NB140_103, Q_BK140_e6, Q_X5_⟩ hb_ hon hoff
             refine ⟨_, rfl, fun K hK => ?_⟩
             have e7 : a.tmps[7]? = some (m5_) := by rw [ha]; exact putSel_on (e := (5, 7, m5_)) 5 rfl rfl (hon 5 (by kernel_rfl)) rfl
             rw [Q_X5_ (hon 5 (by kernel_rfl))] at e7
             have e81 : a.tmps[81]? = some (.agg #[.bool true, .int .i64 t139]) := by rw [ha]; exact putSel_on (e := (4, 81, .agg #[.bool true, .int .i64 t139])) 4 rfl rfl (hon 4 (by kernel_rfl)) rfl
             replace ha := Aside0.mk ha
             have BK101 := Aside0.mk Q_BK101
             have BK102 := Aside0.mk Q_BK102
             have BK103 := Aside0.mk Q_BK103
             have HB := Aside0.mk Q_HB
             have BK140 := Aside0.mk (Q_BK140 (hon 5 (by kernel_rfl)) hb_)
             have GW140 := Aside0.mk (Q_GW140 (hon 5 (by kernel_rfl)))
             have GE140 := Aside0.mk (Q_GE140 (hon 5 (by kernel_rfl)))
             have NB101_140 := Aside0.mk (Q_NB101_140 (hon 5 (by kernel_rfl)))
             have NB140_101 := Aside0.mk (Q_NB140_101 (hon 5 (by kernel_rfl)))
             have NB102_140 := Aside0.mk (Q_NB102_140 (hon 5 (by kernel_rfl)))
             have NB140_102 := Aside0.mk (Q_NB140_102 (hon 5 (by kernel_rfl)))
             have NB103_140 := Aside0.mk (Q_NB103_140 (hon 5 (by kernel_rfl)))
             have NB140_103 := Aside0.mk (Q_NB140_103 (hon 5 (by kernel_rfl)))
             have hs92 : w'.cell? ⟨gb140, 0, none⟩ = some (.bool false) := (blk_cell BK140.out 0).trans rfl
             have hfs92 := blk_frozen BK140.out 0
             have hns92_0 := NB101_140.out
             have hns92_1 := NB102_140.out
             have hns92_2 := NB103_140.out
             have hms92_0 := NB140_101.out
             have hms92_1 := NB140_102.out
             have hms92_2 := NB140_103.out
             have hs93 : w'.cell? ⟨gb140, 1, none⟩ = some (.int .i64 0) := (blk_cell BK140.out 1).trans rfl
             have hfs93 := blk_frozen BK140.out 1
             have hns93_0 := NB101_140.out
             have hns93_1 := NB102_140.out
             have hns93_2 := NB103_140.out
             have hms93_0 := NB140_101.out
             have hms93_1 := NB140_102.out
             have hms93_2 := NB140_103.out
             refine skip_ (w1 := ?_) (by rfl) rfl ?_ ?_
             rotate_left
             ·go_simp
              rfl
             refine hK.out _ _ ⟨gb140, m5_, (by rw [ha.out]; exact putSel_none (v := undef) rfl), (by (with_reducible repeat (first | refine blk_drewN ?_ _ | refine blk_drew ?_ | refine blk_alloc ?_ _)); refine blk_far ?_ NB101_140.out _; (with_reducible repeat (first | refine blk_drewN ?_ _ | refine blk_drew ?_ | refine blk_alloc ?_ _)); refine blk_far ?_ NB101_140.out _; (with_reducible repeat (first | refine blk_drewN ?_ _ | refine blk_drew ?_ | refine blk_alloc ?_ _)); exact BK101.out), (by (with_reducible repeat (first | refine blk_drewN ?_ _ | refine blk_drew ?_ | refine blk_alloc ?_ _)); refine blk_far ?_ NB102_140.out _; (with_reducible repeat (first | refine blk_drewN ?_ _ | refine blk_drew ?_ | refine blk_alloc ?_ _)); refine blk_far ?_ NB102_140.out _; (with_reducible repeat (first | refine blk_drewN ?_ _ | refine blk_drew ?_ | refine blk_alloc ?_ _)); exact BK102.out), (by (with_reducible repeat (first | refine blk_drewN ?_ _ | refine blk_drew ?_ | refine blk_alloc ?_ _)); refine blk_far ?_ NB103_140.out _; (with_reducible repeat (first | refine blk_drewN ?_ _ | refine blk_drew ?_ | refine blk_alloc ?_ _)); refine blk_far ?_ NB103_140.out _; (with_reducible repeat (first | refine blk_drewN ?_ _ | refine blk_drew ?_ | refine blk_alloc ?_ _)); exact BK103.out), (by repeat (first | (with_reducible first | exact HB.out | apply below_alloc | apply pw_below_drewN | apply below_drew1 | refine below_set ?_ GE101.out | refine below_set ?_ GE102.out | refine below_set ?_ GE103.out | refine below_set ?_ GE140.out) | exact HB.out)), fun _ h1_ => absurd ((up_self b 6).symm.trans h1_) (by decide), fun _ => GW140.out, fun _ => GE140.out, fun _ => NB101_140.out, fun _ => NB140_101.out, fun _ => NB102_140.out, fun _ => NB140_102.out, fun _ => NB103_140.out, fun _ => NB140_103.out, fun _ => (by (with_reducible repeat (first | refine blk_drewN ?_ _ | refine blk_drew ?_ | refine blk_alloc ?_ _)); refine blk_put (cs := #[.bool true, .int .i64 0]) ?_ 1 _ rfl; (with_reducible repeat (first | refine blk_drewN ?_ _ | refine blk_drew ?_ | refine blk_alloc ?_ _)); refine blk_put (cs := #[.bool false, .int .i64 0]) ?_ 0 _ rfl; (with_reducible repeat (first | refine blk_drewN ?_ _ | refine blk_drew ?_ | refine blk_alloc ?_ _)); exact BK140.out), Q_X5_⟩
            exact steps_nil
           rintro b a w93 hall ⟨gb140, m5_, ha, Q_BK101, Q_BK102, Q_BK103, Q_HB, Q_BK140, Q_GW140, Q_GE140, Q_NB101_140, Q_NB140_101, Q_NB102_140, Q_NB140_102, Q_NB103_140, Q_NB140_103, Q_BK140_e6, Q_X5_⟩
           clear BK101 BK102 BK103 HB
           have hb0_ := hall 0 (by kernel_rfl)
           have hb1_ := hall 1 (by kernel_rfl)
           have hb2_ := hall 2 (by kernel_rfl)
           have hb3_ := hall 3 (by kernel_rfl)
           have hb4_ := hall 4 (by kernel_rfl)
           have hb5_ := hall 5 (by kernel_rfl)
           have hb6_ := hall 6 (by kernel_rfl)
           subst ha
           obtain rfl := Q_X5_ hb5_
           simp only [putSel, hb0_, hb1_, hb2_, hb3_, hb4_, hb5_, hb6_, if_true, Act.put, List.setIfInBounds_toArray, List.set_cons_zero, List.set_cons_succ]
           have BK101 := Aside0.mk Q_BK101
           clear Q_BK101
           have BK102 := Aside0.mk Q_BK102
           clear Q_BK102
           have BK103 := Aside0.mk Q_BK103
           clear Q_BK103
           have HB := Aside0.mk Q_HB
           clear Q_HB
           clear Q_BK140
           have GW140 := Aside0.mk (Q_GW140 hb5_)
           clear Q_GW140
           have GE140 := Aside0.mk (Q_GE140 hb5_)
           clear Q_GE140
           have NB101_140 := Aside0.mk (Q_NB101_140 hb5_)
           clear Q_NB101_140
           have NB140_101 := Aside0.mk (Q_NB140_101 hb5_)
           clear Q_NB140_101
           have NB102_140 := Aside0.mk (Q_NB102_140 hb5_)
           clear Q_NB102_140
           have NB140_102 := Aside0.mk (Q_NB140_102 hb5_)
           clear Q_NB140_102
           have NB103_140 := Aside0.mk (Q_NB103_140 hb5_)
           clear Q_NB103_140
           have NB140_103 := Aside0.mk (Q_NB140_103 hb5_)
           clear Q_NB140_103
           have BK140 := Aside0.mk (Q_BK140_e6 hb6_)
           clear Q_BK140_e6
           clear hall hb0_ hb1_ hb2_ hb3_ hb4_ hb5_ hb6_
           try go_wp2
           have n0_ := Aside0.mk (blk_drew BK101.out)
           have n1_ := Aside0.mk (blk_drew BK102.out)
           have n2_ := Aside0.mk (blk_drew BK103.out)
           have n3_ := Aside0.mk (blk_drew BK140.out)
           have n4_ := Aside0.mk (below_drew1 HB.out)
           clear BK101
           clear BK102
           clear BK103
           clear BK140
           clear HB
           have BK101 := n0_
           have BK102 := n1_
           have BK103 := n2_
           have BK140 := n3_
           have HB := n4_
           clear n0_ n1_ n2_ n3_ n4_
           refine start_ (n := 42) (S := fun w' => True) (ds := []) #[false, false, false, false, false, false, false, false, false, false, false, false, false, false, false, false, false, false, false, false, false, false, false, false, false, false, false, false, false, false, false, false, false, false, false, false, false, false, false, false, false, false] (by kernel_rfl) rfl rfl trivial (fun hHeld => ?_); refine with_tabW spillwaylaw2_FixLaws.tab8 spillwaylaw2_FixLaws.bits8 (fun HT_ HW_ => ?_)
           generalize w93.drew = w94 at BK101 BK102 BK103 BK140 HB hHeld ⊢
           refine pure_ (i := 0) (N := some 82) (v := ?_) (a' := ?_) #[true, false, false, false, false, false, false, false, false, false, false, false, false, false, false, false, false, false, false, false, false, false, false, false, false, false, false, false, false, false, false, false, false, false, false, false, false, false, false, false, false, false] rfl rfl (any_of HT_.out (by kernel_rfl)) (fun _ _ _ h => h) (Or.inl ⟨by rfl, ?_⟩) ?_ ?_
           rotate_left
           ·intro w'
            go_simp
            with_reducible rfl
           rotate_left
           ·simp only [Act.put, List.setIfInBounds_toArray, List.set_cons_zero, List.set_cons_succ, i64_w, i32_w]
            rfl
           refine inv_at [1, 2, 3, 4, 5, 6, 7, 8, 9, 10, 11, 12, 13, 14, 15, 16, 17, 18, 19, 20, 21, 22, 23, 24, 25, 26, 27, 28, 29, 30, 31, 32, 33, 34, 35, 36, 37, 38, 39, 40, 41] (fun a0_ b a w' => ∃ (v150 : Value) (v155 : Value) (v160 : Value), a = putSel a0_ b [(1, 83, .bool true), (2, 84, .bool true), (3, 85, undef), (4, 86, undef), (5, 87, undef), (6, 88, .bool true), (7, 89, .bool true), (8, 90, .agg #[.bool a0_0, .int .i64 a0_1]), (9, 91, .agg #[.bool t141, .int .i64 t142]), (10, 92, .agg #[.bool a1_0, .int .i64 a1_1]), (11, 93, .agg #[.bool t143, .int .i64 t144]), (12, 94, .agg #[.bool a0_0, .int .i64 a0_1]), (13, 95, .agg #[.bool a1_0, .int .i64 a1_1]), (14, 96, .agg #[.bool t145, .int .i64 t146]), (15, 97, .agg #[.bool t147, .int .i64 t148]), (16, 98, .bool (t143 == t147 && (t144 == t148))), (17, 99, .bool (t143 == t147 && (t144 == t148))), (18, 100, .bool (t143 == t147 && (t144 == t148))), (19, 101, .agg #[.bool a0_0, .int .i64 a0_1]), (20, 102, .agg #[.bool a1_0, .int .i64 a1_1]), (21, 103, .agg #[.bool a2_0, .int .i64 a2_1]), (22, 104, v150), (23, 105, .agg #[.bool t152, .int .i64 t153]), (24, 106, .agg #[.bool a2_0, .int .i64 a2_1]), (25, 107, .agg #[.bool a0_0, .int .i64 a0_1]), (26, 108, .agg #[.bool a1_0, .int .i64 a1_1]), (27, 109, v155), (28, 110, .agg #[.bool t157, .int .i64 t158]), (29, 111, .bool (t152 == t157 && (t153 == t158))), (30, 112, .bool (t152 == t157 && (t153 == t158))), (31, 113, .bool (t152 == t157 && (t153 == t158))), (32, 114, .agg #[.bool a0_0, .int .i64 a0_1]), (33, 115, .agg #[.bool a1_0, .int .i64 a1_1]), (34, 116, v160), (35, 117, .agg #[.bool t162, .int .i64 t163]), (36, 118, .agg #[.bool a0_0, .int .i64 a0_1]), (37, 119, .agg #[.bool a1_0, .int .i64 a1_1]), (38, 120, .agg #[.bool t164, .int .i64 t165]), (39, 121, .bool (t162 == t164 && (t163 == t165))), (40, 122, .bool (t162 == t164 && (t163 == t165))), (41, 6, .bool (t162 == t164 && (t163 == t165)))] ∧ (w'.heap[gb101]? = some (.cells #[.bool a0_0, .int .i64 a0_1] 25 (0, 0))) ∧ (w'.heap[gb102]? = some (.cells #[.bool a1_0, .int .i64 a1_1] 25 (0, 0))) ∧ (w'.heap[gb103]? = some (.cells #[.bool a2_0, .int .i64 a2_1] 25 (0, 0))) ∧ (w'.heap[gb140]? = some (.cells #[.bool true, .int .i64 t139] 25 (0, 0))) ∧ (Below w.heap.size w w') ∧ (b 22 = true → Kd.R k25 25 w' w.heap.size (fun k_ => k_ ≠ gb101 ∧ k_ ≠ gb102 ∧ k_ ≠ gb103 ∧ k_ ≠ gb140) v150 y149) ∧ (b 27 = true → Kd.R k25 25 w' w.heap.size (fun k_ => k_ ≠ gb101 ∧ k_ ≠ gb102 ∧ k_ ≠ gb103 ∧ k_ ≠ gb140) v155 y154) ∧ (b 34 = true → Kd.R k25 25 w' w.heap.size (fun k_ => k_ ≠ gb101 ∧ k_ ≠ gb102 ∧ k_ ≠ gb103 ∧ k_ ≠ gb140) v160 y159)) HT_.out HW_.out (by kernel_rfl) (by kernel_rfl) ?_ ?_ ?_
           ·exact ⟨.bool false, .bool false, .bool false, by simp only [putSel, Bool.false_eq_true, if_false], BK101.out, BK102.out, BK103.out, BK140.out, HB.out, fun h_ => absurd h_ (by decide), fun h_ => absurd h_ (by decide), fun h_ => absurd h_ (by decide)⟩
           ·skip
            clear BK101 BK102 BK103 BK140 HB
            refine steps_cons ?_ ?_
            ·rintro b a w' ⟨v150, v155, v160, ha, Q_BK101, Q_BK102, Q_BK103, Q_BK140, Q_HB, Q_HO151, Q_HO156, Q_HO161⟩ hb_ hon hoff
             refine ⟨_, rfl, fun K hK => ?_⟩
             have e82 : a.tmps[82]? = some (.pointer (some ⟨gb140, 0, none⟩)) := by rw [ha]; exact (putSel_off rfl).trans rfl
             replace ha := Aside0.mk ha
             have BK101 := Aside0.mk Q_BK101
             have BK102 := Aside0.mk Q_BK102
             have BK103 := Aside0.mk Q_BK103
             have BK140 := Aside0.mk Q_BK140
             have HB := Aside0.mk Q_HB
             have hc0_ : w'.cell? ⟨gb140, 0, none⟩ = some (.bool true) := (blk_cell BK140.out 0).trans rfl
             have hc1_ : w'.cell? ⟨gb140, 1, none⟩ = some (.int .i64 t139) := (blk_cell BK140.out 1).trans rfl
             refine value_ (w1 := w') (v := .bool true) (by rfl) rfl ?_ ?_
             ·go_simp
              (try simp only [i64_w])
              try rfl
             refine hK.out _ _ ⟨v150, v155, v160, (by rw [ha.out]; exact putSel_upk 0 hb_ rfl rfl rfl), Q_BK101, Q_BK102, Q_BK103, Q_BK140, Q_HB, fun h0_ => absurd ((hoff 22 (by kernel_rfl)).symm.trans h0_) (by decide), fun h0_ => absurd ((hoff 27 (by kernel_rfl)).symm.trans h0_) (by decide), fun h0_ => absurd ((hoff 34 (by kernel_rfl)).symm.trans h0_) (by decide)⟩
            refine steps_cons ?_ ?_
            ·rintro b a w' ⟨v150, v155, v160, ha, Q_BK101, Q_BK102, Q_BK103, Q_BK140, Q_HB, Q_HO151, Q_HO156, Q_HO161⟩ hb_ hon hoff
             refine ⟨_, rfl, fun K hK => ?_⟩
             have e83 : a.tmps[83]? = some (.bool true) := by rw [ha]; exact putSel_on (e := (1, 83, .bool true)) 0 rfl rfl (hon 1 (by kernel_rfl)) rfl
             replace ha := Aside0.mk ha
             have BK101 := Aside0.mk Q_BK101
             have BK102 := Aside0.mk Q_BK102
             have BK103 := Aside0.mk Q_BK103
             have BK140 := Aside0.mk Q_BK140
             have HB := Aside0.mk Q_HB
             refine value_ (w1 := w') (v := .bool true) (by rfl) rfl ?_ ?_
             ·go_simp
              (try simp only [i64_w])
              try rfl
             refine hK.out _ _ ⟨v150, v155, v160, (by rw [ha.out]; exact putSel_upk 1 hb_ rfl rfl rfl), Q_BK101, Q_BK102, Q_BK103, Q_BK140, Q_HB, fun h0_ => absurd ((hoff 22 (by kernel_rfl)).symm.trans h0_) (by decide), fun h0_ => absurd ((hoff 27 (by kernel_rfl)).symm.trans h0_) (by decide), fun h0_ => absurd ((hoff 34 (by kernel_rfl)).symm.trans h0_) (by decide)⟩
            refine steps_cons ?_ ?_
            ·rintro b a w' ⟨v150, v155, v160, ha, Q_BK101, Q_BK102, Q_BK103, Q_BK140, Q_HB, Q_HO151, Q_HO156, Q_HO161⟩ hb_ hon hoff
             refine ⟨_, rfl, fun K hK => ?_⟩
             have e84 : a.tmps[84]? = some (.bool true) := by rw [ha]; exact putSel_on (e := (2, 84, .bool true)) 1 rfl rfl (hon 2 (by kernel_rfl)) rfl
             replace ha := Aside0.mk ha
             have BK101 := Aside0.mk Q_BK101
             have BK102 := Aside0.mk Q_BK102
             have BK103 := Aside0.mk Q_BK103
             have BK140 := Aside0.mk Q_BK140
             have HB := Aside0.mk Q_HB
             refine off_ (wanted_off rfl rfl rfl (e84.trans (by first | rfl | exact congrArg (fun x_ => some (Value.bool x_)) (by assumption) | (simp [*]; done)))) ?_
             refine hK.out _ _ ⟨v150, v155, v160, (by rw [ha.out]; exact putSel_upk 2 hb_ rfl rfl rfl), Q_BK101, Q_BK102, Q_BK103, Q_BK140, Q_HB, fun h0_ => absurd ((hoff 22 (by kernel_rfl)).symm.trans h0_) (by decide), fun h0_ => absurd ((hoff 27 (by kernel_rfl)).symm.trans h0_) (by decide), fun h0_ => absurd ((hoff 34 (by kernel_rfl)).symm.trans h0_) (by decide)⟩
            refine steps_cons ?_ ?_
            ·rintro b a w' ⟨v150, v155, v160, ha, Q_BK101, Q_BK102, Q_BK103, Q_BK140, Q_HB, Q_HO151, Q_HO156, Q_HO161⟩ hb_ hon hoff
             refine ⟨_, rfl, fun K hK => ?_⟩
             have e84 : a.tmps[84]? = some (.bool true) := by rw [ha]; exact putSel_on (e := (2, 84, .bool true)) 1 rfl rfl (hon 2 (by kernel_rfl)) rfl
             replace ha := Aside0.mk ha
             have BK101 := Aside0.mk Q_BK101
             have BK102 := Aside0.mk Q_BK102
             have BK103 := Aside0.mk Q_BK103
             have BK140 := Aside0.mk Q_BK140
             have HB := Aside0.mk Q_HB
             refine off_ (wanted_off rfl rfl rfl (e84.trans (by first | rfl | exact congrArg (fun x_ => some (Value.bool x_)) (by assumption) | (simp [*]; done)))) ?_
             refine hK.out _ _ ⟨v150, v155, v160, (by rw [ha.out]; exact putSel_upk 3 hb_ rfl rfl rfl), Q_BK101, Q_BK102, Q_BK103, Q_BK140, Q_HB, fun h0_ => absurd ((hoff 22 (by kernel_rfl)).symm.trans h0_) (by decide), fun h0_ => absurd ((hoff 27 (by kernel_rfl)).symm.trans h0_) (by decide), fun h0_ => absurd ((hoff 34 (by kernel_rfl)).symm.trans h0_) (by decide)⟩
            refine steps_cons ?_ ?_
            ·rintro b a w' ⟨v150, v155, v160, ha, Q_BK101, Q_BK102, Q_BK103, Q_BK140, Q_HB, Q_HO151, Q_HO156, Q_HO161⟩ hb_ hon hoff
             refine ⟨_, rfl, fun K hK => ?_⟩
             have e84 : a.tmps[84]? = some (.bool true) := by rw [ha]; exact putSel_on (e := (2, 84, .bool true)) 1 rfl rfl (hon 2 (by kernel_rfl)) rfl
             replace ha := Aside0.mk ha
             have BK101 := Aside0.mk Q_BK101
             have BK102 := Aside0.mk Q_BK102
             have BK103 := Aside0.mk Q_BK103
             have BK140 := Aside0.mk Q_BK140
             have HB := Aside0.mk Q_HB
             refine off_ (wanted_off rfl rfl rfl (e84.trans (by first | rfl | exact congrArg (fun x_ => some (Value.bool x_)) (by assumption) | (simp [*]; done)))) ?_
             refine hK.out _ _ ⟨v150, v155, v160, (by rw [ha.out]; exact putSel_upk 4 hb_ rfl rfl rfl), Q_BK101, Q_BK102, Q_BK103, Q_BK140, Q_HB, fun h0_ => absurd ((hoff 22 (by kernel_rfl)).symm.trans h0_) (by decide), fun h0_ => absurd ((hoff 27 (by kernel_rfl)).symm.trans h0_) (by decide), fun h0_ => absurd ((hoff 34 (by kernel_rfl)).symm.trans h0_) (by decide)⟩
            refine steps_cons ?_ ?_
            ·rintro b a w' ⟨v150, v155, v160, ha, Q_BK101, Q_BK102, Q_BK103, Q_BK140, Q_HB, Q_HO151, Q_HO156, Q_HO161⟩ hb_ hon hoff
             refine ⟨_, rfl, fun K hK => ?_⟩
             have e84 : a.tmps[84]? = some (.bool true) := by rw [ha]; exact putSel_on (e := (2, 84, .bool true)) 1 rfl rfl (hon 2 (by kernel_rfl)) rfl
             have e87 : a.tmps[87]? = some (undef) := by rw [ha]; exact putSel_on (e := (5, 87, undef)) 4 rfl rfl (hon 5 (by kernel_rfl)) rfl
             replace ha := Aside0.mk ha
             have BK101 := Aside0.mk Q_BK101
             have BK102 := Aside0.mk Q_BK102
             have BK103 := Aside0.mk Q_BK103
             have BK140 := Aside0.mk Q_BK140
             have HB := Aside0.mk Q_HB
             refine value_ (w1 := w') (v := .bool true) (by rfl) rfl ?_ ?_
             ·go_simp
              (try simp only [i64_w])
              try rfl
             refine hK.out _ _ ⟨v150, v155, v160, (by rw [ha.out]; exact putSel_upk 5 hb_ rfl rfl rfl), Q_BK101, Q_BK102, Q_BK103, Q_BK140, Q_HB, fun h0_ => absurd ((hoff 22 (by kernel_rfl)).symm.trans h0_) (by decide), fun h0_ => absurd ((hoff 27 (by kernel_rfl)).symm.trans h0_) (by decide), fun h0_ => absurd ((hoff 34 (by kernel_rfl)).symm.trans h0_) (by decide)⟩
            refine steps_cons ?_ ?_
            ·rintro b a w' ⟨v150, v155, v160, ha, Q_BK101, Q_BK102, Q_BK103, Q_BK140, Q_HB, Q_HO151, Q_HO156, Q_HO161⟩ hb_ hon hoff
             refine ⟨_, rfl, fun K hK => ?_⟩
             have e88 : a.tmps[88]? = some (.bool true) := by rw [ha]; exact putSel_on (e := (6, 88, .bool true)) 5 rfl rfl (hon 6 (by kernel_rfl)) rfl
             replace ha := Aside0.mk ha
             have BK101 := Aside0.mk Q_BK101
             have BK102 := Aside0.mk Q_BK102
             have BK103 := Aside0.mk Q_BK103
             have BK140 := Aside0.mk Q_BK140
             have HB := Aside0.mk Q_HB
             refine value_ (w1 := w') (v := .bool true) (by rfl) rfl ?_ ?_
             ·go_simp
              (try simp only [i64_w])
              try rfl
             refine hK.out _ _ ⟨v150, v155, v160, (by rw [ha.out]; exact putSel_upk 6 hb_ rfl rfl rfl), Q_BK101, Q_BK102, Q_BK103, Q_BK140, Q_HB, fun h0_ => absurd ((hoff 22 (by kernel_rfl)).symm.trans h0_) (by decide), fun h0_ => absurd ((hoff 27 (by kernel_rfl)).symm.trans h0_) (by decide), fun h0_ => absurd ((hoff 34 (by kernel_rfl)).symm.trans h0_) (by decide)⟩
            refine steps_cons ?_ ?_
            ·rintro b a w' ⟨v150, v155, v160, ha, Q_BK101, Q_BK102, Q_BK103, Q_BK140, Q_HB, Q_HO151, Q_HO156, Q_HO161⟩ hb_ hon hoff
             refine ⟨_, rfl, fun K hK => ?_⟩
             have e3 : a.tmps[3]? = some (.pointer (some ⟨gb101, 0, none⟩)) := by rw [ha]; exact (putSel_off rfl).trans rfl
             have e89 : a.tmps[89]? = some (.bool true) := by rw [ha]; exact putSel_on (e := (7, 89, .bool true)) 6 rfl rfl (hon 7 (by kernel_rfl)) rfl
             replace ha := Aside0.mk ha
             have BK101 := Aside0.mk Q_BK101
             have BK102 := Aside0.mk Q_BK102
             have BK103 := Aside0.mk Q_BK103
             have BK140 := Aside0.mk Q_BK140
             have HB := Aside0.mk Q_HB
             have hc0_ : w'.cell? ⟨gb101, 0, none⟩ = some (.bool a0_0) := (blk_cell BK101.out 0).trans rfl
             have hc1_ : w'.cell? ⟨gb101, 1, none⟩ = some (.int .i64 a0_1) := (blk_cell BK101.out 1).trans rfl
             refine value_ (w1 := w') (v := .agg #[.bool a0_0, .int .i64 a0_1]) (wanted_on rfl rfl rfl (e89.trans (by first | rfl | exact congrArg (fun x_ => some (Value.bool x_)) (by assumption) | (simp [*]; done)))) rfl ?_ ?_
             ·go_simp
              (try simp only [i64_w])
              try rfl
             refine hK.out _ _ ⟨v150, v155, v160, (by rw [ha.out]; exact putSel_upk 7 hb_ rfl rfl rfl), Q_BK101, Q_BK102, Q_BK103, Q_BK140, Q_HB, fun h0_ => absurd ((hoff 22 (by kernel_rfl)).symm.trans h0_) (by decide), fun h0_ => absurd ((hoff 27 (by kernel_rfl)).symm.trans h0_) (by decide), fun h0_ => absurd ((hoff 34 (by kernel_rfl)).symm.trans h0_) (by decide)⟩
            refine steps_cons ?_ ?_
            ·rintro b a w' ⟨v150, v155, v160, ha, Q_BK101, Q_BK102, Q_BK103, Q_BK140, Q_HB, Q_HO151, Q_HO156, Q_HO161⟩ hb_ hon hoff
             refine ⟨_, rfl, fun K hK => ?_⟩
             have e90 : a.tmps[90]? = some (.agg #[.bool a0_0, .int .i64 a0_1]) := by rw [ha]; exact putSel_on (e := (8, 90, .agg #[.bool a0_0, .int .i64 a0_1])) 7 rfl rfl (hon 8 (by kernel_rfl)) rfl
             have e89 : a.tmps[89]? = some (.bool true) := by rw [ha]; exact putSel_on (e := (7, 89, .bool true)) 6 rfl rfl (hon 7 (by kernel_rfl)) rfl
             replace ha := Aside0.mk ha
             have BK101 := Aside0.mk Q_BK101
             have BK102 := Aside0.mk Q_BK102
             have BK103 := Aside0.mk Q_BK103
             have BK140 := Aside0.mk Q_BK140
             have HB := Aside0.mk Q_HB
             refine goes_ Tryd.func21 (by kernel_rfl) rfl #[.agg #[.bool a0_0, .int .i64 a0_1]] (by first | rfl | exact wanted_on rfl rfl rfl (by first | assumption | (simp only [*]; done) | (simp [*]; done))) rfl rfl (by first | (simp only [List.map_toArray, List.map_cons, List.map_nil, Act.eval, Array.getD_eq_getD_getElem?, Option.getD_some, e90, e89]; done) | (simp only [List.map_toArray, List.map_cons, List.map_nil, Act.eval, Array.getD_eq_getD_getElem?, Option.getD_some, e90, e89]; rfl)) ?_
             with_reducible refine (fix_Neg.calls a0_0 a0_1 t141 t142 _ A77.out).mono ?_
             rintro e w95 ⟨rfl, hb⟩
             refine ⟨_, rfl, ?_⟩
             have n0_ := Aside0.mk (blk_below (g := gb101) (o := .cells #[.bool a0_0, .int .i64 a0_1] 25 (0, 0)) (by (with_reducible repeat (first | refine blk_drewN ?_ _ | refine blk_drew ?_ | refine blk_alloc ?_ _)); exact BK101.out) hb)
             have n1_ := Aside0.mk (blk_below (g := gb102) (o := .cells #[.bool a1_0, .int .i64 a1_1] 25 (0, 0)) (by (with_reducible repeat (first | refine blk_drewN ?_ _ | refine blk_drew ?_ | refine blk_alloc ?_ _)); exact BK102.out) hb)
             have n2_ := Aside0.mk (blk_below (g := gb103) (o := .cells #[.bool a2_0, .int .i64 a2_1] 25 (0, 0)) (by (with_reducible repeat (first | refine blk_drewN ?_ _ | refine blk_drew ?_ | refine blk_alloc ?_ _)); exact BK103.out) hb)
             have n3_ := Aside0.mk (blk_below (g := gb140) (o := .cells #[.bool true, .int .i64 t139] 25 (0, 0)) (by (with_reducible repeat (first | refine blk_drewN ?_ _ | refine blk_drew ?_ | refine blk_alloc ?_ _)); exact BK140.out) hb)
             have n4_ := Aside0.mk (below_step (by repeat (first | (with_reducible first | exact HB.out | apply below_alloc | apply pw_below_drewN | apply below_drew1 | refine below_set ?_ GE101.out | refine below_set ?_ GE102.out | refine below_set ?_ GE103.out | refine below_set ?_ GE140.out) | exact HB.out)) hb)
             clear BK101
             clear BK102
             clear BK103
             clear BK140
             clear HB
             have BK101 := n0_
             have BK102 := n1_
             have BK103 := n2_
             have BK140 := n3_
             have HB := n4_
             clear n0_ n1_ n2_ n3_ n4_
             (try clear hb)
             (try clear hb2)
             (try clear hk)
             (try clear hi)
             refine hK.out _ _ ⟨v150, v155, v160, (by rw [ha.out]; exact putSel_upk 8 hb_ rfl rfl rfl), (by (with_reducible repeat (first | refine blk_drewN ?_ _ | refine blk_drew ?_ | refine blk_alloc ?_ _)); exact BK101.out), (by (with_reducible repeat (first | refine blk_drewN ?_ _ | refine blk_drew ?_ | refine blk_alloc ?_ _)); exact BK102.out), (by (with_reducible repeat (first | refine blk_drewN ?_ _ | refine blk_drew ?_ | refine blk_alloc ?_ _)); exact BK103.out), (by (with_reducible repeat (first | refine blk_drewN ?_ _ | refine blk_drew ?_ | refine blk_alloc ?_ _)); exact BK140.out), (by repeat (first | (with_reducible first | exact HB.out | apply below_alloc | apply pw_below_drewN | apply below_drew1 | refine below_set ?_ GE101.out | refine below_set ?_ GE102.out | refine below_set ?_ GE103.out | refine below_set ?_ GE140.out) | exact HB.out)), fun h0_ => absurd ((hoff 22 (by kernel_rfl)).symm.trans h0_) (by decide), fun h0_ => absurd ((hoff 27 (by kernel_rfl)).symm.trans h0_) (by decide), fun h0_ => absurd ((hoff 34 (by kernel_rfl)).symm.trans h0_) (by decide)⟩
            refine steps_cons ?_ ?_
            ·rintro b a w' ⟨v150, v155, v160, ha, Q_BK101, Q_BK102, Q_BK103, Q_BK140, Q_HB, Q_HO151, Q_HO156, Q_HO161⟩ hb_ hon hoff
             refine ⟨_, rfl, fun K hK => ?_⟩
             have e4 : a.tmps[4]? = some (.pointer (some ⟨gb102, 0, none⟩)) := by rw [ha]; exact (putSel_off rfl).trans rfl
             have e89 : a.tmps[89]? = some (.bool true) := by rw [ha]; exact putSel_on (e := (7, 89, .bool true)) 6 rfl rfl (hon 7 (by kernel_rfl)) rfl
             replace ha := Aside0.mk ha
             have BK101 := Aside0.mk Q_BK101
             have BK102 := Aside0.mk Q_BK102
             have BK103 := Aside0.mk Q_BK103
             have BK140 := Aside0.mk Q_BK140
             have HB := Aside0.mk Q_HB
             have hc0_ : w'.cell? ⟨gb102, 0, none⟩ = some (.bool a1_0) := (blk_cell BK102.out 0).trans rfl
             have hc1_ : w'.cell? ⟨gb102, 1, none⟩ = some (.int .i64 a1_1) := (blk_cell BK102.out 1).trans rfl
             refine value_ (w1 := w') (v := .agg #[.bool a1_0, .int .i64 a1_1]) (wanted_on rfl rfl rfl (e89.trans (by first | rfl | exact congrArg (fun x_ => some (Value.bool x_)) (by assumption) | (simp [*]; done)))) rfl ?_ ?_
             ·go_simp
              (try simp only [i64_w])
              try rfl
             refine hK.out _ _ ⟨v150, v155, v160, (by rw [ha.out]; exact putSel_upk 9 hb_ rfl rfl rfl), Q_BK101, Q_BK102, Q_BK103, Q_BK140, Q_HB, fun h0_ => absurd ((hoff 22 (by kernel_rfl)).symm.trans h0_) (by decide), fun h0_ => absurd ((hoff 27 (by kernel_rfl)).symm.trans h0_) (by decide), fun h0_ => absurd ((hoff 34 (by kernel_rfl)).symm.trans h0_) (by decide)⟩
            refine steps_cons ?_ ?_
            ·rintro b a w' ⟨v150, v155, v160, ha, Q_BK101, Q_BK102, Q_BK103, Q_BK140, Q_HB, Q_HO151, Q_HO156, Q_HO161⟩ hb_ hon hoff
             refine ⟨_, rfl, fun K hK => ?_⟩
             have e91 : a.tmps[91]? = some (.agg #[.bool t141, .int .i64 t142]) := by rw [ha]; exact putSel_on (e := (9, 91, .agg #[.bool t141, .int .i64 t142])) 8 rfl rfl (hon 9 (by kernel_rfl)) rfl
             have e92 : a.tmps[92]? = some (.agg #[.bool a1_0, .int .i64 a1_1]) := by rw [ha]; exact putSel_on (e := (10, 92, .agg #[.bool a1_0, .int .i64 a1_1])) 9 rfl rfl (hon 10 (by kernel_rfl)) rfl
             have e89 : a.tmps[89]? = some (.bool true) := by rw [ha]; exact putSel_on (e := (7, 89, .bool true)) 6 rfl rfl (hon 7 (by kernel_rfl)) rfl
             replace ha := Aside0.mk ha
             have BK101 := Aside0.mk Q_BK101
             have BK102 := Aside0.mk Q_BK102
             have BK103 := Aside0.mk Q_BK103
             have BK140 := Aside0.mk Q_BK140
             have HB := Aside0.mk Q_HB
             refine goes_ Tryd.func19 (by kernel_rfl) rfl #[.agg #[.bool t141, .int .i64 t142], .agg #[.bool a1_0, .int .i64 a1_1]] (by first | rfl | exact wanted_on rfl rfl rfl (by first | assumption | (simp only [*]; done) | (simp [*]; done))) rfl rfl (by first | (simp only [List.map_toArray, List.map_cons, List.map_nil, Act.eval, Array.getD_eq_getD_getElem?, Option.getD_some, e91, e92, e89]; done) | (simp only [List.map_toArray, List.map_cons, List.map_nil, Act.eval, Array.getD_eq_getD_getElem?, Option.getD_some, e91, e92, e89]; rfl)) ?_
             with_reducible refine (fix_Mul.calls kj36 t141 t142 a1_0 a1_1 t143 t144 _ A78.out).mono ?_
             rintro e w97 ⟨rfl, hb⟩
             refine ⟨_, rfl, ?_⟩
             have n0_ := Aside0.mk (blk_below (g := gb101) (o := .cells #[.bool a0_0, .int .i64 a0_1] 25 (0, 0)) (by (with_reducible repeat (first | refine blk_drewN ?_ _ | refine blk_drew ?_ | refine blk_alloc ?_ _)); exact BK101.out) hb)
             have n1_ := Aside0.mk (blk_below (g := gb102) (o := .cells #[.bool a1_0, .int .i64 a1_1] 25 (0, 0)) (by (with_reducible repeat (first | refine blk_drewN ?_ _ | refine blk_drew ?_ | refine blk_alloc ?_ _)); exact BK102.out) hb)
             have n2_ := Aside0.mk (blk_below (g := gb103) (o := .cells #[.bool a2_0, .int .i64 a2_1] 25 (0, 0)) (by (with_reducible repeat (first | refine blk_drewN ?_ _ | refine blk_drew ?_ | refine blk_alloc ?_ _)); exact BK103.out) hb)
             have n3_ := Aside0.mk (blk_below (g := gb140) (o := .cells #[.bool true, .int .i64 t139] 25 (0, 0)) (by (with_reducible repeat (first | refine blk_drewN ?_ _ | refine blk_drew ?_ | refine blk_alloc ?_ _)); exact BK140.out) hb)
             have n4_ := Aside0.mk (below_step (by repeat (first | (with_reducible first | exact HB.out | apply below_alloc | apply pw_below_drewN | apply below_drew1 | refine below_set ?_ GE101.out | refine below_set ?_ GE102.out | refine below_set ?_ GE103.out | refine below_set ?_ GE140.out) | exact HB.out)) hb)
             clear BK101
             clear BK102
             clear BK103
             clear BK140
             clear HB
             have BK101 := n0_
             have BK102 := n1_
             have BK103 := n2_
             have BK140 := n3_
             have HB := n4_
             clear n0_ n1_ n2_ n3_ n4_
             (try clear hb)
             (try clear hb2)
             (try clear hk)
             (try clear hi)
             refine hK.out _ _ ⟨v150, v155, v160, (by rw [ha.out]; exact putSel_upk 10 hb_ rfl rfl rfl), (by (with_reducible repeat (first | refine blk_drewN ?_ _ | refine blk_drew ?_ | refine blk_alloc ?_ _)); exact BK101.out), (by (with_reducible repeat (first | refine blk_drewN ?_ _ | refine blk_drew ?_ | refine blk_alloc ?_ _)); exact BK102.out), (by (with_reducible repeat (first | refine blk_drewN ?_ _ | refine blk_drew ?_ | refine blk_alloc ?_ _)); exact BK103.out), (by (with_reducible repeat (first | refine blk_drewN ?_ _ | refine blk_drew ?_ | refine blk_alloc ?_ _)); exact BK140.out), (by repeat (first | (with_reducible first | exact HB.out | apply below_alloc | apply pw_below_drewN | apply below_drew1 | refine below_set ?_ GE101.out | refine below_set ?_ GE102.out | refine below_set ?_ GE103.out | refine below_set ?_ GE140.out) | exact HB.out)), fun h0_ => absurd ((hoff 22 (by kernel_rfl)).symm.trans h0_) (by decide), fun h0_ => absurd ((hoff 27 (by kernel_rfl)).symm.trans h0_) (by decide), fun h0_ => absurd ((hoff 34 (by kernel_rfl)).symm.trans h0_) (by decide)⟩
            refine steps_cons ?_ ?_
            ·rintro b a w' ⟨v150, v155, v160, ha, Q_BK101, Q_BK102, Q_BK103, Q_BK140, Q_HB, Q_HO151, Q_HO156, Q_HO161⟩ hb_ hon hoff
             refine ⟨_, rfl, fun K hK => ?_⟩
             have e3 : a.tmps[3]? = some (.pointer (some ⟨gb101, 0, none⟩)) := by rw [ha]; exact (putSel_off rfl).trans rfl
             have e89 : a.tmps[89]? = some (.bool true) := by rw [ha]; exact putSel_on (e := (7, 89, .bool true)) 6 rfl rfl (hon 7 (by kernel_rfl)) rfl
             replace ha := Aside0.mk ha
             have BK101 := Aside0.mk Q_BK101
             have BK102 := Aside0.mk Q_BK102
             have BK103 := Aside0.mk Q_BK103
             have BK140 := Aside0.mk Q_BK140
             have HB := Aside0.mk Q_HB
             have hc0_ : w'.cell? ⟨gb101, 0, none⟩ = some (.bool a0_0) := (blk_cell BK101.out 0).trans rfl
             have hc1_ : w'.cell? ⟨gb101, 1, none⟩ = some (.int .i64 a0_1) := (blk_cell BK101.out 1).trans rfl
             refine value_ (w1 := w') (v := .agg #[.bool a0_0, .int .i64 a0_1]) (wanted_on rfl rfl rfl (e89.trans (by first | rfl | exact congrArg (fun x_ => some (Value.bool x_)) (by assumption) | (simp [*]; done)))) rfl ?_ ?_
             ·go_simp
              (try simp only [i64_w])
              try rfl
             refine hK.out _ _ ⟨v150, v155, v160, (by rw [ha.out]; exact putSel_upk 11 hb_ rfl rfl rfl), Q_BK101, Q_BK102, Q_BK103, Q_BK140, Q_HB, fun h0_ => absurd ((hoff 22 (by kernel_rfl)).symm.trans h0_) (by decide), fun h0_ => absurd ((hoff 27 (by kernel_rfl)).symm.trans h0_) (by decide), fun h0_ => absurd ((hoff 34 (by kernel_rfl)).symm.trans h0_) (by decide)⟩
            refine steps_cons ?_ ?_
            ·rintro b a w' ⟨v150, v155, v160, ha, Q_BK101, Q_BK102, Q_BK103, Q_BK140, Q_HB, Q_HO151, Q_HO156, Q_HO161⟩ hb_ hon hoff
             refine ⟨_, rfl, fun K hK => ?_⟩
             have e4 : a.tmps[4]? = some (.pointer (some ⟨gb102, 0, none⟩)) := by rw [ha]; exact (putSel_off rfl).trans rfl
             have e89 : a.tmps[89]? = some (.bool true) := by rw [ha]; exact putSel_on (e := (7, 89, .bool true)) 6 rfl rfl (hon 7 (by kernel_rfl)) rfl
             replace ha := Aside0.mk ha
             have BK101 := Aside0.mk Q_BK101
             have BK102 := Aside0.mk Q_BK102
             have BK103 := Aside0.mk Q_BK103
             have BK140 := Aside0.mk Q_BK140
             have HB := Aside0.mk Q_HB
             have hc0_ : w'.cell? ⟨gb102, 0, none⟩ = some (.bool a1_0) := (blk_cell BK102.out 0).trans rfl
             have hc1_ : w'.cell? ⟨gb102, 1, none⟩ = some (.int .i64 a1_1) := (blk_cell BK102.out 1).trans rfl
             refine value_ (w1 := w') (v := .agg #[.bool a1_0, .int .i64 a1_1]) (wanted_on rfl rfl rfl (e89.trans (by first | rfl | exact congrArg (fun x_ => some (Value.bool x_)) (by assumption) | (simp [*]; done)))) rfl ?_ ?_
             ·go_simp
              (try simp only [i64_w])
              try rfl
             refine hK.out _ _ ⟨v150, v155, v160, (by rw [ha.out]; exact putSel_upk 12 hb_ rfl rfl rfl), Q_BK101, Q_BK102, Q_BK103, Q_BK140, Q_HB, fun h0_ => absurd ((hoff 22 (by kernel_rfl)).symm.trans h0_) (by decide), fun h0_ => absurd ((hoff 27 (by kernel_rfl)).symm.trans h0_) (by decide), fun h0_ => absurd ((hoff 34 (by kernel_rfl)).symm.trans h0_) (by decide)⟩
            refine steps_cons ?_ ?_
            ·rintro b a w' ⟨v150, v155, v160, ha, Q_BK101, Q_BK102, Q_BK103, Q_BK140, Q_HB, Q_HO151, Q_HO156, Q_HO161⟩ hb_ hon hoff
             refine ⟨_, rfl, fun K hK => ?_⟩
             have e94 : a.tmps[94]? = some (.agg #[.bool a0_0, .int .i64 a0_1]) := by rw [ha]; exact putSel_on (e := (12, 94, .agg #[.bool a0_0, .int .i64 a0_1])) 11 rfl rfl (hon 12 (by kernel_rfl)) rfl
             have e95 : a.tmps[95]? = some (.agg #[.bool a1_0, .int .i64 a1_1]) := by rw [ha]; exact putSel_on (e := (13, 95, .agg #[.bool a1_0, .int .i64 a1_1])) 12 rfl rfl (hon 13 (by kernel_rfl)) rfl
             have e89 : a.tmps[89]? = some (.bool true) := by rw [ha]; exact putSel_on (e := (7, 89, .bool true)) 6 rfl rfl (hon 7 (by kernel_rfl)) rfl
             replace ha := Aside0.mk ha
             have BK101 := Aside0.mk Q_BK101
             have BK102 := Aside0.mk Q_BK102
             have BK103 := Aside0.mk Q_BK103
             have BK140 := Aside0.mk Q_BK140
             have HB := Aside0.mk Q_HB
             refine goes_ Tryd.func19 (by kernel_rfl) rfl #[.agg #[.bool a0_0, .int .i64 a0_1], .agg #[.bool a1_0, .int .i64 a1_1]] (by first | rfl | exact wanted_on rfl rfl rfl (by first | assumption | (simp only [*]; done) | (simp [*]; done))) rfl rfl (by first | (simp only [List.map_toArray, List.map_cons, List.map_nil, Act.eval, Array.getD_eq_getD_getElem?, Option.getD_some, e94, e95, e89]; done) | (simp only [List.map_toArray, List.map_cons, List.map_nil, Act.eval, Array.getD_eq_getD_getElem?, Option.getD_some, e94, e95, e89]; rfl)) ?_
             with_reducible refine (fix_Mul.calls kj36 a0_0 a0_1 a1_0 a1_1 t145 t146 _ A79.out).mono ?_
             rintro e w98 ⟨rfl, hb⟩
             refine ⟨_, rfl, ?_⟩
             have n0_ := Aside0.mk (blk_below (g := gb101) (o := .cells #[.bool a0_0, .int .i64 a0_1] 25 (0, 0)) (by (with_reducible repeat (first | refine blk_drewN ?_ _ | refine blk_drew ?_ | refine blk_alloc ?_ _)); exact BK101.out) hb)
             have n1_ := Aside0.mk (blk_below (g := gb102) (o := .cells #[.bool a1_0, .int .i64 a1_1] 25 (0, 0)) (by (with_reducible repeat (first | refine blk_drewN ?_ _ | refine blk_drew ?_ | refine blk_alloc ?_ _)); exact BK102.out) hb)
             have n2_ := Aside0.mk (blk_below (g := gb103) (o := .cells #[.bool a2_0, .int .i64 a2_1] 25 (0, 0)) (by (with_reducible repeat (first | refine blk_drewN ?_ _ | refine blk_drew ?_ | refine blk_alloc ?_ _)); exact BK103.out) hb)
             have n3_ := Aside0.mk (blk_below (g := gb140) (o := .cells #[.bool true, .int .i64 t139] 25 (0, 0)) (by (with_reducible repeat (first | refine blk_drewN ?_ _ | refine blk_drew ?_ | refine blk_alloc ?_ _)); exact BK140.out) hb)
             have n4_ := Aside0.mk (below_step (by repeat (first | (with_reducible first | exact HB.out | apply below_alloc | apply pw_below_drewN | apply below_drew1 | refine below_set ?_ GE101.out | refine below_set ?_ GE102.out | refine below_set ?_ GE103.out | refine below_set ?_ GE140.out) | exact HB.out)) hb)
             clear BK101
             clear BK102
             clear BK103
             clear BK140
             clear HB
             have BK101 := n0_
             have BK102 := n1_
             have BK103 := n2_
             have BK140 := n3_
             have HB := n4_
             clear n0_ n1_ n2_ n3_ n4_
             (try clear hb)
             (try clear hb2)
             (try clear hk)
             (try clear hi)
             refine hK.out _ _ ⟨v150, v155, v160, (by rw [ha.out]; exact putSel_upk 13 hb_ rfl rfl rfl), (by (with_reducible repeat (first | refine blk_drewN ?_ _ | refine blk_drew ?_ | refine blk_alloc ?_ _)); exact BK101.out), (by (with_reducible repeat (first | refine blk_drewN ?_ _ | refine blk_drew ?_ | refine blk_alloc ?_ _)); exact BK102.out), (by (with_reducible repeat (first | refine blk_drewN ?_ _ | refine blk_drew ?_ | refine blk_alloc ?_ _)); exact BK103.out), (by (with_reducible repeat (first | refine blk_drewN ?_ _ | refine blk_drew ?_ | refine blk_alloc ?_ _)); exact BK140.out), (by repeat (first | (with_reducible first | exact HB.out | apply below_alloc | apply pw_below_drewN | apply below_drew1 | refine below_set ?_ GE101.out | refine below_set ?_ GE102.out | refine below_set ?_ GE103.out | refine below_set ?_ GE140.out) | exact HB.out)), fun h0_ => absurd ((hoff 22 (by kernel_rfl)).symm.trans h0_) (by decide), fun h0_ => absurd ((hoff 27 (by kernel_rfl)).symm.trans h0_) (by decide), fun h0_ => absurd ((hoff 34 (by kernel_rfl)).symm.trans h0_) (by decide)⟩
            refine steps_cons ?_ ?_
            ·rintro b a w' ⟨v150, v155, v160, ha, Q_BK101, Q_BK102, Q_BK103, Q_BK140, Q_HB, Q_HO151, Q_HO156, Q_HO161⟩ hb_ hon hoff
             refine ⟨_, rfl, fun K hK => ?_⟩
             have e96 : a.tmps[96]? = some (.agg #[.bool t145, .int .i64 t146]) := by rw [ha]; exact putSel_on (e := (14, 96, .agg #[.bool t145, .int .i64 t146])) 13 rfl rfl (hon 14 (by kernel_rfl)) rfl
             have e89 : a.tmps[89]? = some (.bool true) := by rw [ha]; exact putSel_on (e := (7, 89, .bool true)) 6 rfl rfl (hon 7 (by kernel_rfl)) rfl
             replace ha := Aside0.mk ha
             have BK101 := Aside0.mk Q_BK101
             have BK102 := Aside0.mk Q_BK102
             have BK103 := Aside0.mk Q_BK103
             have BK140 := Aside0.mk Q_BK140
             have HB := Aside0.mk Q_HB
             refine goes_ Tryd.func21 (by kernel_rfl) rfl #[.agg #[.bool t145, .int .i64 t146]] (by first | rfl | exact wanted_on rfl rfl rfl (by first | assumption | (simp only [*]; done) | (simp [*]; done))) rfl rfl (by first | (simp only [List.map_toArray, List.map_cons, List.map_nil, Act.eval, Array.getD_eq_getD_getElem?, Option.getD_some, e96, e89]; done) | (simp only [List.map_toArray, List.map_cons, List.map_nil, Act.eval, Array.getD_eq_getD_getElem?, Option.getD_some, e96, e89]; rfl)) ?_
             with_reducible refine (fix_Neg.calls t145 t146 t147 t148 _ A80.out).mono ?_
             rintro e w99 ⟨rfl, hb⟩
             refine ⟨_, rfl, ?_⟩
             have n0_ := Aside0.mk (blk_below (g := gb101) (o := .cells #[.bool a0_0, .int .i64 a0_1] 25 (0, 0)) (by (with_reducible repeat (first | refine blk_drewN ?_ _ | refine blk_drew ?_ | refine blk_alloc ?_ _)); exact BK101.out) hb)
             have n1_ := Aside0.mk (blk_below (g := gb102) (o := .cells #[.bool a1_0, .int .i64 a1_1] 25 (0, 0)) (by (with_reducible repeat (first | refine blk_drewN ?_ _ | refine blk_drew ?_ | refine blk_alloc ?_ _)); exact BK102.out) hb)
             have n2_ := Aside0.mk (blk_below (g := gb103) (o := .cells #[.bool a2_0, .int .i64 a2_1] 25 (0, 0)) (by (with_reducible repeat (first | refine blk_drewN ?_ _ | refine blk_drew ?_ | refine blk_alloc ?_ _)); exact BK103.out) hb)
             have n3_ := Aside0.mk (blk_below (g := gb140) (o := .cells #[.bool true, .int .i64 t139] 25 (0, 0)) (by (with_reducible repeat (first | refine blk_drewN ?_ _ | refine blk_drew ?_ | refine blk_alloc ?_ _)); exact BK140.out) hb)
             have n4_ := Aside0.mk (below_step (by repeat (first | (with_reducible first | exact HB.out | apply below_alloc | apply pw_below_drewN | apply below_drew1 | refine below_set ?_ GE101.out | refine below_set ?_ GE102.out | refine below_set ?_ GE103.out | refine below_set ?_ GE140.out) | exact HB.out)) hb)
             clear BK101
             clear BK102
             clear BK103
             clear BK140
             clear HB
             have BK101 := n0_
             have BK102 := n1_
             have BK103 := n2_
             have BK140 := n3_
             have HB := n4_
             clear n0_ n1_ n2_ n3_ n4_
             (try clear hb)
             (try clear hb2)
             (try clear hk)
             (try clear hi)
             refine hK.out _ _ ⟨v150, v155, v160, (by rw [ha.out]; exact putSel_upk 14 hb_ rfl rfl rfl), (by (with_reducible repeat (first | refine blk_drewN ?_ _ | refine blk_drew ?_ | refine blk_alloc ?_ _)); exact BK101.out), (by (with_reducible repeat (first | refine blk_drewN ?_ _ | refine blk_drew ?_ | refine blk_alloc ?_ _)); exact BK102.out), (by (with_reducible repeat (first | refine blk_drewN ?_ _ | refine blk_drew ?_ | refine blk_alloc ?_ _)); exact BK103.out), (by (with_reducible repeat (first | refine blk_drewN ?_ _ | refine blk_drew ?_ | refine blk_alloc ?_ _)); exact BK140.out), (by repeat (first | (with_reducible first | exact HB.out | apply below_alloc | apply pw_below_drewN | apply below_drew1 | refine below_set ?_ GE101.out | refine below_set ?_ GE102.out | refine below_set ?_ GE103.out | refine below_set ?_ GE140.out) | exact HB.out)), fun h0_ => absurd ((hoff 22 (by kernel_rfl)).symm.trans h0_) (by decide), fun h0_ => absurd ((hoff 27 (by kernel_rfl)).symm.trans h0_) (by decide), fun h0_ => absurd ((hoff 34 (by kernel_rfl)).symm.trans h0_) (by decide)⟩
            refine steps_cons ?_ ?_
            ·rintro b a w' ⟨v150, v155, v160, ha, Q_BK101, Q_BK102, Q_BK103, Q_BK140, Q_HB, Q_HO151, Q_HO156, Q_HO161⟩ hb_ hon hoff
             refine ⟨_, rfl, fun K hK => ?_⟩
             have e93 : a.tmps[93]? = some (.agg #[.bool t143, .int .i64 t144]) := by rw [ha]; exact putSel_on (e := (11, 93, .agg #[.bool t143, .int .i64 t144])) 10 rfl rfl (hon 11 (by kernel_rfl)) rfl
             have e97 : a.tmps[97]? = some (.agg #[.bool t147, .int .i64 t148]) := by rw [ha]; exact putSel_on (e := (15, 97, .agg #[.bool t147, .int .i64 t148])) 14 rfl rfl (hon 15 (by kernel_rfl)) rfl
             have e89 : a.tmps[89]? = some (.bool true) := by rw [ha]; exact putSel_on (e := (7, 89, .bool true)) 6 rfl rfl (hon 7 (by kernel_rfl)) rfl
             replace ha := Aside0.mk ha
             have BK101 := Aside0.mk Q_BK101
             have BK102 := Aside0.mk Q_BK102
             have BK103 := Aside0.mk Q_BK103
             have BK140 := Aside0.mk Q_BK140
             have HB := Aside0.mk Q_HB
             refine value_ (w1 := w') (v := .bool (t143 == t147 && (t144 == t148))) (wanted_on rfl rfl rfl (e89.trans (by first | rfl | exact congrArg (fun x_ => some (Value.bool x_)) (by assumption) | (simp [*]; done)))) rfl ?_ ?_
             ·go_simp
              (try simp only [i64_w])
              try rfl
             refine hK.out _ _ ⟨v150, v155, v160, (by rw [ha.out]; exact putSel_upk 15 hb_ rfl rfl rfl), Q_BK101, Q_BK102, Q_BK103, Q_BK140, Q_HB, fun h0_ => absurd ((hoff 22 (by kernel_rfl)).symm.trans h0_) (by decide), fun h0_ => absurd ((hoff 27 (by kernel_rfl)).symm.trans h0_) (by decide), fun h0_ => absurd ((hoff 34 (by kernel_rfl)).symm.trans h0_) (by decide)⟩
            refine steps_cons ?_ ?_
            ·rintro b a w' ⟨v150, v155, v160, ha, Q_BK101, Q_BK102, Q_BK103, Q_BK140, Q_HB, Q_HO151, Q_HO156, Q_HO161⟩ hb_ hon hoff
             refine ⟨_, rfl, fun K hK => ?_⟩
             have e89 : a.tmps[89]? = some (.bool true) := by rw [ha]; exact putSel_on (e := (7, 89, .bool true)) 6 rfl rfl (hon 7 (by kernel_rfl)) rfl
             have e98 : a.tmps[98]? = some (.bool (t143 == t147 && (t144 == t148))) := by rw [ha]; exact putSel_on (e := (16, 98, .bool (t143 == t147 && (t144 == t148)))) 15 rfl rfl (hon 16 (by kernel_rfl)) rfl
             replace ha := Aside0.mk ha
             have BK101 := Aside0.mk Q_BK101
             have BK102 := Aside0.mk Q_BK102
             have BK103 := Aside0.mk Q_BK103
             have BK140 := Aside0.mk Q_BK140
             have HB := Aside0.mk Q_HB
             refine value_ (w1 := w') (v := .bool (t143 == t147 && (t144 == t148))) (by rfl) rfl ?_ ?_
             ·go_simp
              (try simp only [i64_w])
              try rfl
             refine hK.out _ _ ⟨v150, v155, v160, (by rw [ha.out]; exact putSel_upk 16 hb_ rfl rfl rfl), Q_BK101, Q_BK102, Q_BK103, Q_BK140, Q_HB, fun h0_ => absurd ((hoff 22 (by kernel_rfl)).symm.trans h0_) (by decide), fun h0_ => absurd ((hoff 27 (by kernel_rfl)).symm.trans h0_) (by decide), fun h0_ => absurd ((hoff 34 (by kernel_rfl)).symm.trans h0_) (by decide)⟩
            refine steps_cons ?_ ?_
            ·rintro b a w' ⟨v150, v155, v160, ha, Q_BK101, Q_BK102, Q_BK103, Q_BK140, Q_HB, Q_HO151, Q_HO156, Q_HO161⟩ hb_ hon hoff
             refine ⟨_, rfl, fun K hK => ?_⟩
             have e99 : a.tmps[99]? = some (.bool (t143 == t147 && (t144 == t148))) := by rw [ha]; exact putSel_on (e := (17, 99, .bool (t143 == t147 && (t144 == t148)))) 16 rfl rfl (hon 17 (by kernel_rfl)) rfl
             replace ha := Aside0.mk ha
             have BK101 := Aside0.mk Q_BK101
             have BK102 := Aside0.mk Q_BK102
             have BK103 := Aside0.mk Q_BK103
             have BK140 := Aside0.mk Q_BK140
             have HB := Aside0.mk Q_HB
             refine value_ (w1 := w') (v := .bool (t143 == t147 && (t144 == t148))) (by rfl) rfl ?_ ?_
             ·go_simp
              (try simp only [i64_w])
              try rfl
             refine hK.out _ _ ⟨v150, v155, v160, (by rw [ha.out]; exact putSel_upk 17 hb_ rfl rfl rfl), Q_BK101, Q_BK102, Q_BK103, Q_BK140, Q_HB, fun h0_ => absurd ((hoff 22 (by kernel_rfl)).symm.trans h0_) (by decide), fun h0_ => absurd ((hoff 27 (by kernel_rfl)).symm.trans h0_) (by decide), fun h0_ => absurd ((hoff 34 (by kernel_rfl)).symm.trans h0_) (by decide)⟩
            refine steps_cons ?_ ?_
            ·rintro b a w' ⟨v150, v155, v160, ha, Q_BK101, Q_BK102, Q_BK103, Q_BK140, Q_HB, Q_HO151, Q_HO156, Q_HO161⟩ hb_ hon hoff
             refine ⟨_, rfl, fun K hK => ?_⟩
             have e3 : a.tmps[3]? = some (.pointer (some ⟨gb101, 0, none⟩)) := by rw [ha]; exact (putSel_off rfl).trans rfl
             have e100 : a.tmps[100]? = some (.bool (t143 == t147 && (t144 == t148))) := by rw [ha]; exact putSel_on (e := (18, 100, .bool (t143 == t147 && (t144 == t148)))) 17 rfl rfl (hon 18 (by kernel_rfl)) rfl
             replace ha := Aside0.mk ha
             have BK101 := Aside0.mk Q_BK101
             have BK102 := Aside0.mk Q_BK102
             have BK103 := Aside0.mk Q_BK103
             have BK140 := Aside0.mk Q_BK140
             have HB := Aside0.mk Q_HB
             have hc0_ : w'.cell? ⟨gb101, 0, none⟩ = some (.bool a0_0) := (blk_cell BK101.out 0).trans rfl
             have hc1_ : w'.cell? ⟨gb101, 1, none⟩ = some (.int .i64 a0_1) := (blk_cell BK101.out 1).trans rfl
             refine value_ (w1 := w') (v := .agg #[.bool a0_0, .int .i64 a0_1]) (wanted_on rfl rfl rfl (e100.trans (by first | rfl | exact congrArg (fun x_ => some (Value.bool x_)) (by assumption) | (simp [*]; done)))) rfl ?_ ?_
             ·go_simp
              (try simp only [i64_w])
              try rfl
             refine hK.out _ _ ⟨v150, v155, v160, (by rw [ha.out]; exact putSel_upk 18 hb_ rfl rfl rfl), Q_BK101, Q_BK102, Q_BK103, Q_BK140, Q_HB, fun h0_ => absurd ((hoff 22 (by kernel_rfl)).symm.trans h0_) (by decide), Q_HO156, fun h0_ => absurd ((hoff 34 (by kernel_rfl)).symm.trans h0_) (by decide)⟩
            refine steps_cons ?_ ?_
            ·rintro b a w' ⟨v150, v155, v160, ha, Q_BK101, Q_BK102, Q_BK103, Q_BK140, Q_HB, Q_HO151, Q_HO156, Q_HO161⟩ hb_ hon hoff
             refine ⟨_, rfl, fun K hK => ?_⟩
             have e4 : a.tmps[4]? = some (.pointer (some ⟨gb102, 0, none⟩)) := by rw [ha]; exact (putSel_off rfl).trans rfl
             have e100 : a.tmps[100]? = some (.bool (t143 == t147 && (t144 == t148))) := by rw [ha]; exact putSel_on (e := (18, 100, .bool (t143 == t147 && (t144 == t148)))) 17 rfl rfl (hon 18 (by kernel_rfl)) rfl
             replace ha := Aside0.mk ha
             have BK101 := Aside0.mk Q_BK101
             have BK102 := Aside0.mk Q_BK102
             have BK103 := Aside0.mk Q_BK103
             have BK140 := Aside0.mk Q_BK140
             have HB := Aside0.mk Q_HB
             have hc0_ : w'.cell? ⟨gb102, 0, none⟩ = some (.bool a1_0) := (blk_cell BK102.out 0).trans rfl
             have hc1_ : w'.cell? ⟨gb102, 1, none⟩ = some (.int .i64 a1_1) := (blk_cell BK102.out 1).trans rfl
             refine value_ (w1 := w') (v := .agg #[.bool a1_0, .int .i64 a1_1]) (wanted_on rfl rfl rfl (e100.trans (by first | rfl | exact congrArg (fun x_ => some (Value.bool x_)) (by assumption) | (simp [*]; done)))) rfl ?_ ?_
             ·go_simp
              (try simp only [i64_w])
              try rfl
             refine hK.out _ _ ⟨v150, v155, v160, (by rw [ha.out]; exact putSel_upk 19 hb_ rfl rfl rfl), Q_BK101, Q_BK102, Q_BK103, Q_BK140, Q_HB, fun h0_ => absurd ((hoff 22 (by kernel_rfl)).symm.trans h0_) (by decide), Q_HO156, fun h0_ => absurd ((hoff 34 (by kernel_rfl)).symm.trans h0_) (by decide)⟩
            refine steps_cons ?_ ?_
            ·rintro b a w' ⟨v150, v155, v160, ha, Q_BK101, Q_BK102, Q_BK103, Q_BK140, Q_HB, Q_HO151, Q_HO156, Q_HO161⟩ hb_ hon hoff
             refine ⟨_, rfl, fun K hK => ?_⟩
             have e5 : a.tmps[5]? = some (.pointer (some ⟨gb103, 0, none⟩)) := by rw [ha]; exact (putSel_off rfl).trans rfl
             have e100 : a.tmps[100]? = some (.bool (t143 == t147 && (t144 == t148))) := by rw [ha]; exact putSel_on (e := (18, 100, .bool (t143 == t147 && (t144 == t148)))) 17 rfl rfl (hon 18 (by kernel_rfl)) rfl
             replace ha := Aside0.mk ha
             have BK101 := Aside0.mk Q_BK101
             have BK102 := Aside0.mk Q_BK102
             have BK103 := Aside0.mk Q_BK103
             have BK140 := Aside0.mk Q_BK140
             have HB := Aside0.mk Q_HB
             have hc0_ : w'.cell? ⟨gb103, 0, none⟩ = some (.bool a2_0) := (blk_cell BK103.out 0).trans rfl
             have hc1_ : w'.cell? ⟨gb103, 1, none⟩ = some (.int .i64 a2_1) := (blk_cell BK103.out 1).trans rfl
             refine value_ (w1 := w') (v := .agg #[.bool a2_0, .int .i64 a2_1]) (wanted_on rfl rfl rfl (e100.trans (by first | rfl | exact congrArg (fun x_ => some (Value.bool x_)) (by assumption) | (simp [*]; done)))) rfl ?_ ?_
             ·go_simp
              (try simp only [i64_w])
              try rfl
             refine hK.out _ _ ⟨v150, v155, v160, (by rw [ha.out]; exact putSel_upk 20 hb_ rfl rfl rfl), Q_BK101, Q_BK102, Q_BK103, Q_BK140, Q_HB, fun h0_ => absurd ((hoff 22 (by kernel_rfl)).symm.trans h0_) (by decide), Q_HO156, fun h0_ => absurd ((hoff 34 (by kernel_rfl)).symm.trans h0_) (by decide)⟩
            refine steps_cons ?_ ?_
            ·rintro b a w' ⟨v150, v155, v160, ha, Q_BK101, Q_BK102, Q_BK103, Q_BK140, Q_HB, Q_HO151, Q_HO156, Q_HO161⟩ hb_ hon hoff
             refine ⟨_, rfl, fun K hK => ?_⟩
             have e101 : a.tmps[101]? = some (.agg #[.bool a0_0, .int .i64 a0_1]) := by rw [ha]; exact putSel_on (e := (19, 101, .agg #[.bool a0_0, .int .i64 a0_1])) 18 rfl rfl (hon 19 (by kernel_rfl)) rfl
             have e102 : a.tmps[102]? = some (.agg #[.bool a1_0, .int .i64 a1_1]) := by rw [ha]; exact putSel_on (e := (20, 102, .agg #[.bool a1_0, .int .i64 a1_1])) 19 rfl rfl (hon 20 (by kernel_rfl)) rfl
             have e103 : a.tmps[103]? = some (.agg #[.bool a2_0, .int .i64 a2_1]) := by rw [ha]; exact putSel_on (e := (21, 103, .agg #[.bool a2_0, .int .i64 a2_1])) 20 rfl rfl (hon 21 (by kernel_rfl)) rfl
             have e100 : a.tmps[100]? = some (.bool (t143 == t147 && (t144 == t148))) := by rw [ha]; exact putSel_on (e := (18, 100, .bool (t143 == t147 && (t144 == t148)))) 17 rfl rfl (hon 18 (by kernel_rfl)) rfl
             replace ha := Aside0.mk ha
             have BK101 := Aside0.mk Q_BK101
             have BK102 := Aside0.mk Q_BK102
             have BK103 := Aside0.mk Q_BK103
             have BK140 := Aside0.mk Q_BK140
             have HB := Aside0.mk Q_HB
             refine Kd.R_lit_step k25 _ 25 ?hg (N := 104) ?hd (xs := ([(⟨a0_0, a0_1⟩ : S25), (⟨a1_0, a1_1⟩ : S25), (⟨a2_0, a2_1⟩ : S25)] : List (S25))) (inner := [.bool a0_0, .int .i64 a0_1, .bool a1_0, .int .i64 a1_1, .bool a2_0, .int .i64 a2_1]) (ok := fun _ => True) (okp := fun _ => True) ?hr ?hp (fun _ hk => hk) trivial (Below.refl _ _) (Nat.le_refl _) (by simp) ?_; (case hd => rfl); (case hg => first | rfl | exact wanted_on rfl rfl rfl (by first | assumption | (simp only [*]; done) | (simp [*]; done))); (case hr => first | (go_simp; done) | (go_simp; rfl)); (case hp => exact (Reps.c2 (show Kd.M k25 _ _ _ (⟨a0_0, a0_1⟩ : S25) [.bool a0_0, .int .i64 a0_1] from (k25_mkM _ _ _ (⟨a0_0, a0_1⟩ : S25) )) (Reps.c2 (show Kd.M k25 _ _ _ (⟨a1_0, a1_1⟩ : S25) [.bool a1_0, .int .i64 a1_1] from (k25_mkM _ _ _ (⟨a1_0, a1_1⟩ : S25) )) (Reps.c2 (show Kd.M k25 _ _ _ (⟨a2_0, a2_1⟩ : S25) [.bool a2_0, .int .i64 a2_1] from (k25_mkM _ _ _ (⟨a2_0, a2_1⟩ : S25) )) (Reps.none _ _)))))
             intro v150 w100 ho101 hb hg_ hnew_
             clear hg_ hnew_
             (first | rw [← Ny149.out] at ho101 | (simp only [Int.reduceToNat] at ho101; rw [← Ny149.out] at ho101))
             have n0_ := Aside0.mk (Kd.R_lower (Kd.R_newB (Kd.R_newB (Kd.R_newB (Kd.R_newB ho101 (g := gb101) (o := .cells #[.bool a0_0, .int .i64 a0_1] 25 (0, 0)) (by (with_reducible repeat (first | refine blk_drewN ?_ _ | refine blk_drew ?_ | refine blk_alloc ?_ _)); exact BK101.out)) (g := gb102) (o := .cells #[.bool a1_0, .int .i64 a1_1] 25 (0, 0)) (by (with_reducible repeat (first | refine blk_drewN ?_ _ | refine blk_drew ?_ | refine blk_alloc ?_ _)); exact BK102.out)) (g := gb103) (o := .cells #[.bool a2_0, .int .i64 a2_1] 25 (0, 0)) (by (with_reducible repeat (first | refine blk_drewN ?_ _ | refine blk_drew ?_ | refine blk_alloc ?_ _)); exact BK103.out)) (g := gb140) (o := .cells #[.bool true, .int .i64 t139] 25 (0, 0)) (by (with_reducible repeat (first | refine blk_drewN ?_ _ | refine blk_drew ?_ | refine blk_alloc ?_ _)); exact BK140.out)) (below_size (by repeat (first | (with_reducible first | exact HB.out | apply below_alloc | apply pw_below_drewN | apply below_drew1 | refine below_set ?_ GE101.out | refine below_set ?_ GE102.out | refine below_set ?_ GE103.out | refine below_set ?_ GE140.out) | exact HB.out))))
             have n1_ := Aside0.mk (blk_below (g := gb101) (o := .cells #[.bool a0_0, .int .i64 a0_1] 25 (0, 0)) (by (with_reducible repeat (first | refine blk_drewN ?_ _ | refine blk_drew ?_ | refine blk_alloc ?_ _)); exact BK101.out) hb)
             have n2_ := Aside0.mk (blk_below (g := gb102) (o := .cells #[.bool a1_0, .int .i64 a1_1] 25 (0, 0)) (by (with_reducible repeat (first | refine blk_drewN ?_ _ | refine blk_drew ?_ | refine blk_alloc ?_ _)); exact BK102.out) hb)
             have n3_ := Aside0.mk (blk_below (g := gb103) (o := .cells #[.bool a2_0, .int .i64 a2_1] 25 (0, 0)) (by (with_reducible repeat (first | refine blk_drewN ?_ _ | refine blk_drew ?_ | refine blk_alloc ?_ _)); exact BK103.out) hb)
             have n4_ := Aside0.mk (blk_below (g := gb140) (o := .cells #[.bool true, .int .i64 t139] 25 (0, 0)) (by (with_reducible repeat (first | refine blk_drewN ?_ _ | refine blk_drew ?_ | refine blk_alloc ?_ _)); exact BK140.out) hb)
             have n5_ := Aside0.mk (below_step (by repeat (first | (with_reducible first | exact HB.out | apply below_alloc | apply pw_below_drewN | apply below_drew1 | refine below_set ?_ GE101.out | refine below_set ?_ GE102.out | refine below_set ?_ GE103.out | refine below_set ?_ GE140.out) | exact HB.out)) hb)
             have z_HO156 := fun (h0_ : b 27 = true) => (show Kd.R k25 25 w100 w.heap.size (fun k_ => k_ ≠ gb101 ∧ k_ ≠ gb102 ∧ k_ ≠ gb103 ∧ k_ ≠ gb140) v155 y154 from by first | exact (Kd.R_elder' (by (with_reducible repeat (first | apply Kd.R_alloc | apply Kd.R_drewN | apply Kd.R_drew)); exact (Q_HO156 h0_)) (Kd.R_base ho101) hb) | exact Kd.R_mono (Kd.R_elder' (by (with_reducible repeat (first | apply Kd.R_alloc | apply Kd.R_drewN | apply Kd.R_drew)); exact (Q_HO156 h0_)) (Kd.R_base ho101) hb) (fun _ h_ => by first | trivial | exact h_ | exact h_.1))
             clear BK101
             clear BK102
             clear BK103
             clear BK140
             clear HB
             have HO151 := n0_
             have BK101 := n1_
             have BK102 := n2_
             have BK103 := n3_
             have BK140 := n4_
             have HB := n5_
             clear n0_ n1_ n2_ n3_ n4_ n5_
             clear hb ho101
             refine hK.out _ _ ⟨v150, v155, v160, (by rw [ha.out]; exact putSel_upk 21 hb_ rfl rfl rfl), (by (with_reducible repeat (first | refine blk_drewN ?_ _ | refine blk_drew ?_ | refine blk_alloc ?_ _)); exact BK101.out), (by (with_reducible repeat (first | refine blk_drewN ?_ _ | refine blk_drew ?_ | refine blk_alloc ?_ _)); exact BK102.out), (by (with_reducible repeat (first | refine blk_drewN ?_ _ | refine blk_drew ?_ | refine blk_alloc ?_ _)); exact BK103.out), (by (with_reducible repeat (first | refine blk_drewN ?_ _ | refine blk_drew ?_ | refine blk_alloc ?_ _)); exact BK140.out), (by repeat (first | (with_reducible first | exact HB.out | apply below_alloc | apply pw_below_drewN | apply below_drew1 | refine below_set ?_ GE101.out | refine below_set ?_ GE102.out | refine below_set ?_ GE103.out | refine below_set ?_ GE140.out) | exact HB.out)), fun _ => (by (with_reducible repeat (first | apply Kd.R_alloc | apply Kd.R_drewN | apply Kd.R_drew)); exact Kd.R_mono HO151.out (fun _ hk => by first | exact ⟨hk.1.1.1.2, ⟨hk.1.1.2, ⟨hk.1.2, hk.2⟩⟩⟩ | (simp [hk]; done))), z_HO156, fun h0_ => absurd ((hoff 34 (by kernel_rfl)).symm.trans h0_) (by decide)⟩
            refine steps_cons ?_ ?_
            ·rintro b a w' ⟨v150, v155, v160, ha, Q_BK101, Q_BK102, Q_BK103, Q_BK140, Q_HB, Q_HO151, Q_HO156, Q_HO161⟩ hb_ hon hoff
             refine ⟨_, rfl, fun K hK => ?_⟩
             have e104 : a.tmps[104]? = some (v150) := by rw [ha]; exact putSel_on (e := (22, 104, v150)) 21 rfl rfl (hon 22 (by kernel_rfl)) rfl
             have e100 : a.tmps[100]? = some (.bool (t143 == t147 && (t144 == t148))) := by rw [ha]; exact putSel_on (e := (18, 100, .bool (t143 == t147 && (t144 == t148)))) 17 rfl rfl (hon 18 (by kernel_rfl)) rfl
             replace ha := Aside0.mk ha
             have BK101 := Aside0.mk Q_BK101
             have BK102 := Aside0.mk Q_BK102
             have BK103 := Aside0.mk Q_BK103
             have BK140 := Aside0.mk Q_BK140
             have HB := Aside0.mk Q_HB
             have HO151 := Aside0.mk (Q_HO151 (hon 22 (by kernel_rfl)))
             obtain ⟨Ao102, co102, eo102⟩ := Kd.R_slice HO151.out
             (first | subst eo102 | (injection eo102 with f1_ f2_ f3_; have f4_ := f1_.symm; have f5_ := f3_.symm; clear f1_ f2_ f3_; subst f4_; subst f5_))
             refine goes_ Tryd.func11 (by kernel_rfl) rfl #[.slice Ao102 y149.length co102] (by first | rfl | exact wanted_on rfl rfl rfl (by first | assumption | (simp only [*]; done) | (simp [*]; done))) rfl rfl (by first | (simp only [List.map_toArray, List.map_cons, List.map_nil, Act.eval, Array.getD_eq_getD_getElem?, Option.getD_some, e104, e100]; done) | (simp only [List.map_toArray, List.map_cons, List.map_nil, Act.eval, Array.getD_eq_getD_getElem?, Option.getD_some, e104, e100]; rfl)) ?_
             with_reducible refine (fix_Sum.calls kj36 _ _ y149 t152 t153 _ ?side1 ?side2 A82.out).mono ?_
             (case side1 => repeat (first | exact (Kd.R_reads' HO151.out).2.2 | (with_reducible refine Kd.C_alloc ?_ _) | (with_reducible refine Kd.C_drewN ?_ _) | (with_reducible refine Kd.C_drew ?_)))
             (case side2 => exact (Kd.R_reads' HO151.out).2.1)
             rintro e w103 ⟨rfl, hb⟩
             refine ⟨_, rfl, ?_⟩
             have n0_ := Aside0.mk (Kd.R_below (by (with_reducible repeat (first | apply Kd.R_alloc | apply Kd.R_drewN | apply Kd.R_drew)); exact HO151.out) hb)
             have n1_ := Aside0.mk (blk_below (g := gb101) (o := .cells #[.bool a0_0, .int .i64 a0_1] 25 (0, 0)) (by (with_reducible repeat (first | refine blk_drewN ?_ _ | refine blk_drew ?_ | refine blk_alloc ?_ _)); exact BK101.out) hb)
             have n2_ := Aside0.mk (blk_below (g := gb102) (o := .cells #[.bool a1_0, .int .i64 a1_1] 25 (0, 0)) (by (with_reducible repeat (first | refine blk_drewN ?_ _ | refine blk_drew ?_ | refine blk_alloc ?_ _)); exact BK102.out) hb)
             have n3_ := Aside0.mk (blk_below (g := gb103) (o := .cells #[.bool a2_0, .int .i64 a2_1] 25 (0, 0)) (by (with_reducible repeat (first | refine blk_drewN ?_ _ | refine blk_drew ?_ | refine blk_alloc ?_ _)); exact BK103.out) hb)
             have n4_ := Aside0.mk (blk_below (g := gb140) (o := .cells #[.bool true, .int .i64 t139] 25 (0, 0)) (by (with_reducible repeat (first | refine blk_drewN ?_ _ | refine blk_drew ?_ | refine blk_alloc ?_ _)); exact BK140.out) hb)
             have n5_ := Aside0.mk (below_step (by repeat (first | (with_reducible first | exact HB.out | apply below_alloc | apply pw_below_drewN | apply below_drew1 | refine below_set ?_ GE101.out | refine below_set ?_ GE102.out | refine below_set ?_ GE103.out | refine below_set ?_ GE140.out) | exact HB.out)) hb)
             have z_HO156 := fun (h0_ : b 27 = true) => (show Kd.R k25 25 w103 w.heap.size (fun k_ => k_ ≠ gb101 ∧ k_ ≠ gb102 ∧ k_ ≠ gb103 ∧ k_ ≠ gb140) v155 y154 from by first | exact (Kd.R_below (by (with_reducible repeat (first | apply Kd.R_alloc | apply Kd.R_drewN | apply Kd.R_drew)); exact (Q_HO156 h0_)) hb) | exact Kd.R_mono (Kd.R_below (by (with_reducible repeat (first | apply Kd.R_alloc | apply Kd.R_drewN | apply Kd.R_drew)); exact (Q_HO156 h0_)) hb) (fun _ h_ => by first | trivial | exact h_ | exact h_.1))
             clear HO151
             clear BK101
             clear BK102
             clear BK103
             clear BK140
             clear HB
             have HO151 := n0_
             have BK101 := n1_
             have BK102 := n2_
             have BK103 := n3_
             have BK140 := n4_
             have HB := n5_
             clear n0_ n1_ n2_ n3_ n4_ n5_
             (try clear hb)
             (try clear hb2)
             (try clear hk)
             (try clear hi)
             refine hK.out _ _ ⟨.slice Ao102 y149.length co102, v155, v160, (by rw [ha.out]; exact putSel_upk 22 hb_ rfl rfl rfl), (by (with_reducible repeat (first | refine blk_drewN ?_ _ | refine blk_drew ?_ | refine blk_alloc ?_ _)); exact BK101.out), (by (with_reducible repeat (first | refine blk_drewN ?_ _ | refine blk_drew ?_ | refine blk_alloc ?_ _)); exact BK102.out), (by (with_reducible repeat (first | refine blk_drewN ?_ _ | refine blk_drew ?_ | refine blk_alloc ?_ _)); exact BK103.out), (by (with_reducible repeat (first | refine blk_drewN ?_ _ | refine blk_drew ?_ | refine blk_alloc ?_ _)); exact BK140.out), (by repeat (first | (with_reducible first | exact HB.out | apply below_alloc | apply pw_below_drewN | apply below_drew1 | refine below_set ?_ GE101.out | refine below_set ?_ GE102.out | refine below_set ?_ GE103.out | refine below_set ?_ GE140.out) | exact HB.out)), fun _ => (by (with_reducible repeat (first | apply Kd.R_alloc | apply Kd.R_drewN | apply Kd.R_drew)); exact HO151.out), z_HO156, fun h0_ => absurd ((hoff 34 (by kernel_rfl)).symm.trans h0_) (by decide)⟩
            refine steps_cons ?_ ?_
            ·rintro b a w' ⟨v150, v155, v160, ha, Q_BK101, Q_BK102, Q_BK103, Q_BK140, Q_HB, Q_HO151, Q_HO156, Q_HO161⟩ hb_ hon hoff
             refine ⟨_, rfl, fun K hK => ?_⟩
             have e5 : a.tmps[5]? = some (.pointer (some ⟨gb103, 0, none⟩)) := by rw [ha]; exact (putSel_off rfl).trans rfl
             have e100 : a.tmps[100]? = some (.bool (t143 == t147 && (t144 == t148))) := by rw [ha]; exact putSel_on (e := (18, 100, .bool (t143 == t147 && (t144 == t148)))) 17 rfl rfl (hon 18 (by kernel_rfl)) rfl
             replace ha := Aside0.mk ha
             have BK101 := Aside0.mk Q_BK101
             have BK102 := Aside0.mk Q_BK102
             have BK103 := Aside0.mk Q_BK103
             have BK140 := Aside0.mk Q_BK140
             have HB := Aside0.mk Q_HB
             have hc0_ : w'.cell? ⟨gb103, 0, none⟩ = some (.bool a2_0) := (blk_cell BK103.out 0).trans rfl
             have hc1_ : w'.cell? ⟨gb103, 1, none⟩ = some (.int .i64 a2_1) := (blk_cell BK103.out 1).trans rfl
             refine value_ (w1 := w') (v := .agg #[.bool a2_0, .int .i64 a2_1]) (wanted_on rfl rfl rfl (e100.trans (by first | rfl | exact congrArg (fun x_ => some (Value.bool x_)) (by assumption) | (simp [*]; done)))) rfl ?_ ?_
             ·go_simp
              (try simp only [i64_w])
              try rfl
             refine hK.out _ _ ⟨v150, v155, v160, (by rw [ha.out]; exact putSel_upk 23 hb_ rfl rfl rfl), Q_BK101, Q_BK102, Q_BK103, Q_BK140, Q_HB, Q_HO151, fun h0_ => absurd ((hoff 27 (by kernel_rfl)).symm.trans h0_) (by decide), fun h0_ => absurd ((hoff 34 (by kernel_rfl)).symm.trans h0_) (by decide)⟩
            refine steps_cons ?_ ?_
            ·rintro b a w' ⟨v150, v155, v160, ha, Q_BK101, Q_BK102, Q_BK103, Q_BK140, Q_HB, Q_HO151, Q_HO156, Q_HO161⟩ hb_ hon hoff
             refine ⟨_, rfl, fun K hK => ?_⟩
             have e3 : a.tmps[3]? = some (.pointer (some ⟨gb101, 0, none⟩)) := by rw [ha]; exact (putSel_off rfl).trans rfl
             have e100 : a.tmps[100]? = some (.bool (t143 == t147 && (t144 == t148))) := by rw [ha]; exact putSel_on (e := (18, 100, .bool (t143 == t147 && (t144 == t148)))) 17 rfl rfl (hon 18 (by kernel_rfl)) rfl
             replace ha := Aside0.mk ha
             have BK101 := Aside0.mk Q_BK101
             have BK102 := Aside0.mk Q_BK102
             have BK103 := Aside0.mk Q_BK103
             have BK140 := Aside0.mk Q_BK140
             have HB := Aside0.mk Q_HB
             have hc0_ : w'.cell? ⟨gb101, 0, none⟩ = some (.bool a0_0) := (blk_cell BK101.out 0).trans rfl
             have hc1_ : w'.cell? ⟨gb101, 1, none⟩ = some (.int .i64 a0_1) := (blk_cell BK101.out 1).trans rfl
             refine value_ (w1 := w') (v := .agg #[.bool a0_0, .int .i64 a0_1]) (wanted_on rfl rfl rfl (e100.trans (by first | rfl | exact congrArg (fun x_ => some (Value.bool x_)) (by assumption) | (simp [*]; done)))) rfl ?_ ?_
             ·go_simp
              (try simp only [i64_w])
              try rfl
             refine hK.out _ _ ⟨v150, v155, v160, (by rw [ha.out]; exact putSel_upk 24 hb_ rfl rfl rfl), Q_BK101, Q_BK102, Q_BK103, Q_BK140, Q_HB, Q_HO151, fun h0_ => absurd ((hoff 27 (by kernel_rfl)).symm.trans h0_) (by decide), fun h0_ => absurd ((hoff 34 (by kernel_rfl)).symm.trans h0_) (by decide)⟩
            refine steps_cons ?_ ?_
            ·rintro b a w' ⟨v150, v155, v160, ha, Q_BK101, Q_BK102, Q_BK103, Q_BK140, Q_HB, Q_HO151, Q_HO156, Q_HO161⟩ hb_ hon hoff
             refine ⟨_, rfl, fun K hK => ?_⟩
             have e4 : a.tmps[4]? = some (.pointer (some ⟨gb102, 0, none⟩)) := by rw [ha]; exact (putSel_off rfl).trans rfl
             have e100 : a.tmps[100]? = some (.bool (t143 == t147 && (t144 == t148))) := by rw [ha]; exact putSel_on (e := (18, 100, .bool (t143 == t147 && (t144 == t148)))) 17 rfl rfl (hon 18 (by kernel_rfl)) rfl
             replace ha := Aside0.mk ha
             have BK101 := Aside0.mk Q_BK101
             have BK102 := Aside0.mk Q_BK102
             have BK103 := Aside0.mk Q_BK103
             have BK140 := Aside0.mk Q_BK140
             have HB := Aside0.mk Q_HB
             have hc0_ : w'.cell? ⟨gb102, 0, none⟩ = some (.bool a1_0) := (blk_cell BK102.out 0).trans rfl
             have hc1_ : w'.cell? ⟨gb102, 1, none⟩ = some (.int .i64 a1_1) := (blk_cell BK102.out 1).trans rfl
             refine value_ (w1 := w') (v := .agg #[.bool a1_0, .int .i64 a1_1]) (wanted_on rfl rfl rfl (e100.trans (by first | rfl | exact congrArg (fun x_ => some (Value.bool x_)) (by assumption) | (simp [*]; done)))) rfl ?_ ?_
             ·go_simp
              (try simp only [i64_w])
              try rfl
             refine hK.out _ _ ⟨v150, v155, v160, (by rw [ha.out]; exact putSel_upk 25 hb_ rfl rfl rfl), Q_BK101, Q_BK102, Q_BK103, Q_BK140, Q_HB, Q_HO151, fun h0_ => absurd ((hoff 27 (by kernel_rfl)).symm.trans h0_) (by decide), fun h0_ => absurd ((hoff 34 (by kernel_rfl)).symm.trans h0_) (by decide)⟩
            refine steps_cons ?_ ?_
            ·rintro b a w' ⟨v150, v155, v160, ha, Q_BK101, Q_BK102, Q_BK103, Q_BK140, Q_HB, Q_HO151, Q_HO156, Q_HO161⟩ hb_ hon hoff
             refine ⟨_, rfl, fun K hK => ?_⟩
             have e106 : a.tmps[106]? = some (.agg #[.bool a2_0, .int .i64 a2_1]) := by rw [ha]; exact putSel_on (e := (24, 106, .agg #[.bool a2_0, .int .i64 a2_1])) 23 rfl rfl (hon 24 (by kernel_rfl)) rfl
             have e107 : a.tmps[107]? = some (.agg #[.bool a0_0, .int .i64 a0_1]) := by rw [ha]; exact putSel_on (e := (25, 107, .agg #[.bool a0_0, .int .i64 a0_1])) 24 rfl rfl (hon 25 (by kernel_rfl)) rfl
             have e108 : a.tmps[108]? = some (.agg #[.bool a1_0, .int .i64 a1_1]) := by rw [ha]; exact putSel_on (e := (26, 108, .agg #[.bool a1_0, .int .i64 a1_1])) 25 rfl rfl (hon 26 (by kernel_rfl)) rfl
             have e100 : a.tmps[100]? = some (.bool (t143 == t147 && (t144 == t148))) := by rw [ha]; exact putSel_on (e := (18, 100, .bool (t143 == t147 && (t144 == t148)))) 17 rfl rfl (hon 18 (by kernel_rfl)) rfl
             replace ha := Aside0.mk ha
             have BK101 := Aside0.mk Q_BK101
             have BK102 := Aside0.mk Q_BK102
             have BK103 := Aside0.mk Q_BK103
             have BK140 := Aside0.mk Q_BK140
             have HB := Aside0.mk Q_HB
             refine Kd.R_lit_step k25 _ 25 ?hg (N := 109) ?hd (xs := ([(⟨a2_0, a2_1⟩ : S25), (⟨a0_0, a0_1⟩ : S25), (⟨a1_0, a1_1⟩ : S25)] : List (S25))) (inner := [.bool a2_0, .int .i64 a2_1, .bool a0_0, .int .i64 a0_1, .bool a1_0, .int .i64 a1_1]) (ok := fun _ => True) (okp := fun _ => True) ?hr ?hp (fun _ hk => hk) trivial (Below.refl _ _) (Nat.le_refl _) (by simp) ?_; (case hd => rfl); (case hg => first | rfl | exact wanted_on rfl rfl rfl (by first | assumption | (simp only [*]; done) | (simp [*]; done))); (case hr => first | (go_simp; done) | (go_simp; rfl)); (case hp => exact (Reps.c2 (show Kd.M k25 _ _ _ (⟨a2_0, a2_1⟩ : S25) [.bool a2_0, .int .i64 a2_1] from (k25_mkM _ _ _ (⟨a2_0, a2_1⟩ : S25) )) (Reps.c2 (show Kd.M k25 _ _ _ (⟨a0_0, a0_1⟩ : S25) [.bool a0_0, .int .i64 a0_1] from (k25_mkM _ _ _ (⟨a0_0, a0_1⟩ : S25) )) (Reps.c2 (show Kd.M k25 _ _ _ (⟨a1_0, a1_1⟩ : S25) [.bool a1_0, .int .i64 a1_1] from (k25_mkM _ _ _ (⟨a1_0, a1_1⟩ : S25) )) (Reps.none _ _)))))
             intro v155 w100 ho101 hb hg_ hnew_
             clear hg_ hnew_
             (first | rw [← Ny154.out] at ho101 | (simp only [Int.reduceToNat] at ho101; rw [← Ny154.out] at ho101))
             have n0_ := Aside0.mk (Kd.R_lower (Kd.R_newB (Kd.R_newB (Kd.R_newB (Kd.R_newB ho101 (g := gb101) (o := .cells #[.bool a0_0, .int .i64 a0_1] 25 (0, 0)) (by (with_reducible repeat (first | refine blk_drewN ?_ _ | refine blk_drew ?_ | refine blk_alloc ?_ _)); exact BK101.out)) (g := gb102) (o := .cells #[.bool a1_0, .int .i64 a1_1] 25 (0, 0)) (by (with_reducible repeat (first | refine blk_drewN ?_ _ | refine blk_drew ?_ | refine blk_alloc ?_ _)); exact BK102.out)) (g := gb103) (o := .cells #[.bool a2_0, .int .i64 a2_1] 25 (0, 0)) (by (with_reducible repeat (first | refine blk_drewN ?_ _ | refine blk_drew ?_ | refine blk_alloc ?_ _)); exact BK103.out)) (g := gb140) (o := .cells #[.bool true, .int .i64 t139] 25 (0, 0)) (by (with_reducible repeat (first | refine blk_drewN ?_ _ | refine blk_drew ?_ | refine blk_alloc ?_ _)); exact BK140.out)) (below_size (by repeat (first | (with_reducible first | exact HB.out | apply below_alloc | apply pw_below_drewN | apply below_drew1 | refine below_set ?_ GE101.out | refine below_set ?_ GE102.out | refine below_set ?_ GE103.out | refine below_set ?_ GE140.out) | exact HB.out))))
             have n1_ := Aside0.mk (blk_below (g := gb101) (o := .cells #[.bool a0_0, .int .i64 a0_1] 25 (0, 0)) (by (with_reducible repeat (first | refine blk_drewN ?_ _ | refine blk_drew ?_ | refine blk_alloc ?_ _)); exact BK101.out) hb)
             have n2_ := Aside0.mk (blk_below (g := gb102) (o := .cells #[.bool a1_0, .int .i64 a1_1] 25 (0, 0)) (by (with_reducible repeat (first | refine blk_drewN ?_ _ | refine blk_drew ?_ | refine blk_alloc ?_ _)); exact BK102.out) hb)
             have n3_ := Aside0.mk (blk_below (g := gb103) (o := .cells #[.bool a2_0, .int .i64 a2_1] 25 (0, 0)) (by (with_reducible repeat (first | refine blk_drewN ?_ _ | refine blk_drew ?_ | refine blk_alloc ?_ _)); exact BK103.out) hb)
             have n4_ := Aside0.mk (blk_below (g := gb140) (o := .cells #[.bool true, .int .i64 t139] 25 (0, 0)) (by (with_reducible repeat (first | refine blk_drewN ?_ _ | refine blk_drew ?_ | refine blk_alloc ?_ _)); exact BK140.out) hb)
             have n5_ := Aside0.mk (below_step (by repeat (first | (with_reducible first | exact HB.out | apply below_alloc | apply pw_below_drewN | apply below_drew1 | refine below_set ?_ GE101.out | refine below_set ?_ GE102.out | refine below_set ?_ GE103.out | refine below_set ?_ GE140.out) | exact HB.out)) hb)
             have z_HO151 := fun (h0_ : b 22 = true) => (show Kd.R k25 25 w100 w.heap.size (fun k_ => k_ ≠ gb101 ∧ k_ ≠ gb102 ∧ k_ ≠ gb103 ∧ k_ ≠ gb140) v150 y149 from by first | exact (Kd.R_elder' (by (with_reducible repeat (first | apply Kd.R_alloc | apply Kd.R_drewN | apply Kd.R_drew)); exact (Q_HO151 h0_)) (Kd.R_base ho101) hb) | exact Kd.R_mono (Kd.R_elder' (by (with_reducible repeat (first | apply Kd.R_alloc | apply Kd.R_drewN | apply Kd.R_drew)); exact (Q_HO151 h0_)) (Kd.R_base ho101) hb) (fun _ h_ => by first | trivial | exact h_ | exact h_.1))
             clear BK101
             clear BK102
             clear BK103
             clear BK140
             clear HB
             have HO156 := n0_
             have BK101 := n1_
             have BK102 := n2_
             have BK103 := n3_
             have BK140 := n4_
             have HB := n5_
             clear n0_ n1_ n2_ n3_ n4_ n5_
             clear hb ho101
             refine hK.out _ _ ⟨v150, v155, v160, (by rw [ha.out]; exact putSel_upk 26 hb_ rfl rfl rfl), (by (with_reducible repeat (first | refine blk_drewN ?_ _ | refine blk_drew ?_ | refine blk_alloc ?_ _)); exact BK101.out), (by (with_reducible repeat (first | refine blk_drewN ?_ _ | refine blk_drew ?_ | refine blk_alloc ?_ _)); exact BK102.out), (by (with_reducible repeat (first | refine blk_drewN ?_ _ | refine blk_drew ?_ | refine blk_alloc ?_ _)); exact BK103.out), (by (with_reducible repeat (first | refine blk_drewN ?_ _ | refine blk_drew ?_ | refine blk_alloc ?_ _)); exact BK140.out), (by repeat (first | (with_reducible first | exact HB.out | apply below_alloc | apply pw_below_drewN | apply below_drew1 | refine below_set ?_ GE101.out | refine below_set ?_ GE102.out | refine below_set ?_ GE103.out | refine below_set ?_ GE140.out) | exact HB.out)), z_HO151, fun _ => (by (with_reducible repeat (first | apply Kd.R_alloc | apply Kd.R_drewN | apply Kd.R_drew)); exact Kd.R_mono HO156.out (fun _ hk => by first | exact ⟨hk.1.1.1.2, ⟨hk.1.1.2, ⟨hk.1.2, hk.2⟩⟩⟩ | (simp [hk]; done))), fun h0_ => absurd ((hoff 34 (by kernel_rfl)).symm.trans h0_) (by decide)⟩
            refine steps_cons ?_ ?_
            ·rintro b a w' ⟨v150, v155, v160, ha, Q_BK101, Q_BK102, Q_BK103, Q_BK140, Q_HB, Q_HO151, Q_HO156, Q_HO161⟩ hb_ hon hoff
             refine ⟨_, rfl, fun K hK => ?_⟩
             have e109 : a.tmps[109]? = some (v155) := by rw [ha]; exact putSel_on (e := (27, 109, v155)) 26 rfl rfl (hon 27 (by kernel_rfl)) rfl
             have e100 : a.tmps[100]? = some (.bool (t143 == t147 && (t144 == t148))) := by rw [ha]; exact putSel_on (e := (18, 100, .bool (t143 == t147 && (t144 == t148)))) 17 rfl rfl (hon 18 (by kernel_rfl)) rfl
             replace ha := Aside0.mk ha
             have BK101 := Aside0.mk Q_BK101
             have BK102 := Aside0.mk Q_BK102
             have BK103 := Aside0.mk Q_BK103
             have BK140 := Aside0.mk Q_BK140
             have HB := Aside0.mk Q_HB
             have HO151 := Aside0.mk (Q_HO151 (hon 22 (by kernel_rfl)))
             have HO156 := Aside0.mk (Q_HO156 (hon 27 (by kernel_rfl)))
             obtain ⟨Ao106, co106, eo106⟩ := Kd.R_slice HO156.out
             (first | subst eo106 | (injection eo106 with f1_ f2_ f3_; have f4_ := f1_.symm; have f5_ := f3_.symm; clear f1_ f2_ f3_; subst f4_; subst f5_))
             refine goes_ Tryd.func11 (by kernel_rfl) rfl #[.slice Ao106 y154.length co106] (by first | rfl | exact wanted_on rfl rfl rfl (by first | assumption | (simp only [*]; done) | (simp [*]; done))) rfl rfl (by first | (simp only [List.map_toArray, List.map_cons, List.map_nil, Act.eval, Array.getD_eq_getD_getElem?, Option.getD_some, e109, e100]; done) | (simp only [List.map_toArray, List.map_cons, List.map_nil, Act.eval, Array.getD_eq_getD_getElem?, Option.getD_some, e109, e100]; rfl)) ?_
             with_reducible refine (fix_Sum.calls kj36 _ _ y154 t157 t158 _ ?side1 ?side2 A83.out).mono ?_
             (case side1 => repeat (first | exact (Kd.R_reads' HO156.out).2.2 | (with_reducible refine Kd.C_alloc ?_ _) | (with_reducible refine Kd.C_drewN ?_ _) | (with_reducible refine Kd.C_drew ?_)))
             (case side2 => exact (Kd.R_reads' HO156.out).2.1)
             rintro e w107 ⟨rfl, hb⟩
             refine ⟨_, rfl, ?_⟩
             have n0_ := Aside0.mk (Kd.R_below (by (with_reducible repeat (first | apply Kd.R_alloc | apply Kd.R_drewN | apply Kd.R_drew)); exact HO151.out) hb)
             have n1_ := Aside0.mk (Kd.R_below (by (with_reducible repeat (first | apply Kd.R_alloc | apply Kd.R_drewN | apply Kd.R_drew)); exact HO156.out) hb)
             have n2_ := Aside0.mk (blk_below (g := gb101) (o := .cells #[.bool a0_0, .int .i64 a0_1] 25 (0, 0)) (by (with_reducible repeat (first | refine blk_drewN ?_ _ | refine blk_drew ?_ | refine blk_alloc ?_ _)); exact BK101.out) hb)
             have n3_ := Aside0.mk (blk_below (g := gb102) (o := .cells #[.bool a1_0, .int .i64 a1_1] 25 (0, 0)) (by (with_reducible repeat (first | refine blk_drewN ?_ _ | refine blk_drew ?_ | refine blk_alloc ?_ _)); exact BK102.out) hb)
             have n4_ := Aside0.mk (blk_below (g := gb103) (o := .cells #[.bool a2_0, .int .i64 a2_1] 25 (0, 0)) (by (with_reducible repeat (first | refine blk_drewN ?_ _ | refine blk_drew ?_ | refine blk_alloc ?_ _)); exact BK103.out) hb)
             have n5_ := Aside0.mk (blk_below (g := gb140) (o := .cells #[.bool true, .int .i64 t139] 25 (0, 0)) (by (with_reducible repeat (first | refine blk_drewN ?_ _ | refine blk_drew ?_ | refine blk_alloc ?_ _)); exact BK140.out) hb)
             have n6_ := Aside0.mk (below_step (by repeat (first | (with_reducible first | exact HB.out | apply below_alloc | apply pw_below_drewN | apply below_drew1 | refine below_set ?_ GE101.out | refine below_set ?_ GE102.out | refine below_set ?_ GE103.out | refine below_set ?_ GE140.out) | exact HB.out)) hb)
             clear HO151
             clear HO156
             clear BK101
             clear BK102
             clear BK103
             clear BK140
             clear HB
             have HO151 := n0_
             have HO156 := n1_
             have BK101 := n2_
             have BK102 := n3_
             have BK103 := n4_
             have BK140 := n5_
             have HB := n6_
             clear n0_ n1_ n2_ n3_ n4_ n5_ n6_
             (try clear hb)
             (try clear hb2)
             (try clear hk)
             (try clear hi)
             refine hK.out _ _ ⟨v150, .slice Ao106 y154.length co106, v160, (by rw [ha.out]; exact putSel_upk 27 hb_ rfl rfl rfl), (by (with_reducible repeat (first | refine blk_drewN ?_ _ | refine blk_drew ?_ | refine blk_alloc ?_ _)); exact BK101.out), (by (with_reducible repeat (first | refine blk_drewN ?_ _ | refine blk_drew ?_ | refine blk_alloc ?_ _)); exact BK102.out), (by (with_reducible repeat (first | refine blk_drewN ?_ _ | refine blk_drew ?_ | refine blk_alloc ?_ _)); exact BK103.out), (by (with_reducible repeat (first | refine blk_drewN ?_ _ | refine blk_drew ?_ | refine blk_alloc ?_ _)); exact BK140.out), (by repeat (first | (with_reducible first | exact HB.out | apply below_alloc | apply pw_below_drewN | apply below_drew1 | refine below_set ?_ GE101.out | refine below_set ?_ GE102.out | refine below_set ?_ GE103.out | refine below_set ?_ GE140.out) | exact HB.out)), fun _ => (by (with_reducible repeat (first | apply Kd.R_alloc | apply Kd.R_drewN | apply Kd.R_drew)); exact HO151.out), fun _ => (by (with_reducible repeat (first | apply Kd.R_alloc | apply Kd.R_drewN | apply Kd.R_drew)); exact HO156.out), fun h0_ => absurd ((hoff 34 (by kernel_rfl)).symm.trans h0_) (by decide)⟩
            refine steps_cons ?_ ?_
            ·rintro b a w' ⟨v150, v155, v160, ha, Q_BK101, Q_BK102, Q_BK103, Q_BK140, Q_HB, Q_HO151, Q_HO156, Q_HO161⟩ hb_ hon hoff
             refine ⟨_, rfl, fun K hK => ?_⟩
             have e105 : a.tmps[105]? = some (.agg #[.bool t152, .int .i64 t153]) := by rw [ha]; exact putSel_on (e := (23, 105, .agg #[.bool t152, .int .i64 t153])) 22 rfl rfl (hon 23 (by kernel_rfl)) rfl
             have e110 : a.tmps[110]? = some (.agg #[.bool t157, .int .i64 t158]) := by rw [ha]; exact putSel_on (e := (28, 110, .agg #[.bool t157, .int .i64 t158])) 27 rfl rfl (hon 28 (by kernel_rfl)) rfl
             have e100 : a.tmps[100]? = some (.bool (t143 == t147 && (t144 == t148))) := by rw [ha]; exact putSel_on (e := (18, 100, .bool (t143 == t147 && (t144 == t148)))) 17 rfl rfl (hon 18 (by kernel_rfl)) rfl
             replace ha := Aside0.mk ha
             have BK101 := Aside0.mk Q_BK101
             have BK102 := Aside0.mk Q_BK102
             have BK103 := Aside0.mk Q_BK103
             have BK140 := Aside0.mk Q_BK140
             have HB := Aside0.mk Q_HB
             have HO151 := Aside0.mk (Q_HO151 (hon 22 (by kernel_rfl)))
             have HO156 := Aside0.mk (Q_HO156 (hon 27 (by kernel_rfl)))
             refine value_ (w1 := w') (v := .bool (t152 == t157 && (t153 == t158))) (wanted_on rfl rfl rfl (e100.trans (by first | rfl | exact congrArg (fun x_ => some (Value.bool x_)) (by assumption) | (simp [*]; done)))) rfl ?_ ?_
             ·go_simp
              (try simp only [i64_w])
              try rfl
             refine hK.out _ _ ⟨v150, v155, v160, (by rw [ha.out]; exact putSel_upk 28 hb_ rfl rfl rfl), Q_BK101, Q_BK102, Q_BK103, Q_BK140, Q_HB, Q_HO151, Q_HO156, fun h0_ => absurd ((hoff 34 (by kernel_rfl)).symm.trans h0_) (by decide)⟩
            refine steps_cons ?_ ?_
            ·rintro b a w' ⟨v150, v155, v160, ha, Q_BK101, Q_BK102, Q_BK103, Q_BK140, Q_HB, Q_HO151, Q_HO156, Q_HO161⟩ hb_ hon hoff
             refine ⟨_, rfl, fun K hK => ?_⟩
             have e100 : a.tmps[100]? = some (.bool (t143 == t147 && (t144 == t148))) := by rw [ha]; exact putSel_on (e := (18, 100, .bool (t143 == t147 && (t144 == t148)))) 17 rfl rfl (hon 18 (by kernel_rfl)) rfl
             have e111 : a.tmps[111]? = some (.bool (t152 == t157 && (t153 == t158))) := by rw [ha]; exact putSel_on (e := (29, 111, .bool (t152 == t157 && (t153 == t158)))) 28 rfl rfl (hon 29 (by kernel_rfl)) rfl
             replace ha := Aside0.mk ha
             have BK101 := Aside0.mk Q_BK101
             have BK102 := Aside0.mk Q_BK102
             have BK103 := Aside0.mk Q_BK103
             have BK140 := Aside0.mk Q_BK140
             have HB := Aside0.mk Q_HB
             have HO151 := Aside0.mk (Q_HO151 (hon 22 (by kernel_rfl)))
             have HO156 := Aside0.mk (Q_HO156 (hon 27 (by kernel_rfl)))
             refine value_ (w1 := w') (v := .bool (t152 == t157 && (t153 == t158))) (by rfl) rfl ?_ ?_
             ·go_simp
              (try simp only [i64_w])
              try rfl
             refine hK.out _ _ ⟨v150, v155, v160, (by rw [ha.out]; exact putSel_upk 29 hb_ rfl rfl rfl), Q_BK101, Q_BK102, Q_BK103, Q_BK140, Q_HB, Q_HO151, Q_HO156, fun h0_ => absurd ((hoff 34 (by kernel_rfl)).symm.trans h0_) (by decide)⟩
            refine steps_cons ?_ ?_
            ·rintro b a w' ⟨v150, v155, v160, ha, Q_BK101, Q_BK102, Q_BK103, Q_BK140, Q_HB, Q_HO151, Q_HO156, Q_HO161⟩ hb_ hon hoff
             refine ⟨_, rfl, fun K hK => ?_⟩
             have e112 : a.tmps[112]? = some (.bool (t152 == t157 && (t153 == t158))) := by rw [ha]; exact putSel_on (e := (30, 112, .bool (t152 == t157 && (t153 == t158)))) 29 rfl rfl (hon 30 (by kernel_rfl)) rfl
             replace ha := Aside0.mk ha
             have BK101 := Aside0.mk Q_BK101
             have BK102 := Aside0.mk Q_BK102
             have BK103 := Aside0.mk Q_BK103
             have BK140 := Aside0.mk Q_BK140
             have HB := Aside0.mk Q_HB
             have HO151 := Aside0.mk (Q_HO151 (hon 22 (by kernel_rfl)))
             have HO156 := Aside0.mk (Q_HO156 (hon 27 (by kernel_rfl)))
             refine value_ (w1 := w') (v := .bool (t152 == t157 && (t153 == t158))) (by rfl) rfl ?_ ?_
             ·go_simp
              (try simp only [i64_w])
              try rfl
             refine hK.out _ _ ⟨v150, v155, v160, (by rw [ha.out]; exact putSel_upk 30 hb_ rfl rfl rfl), Q_BK101, Q_BK102, Q_BK103, Q_BK140, Q_HB, Q_HO151, Q_HO156, fun h0_ => absurd ((hoff 34 (by kernel_rfl)).symm.trans h0_) (by decide)⟩
            refine steps_cons ?_ ?_
            ·rintro b a w' ⟨v150, v155, v160, ha, Q_BK101, Q_BK102, Q_BK103, Q_BK140, Q_HB, Q_HO151, Q_HO156, Q_HO161⟩ hb_ hon hoff
             refine ⟨_, rfl, fun K hK => ?_⟩
             have e3 : a.tmps[3]? = some (.pointer (some ⟨gb101, 0, none⟩)) := by rw [ha]; exact (putSel_off rfl).trans rfl
             have e113 : a.tmps[113]? = some (.bool (t152 == t157 && (t153 == t158))) := by rw [ha]; exact putSel_on (e := (31, 113, .bool (t152 == t157 && (t153 == t158)))) 30 rfl rfl (hon 31 (by kernel_rfl)) rfl
             replace ha := Aside0.mk ha
             have BK101 := Aside0.mk Q_BK101
             have BK102 := Aside0.mk Q_BK102
             have BK103 := Aside0.mk Q_BK103
             have BK140 := Aside0.mk Q_BK140
             have HB := Aside0.mk Q_HB
             have HO151 := Aside0.mk (Q_HO151 (hon 22 (by kernel_rfl)))
             have HO156 := Aside0.mk (Q_HO156 (hon 27 (by kernel_rfl)))
             have hc0_ : w'.cell? ⟨gb101, 0, none⟩ = some (.bool a0_0) := (blk_cell BK101.out 0).trans rfl
             have hc1_ : w'.cell? ⟨gb101, 1, none⟩ = some (.int .i64 a0_1) := (blk_cell BK101.out 1).trans rfl
             refine value_ (w1 := w') (v := .agg #[.bool a0_0, .int .i64 a0_1]) (wanted_on rfl rfl rfl (e113.trans (by first | rfl | exact congrArg (fun x_ => some (Value.bool x_)) (by assumption) | (simp [*]; done)))) rfl ?_ ?_
             ·go_simp
              (try simp only [i64_w])
              try rfl
             refine hK.out _ _ ⟨v150, v155, v160, (by rw [ha.out]; exact putSel_upk 31 hb_ rfl rfl rfl), Q_BK101, Q_BK102, Q_BK103, Q_BK140, Q_HB, Q_HO151, Q_HO156, fun h0_ => absurd ((hoff 34 (by kernel_rfl)).symm.trans h0_) (by decide)⟩
            refine steps_cons ?_ ?_
            ·rintro b a w' ⟨v150, v155, v160, ha, Q_BK101, Q_BK102, Q_BK103, Q_BK140, Q_HB, Q_HO151, Q_HO156, Q_HO161⟩ hb_ hon hoff
             refine ⟨_, rfl, fun K hK => ?_⟩
             have e4 : a.tmps[4]? = some (.pointer (some ⟨gb102, 0, none⟩)) := by rw [ha]; exact (putSel_off rfl).trans rfl
             have e113 : a.tmps[113]? = some (.bool (t152 == t157 && (t153 == t158))) := by rw [ha]; exact putSel_on (e := (31, 113, .bool (t152 == t157 && (t153 == t158)))) 30 rfl rfl (hon 31 (by kernel_rfl)) rfl
             replace ha := Aside0.mk ha
             have BK101 := Aside0.mk Q_BK101
             have BK102 := Aside0.mk Q_BK102
             have BK103 := Aside0.mk Q_BK103
             have BK140 := Aside0.mk Q_BK140
             have HB := Aside0.mk Q_HB
             have HO151 := Aside0.mk (Q_HO151 (hon 22 (by kernel_rfl)))
             have HO156 := Aside0.mk (Q_HO156 (hon 27 (by kernel_rfl)))
             have hc0_ : w'.cell? ⟨gb102, 0, none⟩ = some (.bool a1_0) := (blk_cell BK102.out 0).trans rfl
             have hc1_ : w'.cell? ⟨gb102, 1, none⟩ = some (.int .i64 a1_1) := (blk_cell BK102.out 1).trans rfl
             refine value_ (w1 := w') (v := .agg #[.bool a1_0, .int .i64 a1_1]) (wanted_on rfl rfl rfl (e113.trans (by first | rfl | exact congrArg (fun x_ => some (Value.bool x_)) (by assumption) | (simp [*]; done)))) rfl ?_ ?_
             ·go_simp
              (try simp only [i64_w])
              try rfl
             refine hK.out _ _ ⟨v150, v155, v160, (by rw [ha.out]; exact putSel_upk 32 hb_ rfl rfl rfl), Q_BK101, Q_BK102, Q_BK103, Q_BK140, Q_HB, Q_HO151, Q_HO156, fun h0_ => absurd ((hoff 34 (by kernel_rfl)).symm.trans h0_) (by decide)⟩
            refine steps_cons ?_ ?_
            ·rintro b a w' ⟨v150, v155, v160, ha, Q_BK101, Q_BK102, Q_BK103, Q_BK140, Q_HB, Q_HO151, Q_HO156, Q_HO161⟩ hb_ hon hoff
             refine ⟨_, rfl, fun K hK => ?_⟩
             have e114 : a.tmps[114]? = some (.agg #[.bool a0_0, .int .i64 a0_1]) := by rw [ha]; exact putSel_on (e := (32, 114, .agg #[.bool a0_0, .int .i64 a0_1])) 31 rfl rfl (hon 32 (by kernel_rfl)) rfl
             have e115 : a.tmps[115]? = some (.agg #[.bool a1_0, .int .i64 a1_1]) := by rw [ha]; exact putSel_on (e := (33, 115, .agg #[.bool a1_0, .int .i64 a1_1])) 32 rfl rfl (hon 33 (by kernel_rfl)) rfl
             have e113 : a.tmps[113]? = some (.bool (t152 == t157 && (t153 == t158))) := by rw [ha]; exact putSel_on (e := (31, 113, .bool (t152 == t157 && (t153 == t158)))) 30 rfl rfl (hon 31 (by kernel_rfl)) rfl
             replace ha := Aside0.mk ha
             have BK101 := Aside0.mk Q_BK101
             have BK102 := Aside0.mk Q_BK102
             have BK103 := Aside0.mk Q_BK103
             have BK140 := Aside0.mk Q_BK140
             have HB := Aside0.mk Q_HB
             have HO151 := Aside0.mk (Q_HO151 (hon 22 (by kernel_rfl)))
             have HO156 := Aside0.mk (Q_HO156 (hon 27 (by kernel_rfl)))
             refine Kd.R_lit_step k25 _ 25 ?hg (N := 116) ?hd (xs := ([(⟨a0_0, a0_1⟩ : S25), (⟨a1_0, a1_1⟩ : S25)] : List (S25))) (inner := [.bool a0_0, .int .i64 a0_1, .bool a1_0, .int .i64 a1_1]) (ok := fun _ => True) (okp := fun _ => True) ?hr ?hp (fun _ hk => hk) trivial (Below.refl _ _) (Nat.le_refl _) (by simp) ?_; (case hd => rfl); (case hg => first | rfl | exact wanted_on rfl rfl rfl (by first | assumption | (simp only [*]; done) | (simp [*]; done))); (case hr => first | (go_simp; done) | (go_simp; rfl)); (case hp => exact (Reps.c2 (show Kd.M k25 _ _ _ (⟨a0_0, a0_1⟩ : S25) [.bool a0_0, .int .i64 a0_1] from (k25_mkM _ _ _ (⟨a0_0, a0_1⟩ : S25) )) (Reps.c2 (show Kd.M k25 _ _ _ (⟨a1_0, a1_1⟩ : S25) [.bool a1_0, .int .i64 a1_1] from (k25_mkM _ _ _ (⟨a1_0, a1_1⟩ : S25) )) (Reps.none _ _))))
             intro v160 w108 ho109 hb hg_ hnew_
             clear hg_ hnew_
             (first | rw [← Ny159.out] at ho109 | (simp only [Int.reduceToNat] at ho109; rw [← Ny159.out] at ho109))
             have n0_ := Aside0.mk (Kd.R_elder' (by (with_reducible repeat (first | apply Kd.R_alloc | apply Kd.R_drewN | apply Kd.R_drew)); exact HO151.out) (Kd.R_base ho109) hb)
             have n1_ := Aside0.mk (Kd.R_elder' (by (with_reducible repeat (first | apply Kd.R_alloc | apply Kd.R_drewN | apply Kd.R_drew)); exact HO156.out) (Kd.R_base ho109) hb)
             have n2_ := Aside0.mk (Kd.R_lower (Kd.R_newB (Kd.R_newB (Kd.R_newB (Kd.R_newB (Kd.R_new' (Kd.R_new' ho109 (Kd.R_lt (by (with_reducible repeat (first | apply Kd.R_alloc | apply Kd.R_drewN | apply Kd.R_drew)); exact HO151.out))) (Kd.R_lt (by (with_reducible repeat (first | apply Kd.R_alloc | apply Kd.R_drewN | apply Kd.R_drew)); exact HO156.out))) (g := gb101) (o := .cells #[.bool a0_0, .int .i64 a0_1] 25 (0, 0)) (by (with_reducible repeat (first | refine blk_drewN ?_ _ | refine blk_drew ?_ | refine blk_alloc ?_ _)); exact BK101.out)) (g := gb102) (o := .cells #[.bool a1_0, .int .i64 a1_1] 25 (0, 0)) (by (with_reducible repeat (first | refine blk_drewN ?_ _ | refine blk_drew ?_ | refine blk_alloc ?_ _)); exact BK102.out)) (g := gb103) (o := .cells #[.bool a2_0, .int .i64 a2_1] 25 (0, 0)) (by (with_reducible repeat (first | refine blk_drewN ?_ _ | refine blk_drew ?_ | refine blk_alloc ?_ _)); exact BK103.out)) (g := gb140) (o := .cells #[.bool true, .int .i64 t139] 25 (0, 0)) (by (with_reducible repeat (first | refine blk_drewN ?_ _ | refine blk_drew ?_ | refine blk_alloc ?_ _)); exact BK140.out)) (below_size (by repeat (first | (with_reducible first | exact HB.out | apply below_alloc | apply pw_below_drewN | apply below_drew1 | refine below_set ?_ GE101.out | refine below_set ?_ GE102.out | refine below_set ?_ GE103.out | refine below_set ?_ GE140.out) | exact HB.out))))
             have n3_ := Aside0.mk (blk_below (g := gb101) (o := .cells #[.bool a0_0, .int .i64 a0_1] 25 (0, 0)) (by (with_reducible repeat (first | refine blk_drewN ?_ _ | refine blk_drew ?_ | refine blk_alloc ?_ _)); exact BK101.out) hb)
             have n4_ := Aside0.mk (blk_below (g := gb102) (o := .cells #[.bool a1_0, .int .i64 a1_1] 25 (0, 0)) (by (with_reducible repeat (first | refine blk_drewN ?_ _ | refine blk_drew ?_ | refine blk_alloc ?_ _)); exact BK102.out) hb)
             have n5_ := Aside0.mk (blk_below (g := gb103) (o := .cells #[.bool a2_0, .int .i64 a2_1] 25 (0, 0)) (by (with_reducible repeat (first | refine blk_drewN ?_ _ | refine blk_drew ?_ | refine blk_alloc ?_ _)); exact BK103.out) hb)
             have n6_ := Aside0.mk (blk_below (g := gb140) (o := .cells #[.bool true, .int .i64 t139] 25 (0, 0)) (by (with_reducible repeat (first | refine blk_drewN ?_ _ | refine blk_drew ?_ | refine blk_alloc ?_ _)); exact BK140.out) hb)
             have n7_ := Aside0.mk (below_step (by repeat (first | (with_reducible first | exact HB.out | apply below_alloc | apply pw_below_drewN | apply below_drew1 | refine below_set ?_ GE101.out | refine below_set ?_ GE102.out | refine below_set ?_ GE103.out | refine below_set ?_ GE140.out) | exact HB.out)) hb)
             clear HO151
             clear HO156
             clear BK101
             clear BK102
             clear BK103
             clear BK140
             clear HB
             have HO151 := n0_
             have HO156 := n1_
             have HO161 := n2_
             have BK101 := n3_
             have BK102 := n4_
             have BK103 := n5_
             have BK140 := n6_
             have HB := n7_
             clear n0_ n1_ n2_ n3_ n4_ n5_ n6_ n7_
             clear hb ho109
             refine hK.out _ _ ⟨v150, v155, v160, (by rw [ha.out]; exact putSel_upk 33 hb_ rfl rfl rfl), (by (with_reducible repeat (first | refine blk_drewN ?_ _ | refine blk_drew ?_ | refine blk_alloc ?_ _)); exact BK101.out), (by (with_reducible repeat (first | refine blk_drewN ?_ _ | refine blk_drew ?_ | refine blk_alloc ?_ _)); exact BK102.out), (by (with_reducible repeat (first | refine blk_drewN ?_ _ | refine blk_drew ?_ | refine blk_alloc ?_ _)); exact BK103.out), (by (with_reducible repeat (first | refine blk_drewN ?_ _ | refine blk_drew ?_ | refine blk_alloc ?_ _)); exact BK140.out), (by repeat (first | (with_reducible first | exact HB.out | apply below_alloc | apply pw_below_drewN | apply below_drew1 | refine below_set ?_ GE101.out | refine below_set ?_ GE102.out | refine below_set ?_ GE103.out | refine below_set ?_ GE140.out) | exact HB.out)), fun _ => (by (with_reducible repeat (first | apply Kd.R_alloc | apply Kd.R_drewN | apply Kd.R_drew)); exact Kd.R_mono HO151.out (fun _ hk => by first | exact ⟨hk.1.1, ⟨hk.2, ⟨hk.1.2.1, ⟨hk.1.2.2.1, ⟨hk.1.2.2.2.1, hk.1.2.2.2.2⟩⟩⟩⟩⟩ | (simp [hk]; done))), fun _ => (by (with_reducible repeat (first | apply Kd.R_alloc | apply Kd.R_drewN | apply Kd.R_drew)); exact Kd.R_mono HO156.out (fun _ hk => by first | exact ⟨hk.1.1, ⟨hk.2, ⟨hk.1.2.1, ⟨hk.1.2.2.1, ⟨hk.1.2.2.2.1, hk.1.2.2.2.2⟩⟩⟩⟩⟩ | (simp [hk]; done))), fun _ => (by (with_reducible repeat (first | apply Kd.R_alloc | apply Kd.R_drewN | apply Kd.R_drew)); exact Kd.R_mono HO161.out (fun _ hk => by first | exact ⟨hk.1.1.1.1.1.2, ⟨hk.1.1.1.1.2, ⟨hk.1.1.1.2, ⟨hk.1.1.2, ⟨hk.1.2, hk.2⟩⟩⟩⟩⟩ | (simp [hk]; done)))⟩
            refine steps_cons ?_ ?_
            ·rintro b a w' ⟨v150, v155, v160, ha, Q_BK101, Q_BK102, Q_BK103, Q_BK140, Q_HB, Q_HO151, Q_HO156, Q_HO161⟩ hb_ hon hoff
             refine ⟨_, rfl, fun K hK => ?_⟩
             have e116 : a.tmps[116]? = some (v160) := by rw [ha]; exact putSel_on (e := (34, 116, v160)) 33 rfl rfl (hon 34 (by kernel_rfl)) rfl
             have e113 : a.tmps[113]? = some (.bool (t152 == t157 && (t153 == t158))) := by rw [ha]; exact putSel_on (e := (31, 113, .bool (t152 == t157 && (t153 == t158)))) 30 rfl rfl (hon 31 (by kernel_rfl)) rfl
             replace ha := Aside0.mk ha
             have BK101 := Aside0.mk Q_BK101
             have BK102 := Aside0.mk Q_BK102
             have BK103 := Aside0.mk Q_BK103
             have BK140 := Aside0.mk Q_BK140
             have HB := Aside0.mk Q_HB
             have HO151 := Aside0.mk (Q_HO151 (hon 22 (by kernel_rfl)))
             have HO156 := Aside0.mk (Q_HO156 (hon 27 (by kernel_rfl)))
             have HO161 := Aside0.mk (Q_HO161 (hon 34 (by kernel_rfl)))
             obtain ⟨Ao110, co110, eo110⟩ := Kd.R_slice HO161.out
             (first | subst eo110 | (injection eo110 with f1_ f2_ f3_; have f4_ := f1_.symm; have f5_ := f3_.symm; clear f1_ f2_ f3_; subst f4_; subst f5_))
             refine goes_ Tryd.func11 (by kernel_rfl) rfl #[.slice Ao110 y159.length co110] (by first | rfl | exact wanted_on rfl rfl rfl (by first | assumption | (simp only [*]; done) | (simp [*]; done))) rfl rfl (by first | (simp only [List.map_toArray, List.map_cons, List.map_nil, Act.eval, Array.getD_eq_getD_getElem?, Option.getD_some, e116, e113]; done) | (simp only [List.map_toArray, List.map_cons, List.map_nil, Act.eval, Array.getD_eq_getD_getElem?, Option.getD_some, e116, e113]; rfl)) ?_
             with_reducible refine (fix_Sum.calls kj36 _ _ y159 t162 t163 _ ?side1 ?side2 A85.out).mono ?_
             (case side1 => repeat (first | exact (Kd.R_reads' HO161.out).2.2 | (with_reducible refine Kd.C_alloc ?_ _) | (with_reducible refine Kd.C_drewN ?_ _) | (with_reducible refine Kd.C_drew ?_)))
             (case side2 => exact (Kd.R_reads' HO161.out).2.1)
             rintro e w111 ⟨rfl, hb⟩
             refine ⟨_, rfl, ?_⟩
             have n0_ := Aside0.mk (Kd.R_below (by (with_reducible repeat (first | apply Kd.R_alloc | apply Kd.R_drewN | apply Kd.R_drew)); exact HO151.out) hb)
             have n1_ := Aside0.mk (Kd.R_below (by (with_reducible repeat (first | apply Kd.R_alloc | apply Kd.R_drewN | apply Kd.R_drew)); exact HO156.out) hb)
             have n2_ := Aside0.mk (Kd.R_below (by (with_reducible repeat (first | apply Kd.R_alloc | apply Kd.R_drewN | apply Kd.R_drew)); exact HO161.out) hb)
             have n3_ := Aside0.mk (blk_below (g := gb101) (o := .cells #[.bool a0_0, .int .i64 a0_1] 25 (0, 0)) (by (with_reducible repeat (first | refine blk_drewN ?_ _ | refine blk_drew ?_ | refine blk_alloc ?_ _)); exact BK101.out) hb)
             have n4_ := Aside0.mk (blk_below (g := gb102) (o := .cells #[.bool a1_0, .int .i64 a1_1] 25 (0, 0)) (by (with_reducible repeat (first | refine blk_drewN ?_ _ | refine blk_drew ?_ | refine blk_alloc ?_ _)); exact BK102.out) hb)
             have n5_ := Aside0.mk (blk_below (g := gb103) (o := .cells #[.bool a2_0, .int .i64 a2_1] 25 (0, 0)) (by (with_reducible repeat (first | refine blk_drewN ?_ _ | refine blk_drew ?_ | refine blk_alloc ?_ _)); exact BK103.out) hb)
             have n6_ := Aside0.mk (blk_below (g := gb140) (o := .cells #[.bool true, .int .i64 t139] 25 (0, 0)) (by (with_reducible repeat (first | refine blk_drewN ?_ _ | refine blk_drew ?_ | refine blk_alloc ?_ _)); exact BK140.out) hb)
             have n7_ := Aside0.mk (below_step (by repeat (first | (with_reducible first | exact HB.out | apply below_alloc | apply pw_below_drewN | apply below_drew1 | refine below_set ?_ GE101.out | refine below_set ?_ GE102.out | refine below_set ?_ GE103.out | refine below_set ?_ GE140.out) | exact HB.out)) hb)
             clear HO151
             clear HO156
             clear HO161
             clear BK101
             clear BK102
             clear BK103
             clear BK140
             clear HB
             have HO151 := n0_
             have HO156 := n1_
             have HO161 := n2_
             have BK101 := n3_
             have BK102 := n4_
             have BK103 := n5_
             have BK140 := n6_
             have HB := n7_
             clear n0_ n1_ n2_ n3_ n4_ n5_ n6_ n7_
             (try clear hb)
             (try clear hb2)
             (try clear hk)
             (try clear hi)
             refine hK.out _ _ ⟨v150, v155, .slice Ao110 y159.length co110, (by rw [ha.out]; exact putSel_upk 34 hb_ rfl rfl rfl), (by (with_reducible repeat (first | refine blk_drewN ?_ _ | refine blk_drew ?_ | refine blk_alloc ?_ _)); exact BK101.out), (by (with_reducible repeat (first | refine blk_drewN ?_ _ | refine blk_drew ?_ | refine blk_alloc ?_ _)); exact BK102.out), (by (with_reducible repeat (first | refine blk_drewN ?_ _ | refine blk_drew ?_ | refine blk_alloc ?_ _)); exact BK103.out), (by (with_reducible repeat (first | refine blk_drewN ?_ _ | refine blk_drew ?_ | refine blk_alloc ?_ _)); exact BK140.out), (by repeat (first | (with_reducible first | exact HB.out | apply below_alloc | apply pw_below_drewN | apply below_drew1 | refine below_set ?_ GE101.out | refine below_set ?_ GE102.out | refine below_set ?_ GE103.out | refine below_set ?_ GE140.out) | exact HB.out)), fun _ => (by (with_reducible repeat (first | apply Kd.R_alloc | apply Kd.R_drewN | apply Kd.R_drew)); exact HO151.out), fun _ => (by (with_reducible repeat (first | apply Kd.R_alloc | apply Kd.R_drewN | apply Kd.R_drew)); exact HO156.out), fun _ => (by (with_reducible repeat (first | apply Kd.R_alloc | apply Kd.R_drewN | apply Kd.R_drew)); exact HO161.out)⟩
            refine steps_cons ?_ ?_
            ·rintro b a w' ⟨v150, v155, v160, ha, Q_BK101, Q_BK102, Q_BK103, Q_BK140, Q_HB, Q_HO151, Q_HO156, Q_HO161⟩ hb_ hon hoff
             refine ⟨_, rfl, fun K hK => ?_⟩
             have e3 : a.tmps[3]? = some (.pointer (some ⟨gb101, 0, none⟩)) := by rw [ha]; exact (putSel_off rfl).trans rfl
             have e113 : a.tmps[113]? = some (.bool (t152 == t157 && (t153 == t158))) := by rw [ha]; exact putSel_on (e := (31, 113, .bool (t152 == t157 && (t153 == t158)))) 30 rfl rfl (hon 31 (by kernel_rfl)) rfl
             replace ha := Aside0.mk ha
             have BK101 := Aside0.mk Q_BK101
             have BK102 := Aside0.mk Q_BK102
             have BK103 := Aside0.mk Q_BK103
             have BK140 := Aside0.mk Q_BK140
             have HB := Aside0.mk Q_HB
             have HO151 := Aside0.mk (Q_HO151 (hon 22 (by kernel_rfl)))
             have HO156 := Aside0.mk (Q_HO156 (hon 27 (by kernel_rfl)))
             have hc0_ : w'.cell? ⟨gb101, 0, none⟩ = some (.bool a0_0) := (blk_cell BK101.out 0).trans rfl
             have hc1_ : w'.cell? ⟨gb101, 1, none⟩ = some (.int .i64 a0_1) := (blk_cell BK101.out 1).trans rfl
             refine value_ (w1 := w') (v := .agg #[.bool a0_0, .int .i64 a0_1]) (wanted_on rfl rfl rfl (e113.trans (by first | rfl | exact congrArg (fun x_ => some (Value.bool x_)) (by assumption) | (simp [*]; done)))) rfl ?_ ?_
             ·go_simp
              (try simp only [i64_w])
              try rfl
             refine hK.out _ _ ⟨v150, v155, v160, (by rw [ha.out]; exact putSel_upk 35 hb_ rfl rfl rfl), Q_BK101, Q_BK102, Q_BK103, Q_BK140, Q_HB, Q_HO151, Q_HO156, Q_HO161⟩
            refine steps_cons ?_ ?_
            ·rintro b a w' ⟨v150, v155, v160, ha, Q_BK101, Q_BK102, Q_BK103, Q_BK140, Q_HB, Q_HO151, Q_HO156, Q_HO161⟩ hb_ hon hoff
             refine ⟨_, rfl, fun K hK => ?_⟩
             have e4 : a.tmps[4]? = some (.pointer (some ⟨gb102, 0, none⟩)) := by rw [ha]; exact (putSel_off rfl).trans rfl
             have e113 : a.tmps[113]? = some (.bool (t152 == t157 && (t153 == t158))) := by rw [ha]; exact putSel_on (e := (31, 113, .bool (t152 == t157 && (t153 == t158)))) 30 rfl rfl (hon 31 (by kernel_rfl)) rfl
             replace ha := Aside0.mk ha
             have BK101 := Aside0.mk Q_BK101
             have BK102 := Aside0.mk Q_BK102
             have BK103 := Aside0.mk Q_BK103
             have BK140 := Aside0.mk Q_BK140
             have HB := Aside0.mk Q_HB
             have HO151 := Aside0.mk (Q_HO151 (hon 22 (by kernel_rfl)))
             have HO156 := Aside0.mk (Q_HO156 (hon 27 (by kernel_rfl)))
             have hc0_ : w'.cell? ⟨gb102, 0, none⟩ = some (.bool a1_0) := (blk_cell BK102.out 0).trans rfl
             have hc1_ : w'.cell? ⟨gb102, 1, none⟩ = some (.int .i64 a1_1) := (blk_cell BK102.out 1).trans rfl
             refine value_ (w1 := w') (v := .agg #[.bool a1_0, .int .i64 a1_1]) (wanted_on rfl rfl rfl (e113.trans (by first | rfl | exact congrArg (fun x_ => some (Value.bool x_)) (by assumption) | (simp [*]; done)))) rfl ?_ ?_
             ·go_simp
              (try simp only [i64_w])
              try rfl
             refine hK.out _ _ ⟨v150, v155, v160, (by rw [ha.out]; exact putSel_upk 36 hb_ rfl rfl rfl), Q_BK101, Q_BK102, Q_BK103, Q_BK140, Q_HB, Q_HO151, Q_HO156, Q_HO161⟩
            refine steps_cons ?_ ?_
            ·rintro b a w' ⟨v150, v155, v160, ha, Q_BK101, Q_BK102, Q_BK103, Q_BK140, Q_HB, Q_HO151, Q_HO156, Q_HO161⟩ hb_ hon hoff
             refine ⟨_, rfl, fun K hK => ?_⟩
             have e118 : a.tmps[118]? = some (.agg #[.bool a0_0, .int .i64 a0_1]) := by rw [ha]; exact putSel_on (e := (36, 118, .agg #[.bool a0_0, .int .i64 a0_1])) 35 rfl rfl (hon 36 (by kernel_rfl)) rfl
             have e119 : a.tmps[119]? = some (.agg #[.bool a1_0, .int .i64 a1_1]) := by rw [ha]; exact putSel_on (e := (37, 119, .agg #[.bool a1_0, .int .i64 a1_1])) 36 rfl rfl (hon 37 (by kernel_rfl)) rfl
             have e113 : a.tmps[113]? = some (.bool (t152 == t157 && (t153 == t158))) := by rw [ha]; exact putSel_on (e := (31, 113, .bool (t152 == t157 && (t153 == t158)))) 30 rfl rfl (hon 31 (by kernel_rfl)) rfl
             replace ha := Aside0.mk ha
             have BK101 := Aside0.mk Q_BK101
             have BK102 := Aside0.mk Q_BK102
             have BK103 := Aside0.mk Q_BK103
             have BK140 := Aside0.mk Q_BK140
             have HB := Aside0.mk Q_HB
             have HO151 := Aside0.mk (Q_HO151 (hon 22 (by kernel_rfl)))
             have HO156 := Aside0.mk (Q_HO156 (hon 27 (by kernel_rfl)))
             have HO161 := Aside0.mk (Q_HO161 (hon 34 (by kernel_rfl)))
             refine goes_ Tryd.func18 (by kernel_rfl) rfl #[.agg #[.bool a0_0, .int .i64 a0_1], .agg #[.bool a1_0, .int .i64 a1_1]] (by first | rfl | exact wanted_on rfl rfl rfl (by first | assumption | (simp only [*]; done) | (simp [*]; done))) rfl rfl (by first | (simp only [List.map_toArray, List.map_cons, List.map_nil, Act.eval, Array.getD_eq_getD_getElem?, Option.getD_some, e118, e119, e113]; done) | (simp only [List.map_toArray, List.map_cons, List.map_nil, Act.eval, Array.getD_eq_getD_getElem?, Option.getD_some, e118, e119, e113]; rfl)) ?_
             with_reducible refine (fix_Add.calls kj36 a0_0 a0_1 a1_0 a1_1 t164 t165 _ A86.out).mono ?_
             rintro e w112 ⟨rfl, hb⟩
             refine ⟨_, rfl, ?_⟩
             have n0_ := Aside0.mk (Kd.R_below (by (with_reducible repeat (first | apply Kd.R_alloc | apply Kd.R_drewN | apply Kd.R_drew)); exact HO151.out) hb)
             have n1_ := Aside0.mk (Kd.R_below (by (with_reducible repeat (first | apply Kd.R_alloc | apply Kd.R_drewN | apply Kd.R_drew)); exact HO156.out) hb)
             have n2_ := Aside0.mk (Kd.R_below (by (with_reducible repeat (first | apply Kd.R_alloc | apply Kd.R_drewN | apply Kd.R_drew)); exact HO161.out) hb)
             have n3_ := Aside0.mk (blk_below (g := gb101) (o := .cells #[.bool a0_0, .int .i64 a0_1] 25 (0, 0)) (by (with_reducible repeat (first | refine blk_drewN ?_ _ | refine blk_drew ?_ | refine blk_alloc ?_ _)); exact BK101.out) hb)
             have n4_ := Aside0.mk (blk_below (g := gb102) (o := .cells #[.bool a1_0, .int .i64 a1_1] 25 (0, 0)) (by (with_reducible repeat (first | refine blk_drewN ?_ _ | refine blk_drew ?_ | refine blk_alloc ?_ _)); exact BK102.out) hb)
             have n5_ := Aside0.mk (blk_below (g := gb103) (o := .cells #[.bool a2_0, .int .i64 a2_1] 25 (0, 0)) (by (with_reducible repeat (first | refine blk_drewN ?_ _ | refine blk_drew ?_ | refine blk_alloc ?_ _)); exact BK103.out) hb)
             have n6_ := Aside0.mk (blk_below (g := gb140) (o := .cells #[.bool true, .int .i64 t139] 25 (0, 0)) (by (with_reducible repeat (first | refine blk_drewN ?_ _ | refine blk_drew ?_ | refine blk_alloc ?_ _)); exact BK140.out) hb)
             have n7_ := Aside0.mk (below_step (by repeat (first | (with_reducible first | exact HB.out | apply below_alloc | apply pw_below_drewN | apply below_drew1 | refine below_set ?_ GE101.out | refine below_set ?_ GE102.out | refine below_set ?_ GE103.out | refine below_set ?_ GE140.out) | exact HB.out)) hb)
             clear HO151
             clear HO156
             clear HO161
             clear BK101
             clear BK102
             clear BK103
             clear BK140
             clear HB
             have HO151 := n0_
             have HO156 := n1_
             have HO161 := n2_
             have BK101 := n3_
             have BK102 := n4_
             have BK103 := n5_
             have BK140 := n6_
             have HB := n7_
             clear n0_ n1_ n2_ n3_ n4_ n5_ n6_ n7_
             (try clear hb)
             (try clear hb2)
             (try clear hk)
             (try clear hi)
             refine hK.out _ _ ⟨v150, v155, v160, (by rw [ha.out]; exact putSel_upk 37 hb_ rfl rfl rfl), (by (with_reducible repeat (first | refine blk_drewN ?_ _ | refine blk_drew ?_ | refine blk_alloc ?_ _)); exact BK101.out), (by (with_reducible repeat (first | refine blk_drewN ?_ _ | refine blk_drew ?_ | refine blk_alloc ?_ _)); exact BK102.out), (by (with_reducible repeat (first | refine blk_drewN ?_ _ | refine blk_drew ?_ | refine blk_alloc ?_ _)); exact BK103.out), (by (with_reducible repeat (first | refine blk_drewN ?_ _ | refine blk_drew ?_ | refine blk_alloc ?_ _)); exact BK140.out), (by repeat (first | (with_reducible first | exact HB.out | apply below_alloc | apply pw_below_drewN | apply below_drew1 | refine below_set ?_ GE101.out | refine below_set ?_ GE102.out | refine below_set ?_ GE103.out | refine below_set ?_ GE140.out) | exact HB.out)), fun _ => (by (with_reducible repeat (first | apply Kd.R_alloc | apply Kd.R_drewN | apply Kd.R_drew)); exact HO151.out), fun _ => (by (with_reducible repeat (first | apply Kd.R_alloc | apply Kd.R_drewN | apply Kd.R_drew)); exact HO156.out), fun _ => (by (with_reducible repeat (first | apply Kd.R_alloc | apply Kd.R_drewN | apply Kd.R_drew)); exact HO161.out)⟩
            refine steps_cons ?_ ?_
            ·rintro b a w' ⟨v150, v155, v160, ha, Q_BK101, Q_BK102, Q_BK103, Q_BK140, Q_HB, Q_HO151, Q_HO156, Q_HO161⟩ hb_ hon hoff
             refine ⟨_, rfl, fun K hK => ?_⟩
             have e117 : a.tmps[117]? = some (.agg #[.bool t162, .int .i64 t163]) := by rw [ha]; exact putSel_on (e := (35, 117, .agg #[.bool t162, .int .i64 t163])) 34 rfl rfl (hon 35 (by kernel_rfl)) rfl
             have e120 : a.tmps[120]? = some (.agg #[.bool t164, .int .i64 t165]) := by rw [ha]; exact putSel_on (e := (38, 120, .agg #[.bool t164, .int .i64 t165])) 37 rfl rfl (hon 38 (by kernel_rfl)) rfl
             have e113 : a.tmps[113]? = some (.bool (t152 == t157 && (t153 == t158))) := by rw [ha]; exact putSel_on (e := (31, 113, .bool (t152 == t157 && (t153 == t158)))) 30 rfl rfl (hon 31 (by kernel_rfl)) rfl
             replace ha := Aside0.mk ha
             have BK101 := Aside0.mk Q_BK101
             have BK102 := Aside0.mk Q_BK102
             have BK103 := Aside0.mk Q_BK103
             have BK140 := Aside0.mk Q_BK140
             have HB := Aside0.mk Q_HB
             have HO151 := Aside0.mk (Q_HO151 (hon 22 (by kernel_rfl)))
             have HO156 := Aside0.mk (Q_HO156 (hon 27 (by kernel_rfl)))
             have HO161 := Aside0.mk (Q_HO161 (hon 34 (by kernel_rfl)))
             refine value_ (w1 := w') (v := .bool (t162 == t164 && (t163 == t165))) (wanted_on rfl rfl rfl (e113.trans (by first | rfl | exact congrArg (fun x_ => some (Value.bool x_)) (by assumption) | (simp [*]; done)))) rfl ?_ ?_
             ·go_simp
              (try simp only [i64_w])
              try rfl
             refine hK.out _ _ ⟨v150, v155, v160, (by rw [ha.out]; exact putSel_upk 38 hb_ rfl rfl rfl), Q_BK101, Q_BK102, Q_BK103, Q_BK140, Q_HB, Q_HO151, Q_HO156, Q_HO161⟩
            refine steps_cons ?_ ?_
            ·rintro b a w' ⟨v150, v155, v160, ha, Q_BK101, Q_BK102, Q_BK103, Q_BK140, Q_HB, Q_HO151, Q_HO156, Q_HO161⟩ hb_ hon hoff
             refine ⟨_, rfl, fun K hK => ?_⟩
             have e113 : a.tmps[113]? = some (.bool (t152 == t157 && (t153 == t158))) := by rw [ha]; exact putSel_on (e := (31, 113, .bool (t152 == t157 && (t153 == t158)))) 30 rfl rfl (hon 31 (by kernel_rfl)) rfl
             have e121 : a.tmps[121]? = some (.bool (t162 == t164 && (t163 == t165))) := by rw [ha]; exact putSel_on (e := (39, 121, .bool (t162 == t164 && (t163 == t165)))) 38 rfl rfl (hon 39 (by kernel_rfl)) rfl
             replace ha := Aside0.mk ha
             have BK101 := Aside0.mk Q_BK101
             have BK102 := Aside0.mk Q_BK102
             have BK103 := Aside0.mk Q_BK103
             have BK140 := Aside0.mk Q_BK140
             have HB := Aside0.mk Q_HB
             have HO151 := Aside0.mk (Q_HO151 (hon 22 (by kernel_rfl)))
             have HO156 := Aside0.mk (Q_HO156 (hon 27 (by kernel_rfl)))
             have HO161 := Aside0.mk (Q_HO161 (hon 34 (by kernel_rfl)))
             refine value_ (w1 := w') (v := .bool (t162 == t164 && (t163 == t165))) (by rfl) rfl ?_ ?_
             ·go_simp
              (try simp only [i64_w])
              try rfl
             refine hK.out _ _ ⟨v150, v155, v160, (by rw [ha.out]; exact putSel_upk 39 hb_ rfl rfl rfl), Q_BK101, Q_BK102, Q_BK103, Q_BK140, Q_HB, Q_HO151, Q_HO156, Q_HO161⟩
            refine steps_cons ?_ ?_
            ·rintro b a w' ⟨v150, v155, v160, ha, Q_BK101, Q_BK102, Q_BK103, Q_BK140, Q_HB, Q_HO151, Q_HO156, Q_HO161⟩ hb_ hon hoff
             refine ⟨_, rfl, fun K hK => ?_⟩
             have e122 : a.tmps[122]? = some (.bool (t162 == t164 && (t163 == t165))) := by rw [ha]; exact putSel_on (e := (40, 122, .bool (t162 == t164 && (t163 == t165)))) 39 rfl rfl (hon 40 (by kernel_rfl)) rfl
             replace ha := Aside0.mk ha
             have BK101 := Aside0.mk Q_BK101
             have BK102 := Aside0.mk Q_BK102
             have BK103 := Aside0.mk Q_BK103
             have BK140 := Aside0.mk Q_BK140
             have HB := Aside0.mk Q_HB
             have HO151 := Aside0.mk (Q_HO151 (hon 22 (by kernel_rfl)))
             have HO156 := Aside0.mk (Q_HO156 (hon 27 (by kernel_rfl)))
             have HO161 := Aside0.mk (Q_HO161 (hon 34 (by kernel_rfl)))
             refine value_ (w1 := w') (v := .bool (t162 == t164 && (t163 == t165))) (by rfl) rfl ?_ ?_
             ·go_simp
              (try simp only [i64_w])
              try rfl
             refine hK.out _ _ ⟨v150, v155, v160, (by rw [ha.out]; exact putSel_upk 40 hb_ rfl rfl rfl), Q_BK101, Q_BK102, Q_BK103, Q_BK140, Q_HB, Q_HO151, Q_HO156, Q_HO161⟩
            exact steps_nil
           rintro b a w112 hall ⟨v150, v155, v160, ha, Q_BK101, Q_BK102, Q_BK103, Q_BK140, Q_HB, Q_HO151, Q_HO156, Q_HO161⟩
           clear BK101 BK102 BK103 BK140 HB
           have hb1_ := hall 1 (by kernel_rfl)
           have hb2_ := hall 2 (by kernel_rfl)
           have hb3_ := hall 3 (by kernel_rfl)
           have hb4_ := hall 4 (by kernel_rfl)
           have hb5_ := hall 5 (by kernel_rfl)
           have hb6_ := hall 6 (by kernel_rfl)
           have hb7_ := hall 7 (by kernel_rfl)
           have hb8_ := hall 8 (by kernel_rfl)
           have hb9_ := hall 9 (by kernel_rfl)
           have hb10_ := hall 10 (by kernel_rfl)
           have hb11_ := hall 11 (by kernel_rfl)
           have hb12_ := hall 12 (by kernel_rfl)
           have hb13_ := hall 13 (by kernel_rfl)
           have hb14_ := hall 14 (by kernel_rfl)
           have hb15_ := hall 15 (by kernel_rfl)
           have hb16_ := hall 16 (by kernel_rfl)
           have hb17_ := hall 17 (by kernel_rfl)
           have hb18_ := hall 18 (by kernel_rfl)
           have hb19_ := hall 19 (by kernel_rfl)
           have hb20_ := hall 20 (by kernel_rfl)
           have hb21_ := hall 21 (by kernel_rfl)
           have hb22_ := hall 22 (by kernel_rfl)
           have hb23_ := hall 23 (by kernel_rfl)
           have hb24_ := hall 24 (by kernel_rfl)
           have hb25_ := hall 25 (by kernel_rfl)
           have hb26_ := hall 26 (by kernel_rfl)
           have hb27_ := hall 27 (by kernel_rfl)
           have hb28_ := hall 28 (by kernel_rfl)
           have hb29_ := hall 29 (by kernel_rfl)
           have hb30_ := hall 30 (by kernel_rfl)
           have hb31_ := hall 31 (by kernel_rfl)
           have hb32_ := hall 32 (by kernel_rfl)
           have hb33_ := hall 33 (by kernel_rfl)
           have hb34_ := hall 34 (by kernel_rfl)
           have hb35_ := hall 35 (by kernel_rfl)
           have hb36_ := hall 36 (by kernel_rfl)
           have hb37_ := hall 37 (by kernel_rfl)
           have hb38_ := hall 38 (by kernel_rfl)
           have hb39_ := hall 39 (by kernel_rfl)
           have hb40_ := hall 40 (by kernel_rfl)
           have hb41_ := hall 41 (by kernel_rfl)
           subst ha
           simp only [putSel, hb1_, hb2_, hb3_, hb4_, hb5_, hb6_, hb7_, hb8_, hb9_, hb10_, hb11_, hb12_, hb13_, hb14_, hb15_, hb16_, hb17_, hb18_, hb19_, hb20_, hb21_, hb22_, hb23_, hb24_, hb25_, hb26_, hb27_, hb28_, hb29_, hb30_, hb31_, hb32_, hb33_, hb34_, hb35_, hb36_, hb37_, hb38_, hb39_, hb40_, hb41_, if_true, Act.put, List.setIfInBounds_toArray, List.set_cons_zero, List.set_cons_succ]
           have BK101 := Aside0.mk Q_BK101
           clear Q_BK101
           have BK102 := Aside0.mk Q_BK102
           clear Q_BK102
           have BK103 := Aside0.mk Q_BK103
           clear Q_BK103
           have BK140 := Aside0.mk Q_BK140
           clear Q_BK140
           have HB := Aside0.mk Q_HB
           clear Q_HB
           have HO151 := Aside0.mk (Q_HO151 hb22_)
           clear Q_HO151
           have HO156 := Aside0.mk (Q_HO156 hb27_)
           clear Q_HO156
           have HO161 := Aside0.mk (Q_HO161 hb34_)
           clear Q_HO161
           clear hall hb1_ hb2_ hb3_ hb4_ hb5_ hb6_ hb7_ hb8_ hb9_ hb10_ hb11_ hb12_ hb13_ hb14_ hb15_ hb16_ hb17_ hb18_ hb19_ hb20_ hb21_ hb22_ hb23_ hb24_ hb25_ hb26_ hb27_ hb28_ hb29_ hb30_ hb31_ hb32_ hb33_ hb34_ hb35_ hb36_ hb37_ hb38_ hb39_ hb40_ hb41_
           try go_wp2
           go_ret
           exact ⟨by first | rfl | (simp [errW_none, errW_some] <;> rfl) | (simp [*, errW_none, errW_some] <;> rfl), by repeat (first | (with_reducible first | exact HB.out | apply below_alloc | apply pw_below_drewN | apply below_drew1 | refine below_set ?_ GE101.out | refine below_set ?_ GE102.out | refine below_set ?_ GE103.out | refine below_set ?_ GE140.out) | exact HB.out)⟩
          ·rw [if_neg c84] at H
           have c84b0 : (t152 == t157 && (t153 == t158)) = false := by simpa using c84
           (try (have c84b1 : decide (t152 = t157 && (t153 == t158)) = false := by simpa using c84))
           (try (have c84b2 : (t152 == t157 && (t153 == t158)) = false := by simpa using c84))
           (try (have c84b3 : ¬ (t152 = t157 && (t153 == t158)) := by simpa using c84))
           clear c84
           exact absurd H (by simp)
         ·rw [if_neg c81] at H
          have c81b0 : (t143 == t147 && (t144 == t148)) = false := by simpa using c81
          (try (have c81b1 : decide (t143 = t147 && (t144 == t148)) = false := by simpa using c81))
          (try (have c81b2 : (t143 == t147 && (t144 == t148)) = false := by simpa using c81))
          (try (have c81b3 : ¬ (t143 = t147 && (t144 == t148)) := by simpa using c81))
          clear c81
          exact absurd H (by simp)
        ·replace c76 := Bool.eq_false_iff.mpr c76
         subst c76
         have H1 : (none) = some r := by rw [if_neg (show ¬ (false = true) by decide)] at H; exact H
         clear H
         have H := H1
         clear H1
         exact absurd H (by simp)
 ·replace c5 := Bool.eq_false_iff.mpr c5
  subst c5
  have H1 : (none) = some r := by rw [if_neg (show ¬ (false = true) by decide)] at H; exact H
  clear H
  have H := H1
  clear H1
  exact absurd H (by simp)

end Go.Proofs.YtjaolddgnijgiaaDoor.E
