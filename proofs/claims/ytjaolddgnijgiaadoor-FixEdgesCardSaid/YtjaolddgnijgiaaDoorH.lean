-- PRINTED by print.py (a twelfth state) out of the translation. Not trusted: Lean checks it.
import Derived.Test.YtjaolddgnijgiaaDoorPrint0
import Derived.Test.YtjaolddgnijgiaaDoorPrint1
import Derived.ChangeKeysEq
import Derived.Test.YtjaolddgnijgiaaDoorPrint26
import Derived.Test.YtjaolddgnijgiaaDoorPrint28
import Derived.Test.YtjaolddgnijgiaaDoorPrint29
import Derived.Test.YtjaolddgnijgiaaDoorPrint31
import Derived.Test.YtjaolddgnijgiaaDoorPrint32
import Derived.Test.YtjaolddgnijgiaaDoorPrint34
import Derived.Test.YtjaolddgnijgiaaDoorPrint8
import Derived.Test.YtjaolddgnijgiaaDoorIs
import Derived.Test.YtjaolddgnijgiaaDoorKnown
namespace Go.Proofs.YtjaolddgnijgiaaDoor.H
open Go.RowKit Go.Proofs.YtjaolddgnijgiaaDoorX Go.Proofs.YtjaolddgnijgiaaDoor.Print Go.Proofs.YtjaolddgnijgiaaDoorW.PrintWords Go.Proofs.YtjaolddgnijgiaaDoorW.PrintLast Go.Proofs.YtjaolddgnijgiaaDoorW.PrintMore
attribute [local go_sem] max2_int min2_int max_two min_two max_three min_three max_four min_four   -- for this text's walks alone
set_option linter.unusedVariables false
set_option linter.unusedSimpArgs false

attribute [local go_sem high] eqA25
theorem field25 (W : World) (b : Bool) (n : Int) : (Instr.field 25 (.agg #[.bool b, .int .i64 n]) 0).run Tryd.prog W = .ok (.bool b) W := by
  unfold Instr.field
  simp only [Sem.run_bind, run_underlying Tryd.underlying25, Result.andThen_ok]
  exact run_part_plain W (e := 4) (by kernel_rfl) rfl
attribute [local go_sem high] field25
/-! ### spillwaylaw2_FixEdges: function 9 -/
def spillwaylaw2_FixEdges.f (k : Nat) (a0 : Int) (a1_0 : Bool) (a1_1 : Int) : Option (Bool) := (spillwaylaw2_known.f).bind fun t102 => (if t102 = true then ((fix_Add.f k false 9223372036854775807 false (wrap64 (a0))).bind fun bt106 => (if (bt106.1 != (decide (a0 > 0))) = true then (none) else ((fix_Neg.f false 9223372036854775807).bind fun bt108 => ((fix_Sub.f k bt108.1 bt108.2 false (wrap64 (a0))).bind fun bt110 => (if (bt110.1 != (decide (a0 > 0))) = true then (none) else ((fix_Sub.f k false 9223372036854775807 false (wrap64 (a0))).bind fun bt112 => (if bt112.1 = true then (none) else ((fix_Is.f false 9223372036854775807).bind fun t114 => (if t114 = true then ((fix_Is.f false (-9223372036854775808)).bind fun t115 => (if t115 = true then (none) else ((fix_Neg.f false 9223372036854775807).bind fun bt116 => ((fix_Sum.f k (([(⟨false, 9223372036854775807⟩ : S25), (⟨false, wrap64 (a0)⟩ : S25), (⟨bt116.1, bt116.2⟩ : S25)] : List (S25)))).bind fun bt121 => (if (!bt121.1 && (bt121.2 == (wrap64 (a0)))) = true then ((fix_Of.f k 2).bind fun bt123 => ((fix_Mul.f k false 9223372036854775807 bt123.1 bt123.2).bind fun bt125 => (if (bt125.1 && (bt125.2 == 0)) = true then ((fix_Div.f k false 9223372036854775807 false 500000).bind fun bt127 => (some (bt127.1 && (bt127.2 == 0)))) else (none)))) else (none)))))) else (none)))))))))) else (none))
theorem spillwaylaw2_FixEdges.mono : ∀ a0 a1 a2 k, LeO (spillwaylaw2_FixEdges.f k a0 a1 a2) (spillwaylaw2_FixEdges.f (k + 1) a0 a1 a2) := by
  intro a0 a1 a2 k
  unfold spillwaylaw2_FixEdges.f
  repeat' first
      | (with_reducible exact fix_Add.mono _ _ _ _ _)
      | (with_reducible exact fix_Div.mono _ _ _ _ _)
      | (with_reducible exact fix_Mul.mono _ _ _ _ _)
      | (with_reducible exact fix_Of.mono _ _)
      | (with_reducible exact fix_Sub.mono _ _ _ _ _)
      | (with_reducible exact fix_Sum.mono _ _)
      | (with_reducible exact LeO.refl _)
      | (with_reducible exact LeO.none _)
      | (with_reducible refine LeO.ite ?_ ?_)
      | (with_reducible refine LeO.bind ?_ (fun _ => ?_))
      | exact fix_Add.mono _ _ _ _ _
      | exact fix_Div.mono _ _ _ _ _
      | exact fix_Mul.mono _ _ _ _ _
      | exact fix_Of.mono _ _
      | exact fix_Sub.mono _ _ _ _ _
      | exact fix_Sum.mono _ _
      | exact LeO.none _
      | refine LeO.ite ?_ ?_
      | refine LeO.bind ?_ (fun _ => ?_)
def spillwaylaw2_FixEdges.T6 : Bool × List (List Nat × List Nat) := (true, [([], []), ([], []), ([0, 1], [0, 1]), ([2], [2]), ([], []), ([4], [4]), ([3, 5], [3, 5]), ([6, 2], [6]), ([7], [7]), ([8, 7, 7], [7, 8]), ([7], [7]), ([9, 10, 9, 7], [7, 9, 10]), ([11, 7], [7, 11]), ([7], [7]), ([13, 7], [7, 13]), ([12, 14, 7], [7, 12, 14]), ([7, 15], [7, 15]), ([16, 11], [16]), ([17], [17]), ([17], [17]), ([18, 19, 17, 17], [17, 18, 19]), ([20, 17], [17, 20]), ([17, 21], [17, 21]), ([22, 20], [22]), ([23], [23]), ([24, 23, 23], [23, 24]), ([25, 23], [23, 25]), ([23, 26], [23, 26]), ([27, 25], [27]), ([28], [28]), ([29, 28, 28], [28, 29]), ([28, 30], [28, 30])])
def spillwaylaw2_FixEdges.B6 : List Nat := [0, 0, 3, 7, 0, 16, 63, 127, 255, 511, 255, 2047, 4095, 255, 8447, 32767, 65535, 131071, 262143, 262143, 1048575, 2097151, 4194303, 8388607, 16777215, 33554431, 67108863, 134217727, 268435455, 536870911, 1073741823, 2147483647]
theorem spillwaylaw2_FixEdges.tab6 : rtab .any (opsOf Tryd.f9 6) = spillwaylaw2_FixEdges.T6 := by kernel_rfl
theorem spillwaylaw2_FixEdges.bits6 : waitsOk spillwaylaw2_FixEdges.T6.2 spillwaylaw2_FixEdges.B6 = true := by kernel_rfl
def spillwaylaw2_FixEdges.T14 : Bool × List (List Nat × List Nat) := (true, [([], []), ([], []), ([], []), ([2], [2]), ([0, 1, 3], [0, 1, 3]), ([4, 3], [4]), ([], []), ([5, 6], [5, 6]), ([7, 5], [7]), ([8], [8]), ([8, 8], [8]), ([9, 10, 10, 8], [8, 9, 10]), ([8], [8]), ([11, 12, 8], [8, 11, 12]), ([8, 13], [8, 13]), ([14, 11], [14]), ([15], [15]), ([15], [15]), ([16, 17, 15, 15], [15, 16, 17]), ([15], [15]), ([18, 19, 15], [15, 18, 19]), ([15, 20], [15, 20]), ([21, 18, 0, 1, 2, 3, 4, 5, 6, 7, 8, 9, 10, 11, 12, 13, 14, 15, 16, 17, 18, 19, 20, 21], [21])])
def spillwaylaw2_FixEdges.B14 : List Nat := [0, 0, 0, 4, 15, 31, 0, 127, 255, 511, 511, 2047, 511, 8191, 16383, 32767, 65535, 65535, 262143, 65535, 1048575, 2097151, 4194303]
theorem spillwaylaw2_FixEdges.tab14 : rtab .any (opsOf Tryd.f9 14) = spillwaylaw2_FixEdges.T14 := by kernel_rfl
theorem spillwaylaw2_FixEdges.bits14 : waitsOk spillwaylaw2_FixEdges.T14.2 spillwaylaw2_FixEdges.B14 = true := by kernel_rfl
set_option maxHeartbeats 8000000 in
set_option maxRecDepth 100000 in
theorem spillwaylaw2_FixEdges.calls (k : Nat) (a0 : Int) (a1_0 : Bool) (a1_1 : Int) (r : Bool) (w : World) (hg_ : LaidW w) (E1 : Aside0 (fix_Add.f 1200 true 0 a1_0 a1_1 = some (true, 0))) (E2 : Aside0 (fix_Sub.f 1200 a1_0 a1_1 true 0 = some (true, 0))) (E3 : Aside0 (fix_Mul.f 1200 true 0 a1_0 a1_1 = some (true, 0))) (E4 : Aside0 (fix_Div.f 1200 a1_0 a1_1 true 0 = some (true, 0))) (E5 : Aside0 (fix_Neg.f true 0 = some (true, 0))) (h : spillwaylaw2_FixEdges.f k a0 a1_0 a1_1 = some r) (hr_ : r = true) :
    Calls Tryd.prog 9 #[.int .u32 a0, .agg #[.bool a1_0, .int .i64 a1_1]] w fun e w' => e = .returned (.bool r) ∧ Below w.heap.size w w' := by
  have HRT := Aside0.mk hr_
  clear hr_
  have HLW := Aside0.mk hg_
  clear hg_
  have hu25 := Tryd.underlying25
  have HB := Aside0.mk (Below.refl w.heap.size w)
  have H : ((spillwaylaw2_known.f).bind fun t102 => (if t102 = true then ((fix_Add.f k false 9223372036854775807 false (wrap64 (a0))).bind fun bt106 => (if (bt106.1 != (decide (a0 > 0))) = true then (none) else ((fix_Neg.f false 9223372036854775807).bind fun bt108 => ((fix_Sub.f k bt108.1 bt108.2 false (wrap64 (a0))).bind fun bt110 => (if (bt110.1 != (decide (a0 > 0))) = true then (none) else ((fix_Sub.f k false 9223372036854775807 false (wrap64 (a0))).bind fun bt112 => (if bt112.1 = true then (none) else ((fix_Is.f false 9223372036854775807).bind fun t114 => (if t114 = true then ((fix_Is.f false (-9223372036854775808)).bind fun t115 => (if t115 = true then (none) else ((fix_Neg.f false 9223372036854775807).bind fun bt116 => ((fix_Sum.f k (([(⟨false, 9223372036854775807⟩ : S25), (⟨false, wrap64 (a0)⟩ : S25), (⟨bt116.1, bt116.2⟩ : S25)] : List (S25)))).bind fun bt121 => (if (!bt121.1 && (bt121.2 == (wrap64 (a0)))) = true then ((fix_Of.f k 2).bind fun bt123 => ((fix_Mul.f k false 9223372036854775807 bt123.1 bt123.2).bind fun bt125 => (if (bt125.1 && (bt125.2 == 0)) = true then ((fix_Div.f k false 9223372036854775807 false 500000).bind fun bt127 => (some (bt127.1 && (bt127.2 == 0)))) else (none)))) else (none)))))) else (none)))))))))) else (none))) = some r := h
  clear h
  replace H := Option.bind_eq_some_iff.mp H
  obtain ⟨t102, A30, H⟩ := H
  replace H : (if t102 = true then ((fix_Add.f k false 9223372036854775807 false (wrap64 (a0))).bind fun bt106 => (if (bt106.1 != (decide (a0 > 0))) = true then (none) else ((fix_Neg.f false 9223372036854775807).bind fun bt108 => ((fix_Sub.f k bt108.1 bt108.2 false (wrap64 (a0))).bind fun bt110 => (if (bt110.1 != (decide (a0 > 0))) = true then (none) else ((fix_Sub.f k false 9223372036854775807 false (wrap64 (a0))).bind fun bt112 => (if bt112.1 = true then (none) else ((fix_Is.f false 9223372036854775807).bind fun t114 => (if t114 = true then ((fix_Is.f false (-9223372036854775808)).bind fun t115 => (if t115 = true then (none) else ((fix_Neg.f false 9223372036854775807).bind fun bt116 => ((fix_Sum.f k (([(⟨false, 9223372036854775807⟩ : S25), (⟨false, wrap64 (a0)⟩ : S25), (⟨bt116.1, bt116.2⟩ : S25)] : List (S25)))).bind fun bt121 => (if (!bt121.1 && (bt121.2 == (wrap64 (a0)))) = true then ((fix_Of.f k 2).bind fun bt123 => ((fix_Mul.f k false 9223372036854775807 bt123.1 bt123.2).bind fun bt125 => (if (bt125.1 && (bt125.2 == 0)) = true then ((fix_Div.f k false 9223372036854775807 false 500000).bind fun bt127 => (some (bt127.1 && (bt127.2 == 0)))) else (none)))) else (none)))))) else (none)))))))))) else (none)) = some r := H
  have A3 := Aside0.mk A30
  clear A30
  by_cases c4 : t102 = true
  · subst c4
    have H1 : ((fix_Add.f k false 9223372036854775807 false (wrap64 (a0))).bind fun bt106 => (if (bt106.1 != (decide (a0 > 0))) = true then (none) else ((fix_Neg.f false 9223372036854775807).bind fun bt108 => ((fix_Sub.f k bt108.1 bt108.2 false (wrap64 (a0))).bind fun bt110 => (if (bt110.1 != (decide (a0 > 0))) = true then (none) else ((fix_Sub.f k false 9223372036854775807 false (wrap64 (a0))).bind fun bt112 => (if bt112.1 = true then (none) else ((fix_Is.f false 9223372036854775807).bind fun t114 => (if t114 = true then ((fix_Is.f false (-9223372036854775808)).bind fun t115 => (if t115 = true then (none) else ((fix_Neg.f false 9223372036854775807).bind fun bt116 => ((fix_Sum.f k (([(⟨false, 9223372036854775807⟩ : S25), (⟨false, wrap64 (a0)⟩ : S25), (⟨bt116.1, bt116.2⟩ : S25)] : List (S25)))).bind fun bt121 => (if (!bt121.1 && (bt121.2 == (wrap64 (a0)))) = true then ((fix_Of.f k 2).bind fun bt123 => ((fix_Mul.f k false 9223372036854775807 bt123.1 bt123.2).bind fun bt125 => (if (bt125.1 && (bt125.2 == 0)) = true then ((fix_Div.f k false 9223372036854775807 false 500000).bind fun bt127 => (some (bt127.1 && (bt127.2 == 0)))) else (none)))) else (none)))))) else (none)))))))))) = some r := by rw [if_pos rfl] at H; exact H
    clear H
    have H := H1
    clear H1
    replace H := Option.bind_eq_some_iff.mp H
    obtain ⟨⟨t106, t107⟩, A50, H⟩ := H
    replace H : (if (t106 != (decide (a0 > 0))) = true then (none) else ((fix_Neg.f false 9223372036854775807).bind fun bt108 => ((fix_Sub.f k bt108.1 bt108.2 false (wrap64 (a0))).bind fun bt110 => (if (bt110.1 != (decide (a0 > 0))) = true then (none) else ((fix_Sub.f k false 9223372036854775807 false (wrap64 (a0))).bind fun bt112 => (if bt112.1 = true then (none) else ((fix_Is.f false 9223372036854775807).bind fun t114 => (if t114 = true then ((fix_Is.f false (-9223372036854775808)).bind fun t115 => (if t115 = true then (none) else ((fix_Neg.f false 9223372036854775807).bind fun bt116 => ((fix_Sum.f k (([(⟨false, 9223372036854775807⟩ : S25), (⟨false, wrap64 (a0)⟩ : S25), (⟨bt116.1, bt116.2⟩ : S25)] : List (S25)))).bind fun bt121 => (if (!bt121.1 && (bt121.2 == (wrap64 (a0)))) = true then ((fix_Of.f k 2).bind fun bt123 => ((fix_Mul.f k false 9223372036854775807 bt123.1 bt123.2).bind fun bt125 => (if (bt125.1 && (bt125.2 == 0)) = true then ((fix_Div.f k false 9223372036854775807 false 500000).bind fun bt127 => (some (bt127.1 && (bt127.2 == 0)))) else (none)))) else (none)))))) else (none))))))))) = some r := H
    have A5 := Aside0.mk A50
    clear A50
    by_cases c6 : (t106 != (decide (a0 > 0))) = true
    · rw [if_pos c6] at H
      exact absurd H (by simp)
    · rw [if_neg c6] at H
      have c6b0 : (t106 != (decide (a0 > 0))) = false := by simpa using c6
      (try (have c6b1 : decide (t106 = (decide (a0 > 0))) = true := by simpa using c6))
      (try (have c6b2 : (t106 == (decide (a0 > 0))) = true := by simpa using c6))
      clear c6
      replace H := Option.bind_eq_some_iff.mp H
      obtain ⟨⟨t108, t109⟩, A70, H⟩ := H
      replace H : ((fix_Sub.f k t108 t109 false (wrap64 (a0))).bind fun bt110 => (if (bt110.1 != (decide (a0 > 0))) = true then (none) else ((fix_Sub.f k false 9223372036854775807 false (wrap64 (a0))).bind fun bt112 => (if bt112.1 = true then (none) else ((fix_Is.f false 9223372036854775807).bind fun t114 => (if t114 = true then ((fix_Is.f false (-9223372036854775808)).bind fun t115 => (if t115 = true then (none) else ((fix_Neg.f false 9223372036854775807).bind fun bt116 => ((fix_Sum.f k (([(⟨false, 9223372036854775807⟩ : S25), (⟨false, wrap64 (a0)⟩ : S25), (⟨bt116.1, bt116.2⟩ : S25)] : List (S25)))).bind fun bt121 => (if (!bt121.1 && (bt121.2 == (wrap64 (a0)))) = true then ((fix_Of.f k 2).bind fun bt123 => ((fix_Mul.f k false 9223372036854775807 bt123.1 bt123.2).bind fun bt125 => (if (bt125.1 && (bt125.2 == 0)) = true then ((fix_Div.f k false 9223372036854775807 false 500000).bind fun bt127 => (some (bt127.1 && (bt127.2 == 0)))) else (none)))) else (none)))))) else (none))))))) = some r := H
      have A7 := Aside0.mk A70
      clear A70
      replace H := Option.bind_eq_some_iff.mp H
      obtain ⟨⟨t110, t111⟩, A80, H⟩ := H
      replace H : (if (t110 != (decide (a0 > 0))) = true then (none) else ((fix_Sub.f k false 9223372036854775807 false (wrap64 (a0))).bind fun bt112 => (if bt112.1 = true then (none) else ((fix_Is.f false 9223372036854775807).bind fun t114 => (if t114 = true then ((fix_Is.f false (-9223372036854775808)).bind fun t115 => (if t115 = true then (none) else ((fix_Neg.f false 9223372036854775807).bind fun bt116 => ((fix_Sum.f k (([(⟨false, 9223372036854775807⟩ : S25), (⟨false, wrap64 (a0)⟩ : S25), (⟨bt116.1, bt116.2⟩ : S25)] : List (S25)))).bind fun bt121 => (if (!bt121.1 && (bt121.2 == (wrap64 (a0)))) = true then ((fix_Of.f k 2).bind fun bt123 => ((fix_Mul.f k false 9223372036854775807 bt123.1 bt123.2).bind fun bt125 => (if (bt125.1 && (bt125.2 == 0)) = true then ((fix_Div.f k false 9223372036854775807 false 500000).bind fun bt127 => (some (bt127.1 && (bt127.2 == 0)))) else (none)))) else (none)))))) else (none)))))) = some r := H
      have A8 := Aside0.mk A80
      clear A80
      by_cases c9 : (t110 != (decide (a0 > 0))) = true
      · rw [if_pos c9] at H
        exact absurd H (by simp)
      · rw [if_neg c9] at H
        have c9b0 : (t110 != (decide (a0 > 0))) = false := by simpa using c9
        (try (have c9b1 : decide (t110 = (decide (a0 > 0))) = true := by simpa using c9))
        (try (have c9b2 : (t110 == (decide (a0 > 0))) = true := by simpa using c9))
        clear c9
        replace H := Option.bind_eq_some_iff.mp H
        obtain ⟨⟨t112, t113⟩, A100, H⟩ := H
        replace H : (if t112 = true then (none) else ((fix_Is.f false 9223372036854775807).bind fun t114 => (if t114 = true then ((fix_Is.f false (-9223372036854775808)).bind fun t115 => (if t115 = true then (none) else ((fix_Neg.f false 9223372036854775807).bind fun bt116 => ((fix_Sum.f k (([(⟨false, 9223372036854775807⟩ : S25), (⟨false, wrap64 (a0)⟩ : S25), (⟨bt116.1, bt116.2⟩ : S25)] : List (S25)))).bind fun bt121 => (if (!bt121.1 && (bt121.2 == (wrap64 (a0)))) = true then ((fix_Of.f k 2).bind fun bt123 => ((fix_Mul.f k false 9223372036854775807 bt123.1 bt123.2).bind fun bt125 => (if (bt125.1 && (bt125.2 == 0)) = true then ((fix_Div.f k false 9223372036854775807 false 500000).bind fun bt127 => (some (bt127.1 && (bt127.2 == 0)))) else (none)))) else (none)))))) else (none)))) = some r := H
        have A10 := Aside0.mk A100
        clear A100
        by_cases c11 : t112 = true
        · subst c11
          have H1 : (none) = some r := by rw [if_pos rfl] at H; exact H
          clear H
          have H := H1
          clear H1
          exact absurd H (by simp)
        · replace c11 := Bool.eq_false_iff.mpr c11
          subst c11
          have H1 : ((fix_Is.f false 9223372036854775807).bind fun t114 => (if t114 = true then ((fix_Is.f false (-9223372036854775808)).bind fun t115 => (if t115 = true then (none) else ((fix_Neg.f false 9223372036854775807).bind fun bt116 => ((fix_Sum.f k (([(⟨false, 9223372036854775807⟩ : S25), (⟨false, wrap64 (a0)⟩ : S25), (⟨bt116.1, bt116.2⟩ : S25)] : List (S25)))).bind fun bt121 => (if (!bt121.1 && (bt121.2 == (wrap64 (a0)))) = true then ((fix_Of.f k 2).bind fun bt123 => ((fix_Mul.f k false 9223372036854775807 bt123.1 bt123.2).bind fun bt125 => (if (bt125.1 && (bt125.2 == 0)) = true then ((fix_Div.f k false 9223372036854775807 false 500000).bind fun bt127 => (some (bt127.1 && (bt127.2 == 0)))) else (none)))) else (none)))))) else (none))) = some r := by rw [if_neg (show ¬ (false = true) by decide)] at H; exact H
          clear H
          have H := H1
          clear H1
          replace H := Option.bind_eq_some_iff.mp H
          obtain ⟨t114, A120, H⟩ := H
          replace H : (if t114 = true then ((fix_Is.f false (-9223372036854775808)).bind fun t115 => (if t115 = true then (none) else ((fix_Neg.f false 9223372036854775807).bind fun bt116 => ((fix_Sum.f k (([(⟨false, 9223372036854775807⟩ : S25), (⟨false, wrap64 (a0)⟩ : S25), (⟨bt116.1, bt116.2⟩ : S25)] : List (S25)))).bind fun bt121 => (if (!bt121.1 && (bt121.2 == (wrap64 (a0)))) = true then ((fix_Of.f k 2).bind fun bt123 => ((fix_Mul.f k false 9223372036854775807 bt123.1 bt123.2).bind fun bt125 => (if (bt125.1 && (bt125.2 == 0)) = true then ((fix_Div.f k false 9223372036854775807 false 500000).bind fun bt127 => (some (bt127.1 && (bt127.2 == 0)))) else (none)))) else (none)))))) else (none)) = some r := H
          have A12 := Aside0.mk A120
          clear A120
          by_cases c13 : t114 = true
          · subst c13
            have H1 : ((fix_Is.f false (-9223372036854775808)).bind fun t115 => (if t115 = true then (none) else ((fix_Neg.f false 9223372036854775807).bind fun bt116 => ((fix_Sum.f k (([(⟨false, 9223372036854775807⟩ : S25), (⟨false, wrap64 (a0)⟩ : S25), (⟨bt116.1, bt116.2⟩ : S25)] : List (S25)))).bind fun bt121 => (if (!bt121.1 && (bt121.2 == (wrap64 (a0)))) = true then ((fix_Of.f k 2).bind fun bt123 => ((fix_Mul.f k false 9223372036854775807 bt123.1 bt123.2).bind fun bt125 => (if (bt125.1 && (bt125.2 == 0)) = true then ((fix_Div.f k false 9223372036854775807 false 500000).bind fun bt127 => (some (bt127.1 && (bt127.2 == 0)))) else (none)))) else (none)))))) = some r := by rw [if_pos rfl] at H; exact H
            clear H
            have H := H1
            clear H1
            replace H := Option.bind_eq_some_iff.mp H
            obtain ⟨t115, A140, H⟩ := H
            replace H : (if t115 = true then (none) else ((fix_Neg.f false 9223372036854775807).bind fun bt116 => ((fix_Sum.f k (([(⟨false, 9223372036854775807⟩ : S25), (⟨false, wrap64 (a0)⟩ : S25), (⟨bt116.1, bt116.2⟩ : S25)] : List (S25)))).bind fun bt121 => (if (!bt121.1 && (bt121.2 == (wrap64 (a0)))) = true then ((fix_Of.f k 2).bind fun bt123 => ((fix_Mul.f k false 9223372036854775807 bt123.1 bt123.2).bind fun bt125 => (if (bt125.1 && (bt125.2 == 0)) = true then ((fix_Div.f k false 9223372036854775807 false 500000).bind fun bt127 => (some (bt127.1 && (bt127.2 == 0)))) else (none)))) else (none))))) = some r := H
            have A14 := Aside0.mk A140
            clear A140
            by_cases c15 : t115 = true
            · subst c15
              have H1 : (none) = some r := by rw [if_pos rfl] at H; exact H
              clear H
              have H := H1
              clear H1
              exact absurd H (by simp)
            · replace c15 := Bool.eq_false_iff.mpr c15
              subst c15
              have H1 : ((fix_Neg.f false 9223372036854775807).bind fun bt116 => ((fix_Sum.f k (([(⟨false, 9223372036854775807⟩ : S25), (⟨false, wrap64 (a0)⟩ : S25), (⟨bt116.1, bt116.2⟩ : S25)] : List (S25)))).bind fun bt121 => (if (!bt121.1 && (bt121.2 == (wrap64 (a0)))) = true then ((fix_Of.f k 2).bind fun bt123 => ((fix_Mul.f k false 9223372036854775807 bt123.1 bt123.2).bind fun bt125 => (if (bt125.1 && (bt125.2 == 0)) = true then ((fix_Div.f k false 9223372036854775807 false 500000).bind fun bt127 => (some (bt127.1 && (bt127.2 == 0)))) else (none)))) else (none)))) = some r := by rw [if_neg (show ¬ (false = true) by decide)] at H; exact H
              clear H
              have H := H1
              clear H1
              replace H := Option.bind_eq_some_iff.mp H
              obtain ⟨⟨t116, t117⟩, A160, H⟩ := H
              replace H : ((fix_Sum.f k (([(⟨false, 9223372036854775807⟩ : S25), (⟨false, wrap64 (a0)⟩ : S25), (⟨t116, t117⟩ : S25)] : List (S25)))).bind fun bt121 => (if (!bt121.1 && (bt121.2 == (wrap64 (a0)))) = true then ((fix_Of.f k 2).bind fun bt123 => ((fix_Mul.f k false 9223372036854775807 bt123.1 bt123.2).bind fun bt125 => (if (bt125.1 && (bt125.2 == 0)) = true then ((fix_Div.f k false 9223372036854775807 false 500000).bind fun bt127 => (some (bt127.1 && (bt127.2 == 0)))) else (none)))) else (none))) = some r := H
              have A16 := Aside0.mk A160
              clear A160
              obtain ⟨y118, hy118⟩ : ∃ y_ : List (S25), y_ = (([(⟨false, 9223372036854775807⟩ : S25), (⟨false, wrap64 (a0)⟩ : S25), (⟨t116, t117⟩ : S25)] : List (S25))) := ⟨_, rfl⟩
              replace H : ((fix_Sum.f k y118).bind fun bt121 => (if (!bt121.1 && (bt121.2 == (wrap64 (a0)))) = true then ((fix_Of.f k 2).bind fun bt123 => ((fix_Mul.f k false 9223372036854775807 bt123.1 bt123.2).bind fun bt125 => (if (bt125.1 && (bt125.2 == 0)) = true then ((fix_Div.f k false 9223372036854775807 false 500000).bind fun bt127 => (some (bt127.1 && (bt127.2 == 0)))) else (none)))) else (none))) = some r := by first | (rw [hy118]; with_reducible exact H) | (have H2_ := (Option.bind_some _ _).symm.trans H; rw [hy118]; with_reducible exact H2_) | (have H2_ := (Option.bind_some _ _).symm.trans H; with_reducible exact H2_) | with_reducible exact H | (rw [hy118]; exact H) | exact H
              have Ny118 := Aside0.mk hy118
              clear hy118
              replace H := Option.bind_eq_some_iff.mp H
              obtain ⟨⟨t121, t122⟩, A170, H⟩ := H
              replace H : (if (!t121 && (t122 == (wrap64 (a0)))) = true then ((fix_Of.f k 2).bind fun bt123 => ((fix_Mul.f k false 9223372036854775807 bt123.1 bt123.2).bind fun bt125 => (if (bt125.1 && (bt125.2 == 0)) = true then ((fix_Div.f k false 9223372036854775807 false 500000).bind fun bt127 => (some (bt127.1 && (bt127.2 == 0)))) else (none)))) else (none)) = some r := H
              have A17 := Aside0.mk A170
              clear A170
              by_cases c18 : (!t121 && (t122 == (wrap64 (a0)))) = true
              · rw [if_pos c18] at H
                have c18b0 : (!t121 && (t122 == (wrap64 (a0)))) = true := c18
                clear c18
                replace H := Option.bind_eq_some_iff.mp H
                obtain ⟨⟨t123, t124⟩, A190, H⟩ := H
                replace H : ((fix_Mul.f k false 9223372036854775807 t123 t124).bind fun bt125 => (if (bt125.1 && (bt125.2 == 0)) = true then ((fix_Div.f k false 9223372036854775807 false 500000).bind fun bt127 => (some (bt127.1 && (bt127.2 == 0)))) else (none))) = some r := H
                have A19 := Aside0.mk A190
                clear A190
                replace H := Option.bind_eq_some_iff.mp H
                obtain ⟨⟨t125, t126⟩, A200, H⟩ := H
                replace H : (if (t125 && (t126 == 0)) = true then ((fix_Div.f k false 9223372036854775807 false 500000).bind fun bt127 => (some (bt127.1 && (bt127.2 == 0)))) else (none)) = some r := H
                have A20 := Aside0.mk A200
                clear A200
                by_cases c21 : (t125 && (t126 == 0)) = true
                · rw [if_pos c21] at H
                  have c21b0 : (t125 && (t126 == 0)) = true := c21
                  clear c21
                  replace H := Option.bind_eq_some_iff.mp H
                  obtain ⟨⟨t127, t128⟩, A220, H⟩ := H
                  replace H : (some (t127 && (t128 == 0))) = some r := H
                  have A22 := Aside0.mk A220
                  clear A220
                  obtain rfl := Option.some.inj H
                  go_enter Tryd.func9, Tryd.ntmps9
                  try go_wp2_with (first | ((with_reducible refine gate_dst (N := 3) rfl ?_); refine box_event ?hg (N := 3) ?hd (cs := #[.bool a1_0, .int .i64 a1_1]) (t := 25) ?hr ?_; (case hd => rfl); (case hg => rfl); (case hr => first | (go_simp; done) | (go_simp; rfl)); intro gb101 hg w23 hbox hb; have n0_ := Aside0.mk (below_step (by repeat (first | (with_reducible first | exact HB.out | apply below_alloc | apply pw_below_drewN | apply below_drew1) | exact HB.out)) hb); have n1_ := Aside0.mk (hbox); have n2_ := Aside0.mk ((by rw [hg]; exact (below_size (by repeat (first | (with_reducible first | exact HB.out | apply below_alloc | apply pw_below_drewN | apply below_drew1) | exact HB.out))) : w.heap.size ≤ gb101)); have n3_ := Aside0.mk ((by rw [hg]; exact (below_size (by repeat (first | (with_reducible first | exact HB.out | apply below_alloc | apply pw_below_drewN | apply below_drew1) | exact HB.out))) : w.heap.size ≤ gb101)); clear HB; have HB := n0_; have BK101 := n1_; have GW101 := n2_; have GE101 := n3_; clear n0_ n1_ n2_ n3_; clear hb hbox hg) | ((with_reducible refine gate_callee (f := 10) rfl ?_); refine goesL_ (some 10) rfl rfl Tryd.func10 (by kernel_rfl) rfl #[] rfl (by (try simp only [List.map_toArray, List.map_cons, List.map_nil]); first | done | rfl | (simp only [List.length_drop, List.length_take]; rfl)) ?_; (with_reducible refine (spillwaylaw2_known.calls  true _ ?side1 A3.out).mono ?_); (case side1 => exact LaidW.below HLW.out (by repeat (first | (with_reducible first | exact HB.out | apply below_alloc | apply pw_below_drewN | apply below_drew1) | exact HB.out | (refine below_set ?_ (Aside0.out ?hge); (case hge => assumption))))); rintro e w24 ⟨rfl, hb⟩; refine ⟨_, rfl, ?_⟩; have n0_ := Aside0.mk (blk_below (g := gb101) (o := .cells #[.bool a1_0, .int .i64 a1_1] 25 (0, 0)) (by (with_reducible repeat (first | refine blk_drewN ?_ _ | refine blk_drew ?_ | refine blk_alloc ?_ _)); exact BK101.out) hb); have n1_ := Aside0.mk (below_step (by repeat (first | (with_reducible first | exact HB.out | apply below_alloc | apply pw_below_drewN | apply below_drew1 | refine below_set ?_ GE101.out) | exact HB.out)) hb); clear BK101; clear HB; have BK101 := n0_; have HB := n1_; clear n0_ n1_; (try clear hb); (try clear hb2); (try clear hk); (try clear hi)) | ((with_reducible refine gate_dst (N := 5) rfl ?_); refine box_event ?hg (N := 5) ?hd (cs := #[.bool false, .int .i64 0]) (t := 25) ?hr ?_; (case hd => rfl); (case hg => rfl); (case hr => first | (go_simp; done) | (go_simp; rfl)); intro gb103 hg w25 hbox hb; have n0_ := Aside0.mk (blk_below (g := gb101) (o := .cells #[.bool a1_0, .int .i64 a1_1] 25 (0, 0)) (by (with_reducible repeat (first | refine blk_drewN ?_ _ | refine blk_drew ?_ | refine blk_alloc ?_ _)); exact BK101.out) hb); have n1_ := Aside0.mk (below_step (by repeat (first | (with_reducible first | exact HB.out | apply below_alloc | apply pw_below_drewN | apply below_drew1 | refine below_set ?_ GE101.out) | exact HB.out)) hb); have n2_ := Aside0.mk (hbox); have n3_ := Aside0.mk ((by rw [hg]; exact (below_size (by repeat (first | (with_reducible first | exact HB.out | apply below_alloc | apply pw_below_drewN | apply below_drew1 | refine below_set ?_ GE101.out) | exact HB.out))) : w.heap.size ≤ gb103)); have n4_ := Aside0.mk ((by rw [hg]; exact (below_size (by repeat (first | (with_reducible first | exact HB.out | apply below_alloc | apply pw_below_drewN | apply below_drew1 | refine below_set ?_ GE101.out) | exact HB.out))) : w.heap.size ≤ gb103)); have n5_ := Aside0.mk ((by rw [hg]; exact Nat.ne_of_lt (blk_lt (g := gb101) (o := .cells #[.bool a1_0, .int .i64 a1_1] 25 (0, 0)) (by (with_reducible repeat (first | refine blk_drewN ?_ _ | refine blk_drew ?_ | refine blk_alloc ?_ _)); exact BK101.out)) : gb101 ≠ gb103)); have n6_ := Aside0.mk ((by rw [hg]; exact Nat.ne_of_gt (blk_lt (g := gb101) (o := .cells #[.bool a1_0, .int .i64 a1_1] 25 (0, 0)) (by (with_reducible repeat (first | refine blk_drewN ?_ _ | refine blk_drew ?_ | refine blk_alloc ?_ _)); exact BK101.out)) : gb103 ≠ gb101)); clear BK101; clear HB; have BK101 := n0_; have HB := n1_; have BK103 := n2_; have GW103 := n3_; have GE103 := n4_; have NB101_103 := n5_; have NB103_101 := n6_; clear n0_ n1_ n2_ n3_ n4_ n5_ n6_; clear hb hbox hg; have hnb26 := NB103_101.out; have hnc26 := NB101_103.out; have hcz27_0 : w25.cell? ⟨gb103, 0, none⟩ = some (.bool false) := (blk_cell BK103.out 0).trans rfl; have hcz27_1 : w25.cell? ⟨gb103, 1, none⟩ = some (.int .i64 0) := (blk_cell BK103.out 1).trans rfl; have hfz27_0 := blk_frozen BK103.out 0; have hfz27_1 := blk_frozen BK103.out 1) | ((with_reducible refine gate_dst (N := 6) rfl ?_); refine box_event ?hg (N := 6) ?hd (cs := #[.bool false, .int .i64 0]) (t := 25) ?hr ?_; (case hd => rfl); (case hg => rfl); (case hr => first | (go_simp; done) | (go_simp; rfl)); intro gb104 hg w28 hbox hb; have n0_ := Aside0.mk (blk_below (g := gb101) (o := .cells #[.bool a1_0, .int .i64 a1_1] 25 (0, 0)) (by (with_reducible repeat (first | refine blk_drewN ?_ _ | refine blk_drew ?_ | refine blk_alloc ?_ _)); refine blk_far ?_ NB101_103.out _; (with_reducible repeat (first | refine blk_drewN ?_ _ | refine blk_drew ?_ | refine blk_alloc ?_ _)); refine blk_far ?_ NB101_103.out _; (with_reducible repeat (first | refine blk_drewN ?_ _ | refine blk_drew ?_ | refine blk_alloc ?_ _)); exact BK101.out) hb); have n1_ := Aside0.mk (blk_below (g := gb103) (o := .cells #[.bool false, .int .i64 9223372036854775807] 25 (0, 0)) (by (with_reducible repeat (first | refine blk_drewN ?_ _ | refine blk_drew ?_ | refine blk_alloc ?_ _)); refine blk_put (cs := #[.bool false, .int .i64 0]) ?_ 1 _ rfl; (with_reducible repeat (first | refine blk_drewN ?_ _ | refine blk_drew ?_ | refine blk_alloc ?_ _)); refine blk_put (cs := #[.bool false, .int .i64 0]) ?_ 0 _ rfl; (with_reducible repeat (first | refine blk_drewN ?_ _ | refine blk_drew ?_ | refine blk_alloc ?_ _)); exact BK103.out) hb); have n2_ := Aside0.mk (below_step (by repeat (first | (with_reducible first | exact HB.out | apply below_alloc | apply pw_below_drewN | apply below_drew1 | refine below_set ?_ GE101.out | refine below_set ?_ GE103.out) | exact HB.out)) hb); have n3_ := Aside0.mk (hbox); have n4_ := Aside0.mk ((by rw [hg]; exact (below_size (by repeat (first | (with_reducible first | exact HB.out | apply below_alloc | apply pw_below_drewN | apply below_drew1 | refine below_set ?_ GE101.out | refine below_set ?_ GE103.out) | exact HB.out))) : w.heap.size ≤ gb104)); have n5_ := Aside0.mk ((by rw [hg]; exact (below_size (by repeat (first | (with_reducible first | exact HB.out | apply below_alloc | apply pw_below_drewN | apply below_drew1 | refine below_set ?_ GE101.out | refine below_set ?_ GE103.out) | exact HB.out))) : w.heap.size ≤ gb104)); have n6_ := Aside0.mk ((by rw [hg]; exact Nat.ne_of_lt (blk_lt (g := gb101) (o := .cells #[.bool a1_0, .int .i64 a1_1] 25 (0, 0)) (by (with_reducible repeat (first | refine blk_drewN ?_ _ | refine blk_drew ?_ | refine blk_alloc ?_ _)); refine blk_far ?_ NB101_103.out _; (with_reducible repeat (first | refine blk_drewN ?_ _ | refine blk_drew ?_ | refine blk_alloc ?_ _)); refine blk_far ?_ NB101_103.out _; (with_reducible repeat (first | refine blk_drewN ?_ _ | refine blk_drew ?_ | refine blk_alloc ?_ _)); exact BK101.out)) : gb101 ≠ gb104)); have n7_ := Aside0.mk ((by rw [hg]; exact Nat.ne_of_gt (blk_lt (g := gb101) (o := .cells #[.bool a1_0, .int .i64 a1_1] 25 (0, 0)) (by (with_reducible repeat (first | refine blk_drewN ?_ _ | refine blk_drew ?_ | refine blk_alloc ?_ _)); refine blk_far ?_ NB101_103.out _; (with_reducible repeat (first | refine blk_drewN ?_ _ | refine blk_drew ?_ | refine blk_alloc ?_ _)); refine blk_far ?_ NB101_103.out _; (with_reducible repeat (first | refine blk_drewN ?_ _ | refine blk_drew ?_ | refine blk_alloc ?_ _)); exact BK101.out)) : gb104 ≠ gb101)); have n8_ := Aside0.mk ((by rw [hg]; exact Nat.ne_of_lt (blk_lt (g := gb103) (o := .cells #[.bool false, .int .i64 9223372036854775807] 25 (0, 0)) (by (with_reducible repeat (first | refine blk_drewN ?_ _ | refine blk_drew ?_ | refine blk_alloc ?_ _)); refine blk_put (cs := #[.bool false, .int .i64 0]) ?_ 1 _ rfl; (with_reducible repeat (first | refine blk_drewN ?_ _ | refine blk_drew ?_ | refine blk_alloc ?_ _)); refine blk_put (cs := #[.bool false, .int .i64 0]) ?_ 0 _ rfl; (with_reducible repeat (first | refine blk_drewN ?_ _ | refine blk_drew ?_ | refine blk_alloc ?_ _)); exact BK103.out)) : gb103 ≠ gb104)); have n9_ := Aside0.mk ((by rw [hg]; exact Nat.ne_of_gt (blk_lt (g := gb103) (o := .cells #[.bool false, .int .i64 9223372036854775807] 25 (0, 0)) (by (with_reducible repeat (first | refine blk_drewN ?_ _ | refine blk_drew ?_ | refine blk_alloc ?_ _)); refine blk_put (cs := #[.bool false, .int .i64 0]) ?_ 1 _ rfl; (with_reducible repeat (first | refine blk_drewN ?_ _ | refine blk_drew ?_ | refine blk_alloc ?_ _)); refine blk_put (cs := #[.bool false, .int .i64 0]) ?_ 0 _ rfl; (with_reducible repeat (first | refine blk_drewN ?_ _ | refine blk_drew ?_ | refine blk_alloc ?_ _)); exact BK103.out)) : gb104 ≠ gb103)); clear BK101; clear BK103; clear HB; have BK101 := n0_; have BK103 := n1_; have HB := n2_; have BK104 := n3_; have GW104 := n4_; have GE104 := n5_; have NB101_104 := n6_; have NB104_101 := n7_; have NB103_104 := n8_; have NB104_103 := n9_; clear n0_ n1_ n2_ n3_ n4_ n5_ n6_ n7_ n8_ n9_; clear hb hbox hg; have hnb29 := NB104_101.out; have hnc29 := NB101_104.out; have hnb30 := NB104_103.out; have hnc30 := NB103_104.out; have hcz31_0 : w28.cell? ⟨gb104, 0, none⟩ = some (.bool false) := (blk_cell BK104.out 0).trans rfl; have hcz31_1 : w28.cell? ⟨gb104, 1, none⟩ = some (.int .i64 0) := (blk_cell BK104.out 1).trans rfl; have hfz31_0 := blk_frozen BK104.out 0; have hfz31_1 := blk_frozen BK104.out 1) | ((with_reducible refine gate_dst (N := 7) rfl ?_); refine box_event ?hg (N := 7) ?hd (cs := #[.bool false, .int .i64 0]) (t := 25) ?hr ?_; (case hd => rfl); (case hg => rfl); (case hr => first | (go_simp; done) | (go_simp; rfl)); intro gb105 hg w32 hbox hb; have n0_ := Aside0.mk (blk_below (g := gb101) (o := .cells #[.bool a1_0, .int .i64 a1_1] 25 (0, 0)) (by (with_reducible repeat (first | refine blk_drewN ?_ _ | refine blk_drew ?_ | refine blk_alloc ?_ _)); refine blk_far ?_ NB101_104.out _; (with_reducible repeat (first | refine blk_drewN ?_ _ | refine blk_drew ?_ | refine blk_alloc ?_ _)); refine blk_far ?_ NB101_104.out _; (with_reducible repeat (first | refine blk_drewN ?_ _ | refine blk_drew ?_ | refine blk_alloc ?_ _)); exact BK101.out) hb); have n1_ := Aside0.mk (blk_below (g := gb103) (o := .cells #[.bool false, .int .i64 9223372036854775807] 25 (0, 0)) (by (with_reducible repeat (first | refine blk_drewN ?_ _ | refine blk_drew ?_ | refine blk_alloc ?_ _)); refine blk_far ?_ NB103_104.out _; (with_reducible repeat (first | refine blk_drewN ?_ _ | refine blk_drew ?_ | refine blk_alloc ?_ _)); refine blk_far ?_ NB103_104.out _; (with_reducible repeat (first | refine blk_drewN ?_ _ | refine blk_drew ?_ | refine blk_alloc ?_ _)); exact BK103.out) hb); have n2_ := Aside0.mk (blk_below (g := gb104) (o := .cells #[.bool false, .int .i64 (wrap64 (a0))] 25 (0, 0)) (by (with_reducible repeat (first | refine blk_drewN ?_ _ | refine blk_drew ?_ | refine blk_alloc ?_ _)); refine blk_put (cs := #[.bool false, .int .i64 0]) ?_ 1 _ rfl; (with_reducible repeat (first | refine blk_drewN ?_ _ | refine blk_drew ?_ | refine blk_alloc ?_ _)); refine blk_put (cs := #[.bool false, .int .i64 0]) ?_ 0 _ rfl; (with_reducible repeat (first | refine blk_drewN ?_ _ | refine blk_drew ?_ | refine blk_alloc ?_ _)); exact BK104.out) hb); have n3_ := Aside0.mk (below_step (by repeat (first | (with_reducible first | exact HB.out | apply below_alloc | apply pw_below_drewN | apply below_drew1 | refine below_set ?_ GE101.out | refine below_set ?_ GE103.out | refine below_set ?_ GE104.out) | exact HB.out)) hb); have n4_ := Aside0.mk (hbox); have n5_ := Aside0.mk ((by rw [hg]; exact (below_size (by repeat (first | (with_reducible first | exact HB.out | apply below_alloc | apply pw_below_drewN | apply below_drew1 | refine below_set ?_ GE101.out | refine below_set ?_ GE103.out | refine below_set ?_ GE104.out) | exact HB.out))) : w.heap.size ≤ gb105)); have n6_ := Aside0.mk ((by rw [hg]; exact (below_size (by repeat (first | (with_reducible first | exact HB.out | apply below_alloc | apply pw_below_drewN | apply below_drew1 | refine below_set ?_ GE101.out | refine below_set ?_ GE103.out | refine below_set ?_ GE104.out) | exact HB.out))) : w.heap.size ≤ gb105)); have n7_ := Aside0.mk ((by rw [hg]; exact Nat.ne_of_lt (blk_lt (g := gb101) (o := .cells #[.bool a1_0, .int .i64 a1_1] 25 (0, 0)) (by (with_reducible repeat (first | refine blk_drewN ?_ _ | refine blk_drew ?_ | refine blk_alloc ?_ _)); refine blk_far ?_ NB101_104.out _; (with_reducible repeat (first | refine blk_drewN ?_ _ | refine blk_drew ?_ | refine blk_alloc ?_ _)); refine blk_far ?_ NB101_104.out _; (with_reducible repeat (first | refine blk_drewN ?_ _ | refine blk_drew ?_ | refine blk_alloc ?_ _)); exact BK101.out)) : gb101 ≠ gb105)); have n8_ := Aside0.mk ((by rw [hg]; exact Nat.ne_of_gt (blk_lt (g := gb101) (o := .cells #[.bool a1_0, .int .i64 a1_1] 25 (0, 0)) (by (with_reducible repeat (first | refine blk_drewN ?_ _ | refine blk_drew ?_ | refine blk_alloc ?_ _)); refine blk_far ?_ NB101_104.out _; (with_reducible repeat (first | refine blk_drewN ?_ _ | refine blk_drew ?_ | refine blk_alloc ?_ _)); refine blk_far ?_ NB101_104.out _; (with_reducible repeat (first | refine blk_drewN ?_ _ | refine blk_drew ?_ | refine blk_alloc ?_ _)); exact BK101.out)) : gb105 ≠ gb101)); have n9_ := Aside0.mk ((by rw [hg]; exact Nat.ne_of_lt (blk_lt (g := gb103) (o := .cells #[.bool false, .int .i64 9223372036854775807] 25 (0, 0)) (by (with_reducible repeat (first | refine blk_drewN ?_ _ | refine blk_drew ?_ | refine blk_alloc ?_ _)); refine blk_far ?_ NB103_104.out _; (with_reducible repeat (first | refine blk_drewN ?_ _ | refine blk_drew ?_ | refine blk_alloc ?_ _)); refine blk_far ?_ NB103_104.out _; (with_reducible repeat (first | refine blk_drewN ?_ _ | refine blk_drew ?_ | refine blk_alloc ?_ _)); exact BK103.out)) : gb103 ≠ gb105)); have n10_ := Aside0.mk ((by rw [hg]; exact Nat.ne_of_gt (blk_lt (g := gb103) (o := .cells #[.bool false, .int .i64 9223372036854775807] 25 (0, 0)) (by (with_reducible repeat (first | refine blk_drewN ?_ _ | refine blk_drew ?_ | refine blk_alloc ?_ _)); refine blk_far ?_ NB103_104.out _; (with_reducible repeat (first | refine blk_drewN ?_ _ | refine blk_drew ?_ | refine blk_alloc ?_ _)); refine blk_far ?_ NB103_104.out _; (with_reducible repeat (first | refine blk_drewN ?_ _ | refine blk_drew ?_ | refine blk_alloc ?_ _)); exact BK103.out)) : gb105 ≠ gb103)); have n11_ := Aside0.mk ((by rw [hg]; exact Nat.ne_of_lt (blk_lt (g := gb104) (o := .cells #[.bool false, .int .i64 (wrap64 (a0))] 25 (0, 0)) (by (with_reducible repeat (first | refine blk_drewN ?_ _ | refine blk_drew ?_ | refine blk_alloc ?_ _)); refine blk_put (cs := #[.bool false, .int .i64 0]) ?_ 1 _ rfl; (with_reducible repeat (first | refine blk_drewN ?_ _ | refine blk_drew ?_ | refine blk_alloc ?_ _)); refine blk_put (cs := #[.bool false, .int .i64 0]) ?_ 0 _ rfl; (with_reducible repeat (first | refine blk_drewN ?_ _ | refine blk_drew ?_ | refine blk_alloc ?_ _)); exact BK104.out)) : gb104 ≠ gb105)); have n12_ := Aside0.mk ((by rw [hg]; exact Nat.ne_of_gt (blk_lt (g := gb104) (o := .cells #[.bool false, .int .i64 (wrap64 (a0))] 25 (0, 0)) (by (with_reducible repeat (first | refine blk_drewN ?_ _ | refine blk_drew ?_ | refine blk_alloc ?_ _)); refine blk_put (cs := #[.bool false, .int .i64 0]) ?_ 1 _ rfl; (with_reducible repeat (first | refine blk_drewN ?_ _ | refine blk_drew ?_ | refine blk_alloc ?_ _)); refine blk_put (cs := #[.bool false, .int .i64 0]) ?_ 0 _ rfl; (with_reducible repeat (first | refine blk_drewN ?_ _ | refine blk_drew ?_ | refine blk_alloc ?_ _)); exact BK104.out)) : gb105 ≠ gb104)); clear BK101; clear BK103; clear BK104; clear HB; have BK101 := n0_; have BK103 := n1_; have BK104 := n2_; have HB := n3_; have BK105 := n4_; have GW105 := n5_; have GE105 := n6_; have NB101_105 := n7_; have NB105_101 := n8_; have NB103_105 := n9_; have NB105_103 := n10_; have NB104_105 := n11_; have NB105_104 := n12_; clear n0_ n1_ n2_ n3_ n4_ n5_ n6_ n7_ n8_ n9_ n10_ n11_ n12_; clear hb hbox hg; have hnb33 := NB105_101.out; have hnc33 := NB101_105.out; have hnb34 := NB105_103.out; have hnc34 := NB103_105.out; have hnb35 := NB105_104.out; have hnc35 := NB104_105.out; have hcz36_0 : w32.cell? ⟨gb105, 0, none⟩ = some (.bool false) := (blk_cell BK105.out 0).trans rfl; have hcz36_1 : w32.cell? ⟨gb105, 1, none⟩ = some (.int .i64 0) := (blk_cell BK105.out 1).trans rfl; have hfz36_0 := blk_frozen BK105.out 0; have hfz36_1 := blk_frozen BK105.out 1))
                  have n0_ : Aside0 (((w32.setCell ⟨gb105, 0, none⟩ (.bool true)).setCell ⟨gb105, 1, none⟩ (.int .i64 0)).heap[gb101]? = some (.cells #[.bool a1_0, .int .i64 a1_1] 25 (0, 0))) := ⟨by (with_reducible repeat (first | refine blk_drewN ?_ _ | refine blk_drew ?_ | refine blk_alloc ?_ _)); refine blk_far ?_ NB101_105.out _; (with_reducible repeat (first | refine blk_drewN ?_ _ | refine blk_drew ?_ | refine blk_alloc ?_ _)); refine blk_far ?_ NB101_105.out _; (with_reducible repeat (first | refine blk_drewN ?_ _ | refine blk_drew ?_ | refine blk_alloc ?_ _)); exact BK101.out⟩
                  have n1_ : Aside0 (((w32.setCell ⟨gb105, 0, none⟩ (.bool true)).setCell ⟨gb105, 1, none⟩ (.int .i64 0)).heap[gb103]? = some (.cells #[.bool false, .int .i64 9223372036854775807] 25 (0, 0))) := ⟨by (with_reducible repeat (first | refine blk_drewN ?_ _ | refine blk_drew ?_ | refine blk_alloc ?_ _)); refine blk_far ?_ NB103_105.out _; (with_reducible repeat (first | refine blk_drewN ?_ _ | refine blk_drew ?_ | refine blk_alloc ?_ _)); refine blk_far ?_ NB103_105.out _; (with_reducible repeat (first | refine blk_drewN ?_ _ | refine blk_drew ?_ | refine blk_alloc ?_ _)); exact BK103.out⟩
                  have n2_ : Aside0 (((w32.setCell ⟨gb105, 0, none⟩ (.bool true)).setCell ⟨gb105, 1, none⟩ (.int .i64 0)).heap[gb104]? = some (.cells #[.bool false, .int .i64 (wrap64 (a0))] 25 (0, 0))) := ⟨by (with_reducible repeat (first | refine blk_drewN ?_ _ | refine blk_drew ?_ | refine blk_alloc ?_ _)); refine blk_far ?_ NB104_105.out _; (with_reducible repeat (first | refine blk_drewN ?_ _ | refine blk_drew ?_ | refine blk_alloc ?_ _)); refine blk_far ?_ NB104_105.out _; (with_reducible repeat (first | refine blk_drewN ?_ _ | refine blk_drew ?_ | refine blk_alloc ?_ _)); exact BK104.out⟩
                  have n3_ : Aside0 (((w32.setCell ⟨gb105, 0, none⟩ (.bool true)).setCell ⟨gb105, 1, none⟩ (.int .i64 0)).heap[gb105]? = some (.cells #[.bool true, .int .i64 0] 25 (0, 0))) := ⟨by (with_reducible repeat (first | refine blk_drewN ?_ _ | refine blk_drew ?_ | refine blk_alloc ?_ _)); refine blk_put (cs := #[.bool true, .int .i64 0]) ?_ 1 _ rfl; (with_reducible repeat (first | refine blk_drewN ?_ _ | refine blk_drew ?_ | refine blk_alloc ?_ _)); refine blk_put (cs := #[.bool false, .int .i64 0]) ?_ 0 _ rfl; (with_reducible repeat (first | refine blk_drewN ?_ _ | refine blk_drew ?_ | refine blk_alloc ?_ _)); exact BK105.out⟩
                  have n4_ : Aside0 (Below w.heap.size w ((w32.setCell ⟨gb105, 0, none⟩ (.bool true)).setCell ⟨gb105, 1, none⟩ (.int .i64 0))) := ⟨by repeat (first | (with_reducible first | exact HB.out | apply below_alloc | apply pw_below_drewN | apply below_drew1 | refine below_set ?_ GE101.out | refine below_set ?_ GE103.out | refine below_set ?_ GE104.out | refine below_set ?_ GE105.out) | exact HB.out)⟩
                  (try clear BK101)
                  (try clear BK103)
                  (try clear BK104)
                  (try clear BK105)
                  (try clear HB)
                  generalize ((w32.setCell ⟨gb105, 0, none⟩ (.bool true)).setCell ⟨gb105, 1, none⟩ (.int .i64 0)) = w37 at n0_ n1_ n2_ n3_ n4_ ⊢
                  have BK101 := n0_
                  have BK103 := n1_
                  have BK104 := n2_
                  have BK105 := n3_
                  have HB := n4_
                  clear n0_ n1_ n2_ n3_ n4_
                  have n0_ := Aside0.mk (blk_drew BK101.out)
                  have n1_ := Aside0.mk (blk_drew BK103.out)
                  have n2_ := Aside0.mk (blk_drew BK104.out)
                  have n3_ := Aside0.mk (blk_drew BK105.out)
                  have n4_ := Aside0.mk (below_drew1 HB.out)
                  clear BK101
                  clear BK103
                  clear BK104
                  clear BK105
                  clear HB
                  have BK101 := n0_
                  have BK103 := n1_
                  have BK104 := n2_
                  have BK105 := n3_
                  have HB := n4_
                  clear n0_ n1_ n2_ n3_ n4_
                  refine start_ (n := 32) (S := fun w' => w'.cell? ⟨gb103, 0, none⟩ = some (.bool false) ∧ w'.cell? ⟨gb103, 1, none⟩ = some (.int .i64 9223372036854775807) ∧ w'.cell? ⟨gb104, 0, none⟩ = some (.bool false) ∧ w'.cell? ⟨gb104, 1, none⟩ = some (.int .i64 (wrap64 (a0)))) (ds := []) #[false, false, false, false, false, false, false, false, false, false, false, false, false, false, false, false, false, false, false, false, false, false, false, false, false, false, false, false, false, false, false, false] (by kernel_rfl) rfl rfl ⟨(blk_cell BK103.out 0).trans rfl, (blk_cell BK103.out 1).trans rfl, (blk_cell BK104.out 0).trans rfl, (blk_cell BK104.out 1).trans rfl⟩ (fun hHeld => ?_); refine with_tabW spillwaylaw2_FixEdges.tab6 spillwaylaw2_FixEdges.bits6 (fun HT_ HW_ => ?_)
                  generalize w37.drew = w38 at BK101 BK103 BK104 BK105 HB hHeld ⊢
                  refine pure_ (i := 4) (N := some 21) (v := ?_) (a' := ?_) #[false, false, false, false, true, false, false, false, false, false, false, false, false, false, false, false, false, false, false, false, false, false, false, false, false, false, false, false, false, false, false, false] rfl rfl (any_of HT_.out (by kernel_rfl)) (fun _ _ _ h => h) (Or.inl ⟨by rfl, ?_⟩) ?_ ?_
                  rotate_left
                  · intro w'
                    go_simp
                    with_reducible rfl
                  rotate_left
                  · simp only [Act.put, List.setIfInBounds_toArray, List.set_cons_zero, List.set_cons_succ, i64_w, i32_w]
                    rfl
                  refine pure_ (i := 5) (N := some 22) (v := ?_) (a' := ?_) #[false, false, false, false, true, true, false, false, false, false, false, false, false, false, false, false, false, false, false, false, false, false, false, false, false, false, false, false, false, false, false, false] rfl rfl (any_of HT_.out (by kernel_rfl)) (fun _ _ _ h => h) (Or.inl ⟨by rfl, ?_⟩) ?_ ?_
                  rotate_left
                  · intro w'
                    go_simp
                    with_reducible rfl
                  rotate_left
                  · simp only [Act.put, List.setIfInBounds_toArray, List.set_cons_zero, List.set_cons_succ, i64_w, i32_w]
                    rfl
                  refine take_ (i := 0) (N := some 17) (v := ?_) (a' := ?_) #[true, false, false, false, true, true, false, false, false, false, false, false, false, false, false, false, false, false, false, false, false, false, false, false, false, false, false, false, false, false, false, false] rfl rfl (take_ofW HT_.out HW_.out (by kernel_rfl)) (fun _ _ _ h => h) (Or.inl ⟨by rfl, ?_⟩) hHeld ?_ ?_
                  rotate_left
                  · rintro w' ⟨s0, s1, s2, s3⟩
                    go_simp
                    with_reducible rfl
                  rotate_left
                  · simp only [Act.put, List.setIfInBounds_toArray, List.set_cons_zero, List.set_cons_succ, i64_w, i32_w]
                    rfl
                  refine take_ (i := 1) (N := some 18) (v := ?_) (a' := ?_) #[true, true, false, false, true, true, false, false, false, false, false, false, false, false, false, false, false, false, false, false, false, false, false, false, false, false, false, false, false, false, false, false] rfl rfl (take_ofW HT_.out HW_.out (by kernel_rfl)) (fun _ _ _ h => h) (Or.inl ⟨by rfl, ?_⟩) hHeld ?_ ?_
                  rotate_left
                  · rintro w' ⟨s0, s1, s2, s3⟩
                    go_simp
                    with_reducible rfl
                  rotate_left
                  · simp only [Act.put, List.setIfInBounds_toArray, List.set_cons_zero, List.set_cons_succ, i64_w, i32_w]
                    rfl
                  refine one_ (i := 2) (N := some 19) #[true, true, true, false, true, true, false, false, false, false, false, false, false, false, false, false, false, false, false, false, false, false, false, false, false, false, false, false, false, false, false, false] rfl rfl (one_of HT_.out (by kernel_rfl)) (by decide) (fun K hK => ?_)
                  refine goes_ Tryd.func18 (by kernel_rfl) rfl #[.agg #[.bool false, .int .i64 9223372036854775807], .agg #[.bool false, .int .i64 (wrap64 (a0))]] (by rfl) rfl rfl (by (try simp only [List.map_toArray, List.map_cons, List.map_nil]); first | done | rfl | (simp only [List.length_drop, List.length_take]; rfl)) ?_
                  with_reducible refine (fix_Add.calls k false 9223372036854775807 false (wrap64 (a0)) t106 t107 _ A5.out).mono ?_
                  rintro e w39 ⟨rfl, hb⟩
                  refine ⟨_, rfl, ?_⟩
                  have n0_ := Aside0.mk (blk_below (g := gb101) (o := .cells #[.bool a1_0, .int .i64 a1_1] 25 (0, 0)) (by (with_reducible repeat (first | refine blk_drewN ?_ _ | refine blk_drew ?_ | refine blk_alloc ?_ _)); exact BK101.out) hb)
                  have n1_ := Aside0.mk (blk_below (g := gb103) (o := .cells #[.bool false, .int .i64 9223372036854775807] 25 (0, 0)) (by (with_reducible repeat (first | refine blk_drewN ?_ _ | refine blk_drew ?_ | refine blk_alloc ?_ _)); exact BK103.out) hb)
                  have n2_ := Aside0.mk (blk_below (g := gb104) (o := .cells #[.bool false, .int .i64 (wrap64 (a0))] 25 (0, 0)) (by (with_reducible repeat (first | refine blk_drewN ?_ _ | refine blk_drew ?_ | refine blk_alloc ?_ _)); exact BK104.out) hb)
                  have n3_ := Aside0.mk (blk_below (g := gb105) (o := .cells #[.bool true, .int .i64 0] 25 (0, 0)) (by (with_reducible repeat (first | refine blk_drewN ?_ _ | refine blk_drew ?_ | refine blk_alloc ?_ _)); exact BK105.out) hb)
                  have n4_ := Aside0.mk (below_step (by repeat (first | (with_reducible first | exact HB.out | apply below_alloc | apply pw_below_drewN | apply below_drew1 | refine below_set ?_ GE101.out | refine below_set ?_ GE103.out | refine below_set ?_ GE104.out | refine below_set ?_ GE105.out) | exact HB.out)) hb)
                  clear BK101
                  clear BK103
                  clear BK104
                  clear BK105
                  clear HB
                  have BK101 := n0_
                  have BK103 := n1_
                  have BK104 := n2_
                  have BK105 := n3_
                  have HB := n4_
                  clear n0_ n1_ n2_ n3_ n4_
                  (try clear hb)
                  (try clear hb2)
                  (try clear hk)
                  (try clear hi)
                  refine hK.out _ _ ⟨(blk_cell BK103.out 0).trans rfl, (blk_cell BK103.out 1).trans rfl, (blk_cell BK104.out 0).trans rfl, (blk_cell BK104.out 1).trans rfl⟩ (fun hHeld => ?_)
                  clear hK K
                  refine norm_ (a' := ?_) ?_ ?_
                  rotate_left
                  · show Act.put _ (some 19) _ = _
                    simp only [Act.put, List.setIfInBounds_toArray, List.set_cons_zero, List.set_cons_succ, i64_w, i32_w]
                    rfl
                  refine pure_ (i := 3) (N := some 20) (v := ?_) (a' := ?_) #[true, true, true, true, true, true, false, false, false, false, false, false, false, false, false, false, false, false, false, false, false, false, false, false, false, false, false, false, false, false, false, false] rfl rfl (any_of HT_.out (by kernel_rfl)) (fun _ _ _ h => h) (Or.inl ⟨by rfl, ?_⟩) ?_ ?_
                  rotate_left
                  · intro w'
                    go_simp
                    with_reducible rfl
                  rotate_left
                  · simp only [Act.put, List.setIfInBounds_toArray, List.set_cons_zero, List.set_cons_succ, i64_w, i32_w]
                    rfl
                  refine pure_ (i := 6) (N := some 23) (v := ?_) (a' := ?_) #[true, true, true, true, true, true, true, false, false, false, false, false, false, false, false, false, false, false, false, false, false, false, false, false, false, false, false, false, false, false, false, false] rfl rfl (any_of HT_.out (by kernel_rfl)) (fun _ _ _ h => h) (Or.inl ⟨by rfl, ?_⟩) ?_ ?_
                  rotate_left
                  · intro w'
                    go_simp
                    with_reducible rfl
                  rotate_left
                  · simp only [Act.put, List.setIfInBounds_toArray, List.set_cons_zero, List.set_cons_succ, i64_w, i32_w]
                    rfl
                  refine pure_ (i := 7) (N := some 24) (v := ?_) (a' := ?_) #[true, true, true, true, true, true, true, true, false, false, false, false, false, false, false, false, false, false, false, false, false, false, false, false, false, false, false, false, false, false, false, false] rfl rfl (any_of HT_.out (by kernel_rfl)) (fun _ _ _ h => h) (Or.inl ⟨by rfl, ?_⟩) ?_ ?_
                  rotate_left
                  · intro w'
                    go_simp
                    with_reducible rfl
                  rotate_left
                  · simp only [Act.put, List.setIfInBounds_toArray, List.set_cons_zero, List.set_cons_succ, i64_w, i32_w]
                    rfl
                  refine pure_ (i := 13) (N := some 30) (v := ?_) (a' := ?_) #[true, true, true, true, true, true, true, true, false, false, false, false, false, true, false, false, false, false, false, false, false, false, false, false, false, false, false, false, false, false, false, false] rfl rfl (any_of HT_.out (by kernel_rfl)) (fun _ _ _ h => h) (Or.inl ⟨by rfl, ?_⟩) ?_ ?_
                  rotate_left
                  · intro w'
                    go_simp
                    with_reducible rfl
                  rotate_left
                  · simp only [Act.put, List.setIfInBounds_toArray, List.set_cons_zero, List.set_cons_succ, i64_w, i32_w]
                    rfl
                  refine pure_ (i := 14) (N := some 31) (v := ?_) (a' := ?_) #[true, true, true, true, true, true, true, true, false, false, false, false, false, true, true, false, false, false, false, false, false, false, false, false, false, false, false, false, false, false, false, false] rfl rfl (any_of HT_.out (by kernel_rfl)) (fun _ _ _ h => h) (Or.inl ⟨by rfl, ?_⟩) ?_ ?_
                  rotate_left
                  · intro w'
                    go_simp
                    with_reducible rfl
                  rotate_left
                  · simp only [Act.put, List.setIfInBounds_toArray, List.set_cons_zero, List.set_cons_succ, i64_w, i32_w]
                    rfl
                  refine take_ (i := 8) (N := some 25) (v := ?_) (a' := ?_) #[true, true, true, true, true, true, true, true, true, false, false, false, false, true, true, false, false, false, false, false, false, false, false, false, false, false, false, false, false, false, false, false] rfl rfl (take_ofW HT_.out HW_.out (by kernel_rfl)) (fun _ _ _ h => h) (Or.inl ⟨by rfl, ?_⟩) hHeld ?_ ?_
                  rotate_left
                  · rintro w' ⟨s0, s1, s2, s3⟩
                    go_simp
                    with_reducible rfl
                  rotate_left
                  · simp only [Act.put, List.setIfInBounds_toArray, List.set_cons_zero, List.set_cons_succ, i64_w, i32_w]
                    rfl
                  refine take_ (i := 10) (N := some 27) (v := ?_) (a' := ?_) #[true, true, true, true, true, true, true, true, true, false, true, false, false, true, true, false, false, false, false, false, false, false, false, false, false, false, false, false, false, false, false, false] rfl rfl (take_ofW HT_.out HW_.out (by kernel_rfl)) (fun _ _ _ h => h) (Or.inl ⟨by rfl, ?_⟩) hHeld ?_ ?_
                  rotate_left
                  · rintro w' ⟨s0, s1, s2, s3⟩
                    go_simp
                    with_reducible rfl
                  rotate_left
                  · simp only [Act.put, List.setIfInBounds_toArray, List.set_cons_zero, List.set_cons_succ, i64_w, i32_w]
                    rfl
                  refine one_ (i := 9) (N := some 26) #[true, true, true, true, true, true, true, true, true, true, true, false, false, true, true, false, false, false, false, false, false, false, false, false, false, false, false, false, false, false, false, false] rfl rfl (one_of HT_.out (by kernel_rfl)) (by decide) (fun K hK => ?_)
                  refine goes_ Tryd.func21 (by kernel_rfl) rfl #[.agg #[.bool false, .int .i64 9223372036854775807]] (by rfl) rfl rfl (by (try simp only [List.map_toArray, List.map_cons, List.map_nil]); first | done | rfl | (simp only [List.length_drop, List.length_take]; rfl)) ?_
                  with_reducible refine (fix_Neg.calls false 9223372036854775807 t108 t109 _ A7.out).mono ?_
                  rintro e w40 ⟨rfl, hb⟩
                  refine ⟨_, rfl, ?_⟩
                  have n0_ := Aside0.mk (blk_below (g := gb101) (o := .cells #[.bool a1_0, .int .i64 a1_1] 25 (0, 0)) (by (with_reducible repeat (first | refine blk_drewN ?_ _ | refine blk_drew ?_ | refine blk_alloc ?_ _)); exact BK101.out) hb)
                  have n1_ := Aside0.mk (blk_below (g := gb103) (o := .cells #[.bool false, .int .i64 9223372036854775807] 25 (0, 0)) (by (with_reducible repeat (first | refine blk_drewN ?_ _ | refine blk_drew ?_ | refine blk_alloc ?_ _)); exact BK103.out) hb)
                  have n2_ := Aside0.mk (blk_below (g := gb104) (o := .cells #[.bool false, .int .i64 (wrap64 (a0))] 25 (0, 0)) (by (with_reducible repeat (first | refine blk_drewN ?_ _ | refine blk_drew ?_ | refine blk_alloc ?_ _)); exact BK104.out) hb)
                  have n3_ := Aside0.mk (blk_below (g := gb105) (o := .cells #[.bool true, .int .i64 0] 25 (0, 0)) (by (with_reducible repeat (first | refine blk_drewN ?_ _ | refine blk_drew ?_ | refine blk_alloc ?_ _)); exact BK105.out) hb)
                  have n4_ := Aside0.mk (below_step (by repeat (first | (with_reducible first | exact HB.out | apply below_alloc | apply pw_below_drewN | apply below_drew1 | refine below_set ?_ GE101.out | refine below_set ?_ GE103.out | refine below_set ?_ GE104.out | refine below_set ?_ GE105.out) | exact HB.out)) hb)
                  clear BK101
                  clear BK103
                  clear BK104
                  clear BK105
                  clear HB
                  have BK101 := n0_
                  have BK103 := n1_
                  have BK104 := n2_
                  have BK105 := n3_
                  have HB := n4_
                  clear n0_ n1_ n2_ n3_ n4_
                  (try clear hb)
                  (try clear hb2)
                  (try clear hk)
                  (try clear hi)
                  refine hK.out _ _ ⟨(blk_cell BK103.out 0).trans rfl, (blk_cell BK103.out 1).trans rfl, (blk_cell BK104.out 0).trans rfl, (blk_cell BK104.out 1).trans rfl⟩ (fun hHeld => ?_)
                  clear hK K
                  refine norm_ (a' := ?_) ?_ ?_
                  rotate_left
                  · show Act.put _ (some 26) _ = _
                    simp only [Act.put, List.setIfInBounds_toArray, List.set_cons_zero, List.set_cons_succ, i64_w, i32_w]
                    rfl
                  refine one_ (i := 11) (N := some 28) #[true, true, true, true, true, true, true, true, true, true, true, true, false, true, true, false, false, false, false, false, false, false, false, false, false, false, false, false, false, false, false, false] rfl rfl (one_of HT_.out (by kernel_rfl)) (by decide) (fun K hK => ?_)
                  refine goes_ Tryd.func23 (by kernel_rfl) rfl #[.agg #[.bool t108, .int .i64 t109], .agg #[.bool false, .int .i64 (wrap64 (a0))]] (by rfl) rfl rfl (by (try simp only [List.map_toArray, List.map_cons, List.map_nil]); first | done | rfl | (simp only [List.length_drop, List.length_take]; rfl)) ?_
                  with_reducible refine (fix_Sub.calls k t108 t109 false (wrap64 (a0)) t110 t111 _ A8.out).mono ?_
                  rintro e w41 ⟨rfl, hb⟩
                  refine ⟨_, rfl, ?_⟩
                  have n0_ := Aside0.mk (blk_below (g := gb101) (o := .cells #[.bool a1_0, .int .i64 a1_1] 25 (0, 0)) (by (with_reducible repeat (first | refine blk_drewN ?_ _ | refine blk_drew ?_ | refine blk_alloc ?_ _)); exact BK101.out) hb)
                  have n1_ := Aside0.mk (blk_below (g := gb103) (o := .cells #[.bool false, .int .i64 9223372036854775807] 25 (0, 0)) (by (with_reducible repeat (first | refine blk_drewN ?_ _ | refine blk_drew ?_ | refine blk_alloc ?_ _)); exact BK103.out) hb)
                  have n2_ := Aside0.mk (blk_below (g := gb104) (o := .cells #[.bool false, .int .i64 (wrap64 (a0))] 25 (0, 0)) (by (with_reducible repeat (first | refine blk_drewN ?_ _ | refine blk_drew ?_ | refine blk_alloc ?_ _)); exact BK104.out) hb)
                  have n3_ := Aside0.mk (blk_below (g := gb105) (o := .cells #[.bool true, .int .i64 0] 25 (0, 0)) (by (with_reducible repeat (first | refine blk_drewN ?_ _ | refine blk_drew ?_ | refine blk_alloc ?_ _)); exact BK105.out) hb)
                  have n4_ := Aside0.mk (below_step (by repeat (first | (with_reducible first | exact HB.out | apply below_alloc | apply pw_below_drewN | apply below_drew1 | refine below_set ?_ GE101.out | refine below_set ?_ GE103.out | refine below_set ?_ GE104.out | refine below_set ?_ GE105.out) | exact HB.out)) hb)
                  clear BK101
                  clear BK103
                  clear BK104
                  clear BK105
                  clear HB
                  have BK101 := n0_
                  have BK103 := n1_
                  have BK104 := n2_
                  have BK105 := n3_
                  have HB := n4_
                  clear n0_ n1_ n2_ n3_ n4_
                  (try clear hb)
                  (try clear hb2)
                  (try clear hk)
                  (try clear hi)
                  refine hK.out _ _ ⟨(blk_cell BK103.out 0).trans rfl, (blk_cell BK103.out 1).trans rfl, (blk_cell BK104.out 0).trans rfl, (blk_cell BK104.out 1).trans rfl⟩ (fun hHeld => ?_)
                  clear hK K
                  refine norm_ (a' := ?_) ?_ ?_
                  rotate_left
                  · show Act.put _ (some 28) _ = _
                    simp only [Act.put, List.setIfInBounds_toArray, List.set_cons_zero, List.set_cons_succ, i64_w, i32_w]
                    rfl
                  refine pure_ (i := 12) (N := some 29) (v := ?_) (a' := ?_) #[true, true, true, true, true, true, true, true, true, true, true, true, true, true, true, false, false, false, false, false, false, false, false, false, false, false, false, false, false, false, false, false] rfl rfl (any_of HT_.out (by kernel_rfl)) (fun _ _ _ h => h) (Or.inl ⟨by rfl, ?_⟩) ?_ ?_
                  rotate_left
                  · intro w'
                    go_simp
                    with_reducible rfl
                  rotate_left
                  · simp only [Act.put, List.setIfInBounds_toArray, List.set_cons_zero, List.set_cons_succ, i64_w, i32_w]
                    rfl
                  refine pure_ (i := 15) (N := some 32) (v := ?_) (a' := ?_) #[true, true, true, true, true, true, true, true, true, true, true, true, true, true, true, true, false, false, false, false, false, false, false, false, false, false, false, false, false, false, false, false] rfl rfl (any_of HT_.out (by kernel_rfl)) (fun _ _ _ h => h) (Or.inl ⟨by rfl, ?_⟩) ?_ ?_
                  rotate_left
                  · intro w'
                    go_simp
                    with_reducible rfl
                  rotate_left
                  · simp only [Act.put, List.setIfInBounds_toArray, List.set_cons_zero, List.set_cons_succ, i64_w, i32_w]
                    rfl
                  refine pure_ (i := 16) (N := some 33) (v := ?_) (a' := ?_) #[true, true, true, true, true, true, true, true, true, true, true, true, true, true, true, true, true, false, false, false, false, false, false, false, false, false, false, false, false, false, false, false] rfl rfl (any_of HT_.out (by kernel_rfl)) (fun _ _ _ h => h) (Or.inl ⟨by rfl, ?_⟩) ?_ ?_
                  rotate_left
                  · intro w'
                    go_simp
                    with_reducible rfl
                  rotate_left
                  · simp only [Act.put, List.setIfInBounds_toArray, List.set_cons_zero, List.set_cons_succ, i64_w, i32_w]
                    rfl
                  refine pure_ (i := 17) (N := some 34) (v := ?_) (a' := ?_) #[true, true, true, true, true, true, true, true, true, true, true, true, true, true, true, true, true, true, false, false, false, false, false, false, false, false, false, false, false, false, false, false] rfl rfl (any_of HT_.out (by kernel_rfl)) (fun _ _ _ h => h) (Or.inl ⟨by rfl, ?_⟩) ?_ ?_
                  rotate_left
                  · intro w'
                    go_simp
                    with_reducible rfl
                  rotate_left
                  · simp only [Act.put, List.setIfInBounds_toArray, List.set_cons_zero, List.set_cons_succ, i64_w, i32_w]
                    rfl
                  refine take_ (i := 18) (N := some 35) (v := ?_) (a' := ?_) #[true, true, true, true, true, true, true, true, true, true, true, true, true, true, true, true, true, true, true, false, false, false, false, false, false, false, false, false, false, false, false, false] rfl rfl (take_ofW HT_.out HW_.out (by kernel_rfl)) (fun _ _ _ h => h) (Or.inl ⟨by rfl, ?_⟩) hHeld ?_ ?_
                  rotate_left
                  · rintro w' ⟨s0, s1, s2, s3⟩
                    go_simp
                    with_reducible rfl
                  rotate_left
                  · simp only [Act.put, List.setIfInBounds_toArray, List.set_cons_zero, List.set_cons_succ, i64_w, i32_w]
                    rfl
                  refine take_ (i := 19) (N := some 36) (v := ?_) (a' := ?_) #[true, true, true, true, true, true, true, true, true, true, true, true, true, true, true, true, true, true, true, true, false, false, false, false, false, false, false, false, false, false, false, false] rfl rfl (take_ofW HT_.out HW_.out (by kernel_rfl)) (fun _ _ _ h => h) (Or.inl ⟨by rfl, ?_⟩) hHeld ?_ ?_
                  rotate_left
                  · rintro w' ⟨s0, s1, s2, s3⟩
                    go_simp
                    with_reducible rfl
                  rotate_left
                  · simp only [Act.put, List.setIfInBounds_toArray, List.set_cons_zero, List.set_cons_succ, i64_w, i32_w]
                    rfl
                  refine one_ (i := 20) (N := some 37) #[true, true, true, true, true, true, true, true, true, true, true, true, true, true, true, true, true, true, true, true, true, false, false, false, false, false, false, false, false, false, false, false] rfl rfl (one_of HT_.out (by kernel_rfl)) (by decide) (fun K hK => ?_)
                  refine goes_ Tryd.func23 (by kernel_rfl) rfl #[.agg #[.bool false, .int .i64 9223372036854775807], .agg #[.bool false, .int .i64 (wrap64 (a0))]] (by rfl) rfl rfl (by (try simp only [List.map_toArray, List.map_cons, List.map_nil]); first | done | rfl | (simp only [List.length_drop, List.length_take]; rfl)) ?_
                  with_reducible refine (fix_Sub.calls k false 9223372036854775807 false (wrap64 (a0)) false t113 _ A10.out).mono ?_
                  rintro e w42 ⟨rfl, hb⟩
                  refine ⟨_, rfl, ?_⟩
                  have n0_ := Aside0.mk (blk_below (g := gb101) (o := .cells #[.bool a1_0, .int .i64 a1_1] 25 (0, 0)) (by (with_reducible repeat (first | refine blk_drewN ?_ _ | refine blk_drew ?_ | refine blk_alloc ?_ _)); exact BK101.out) hb)
                  have n1_ := Aside0.mk (blk_below (g := gb103) (o := .cells #[.bool false, .int .i64 9223372036854775807] 25 (0, 0)) (by (with_reducible repeat (first | refine blk_drewN ?_ _ | refine blk_drew ?_ | refine blk_alloc ?_ _)); exact BK103.out) hb)
                  have n2_ := Aside0.mk (blk_below (g := gb104) (o := .cells #[.bool false, .int .i64 (wrap64 (a0))] 25 (0, 0)) (by (with_reducible repeat (first | refine blk_drewN ?_ _ | refine blk_drew ?_ | refine blk_alloc ?_ _)); exact BK104.out) hb)
                  have n3_ := Aside0.mk (blk_below (g := gb105) (o := .cells #[.bool true, .int .i64 0] 25 (0, 0)) (by (with_reducible repeat (first | refine blk_drewN ?_ _ | refine blk_drew ?_ | refine blk_alloc ?_ _)); exact BK105.out) hb)
                  have n4_ := Aside0.mk (below_step (by repeat (first | (with_reducible first | exact HB.out | apply below_alloc | apply pw_below_drewN | apply below_drew1 | refine below_set ?_ GE101.out | refine below_set ?_ GE103.out | refine below_set ?_ GE104.out | refine below_set ?_ GE105.out) | exact HB.out)) hb)
                  clear BK101
                  clear BK103
                  clear BK104
                  clear BK105
                  clear HB
                  have BK101 := n0_
                  have BK103 := n1_
                  have BK104 := n2_
                  have BK105 := n3_
                  have HB := n4_
                  clear n0_ n1_ n2_ n3_ n4_
                  (try clear hb)
                  (try clear hb2)
                  (try clear hk)
                  (try clear hi)
                  refine hK.out _ _ ⟨(blk_cell BK103.out 0).trans rfl, (blk_cell BK103.out 1).trans rfl, (blk_cell BK104.out 0).trans rfl, (blk_cell BK104.out 1).trans rfl⟩ (fun hHeld => ?_)
                  clear hK K
                  refine norm_ (a' := ?_) ?_ ?_
                  rotate_left
                  · show Act.put _ (some 37) _ = _
                    simp only [Act.put, List.setIfInBounds_toArray, List.set_cons_zero, List.set_cons_succ, i64_w, i32_w]
                    rfl
                  refine pure_ (i := 21) (N := some 38) (v := ?_) (a' := ?_) #[true, true, true, true, true, true, true, true, true, true, true, true, true, true, true, true, true, true, true, true, true, true, false, false, false, false, false, false, false, false, false, false] rfl rfl (any_of HT_.out (by kernel_rfl)) (fun _ _ _ h => h) (Or.inl ⟨by rfl, ?_⟩) ?_ ?_
                  rotate_left
                  · intro w'
                    go_simp
                    with_reducible rfl
                  rotate_left
                  · simp only [Act.put, List.setIfInBounds_toArray, List.set_cons_zero, List.set_cons_succ, i64_w, i32_w]
                    rfl
                  refine pure_ (i := 22) (N := some 39) (v := ?_) (a' := ?_) #[true, true, true, true, true, true, true, true, true, true, true, true, true, true, true, true, true, true, true, true, true, true, true, false, false, false, false, false, false, false, false, false] rfl rfl (any_of HT_.out (by kernel_rfl)) (fun _ _ _ h => h) (Or.inl ⟨by rfl, ?_⟩) ?_ ?_
                  rotate_left
                  · intro w'
                    go_simp
                    with_reducible rfl
                  rotate_left
                  · simp only [Act.put, List.setIfInBounds_toArray, List.set_cons_zero, List.set_cons_succ, i64_w, i32_w]
                    rfl
                  refine pure_ (i := 23) (N := some 40) (v := ?_) (a' := ?_) #[true, true, true, true, true, true, true, true, true, true, true, true, true, true, true, true, true, true, true, true, true, true, true, true, false, false, false, false, false, false, false, false] rfl rfl (any_of HT_.out (by kernel_rfl)) (fun _ _ _ h => h) (Or.inl ⟨by rfl, ?_⟩) ?_ ?_
                  rotate_left
                  · intro w'
                    go_simp
                    with_reducible rfl
                  rotate_left
                  · simp only [Act.put, List.setIfInBounds_toArray, List.set_cons_zero, List.set_cons_succ, i64_w, i32_w]
                    rfl
                  refine take_ (i := 24) (N := some 41) (v := ?_) (a' := ?_) #[true, true, true, true, true, true, true, true, true, true, true, true, true, true, true, true, true, true, true, true, true, true, true, true, true, false, false, false, false, false, false, false] rfl rfl (take_ofW HT_.out HW_.out (by kernel_rfl)) (fun _ _ _ h => h) (Or.inl ⟨by rfl, ?_⟩) hHeld ?_ ?_
                  rotate_left
                  · rintro w' ⟨s0, s1, s2, s3⟩
                    go_simp
                    with_reducible rfl
                  rotate_left
                  · simp only [Act.put, List.setIfInBounds_toArray, List.set_cons_zero, List.set_cons_succ, i64_w, i32_w]
                    rfl
                  refine one_ (i := 25) (N := some 42) #[true, true, true, true, true, true, true, true, true, true, true, true, true, true, true, true, true, true, true, true, true, true, true, true, true, true, false, false, false, false, false, false] rfl rfl (one_of HT_.out (by kernel_rfl)) (by decide) (fun K hK => ?_)
                  refine goes_ Tryd.func16 (by kernel_rfl) rfl #[.agg #[.bool false, .int .i64 9223372036854775807]] (by rfl) rfl rfl (by (try simp only [List.map_toArray, List.map_cons, List.map_nil]); first | done | rfl | (simp only [List.length_drop, List.length_take]; rfl)) ?_
                  with_reducible refine (fix_Is.calls false 9223372036854775807 true _ A12.out).mono ?_
                  rintro e w43 ⟨rfl, hb⟩
                  refine ⟨_, rfl, ?_⟩
                  have n0_ := Aside0.mk (blk_below (g := gb101) (o := .cells #[.bool a1_0, .int .i64 a1_1] 25 (0, 0)) (by (with_reducible repeat (first | refine blk_drewN ?_ _ | refine blk_drew ?_ | refine blk_alloc ?_ _)); exact BK101.out) hb)
                  have n1_ := Aside0.mk (blk_below (g := gb103) (o := .cells #[.bool false, .int .i64 9223372036854775807] 25 (0, 0)) (by (with_reducible repeat (first | refine blk_drewN ?_ _ | refine blk_drew ?_ | refine blk_alloc ?_ _)); exact BK103.out) hb)
                  have n2_ := Aside0.mk (blk_below (g := gb104) (o := .cells #[.bool false, .int .i64 (wrap64 (a0))] 25 (0, 0)) (by (with_reducible repeat (first | refine blk_drewN ?_ _ | refine blk_drew ?_ | refine blk_alloc ?_ _)); exact BK104.out) hb)
                  have n3_ := Aside0.mk (blk_below (g := gb105) (o := .cells #[.bool true, .int .i64 0] 25 (0, 0)) (by (with_reducible repeat (first | refine blk_drewN ?_ _ | refine blk_drew ?_ | refine blk_alloc ?_ _)); exact BK105.out) hb)
                  have n4_ := Aside0.mk (below_step (by repeat (first | (with_reducible first | exact HB.out | apply below_alloc | apply pw_below_drewN | apply below_drew1 | refine below_set ?_ GE101.out | refine below_set ?_ GE103.out | refine below_set ?_ GE104.out | refine below_set ?_ GE105.out) | exact HB.out)) hb)
                  clear BK101
                  clear BK103
                  clear BK104
                  clear BK105
                  clear HB
                  have BK101 := n0_
                  have BK103 := n1_
                  have BK104 := n2_
                  have BK105 := n3_
                  have HB := n4_
                  clear n0_ n1_ n2_ n3_ n4_
                  (try clear hb)
                  (try clear hb2)
                  (try clear hk)
                  (try clear hi)
                  refine hK.out _ _ ⟨(blk_cell BK103.out 0).trans rfl, (blk_cell BK103.out 1).trans rfl, (blk_cell BK104.out 0).trans rfl, (blk_cell BK104.out 1).trans rfl⟩ (fun hHeld => ?_)
                  clear hK K
                  refine norm_ (a' := ?_) ?_ ?_
                  rotate_left
                  · show Act.put _ (some 42) _ = _
                    simp only [Act.put, List.setIfInBounds_toArray, List.set_cons_zero, List.set_cons_succ, i64_w, i32_w]
                    rfl
                  refine pure_ (i := 26) (N := some 43) (v := ?_) (a' := ?_) #[true, true, true, true, true, true, true, true, true, true, true, true, true, true, true, true, true, true, true, true, true, true, true, true, true, true, true, false, false, false, false, false] rfl rfl (any_of HT_.out (by kernel_rfl)) (fun _ _ _ h => h) (Or.inl ⟨by rfl, ?_⟩) ?_ ?_
                  rotate_left
                  · intro w'
                    go_simp
                    with_reducible rfl
                  rotate_left
                  · simp only [Act.put, List.setIfInBounds_toArray, List.set_cons_zero, List.set_cons_succ, i64_w, i32_w]
                    rfl
                  refine pure_ (i := 27) (N := some 44) (v := ?_) (a' := ?_) #[true, true, true, true, true, true, true, true, true, true, true, true, true, true, true, true, true, true, true, true, true, true, true, true, true, true, true, true, false, false, false, false] rfl rfl (any_of HT_.out (by kernel_rfl)) (fun _ _ _ h => h) (Or.inl ⟨by rfl, ?_⟩) ?_ ?_
                  rotate_left
                  · intro w'
                    go_simp
                    with_reducible rfl
                  rotate_left
                  · simp only [Act.put, List.setIfInBounds_toArray, List.set_cons_zero, List.set_cons_succ, i64_w, i32_w]
                    rfl
                  refine pure_ (i := 28) (N := some 45) (v := ?_) (a' := ?_) #[true, true, true, true, true, true, true, true, true, true, true, true, true, true, true, true, true, true, true, true, true, true, true, true, true, true, true, true, true, false, false, false] rfl rfl (any_of HT_.out (by kernel_rfl)) (fun _ _ _ h => h) (Or.inl ⟨by rfl, ?_⟩) ?_ ?_
                  rotate_left
                  · intro w'
                    go_simp
                    with_reducible rfl
                  rotate_left
                  · simp only [Act.put, List.setIfInBounds_toArray, List.set_cons_zero, List.set_cons_succ, i64_w, i32_w]
                    rfl
                  refine pure_ (i := 29) (N := some 46) (v := ?_) (a' := ?_) #[true, true, true, true, true, true, true, true, true, true, true, true, true, true, true, true, true, true, true, true, true, true, true, true, true, true, true, true, true, true, false, false] rfl rfl (any_of HT_.out (by kernel_rfl)) (fun _ _ _ h => h) (Or.inl ⟨by rfl, ?_⟩) ?_ ?_
                  rotate_left
                  · intro w'
                    go_simp
                    with_reducible rfl
                  rotate_left
                  · simp only [Act.put, List.setIfInBounds_toArray, List.set_cons_zero, List.set_cons_succ, i64_w, i32_w]
                    rfl
                  refine one_ (i := 30) (N := some 47) #[true, true, true, true, true, true, true, true, true, true, true, true, true, true, true, true, true, true, true, true, true, true, true, true, true, true, true, true, true, true, true, false] rfl rfl (one_of HT_.out (by kernel_rfl)) (by decide) (fun K hK => ?_)
                  refine goes_ Tryd.func16 (by kernel_rfl) rfl #[.agg #[.bool false, .int .i64 (-9223372036854775808)]] (by rfl) rfl rfl (by (try simp only [List.map_toArray, List.map_cons, List.map_nil]); first | done | rfl | (simp only [List.length_drop, List.length_take]; rfl)) ?_
                  with_reducible refine (fix_Is.calls false (-9223372036854775808) false _ A14.out).mono ?_
                  rintro e w44 ⟨rfl, hb⟩
                  refine ⟨_, rfl, ?_⟩
                  have n0_ := Aside0.mk (blk_below (g := gb101) (o := .cells #[.bool a1_0, .int .i64 a1_1] 25 (0, 0)) (by (with_reducible repeat (first | refine blk_drewN ?_ _ | refine blk_drew ?_ | refine blk_alloc ?_ _)); exact BK101.out) hb)
                  have n1_ := Aside0.mk (blk_below (g := gb103) (o := .cells #[.bool false, .int .i64 9223372036854775807] 25 (0, 0)) (by (with_reducible repeat (first | refine blk_drewN ?_ _ | refine blk_drew ?_ | refine blk_alloc ?_ _)); exact BK103.out) hb)
                  have n2_ := Aside0.mk (blk_below (g := gb104) (o := .cells #[.bool false, .int .i64 (wrap64 (a0))] 25 (0, 0)) (by (with_reducible repeat (first | refine blk_drewN ?_ _ | refine blk_drew ?_ | refine blk_alloc ?_ _)); exact BK104.out) hb)
                  have n3_ := Aside0.mk (blk_below (g := gb105) (o := .cells #[.bool true, .int .i64 0] 25 (0, 0)) (by (with_reducible repeat (first | refine blk_drewN ?_ _ | refine blk_drew ?_ | refine blk_alloc ?_ _)); exact BK105.out) hb)
                  have n4_ := Aside0.mk (below_step (by repeat (first | (with_reducible first | exact HB.out | apply below_alloc | apply pw_below_drewN | apply below_drew1 | refine below_set ?_ GE101.out | refine below_set ?_ GE103.out | refine below_set ?_ GE104.out | refine below_set ?_ GE105.out) | exact HB.out)) hb)
                  clear BK101
                  clear BK103
                  clear BK104
                  clear BK105
                  clear HB
                  have BK101 := n0_
                  have BK103 := n1_
                  have BK104 := n2_
                  have BK105 := n3_
                  have HB := n4_
                  clear n0_ n1_ n2_ n3_ n4_
                  (try clear hb)
                  (try clear hb2)
                  (try clear hk)
                  (try clear hi)
                  refine hK.out _ _ ⟨(blk_cell BK103.out 0).trans rfl, (blk_cell BK103.out 1).trans rfl, (blk_cell BK104.out 0).trans rfl, (blk_cell BK104.out 1).trans rfl⟩ (fun hHeld => ?_)
                  clear hK K
                  refine norm_ (a' := ?_) ?_ ?_
                  rotate_left
                  · show Act.put _ (some 47) _ = _
                    simp only [Act.put, List.setIfInBounds_toArray, List.set_cons_zero, List.set_cons_succ, i64_w, i32_w]
                    rfl
                  refine pure_ (i := 31) (N := some 48) (v := ?_) (a' := ?_) #[true, true, true, true, true, true, true, true, true, true, true, true, true, true, true, true, true, true, true, true, true, true, true, true, true, true, true, true, true, true, true, true] rfl rfl (any_of HT_.out (by kernel_rfl)) (fun _ _ _ h => h) (Or.inl ⟨by rfl, ?_⟩) ?_ ?_
                  rotate_left
                  · intro w'
                    go_simp
                    with_reducible rfl
                  rotate_left
                  · simp only [Act.put, List.setIfInBounds_toArray, List.set_cons_zero, List.set_cons_succ, i64_w, i32_w]
                    rfl
                  refine done_ (done_of HT_.out (by kernel_rfl)) ?_
                  go_wp2
                  have n0_ := Aside0.mk (blk_drew BK101.out)
                  have n1_ := Aside0.mk (blk_drew BK103.out)
                  have n2_ := Aside0.mk (blk_drew BK104.out)
                  have n3_ := Aside0.mk (blk_drew BK105.out)
                  have n4_ := Aside0.mk (below_drew1 HB.out)
                  clear BK101
                  clear BK103
                  clear BK104
                  clear BK105
                  clear HB
                  have BK101 := n0_
                  have BK103 := n1_
                  have BK104 := n2_
                  have BK105 := n3_
                  have HB := n4_
                  clear n0_ n1_ n2_ n3_ n4_
                  refine start_ (n := 16) (S := fun w' => w'.cell? ⟨gb101, 0, none⟩ = some (.bool a1_0) ∧ w'.cell? ⟨gb101, 1, none⟩ = some (.int .i64 a1_1) ∧ w'.cell? ⟨gb105, 0, none⟩ = some (.bool true) ∧ w'.cell? ⟨gb105, 1, none⟩ = some (.int .i64 0)) (ds := []) #[false, false, false, false, false, false, false, false, false, false, false, false, false, false, false, false] (by kernel_rfl) rfl rfl ⟨(blk_cell BK101.out 0).trans rfl, (blk_cell BK101.out 1).trans rfl, (blk_cell BK105.out 0).trans rfl, (blk_cell BK105.out 1).trans rfl⟩ (fun hHeld => ?_)
                  generalize w44.drew = wA at BK101 BK103 BK104 BK105 HB hHeld ⊢
                  refine take_ (i := 0) (N := some 49) (v := ?_) (a' := ?_) #[true, false, false, false, false, false, false, false, false, false, false, false, false, false, false, false] rfl rfl (by kernel_rfl) (fun _ _ _ h => h) (Or.inl ⟨by rfl, ?_⟩) hHeld ?_ ?_
                  rotate_left
                  · rintro w' ⟨s0, s1, s2, s3⟩
                    go_simp
                    with_reducible rfl
                  rotate_left
                  · simp only [Act.put, List.setIfInBounds_toArray, List.set_cons_zero, List.set_cons_succ, i64_w, i32_w]
                    rfl
                  refine take_ (i := 1) (N := some 50) (v := ?_) (a' := ?_) #[true, true, false, false, false, false, false, false, false, false, false, false, false, false, false, false] rfl rfl (by kernel_rfl) (fun _ _ _ h => h) (Or.inl ⟨by rfl, ?_⟩) hHeld ?_ ?_
                  rotate_left
                  · rintro w' ⟨s0, s1, s2, s3⟩
                    go_simp
                    with_reducible rfl
                  rotate_left
                  · simp only [Act.put, List.setIfInBounds_toArray, List.set_cons_zero, List.set_cons_succ, i64_w, i32_w]
                    rfl
                  refine take_ (i := 3) (N := some 52) (v := ?_) (a' := ?_) #[true, true, false, true, false, false, false, false, false, false, false, false, false, false, false, false] rfl rfl (by kernel_rfl) (fun _ _ _ h => h) (Or.inl ⟨by rfl, ?_⟩) hHeld ?_ ?_
                  rotate_left
                  · rintro w' ⟨s0, s1, s2, s3⟩
                    go_simp
                    with_reducible rfl
                  rotate_left
                  · simp only [Act.put, List.setIfInBounds_toArray, List.set_cons_zero, List.set_cons_succ, i64_w, i32_w]
                    rfl
                  refine take_ (i := 4) (N := some 53) (v := ?_) (a' := ?_) #[true, true, false, true, true, false, false, false, false, false, false, false, false, false, false, false] rfl rfl (by kernel_rfl) (fun _ _ _ h => h) (Or.inl ⟨by rfl, ?_⟩) hHeld ?_ ?_
                  rotate_left
                  · rintro w' ⟨s0, s1, s2, s3⟩
                    go_simp
                    with_reducible rfl
                  rotate_left
                  · simp only [Act.put, List.setIfInBounds_toArray, List.set_cons_zero, List.set_cons_succ, i64_w, i32_w]
                    rfl
                  refine take_ (i := 6) (N := some 55) (v := ?_) (a' := ?_) #[true, true, false, true, true, false, true, false, false, false, false, false, false, false, false, false] rfl rfl (by kernel_rfl) (fun _ _ _ h => h) (Or.inl ⟨by rfl, ?_⟩) hHeld ?_ ?_
                  rotate_left
                  · rintro w' ⟨s0, s1, s2, s3⟩
                    go_simp
                    with_reducible rfl
                  rotate_left
                  · simp only [Act.put, List.setIfInBounds_toArray, List.set_cons_zero, List.set_cons_succ, i64_w, i32_w]
                    rfl
                  refine take_ (i := 7) (N := some 56) (v := ?_) (a' := ?_) #[true, true, false, true, true, false, true, true, false, false, false, false, false, false, false, false] rfl rfl (by kernel_rfl) (fun _ _ _ h => h) (Or.inl ⟨by rfl, ?_⟩) hHeld ?_ ?_
                  rotate_left
                  · rintro w' ⟨s0, s1, s2, s3⟩
                    go_simp
                    with_reducible rfl
                  rotate_left
                  · simp only [Act.put, List.setIfInBounds_toArray, List.set_cons_zero, List.set_cons_succ, i64_w, i32_w]
                    rfl
                  refine take_ (i := 9) (N := some 58) (v := ?_) (a' := ?_) #[true, true, false, true, true, false, true, true, false, true, false, false, false, false, false, false] rfl rfl (by kernel_rfl) (fun _ _ _ h => h) (Or.inl ⟨by rfl, ?_⟩) hHeld ?_ ?_
                  rotate_left
                  · rintro w' ⟨s0, s1, s2, s3⟩
                    go_simp
                    with_reducible rfl
                  rotate_left
                  · simp only [Act.put, List.setIfInBounds_toArray, List.set_cons_zero, List.set_cons_succ, i64_w, i32_w]
                    rfl
                  refine take_ (i := 10) (N := some 59) (v := ?_) (a' := ?_) #[true, true, false, true, true, false, true, true, false, true, true, false, false, false, false, false] rfl rfl (by kernel_rfl) (fun _ _ _ h => h) (Or.inl ⟨by rfl, ?_⟩) hHeld ?_ ?_
                  rotate_left
                  · rintro w' ⟨s0, s1, s2, s3⟩
                    go_simp
                    with_reducible rfl
                  rotate_left
                  · simp only [Act.put, List.setIfInBounds_toArray, List.set_cons_zero, List.set_cons_succ, i64_w, i32_w]
                    rfl
                  refine take_ (i := 12) (N := some 61) (v := ?_) (a' := ?_) #[true, true, false, true, true, false, true, true, false, true, true, false, true, false, false, false] rfl rfl (by kernel_rfl) (fun _ _ _ h => h) (Or.inl ⟨by rfl, ?_⟩) hHeld ?_ ?_
                  rotate_left
                  · rintro w' ⟨s0, s1, s2, s3⟩
                    go_simp
                    with_reducible rfl
                  rotate_left
                  · simp only [Act.put, List.setIfInBounds_toArray, List.set_cons_zero, List.set_cons_succ, i64_w, i32_w]
                    rfl
                  refine pure_ (i := 15) (N := some 64) (v := ?_) (a' := ?_) #[true, true, false, true, true, false, true, true, false, true, true, false, true, false, false, true] rfl rfl (by kernel_rfl) (fun _ _ _ h => h) (Or.inl ⟨by rfl, ?_⟩) ?_ ?_
                  rotate_left
                  · intro w'
                    go_simp
                    with_reducible rfl
                  rotate_left
                  · simp only [Act.put, List.setIfInBounds_toArray, List.set_cons_zero, List.set_cons_succ, i64_w, i32_w]
                    rfl
                  refine one_ (i := 2) (N := some 51) #[true, true, true, true, true, false, true, true, false, true, true, false, true, false, false, true] rfl rfl (by kernel_rfl) (by decide) (fun K hK => ?_)
                  refine goes_ Tryd.func18 (by kernel_rfl) rfl #[.agg #[.bool true, .int .i64 0], .agg #[.bool a1_0, .int .i64 a1_1]] (by rfl) rfl rfl (by (try simp only [List.map_toArray, List.map_cons, List.map_nil]); first | done | rfl | (simp only [List.length_drop, List.length_take]; rfl)) ?_
                  with_reducible refine (fix_Add.calls 1200 true 0 a1_0 a1_1 true 0 _ E1.out).mono ?_
                  rintro e wq ⟨rfl, hb⟩
                  refine ⟨_, rfl, ?_⟩
                  have n0_ := Aside0.mk (blk_below BK101.out hb)
                  have n1_ := Aside0.mk (blk_below BK103.out hb)
                  have n2_ := Aside0.mk (blk_below BK104.out hb)
                  have n3_ := Aside0.mk (blk_below BK105.out hb)
                  have n4_ := Aside0.mk (below_step HB.out hb)
                  clear BK101
                  clear BK103
                  clear BK104
                  clear BK105
                  clear HB
                  have BK101 := n0_
                  have BK103 := n1_
                  have BK104 := n2_
                  have BK105 := n3_
                  have HB := n4_
                  clear n0_ n1_ n2_ n3_ n4_
                  clear hb
                  refine hK.out _ _ ⟨(blk_cell BK101.out 0).trans rfl, (blk_cell BK101.out 1).trans rfl, (blk_cell BK105.out 0).trans rfl, (blk_cell BK105.out 1).trans rfl⟩ (fun hHeld => ?_)
                  clear hK K
                  refine norm_ (a' := ?_) ?_ ?_
                  rotate_left
                  · show Act.put _ (some 51) _ = _
                    simp only [Act.put, List.setIfInBounds_toArray, List.set_cons_zero, List.set_cons_succ, i64_w, i32_w]
                    rfl
                  refine one_ (i := 5) (N := some 54) #[true, true, true, true, true, true, true, true, false, true, true, false, true, false, false, true] rfl rfl (by kernel_rfl) (by decide) (fun K hK => ?_)
                  refine goes_ Tryd.func23 (by kernel_rfl) rfl #[.agg #[.bool a1_0, .int .i64 a1_1], .agg #[.bool true, .int .i64 0]] (by rfl) rfl rfl (by (try simp only [List.map_toArray, List.map_cons, List.map_nil]); first | done | rfl | (simp only [List.length_drop, List.length_take]; rfl)) ?_
                  with_reducible refine (fix_Sub.calls 1200 a1_0 a1_1 true 0 true 0 _ E2.out).mono ?_
                  rintro e wq ⟨rfl, hb⟩
                  refine ⟨_, rfl, ?_⟩
                  have n0_ := Aside0.mk (blk_below BK101.out hb)
                  have n1_ := Aside0.mk (blk_below BK103.out hb)
                  have n2_ := Aside0.mk (blk_below BK104.out hb)
                  have n3_ := Aside0.mk (blk_below BK105.out hb)
                  have n4_ := Aside0.mk (below_step HB.out hb)
                  clear BK101
                  clear BK103
                  clear BK104
                  clear BK105
                  clear HB
                  have BK101 := n0_
                  have BK103 := n1_
                  have BK104 := n2_
                  have BK105 := n3_
                  have HB := n4_
                  clear n0_ n1_ n2_ n3_ n4_
                  clear hb
                  refine hK.out _ _ ⟨(blk_cell BK101.out 0).trans rfl, (blk_cell BK101.out 1).trans rfl, (blk_cell BK105.out 0).trans rfl, (blk_cell BK105.out 1).trans rfl⟩ (fun hHeld => ?_)
                  clear hK K
                  refine norm_ (a' := ?_) ?_ ?_
                  rotate_left
                  · show Act.put _ (some 54) _ = _
                    simp only [Act.put, List.setIfInBounds_toArray, List.set_cons_zero, List.set_cons_succ, i64_w, i32_w]
                    rfl
                  refine one_ (i := 8) (N := some 57) #[true, true, true, true, true, true, true, true, true, true, true, false, true, false, false, true] rfl rfl (by kernel_rfl) (by decide) (fun K hK => ?_)
                  refine goes_ Tryd.func19 (by kernel_rfl) rfl #[.agg #[.bool true, .int .i64 0], .agg #[.bool a1_0, .int .i64 a1_1]] (by rfl) rfl rfl (by (try simp only [List.map_toArray, List.map_cons, List.map_nil]); first | done | rfl | (simp only [List.length_drop, List.length_take]; rfl)) ?_
                  with_reducible refine (fix_Mul.calls 1200 true 0 a1_0 a1_1 true 0 _ E3.out).mono ?_
                  rintro e wq ⟨rfl, hb⟩
                  refine ⟨_, rfl, ?_⟩
                  have n0_ := Aside0.mk (blk_below BK101.out hb)
                  have n1_ := Aside0.mk (blk_below BK103.out hb)
                  have n2_ := Aside0.mk (blk_below BK104.out hb)
                  have n3_ := Aside0.mk (blk_below BK105.out hb)
                  have n4_ := Aside0.mk (below_step HB.out hb)
                  clear BK101
                  clear BK103
                  clear BK104
                  clear BK105
                  clear HB
                  have BK101 := n0_
                  have BK103 := n1_
                  have BK104 := n2_
                  have BK105 := n3_
                  have HB := n4_
                  clear n0_ n1_ n2_ n3_ n4_
                  clear hb
                  refine hK.out _ _ ⟨(blk_cell BK101.out 0).trans rfl, (blk_cell BK101.out 1).trans rfl, (blk_cell BK105.out 0).trans rfl, (blk_cell BK105.out 1).trans rfl⟩ (fun hHeld => ?_)
                  clear hK K
                  refine norm_ (a' := ?_) ?_ ?_
                  rotate_left
                  · show Act.put _ (some 57) _ = _
                    simp only [Act.put, List.setIfInBounds_toArray, List.set_cons_zero, List.set_cons_succ, i64_w, i32_w]
                    rfl
                  refine one_ (i := 11) (N := some 60) #[true, true, true, true, true, true, true, true, true, true, true, true, true, false, false, true] rfl rfl (by kernel_rfl) (by decide) (fun K hK => ?_)
                  refine goes_ Tryd.func20 (by kernel_rfl) rfl #[.agg #[.bool a1_0, .int .i64 a1_1], .agg #[.bool true, .int .i64 0]] (by rfl) rfl rfl (by (try simp only [List.map_toArray, List.map_cons, List.map_nil]); first | done | rfl | (simp only [List.length_drop, List.length_take]; rfl)) ?_
                  with_reducible refine (fix_Div.calls 1200 a1_0 a1_1 true 0 true 0 _ E4.out).mono ?_
                  rintro e wq ⟨rfl, hb⟩
                  refine ⟨_, rfl, ?_⟩
                  have n0_ := Aside0.mk (blk_below BK101.out hb)
                  have n1_ := Aside0.mk (blk_below BK103.out hb)
                  have n2_ := Aside0.mk (blk_below BK104.out hb)
                  have n3_ := Aside0.mk (blk_below BK105.out hb)
                  have n4_ := Aside0.mk (below_step HB.out hb)
                  clear BK101
                  clear BK103
                  clear BK104
                  clear BK105
                  clear HB
                  have BK101 := n0_
                  have BK103 := n1_
                  have BK104 := n2_
                  have BK105 := n3_
                  have HB := n4_
                  clear n0_ n1_ n2_ n3_ n4_
                  clear hb
                  refine hK.out _ _ ⟨(blk_cell BK101.out 0).trans rfl, (blk_cell BK101.out 1).trans rfl, (blk_cell BK105.out 0).trans rfl, (blk_cell BK105.out 1).trans rfl⟩ (fun hHeld => ?_)
                  clear hK K
                  refine norm_ (a' := ?_) ?_ ?_
                  rotate_left
                  · show Act.put _ (some 60) _ = _
                    simp only [Act.put, List.setIfInBounds_toArray, List.set_cons_zero, List.set_cons_succ, i64_w, i32_w]
                    rfl
                  refine one_ (i := 13) (N := some 62) #[true, true, true, true, true, true, true, true, true, true, true, true, true, true, false, true] rfl rfl (by kernel_rfl) (by decide) (fun K hK => ?_)
                  refine goes_ Tryd.func21 (by kernel_rfl) rfl #[.agg #[.bool true, .int .i64 0]] (by rfl) rfl rfl (by (try simp only [List.map_toArray, List.map_cons, List.map_nil]); first | done | rfl | (simp only [List.length_drop, List.length_take]; rfl)) ?_
                  with_reducible refine (fix_Neg.calls true 0 true 0 _ E5.out).mono ?_
                  rintro e wq ⟨rfl, hb⟩
                  refine ⟨_, rfl, ?_⟩
                  have n0_ := Aside0.mk (blk_below BK101.out hb)
                  have n1_ := Aside0.mk (blk_below BK103.out hb)
                  have n2_ := Aside0.mk (blk_below BK104.out hb)
                  have n3_ := Aside0.mk (blk_below BK105.out hb)
                  have n4_ := Aside0.mk (below_step HB.out hb)
                  clear BK101
                  clear BK103
                  clear BK104
                  clear BK105
                  clear HB
                  have BK101 := n0_
                  have BK103 := n1_
                  have BK104 := n2_
                  have BK105 := n3_
                  have HB := n4_
                  clear n0_ n1_ n2_ n3_ n4_
                  clear hb
                  refine hK.out _ _ ⟨(blk_cell BK101.out 0).trans rfl, (blk_cell BK101.out 1).trans rfl, (blk_cell BK105.out 0).trans rfl, (blk_cell BK105.out 1).trans rfl⟩ (fun hHeld => ?_)
                  clear hK K
                  refine norm_ (a' := ?_) ?_ ?_
                  rotate_left
                  · show Act.put _ (some 62) _ = _
                    simp only [Act.put, List.setIfInBounds_toArray, List.set_cons_zero, List.set_cons_succ, i64_w, i32_w]
                    rfl
                  refine pure_ (i := 14) (N := some 63) (v := ?_) (a' := ?_) #[true, true, true, true, true, true, true, true, true, true, true, true, true, true, true, true] rfl rfl (by kernel_rfl) (fun _ _ _ h => h) (Or.inl ⟨by rfl, ?_⟩) ?_ ?_
                  rotate_left
                  · intro w'
                    go_simp
                    with_reducible rfl
                  rotate_left
                  · simp only [Act.put, List.setIfInBounds_toArray, List.set_cons_zero, List.set_cons_succ, i64_w, i32_w]
                    rfl
                  refine done_ (by kernel_rfl) ?_
                  clear hHeld
                  go_wp2
                  go_loopg [9, 64] 6 (fun kq v9 v64 w' => ∃ i : Nat, i + kq = 6 ∧ i ≤ 5 ∧ v64 = .int .i64 i ∧ Aside0 (w'.heap[gb101]? = some (.cells #[.bool a1_0, .int .i64 a1_1] 25 (0, 0))) ∧ Aside0 (w'.heap[gb103]? = some (.cells #[.bool false, .int .i64 9223372036854775807] 25 (0, 0))) ∧ Aside0 (w'.heap[gb104]? = some (.cells #[.bool false, .int .i64 (wrap64 (a0))] 25 (0, 0))) ∧ Aside0 (w'.heap[gb105]? = some (.cells #[.bool true, .int .i64 0] 25 (0, 0))) ∧ Aside0 (Below w.heap.size w w'))
                  case atStart => exact ⟨0, rfl, by omega, rfl, BK101, BK103, BK104, BK105, HB⟩
                  case round =>
                    clear BK101 BK103 BK104 BK105 HB
                    obtain ⟨i, hi6, hi5, rfl, BK101, BK103, BK104, BK105, HB⟩ := hrel
                    by_cases hlt : i < 5
                    · cases gk with
                      | zero => omega
                      | succ k1 =>
                        have hix : ∀ W, (Instr.index 45 (.agg #[.bool true, .int .i64 0, .bool true, .int .i64 0, .bool true, .int .i64 0, .bool true, .int .i64 0, .bool true, .int .i64 0]) (.int .i64 (i : Int))).run Tryd.prog W = .ok (.agg #[.bool true, .int .i64 0]) W := by
                          obtain rfl | rfl | rfl | rfl | rfl : i = 0 ∨ i = 1 ∨ i = 2 ∨ i = 3 ∨ i = 4 := by omega
                          all_goals (intro W; kernel_rfl)
                        have hq : ∀ W, (Op.equalIn 10000 25 (.agg #[.bool true, .int .i64 0]) (.agg #[.bool true, .int .i64 0])).run Tryd.prog W = .ok true W := fun W => (eqA25 9998 W true true 0 0).trans rfl
                        have hd : decide ((i : Int) < 5) = true := decide_eq_true (by omega)
                        have hd2 : decide (i < 5) = true := decide_eq_true hlt
                        have hc0 : (wr.alloc (.cells #[.bool true, .int .i64 0] 25 (0, 0))).cell? ⟨gb105, 0, none⟩ = some (.bool true) := (blk_cell (blk_alloc BK105.out _) 0).trans rfl
                        have hc1 : (wr.alloc (.cells #[.bool true, .int .i64 0] 25 (0, 0))).cell? ⟨gb105, 1, none⟩ = some (.int .i64 0) := (blk_cell (blk_alloc BK105.out _) 1).trans rfl
                        go_wp2
                        go_roundg k1
                        case measure => omega
                        case rel => exact ⟨i + 1, by omega, by omega, by go_num, ⟨blk_alloc BK101.out _⟩, ⟨blk_alloc BK103.out _⟩, ⟨blk_alloc BK104.out _⟩, ⟨blk_alloc BK105.out _⟩, ⟨below_alloc HB.out _⟩⟩
                    · obtain rfl : i = 5 := by omega
                      clear hlt hi6 hi5
                      obtain ⟨w44, rfl⟩ : ∃ x : World, x = wr := ⟨_, rfl⟩
                      go_wp2
                      have n0_ := Aside0.mk (blk_drew BK101.out)
                      have n1_ := Aside0.mk (blk_drew BK103.out)
                      have n2_ := Aside0.mk (blk_drew BK104.out)
                      have n3_ := Aside0.mk (blk_drew BK105.out)
                      have n4_ := Aside0.mk (below_drew1 HB.out)
                      clear BK101
                      clear BK103
                      clear BK104
                      clear BK105
                      clear HB
                      have BK101 := n0_
                      have BK103 := n1_
                      have BK104 := n2_
                      have BK105 := n3_
                      have HB := n4_
                      clear n0_ n1_ n2_ n3_ n4_
                      refine start_ (n := 23) (S := fun w' => w'.cell? ⟨gb103, 0, none⟩ = some (.bool false) ∧ w'.cell? ⟨gb103, 1, none⟩ = some (.int .i64 9223372036854775807) ∧ w'.cell? ⟨gb104, 0, none⟩ = some (.bool false) ∧ w'.cell? ⟨gb104, 1, none⟩ = some (.int .i64 (wrap64 (a0))) ∧ w'.cell? ⟨gb105, 0, none⟩ = some (.bool true) ∧ w'.cell? ⟨gb105, 1, none⟩ = some (.int .i64 0)) (ds := []) #[false, false, false, false, false, false, false, false, false, false, false, false, false, false, false, false, false, false, false, false, false, false, false] (by kernel_rfl) rfl rfl ⟨(blk_cell BK103.out 0).trans rfl, (blk_cell BK103.out 1).trans rfl, (blk_cell BK104.out 0).trans rfl, (blk_cell BK104.out 1).trans rfl, (blk_cell BK105.out 0).trans rfl, (blk_cell BK105.out 1).trans rfl⟩ (fun hHeld => ?_); refine with_tabW spillwaylaw2_FixEdges.tab14 spillwaylaw2_FixEdges.bits14 (fun HT_ HW_ => ?_)
                      generalize w44.drew = w45 at BK101 BK103 BK104 BK105 HB hHeld ⊢
                      refine take_ (i := 0) (N := some 71) (v := ?_) (a' := ?_) #[true, false, false, false, false, false, false, false, false, false, false, false, false, false, false, false, false, false, false, false, false, false, false] rfl rfl (take_ofW HT_.out HW_.out (by kernel_rfl)) (fun _ _ _ h => h) (Or.inl ⟨by rfl, ?_⟩) hHeld ?_ ?_
                      rotate_left
                      · rintro w' ⟨s0, s1, s2, s3, s4, s5⟩
                        go_simp
                        with_reducible rfl
                      rotate_left
                      · simp only [Act.put, List.setIfInBounds_toArray, List.set_cons_zero, List.set_cons_succ, i64_w, i32_w]
                        rfl
                      refine take_ (i := 1) (N := some 72) (v := ?_) (a' := ?_) #[true, true, false, false, false, false, false, false, false, false, false, false, false, false, false, false, false, false, false, false, false, false, false] rfl rfl (take_ofW HT_.out HW_.out (by kernel_rfl)) (fun _ _ _ h => h) (Or.inl ⟨by rfl, ?_⟩) hHeld ?_ ?_
                      rotate_left
                      · rintro w' ⟨s0, s1, s2, s3, s4, s5⟩
                        go_simp
                        with_reducible rfl
                      rotate_left
                      · simp only [Act.put, List.setIfInBounds_toArray, List.set_cons_zero, List.set_cons_succ, i64_w, i32_w]
                        rfl
                      refine take_ (i := 2) (N := some 73) (v := ?_) (a' := ?_) #[true, true, true, false, false, false, false, false, false, false, false, false, false, false, false, false, false, false, false, false, false, false, false] rfl rfl (take_ofW HT_.out HW_.out (by kernel_rfl)) (fun _ _ _ h => h) (Or.inl ⟨by rfl, ?_⟩) hHeld ?_ ?_
                      rotate_left
                      · rintro w' ⟨s0, s1, s2, s3, s4, s5⟩
                        go_simp
                        with_reducible rfl
                      rotate_left
                      · simp only [Act.put, List.setIfInBounds_toArray, List.set_cons_zero, List.set_cons_succ, i64_w, i32_w]
                        rfl
                      refine take_ (i := 6) (N := some 77) (v := ?_) (a' := ?_) #[true, true, true, false, false, false, true, false, false, false, false, false, false, false, false, false, false, false, false, false, false, false, false] rfl rfl (take_ofW HT_.out HW_.out (by kernel_rfl)) (fun _ _ _ h => h) (Or.inl ⟨by rfl, ?_⟩) hHeld ?_ ?_
                      rotate_left
                      · rintro w' ⟨s0, s1, s2, s3, s4, s5⟩
                        go_simp
                        with_reducible rfl
                      rotate_left
                      · simp only [Act.put, List.setIfInBounds_toArray, List.set_cons_zero, List.set_cons_succ, i64_w, i32_w]
                        rfl
                      refine one_ (i := 3) (N := some 74) #[true, true, true, true, false, false, true, false, false, false, false, false, false, false, false, false, false, false, false, false, false, false, false] rfl rfl (one_of HT_.out (by kernel_rfl)) (by decide) (fun K hK => ?_)
                      refine goes_ Tryd.func21 (by kernel_rfl) rfl #[.agg #[.bool false, .int .i64 9223372036854775807]] (by rfl) rfl rfl (by (try simp only [List.map_toArray, List.map_cons, List.map_nil]); first | done | rfl | (simp only [List.length_drop, List.length_take]; rfl)) ?_
                      with_reducible refine (fix_Neg.calls false 9223372036854775807 t116 t117 _ A16.out).mono ?_
                      rintro e w46 ⟨rfl, hb⟩
                      refine ⟨_, rfl, ?_⟩
                      have n0_ := Aside0.mk (blk_below (g := gb101) (o := .cells #[.bool a1_0, .int .i64 a1_1] 25 (0, 0)) (by (with_reducible repeat (first | refine blk_drewN ?_ _ | refine blk_drew ?_ | refine blk_alloc ?_ _)); exact BK101.out) hb)
                      have n1_ := Aside0.mk (blk_below (g := gb103) (o := .cells #[.bool false, .int .i64 9223372036854775807] 25 (0, 0)) (by (with_reducible repeat (first | refine blk_drewN ?_ _ | refine blk_drew ?_ | refine blk_alloc ?_ _)); exact BK103.out) hb)
                      have n2_ := Aside0.mk (blk_below (g := gb104) (o := .cells #[.bool false, .int .i64 (wrap64 (a0))] 25 (0, 0)) (by (with_reducible repeat (first | refine blk_drewN ?_ _ | refine blk_drew ?_ | refine blk_alloc ?_ _)); exact BK104.out) hb)
                      have n3_ := Aside0.mk (blk_below (g := gb105) (o := .cells #[.bool true, .int .i64 0] 25 (0, 0)) (by (with_reducible repeat (first | refine blk_drewN ?_ _ | refine blk_drew ?_ | refine blk_alloc ?_ _)); exact BK105.out) hb)
                      have n4_ := Aside0.mk (below_step (by repeat (first | (with_reducible first | exact HB.out | apply below_alloc | apply pw_below_drewN | apply below_drew1 | refine below_set ?_ GE101.out | refine below_set ?_ GE103.out | refine below_set ?_ GE104.out | refine below_set ?_ GE105.out) | exact HB.out)) hb)
                      clear BK101
                      clear BK103
                      clear BK104
                      clear BK105
                      clear HB
                      have BK101 := n0_
                      have BK103 := n1_
                      have BK104 := n2_
                      have BK105 := n3_
                      have HB := n4_
                      clear n0_ n1_ n2_ n3_ n4_
                      (try clear hb)
                      (try clear hb2)
                      (try clear hk)
                      (try clear hi)
                      refine hK.out _ _ ⟨(blk_cell BK103.out 0).trans rfl, (blk_cell BK103.out 1).trans rfl, (blk_cell BK104.out 0).trans rfl, (blk_cell BK104.out 1).trans rfl, (blk_cell BK105.out 0).trans rfl, (blk_cell BK105.out 1).trans rfl⟩ (fun hHeld => ?_)
                      clear hK K
                      refine norm_ (a' := ?_) ?_ ?_
                      rotate_left
                      · show Act.put _ (some 74) _ = _
                        simp only [Act.put, List.setIfInBounds_toArray, List.set_cons_zero, List.set_cons_succ, i64_w, i32_w]
                        rfl
                      refine one_ (i := 4) (N := some 75) #[true, true, true, true, true, false, true, false, false, false, false, false, false, false, false, false, false, false, false, false, false, false, false] rfl rfl (one_of HT_.out (by kernel_rfl)) (by decide) (fun K hK => ?_)
                      refine Kd.R_lit_step k25 _ 25 ?hg (N := 75) ?hd (xs := ([(⟨false, 9223372036854775807⟩ : S25), (⟨false, wrap64 (a0)⟩ : S25), (⟨t116, t117⟩ : S25)] : List (S25))) (inner := [.bool false, .int .i64 9223372036854775807, .bool false, .int .i64 (wrap64 (a0)), .bool t116, .int .i64 t117]) (ok := fun _ => True) (okp := fun _ => True) ?hr ?hp (fun _ hk => hk) trivial (Below.refl _ _) (Nat.le_refl _) (by simp) ?_; (case hd => rfl); (case hg => rfl); (case hr => first | (go_simp; done) | (go_simp; rfl)); (case hp => exact (Reps.c2 (show Kd.M k25 _ _ _ (⟨false, 9223372036854775807⟩ : S25) [.bool false, .int .i64 9223372036854775807] from (k25_mkM _ _ _ (⟨false, 9223372036854775807⟩ : S25) )) (Reps.c2 (show Kd.M k25 _ _ _ (⟨false, wrap64 (a0)⟩ : S25) [.bool false, .int .i64 (wrap64 (a0))] from (k25_mkM _ _ _ (⟨false, wrap64 (a0)⟩ : S25) )) (Reps.c2 (show Kd.M k25 _ _ _ (⟨t116, t117⟩ : S25) [.bool t116, .int .i64 t117] from (k25_mkM _ _ _ (⟨t116, t117⟩ : S25) )) (Reps.none _ _)))))
                      intro v119 w47 ho48 hb hg_ hnew_
                      clear hg_ hnew_
                      (first | rw [← Ny118.out] at ho48 | (simp only [Int.reduceToNat] at ho48; rw [← Ny118.out] at ho48))
                      have n0_ := Aside0.mk (Kd.R_lower (Kd.R_newB (Kd.R_newB (Kd.R_newB (Kd.R_newB ho48 (g := gb101) (o := .cells #[.bool a1_0, .int .i64 a1_1] 25 (0, 0)) (by (with_reducible repeat (first | refine blk_drewN ?_ _ | refine blk_drew ?_ | refine blk_alloc ?_ _)); exact BK101.out)) (g := gb103) (o := .cells #[.bool false, .int .i64 9223372036854775807] 25 (0, 0)) (by (with_reducible repeat (first | refine blk_drewN ?_ _ | refine blk_drew ?_ | refine blk_alloc ?_ _)); exact BK103.out)) (g := gb104) (o := .cells #[.bool false, .int .i64 (wrap64 (a0))] 25 (0, 0)) (by (with_reducible repeat (first | refine blk_drewN ?_ _ | refine blk_drew ?_ | refine blk_alloc ?_ _)); exact BK104.out)) (g := gb105) (o := .cells #[.bool true, .int .i64 0] 25 (0, 0)) (by (with_reducible repeat (first | refine blk_drewN ?_ _ | refine blk_drew ?_ | refine blk_alloc ?_ _)); exact BK105.out)) (below_size (by repeat (first | (with_reducible first | exact HB.out | apply below_alloc | apply pw_below_drewN | apply below_drew1 | refine below_set ?_ GE101.out | refine below_set ?_ GE103.out | refine below_set ?_ GE104.out | refine below_set ?_ GE105.out) | exact HB.out))))
                      have n1_ := Aside0.mk (blk_below (g := gb101) (o := .cells #[.bool a1_0, .int .i64 a1_1] 25 (0, 0)) (by (with_reducible repeat (first | refine blk_drewN ?_ _ | refine blk_drew ?_ | refine blk_alloc ?_ _)); exact BK101.out) hb)
                      have n2_ := Aside0.mk (blk_below (g := gb103) (o := .cells #[.bool false, .int .i64 9223372036854775807] 25 (0, 0)) (by (with_reducible repeat (first | refine blk_drewN ?_ _ | refine blk_drew ?_ | refine blk_alloc ?_ _)); exact BK103.out) hb)
                      have n3_ := Aside0.mk (blk_below (g := gb104) (o := .cells #[.bool false, .int .i64 (wrap64 (a0))] 25 (0, 0)) (by (with_reducible repeat (first | refine blk_drewN ?_ _ | refine blk_drew ?_ | refine blk_alloc ?_ _)); exact BK104.out) hb)
                      have n4_ := Aside0.mk (blk_below (g := gb105) (o := .cells #[.bool true, .int .i64 0] 25 (0, 0)) (by (with_reducible repeat (first | refine blk_drewN ?_ _ | refine blk_drew ?_ | refine blk_alloc ?_ _)); exact BK105.out) hb)
                      have n5_ := Aside0.mk (below_step (by repeat (first | (with_reducible first | exact HB.out | apply below_alloc | apply pw_below_drewN | apply below_drew1 | refine below_set ?_ GE101.out | refine below_set ?_ GE103.out | refine below_set ?_ GE104.out | refine below_set ?_ GE105.out) | exact HB.out)) hb)
                      clear BK101
                      clear BK103
                      clear BK104
                      clear BK105
                      clear HB
                      have HO120 := n0_
                      have BK101 := n1_
                      have BK103 := n2_
                      have BK104 := n3_
                      have BK105 := n4_
                      have HB := n5_
                      clear n0_ n1_ n2_ n3_ n4_ n5_
                      clear hb ho48
                      obtain ⟨Ao49, co49, eo49⟩ := Kd.R_slice HO120.out
                      (first | subst eo49 | (injection eo49 with f1_ f2_ f3_; have f4_ := f1_.symm; have f5_ := f3_.symm; clear f1_ f2_ f3_; subst f4_; subst f5_))
                      refine hK.out _ _ ⟨(blk_cell BK103.out 0).trans rfl, (blk_cell BK103.out 1).trans rfl, (blk_cell BK104.out 0).trans rfl, (blk_cell BK104.out 1).trans rfl, (blk_cell BK105.out 0).trans rfl, (blk_cell BK105.out 1).trans rfl⟩ (fun hHeld => ?_)
                      clear hK K
                      refine norm_ (a' := ?_) ?_ ?_
                      rotate_left
                      · show Act.put _ (some 75) _ = _
                        simp only [Act.put, List.setIfInBounds_toArray, List.set_cons_zero, List.set_cons_succ, i64_w, i32_w]
                        rfl
                      refine one_ (i := 5) (N := some 76) #[true, true, true, true, true, true, true, false, false, false, false, false, false, false, false, false, false, false, false, false, false, false, false] rfl rfl (one_of HT_.out (by kernel_rfl)) (by decide) (fun K hK => ?_)
                      refine goes_ Tryd.func11 (by kernel_rfl) rfl #[.slice Ao49 y118.length co49] (by rfl) rfl rfl (by (try simp only [List.map_toArray, List.map_cons, List.map_nil]); first | done | rfl | (simp only [List.length_drop, List.length_take]; rfl)) ?_
                      with_reducible refine (fix_Sum.calls k _ _ y118 t121 t122 _ ?side1 ?side2 A17.out).mono ?_
                      (case side1 => repeat (first | exact (Kd.R_reads' HO120.out).2.2 | (with_reducible refine Kd.C_alloc ?_ _) | (with_reducible refine Kd.C_drewN ?_ _) | (with_reducible refine Kd.C_drew ?_)))
                      (case side2 => exact (Kd.R_reads' HO120.out).2.1)
                      rintro e w50 ⟨rfl, hb⟩
                      refine ⟨_, rfl, ?_⟩
                      have n0_ := Aside0.mk (Kd.R_below (by (with_reducible repeat (first | apply Kd.R_alloc | apply Kd.R_drewN | apply Kd.R_drew)); exact HO120.out) hb)
                      have n1_ := Aside0.mk (blk_below (g := gb101) (o := .cells #[.bool a1_0, .int .i64 a1_1] 25 (0, 0)) (by (with_reducible repeat (first | refine blk_drewN ?_ _ | refine blk_drew ?_ | refine blk_alloc ?_ _)); exact BK101.out) hb)
                      have n2_ := Aside0.mk (blk_below (g := gb103) (o := .cells #[.bool false, .int .i64 9223372036854775807] 25 (0, 0)) (by (with_reducible repeat (first | refine blk_drewN ?_ _ | refine blk_drew ?_ | refine blk_alloc ?_ _)); exact BK103.out) hb)
                      have n3_ := Aside0.mk (blk_below (g := gb104) (o := .cells #[.bool false, .int .i64 (wrap64 (a0))] 25 (0, 0)) (by (with_reducible repeat (first | refine blk_drewN ?_ _ | refine blk_drew ?_ | refine blk_alloc ?_ _)); exact BK104.out) hb)
                      have n4_ := Aside0.mk (blk_below (g := gb105) (o := .cells #[.bool true, .int .i64 0] 25 (0, 0)) (by (with_reducible repeat (first | refine blk_drewN ?_ _ | refine blk_drew ?_ | refine blk_alloc ?_ _)); exact BK105.out) hb)
                      have n5_ := Aside0.mk (below_step (by repeat (first | (with_reducible first | exact HB.out | apply below_alloc | apply pw_below_drewN | apply below_drew1 | refine below_set ?_ GE101.out | refine below_set ?_ GE103.out | refine below_set ?_ GE104.out | refine below_set ?_ GE105.out) | exact HB.out)) hb)
                      clear HO120
                      clear BK101
                      clear BK103
                      clear BK104
                      clear BK105
                      clear HB
                      have HO120 := n0_
                      have BK101 := n1_
                      have BK103 := n2_
                      have BK104 := n3_
                      have BK105 := n4_
                      have HB := n5_
                      clear n0_ n1_ n2_ n3_ n4_ n5_
                      (try clear hb)
                      (try clear hb2)
                      (try clear hk)
                      (try clear hi)
                      refine hK.out _ _ ⟨(blk_cell BK103.out 0).trans rfl, (blk_cell BK103.out 1).trans rfl, (blk_cell BK104.out 0).trans rfl, (blk_cell BK104.out 1).trans rfl, (blk_cell BK105.out 0).trans rfl, (blk_cell BK105.out 1).trans rfl⟩ (fun hHeld => ?_)
                      clear hK K
                      refine norm_ (a' := ?_) ?_ ?_
                      rotate_left
                      · show Act.put _ (some 76) _ = _
                        simp only [Act.put, List.setIfInBounds_toArray, List.set_cons_zero, List.set_cons_succ, i64_w, i32_w]
                        rfl
                      refine pure_ (i := 7) (N := some 78) (v := ?_) (a' := ?_) #[true, true, true, true, true, true, true, true, false, false, false, false, false, false, false, false, false, false, false, false, false, false, false] rfl rfl (any_of HT_.out (by kernel_rfl)) (fun _ _ _ h => h) (Or.inl ⟨by rfl, ?_⟩) ?_ ?_
                      rotate_left
                      · intro w'
                        go_simp
                        with_reducible rfl
                      rotate_left
                      · simp only [Act.put, List.setIfInBounds_toArray, List.set_cons_zero, List.set_cons_succ, i64_w, i32_w]
                        rfl
                      refine pure_ (i := 8) (N := some 79) (v := ?_) (a' := ?_) #[true, true, true, true, true, true, true, true, true, false, false, false, false, false, false, false, false, false, false, false, false, false, false] rfl rfl (any_of HT_.out (by kernel_rfl)) (fun _ _ _ h => h) (Or.inl ⟨by rfl, ?_⟩) ?_ ?_
                      rotate_left
                      · intro w'
                        go_simp
                        with_reducible rfl
                      rotate_left
                      · simp only [Act.put, List.setIfInBounds_toArray, List.set_cons_zero, List.set_cons_succ, i64_w, i32_w]
                        rfl
                      refine take_ (i := 9) (N := some 80) (v := ?_) (a' := ?_) #[true, true, true, true, true, true, true, true, true, true, false, false, false, false, false, false, false, false, false, false, false, false, false] rfl rfl (take_ofW HT_.out HW_.out (by kernel_rfl)) (fun _ _ _ h => h) (Or.inl ⟨by rfl, ?_⟩) hHeld ?_ ?_
                      rotate_left
                      · rintro w' ⟨s0, s1, s2, s3, s4, s5⟩
                        go_simp
                        with_reducible rfl
                      rotate_left
                      · simp only [Act.put, List.setIfInBounds_toArray, List.set_cons_zero, List.set_cons_succ, i64_w, i32_w]
                        rfl
                      refine take_ (i := 12) (N := some 83) (v := ?_) (a' := ?_) #[true, true, true, true, true, true, true, true, true, true, false, false, true, false, false, false, false, false, false, false, false, false, false] rfl rfl (take_ofW HT_.out HW_.out (by kernel_rfl)) (fun _ _ _ h => h) (Or.inl ⟨by rfl, ?_⟩) hHeld ?_ ?_
                      rotate_left
                      · rintro w' ⟨s0, s1, s2, s3, s4, s5⟩
                        go_simp
                        with_reducible rfl
                      rotate_left
                      · simp only [Act.put, List.setIfInBounds_toArray, List.set_cons_zero, List.set_cons_succ, i64_w, i32_w]
                        rfl
                      refine one_ (i := 10) (N := some 81) #[true, true, true, true, true, true, true, true, true, true, true, false, true, false, false, false, false, false, false, false, false, false, false] rfl rfl (one_of HT_.out (by kernel_rfl)) (by decide) (fun K hK => ?_)
                      refine goes_ Tryd.func22 (by kernel_rfl) rfl #[.int .i64 2] (by rfl) rfl rfl (by (try simp only [List.map_toArray, List.map_cons, List.map_nil]); first | done | rfl | (simp only [List.length_drop, List.length_take]; rfl)) ?_
                      with_reducible refine (fix_Of.calls k 2 t123 t124 _ A19.out).mono ?_
                      rintro e w51 ⟨rfl, hb⟩
                      refine ⟨_, rfl, ?_⟩
                      have n0_ := Aside0.mk (Kd.R_below (by (with_reducible repeat (first | apply Kd.R_alloc | apply Kd.R_drewN | apply Kd.R_drew)); exact HO120.out) hb)
                      have n1_ := Aside0.mk (blk_below (g := gb101) (o := .cells #[.bool a1_0, .int .i64 a1_1] 25 (0, 0)) (by (with_reducible repeat (first | refine blk_drewN ?_ _ | refine blk_drew ?_ | refine blk_alloc ?_ _)); exact BK101.out) hb)
                      have n2_ := Aside0.mk (blk_below (g := gb103) (o := .cells #[.bool false, .int .i64 9223372036854775807] 25 (0, 0)) (by (with_reducible repeat (first | refine blk_drewN ?_ _ | refine blk_drew ?_ | refine blk_alloc ?_ _)); exact BK103.out) hb)
                      have n3_ := Aside0.mk (blk_below (g := gb104) (o := .cells #[.bool false, .int .i64 (wrap64 (a0))] 25 (0, 0)) (by (with_reducible repeat (first | refine blk_drewN ?_ _ | refine blk_drew ?_ | refine blk_alloc ?_ _)); exact BK104.out) hb)
                      have n4_ := Aside0.mk (blk_below (g := gb105) (o := .cells #[.bool true, .int .i64 0] 25 (0, 0)) (by (with_reducible repeat (first | refine blk_drewN ?_ _ | refine blk_drew ?_ | refine blk_alloc ?_ _)); exact BK105.out) hb)
                      have n5_ := Aside0.mk (below_step (by repeat (first | (with_reducible first | exact HB.out | apply below_alloc | apply pw_below_drewN | apply below_drew1 | refine below_set ?_ GE101.out | refine below_set ?_ GE103.out | refine below_set ?_ GE104.out | refine below_set ?_ GE105.out) | exact HB.out)) hb)
                      clear HO120
                      clear BK101
                      clear BK103
                      clear BK104
                      clear BK105
                      clear HB
                      have HO120 := n0_
                      have BK101 := n1_
                      have BK103 := n2_
                      have BK104 := n3_
                      have BK105 := n4_
                      have HB := n5_
                      clear n0_ n1_ n2_ n3_ n4_ n5_
                      (try clear hb)
                      (try clear hb2)
                      (try clear hk)
                      (try clear hi)
                      refine hK.out _ _ ⟨(blk_cell BK103.out 0).trans rfl, (blk_cell BK103.out 1).trans rfl, (blk_cell BK104.out 0).trans rfl, (blk_cell BK104.out 1).trans rfl, (blk_cell BK105.out 0).trans rfl, (blk_cell BK105.out 1).trans rfl⟩ (fun hHeld => ?_)
                      clear hK K
                      refine norm_ (a' := ?_) ?_ ?_
                      rotate_left
                      · show Act.put _ (some 81) _ = _
                        simp only [Act.put, List.setIfInBounds_toArray, List.set_cons_zero, List.set_cons_succ, i64_w, i32_w]
                        rfl
                      refine one_ (i := 11) (N := some 82) #[true, true, true, true, true, true, true, true, true, true, true, true, true, false, false, false, false, false, false, false, false, false, false] rfl rfl (one_of HT_.out (by kernel_rfl)) (by decide) (fun K hK => ?_)
                      refine goes_ Tryd.func19 (by kernel_rfl) rfl #[.agg #[.bool false, .int .i64 9223372036854775807], .agg #[.bool t123, .int .i64 t124]] (by rfl) rfl rfl (by (try simp only [List.map_toArray, List.map_cons, List.map_nil]); first | done | rfl | (simp only [List.length_drop, List.length_take]; rfl)) ?_
                      with_reducible refine (fix_Mul.calls k false 9223372036854775807 t123 t124 t125 t126 _ A20.out).mono ?_
                      rintro e w52 ⟨rfl, hb⟩
                      refine ⟨_, rfl, ?_⟩
                      have n0_ := Aside0.mk (Kd.R_below (by (with_reducible repeat (first | apply Kd.R_alloc | apply Kd.R_drewN | apply Kd.R_drew)); exact HO120.out) hb)
                      have n1_ := Aside0.mk (blk_below (g := gb101) (o := .cells #[.bool a1_0, .int .i64 a1_1] 25 (0, 0)) (by (with_reducible repeat (first | refine blk_drewN ?_ _ | refine blk_drew ?_ | refine blk_alloc ?_ _)); exact BK101.out) hb)
                      have n2_ := Aside0.mk (blk_below (g := gb103) (o := .cells #[.bool false, .int .i64 9223372036854775807] 25 (0, 0)) (by (with_reducible repeat (first | refine blk_drewN ?_ _ | refine blk_drew ?_ | refine blk_alloc ?_ _)); exact BK103.out) hb)
                      have n3_ := Aside0.mk (blk_below (g := gb104) (o := .cells #[.bool false, .int .i64 (wrap64 (a0))] 25 (0, 0)) (by (with_reducible repeat (first | refine blk_drewN ?_ _ | refine blk_drew ?_ | refine blk_alloc ?_ _)); exact BK104.out) hb)
                      have n4_ := Aside0.mk (blk_below (g := gb105) (o := .cells #[.bool true, .int .i64 0] 25 (0, 0)) (by (with_reducible repeat (first | refine blk_drewN ?_ _ | refine blk_drew ?_ | refine blk_alloc ?_ _)); exact BK105.out) hb)
                      have n5_ := Aside0.mk (below_step (by repeat (first | (with_reducible first | exact HB.out | apply below_alloc | apply pw_below_drewN | apply below_drew1 | refine below_set ?_ GE101.out | refine below_set ?_ GE103.out | refine below_set ?_ GE104.out | refine below_set ?_ GE105.out) | exact HB.out)) hb)
                      clear HO120
                      clear BK101
                      clear BK103
                      clear BK104
                      clear BK105
                      clear HB
                      have HO120 := n0_
                      have BK101 := n1_
                      have BK103 := n2_
                      have BK104 := n3_
                      have BK105 := n4_
                      have HB := n5_
                      clear n0_ n1_ n2_ n3_ n4_ n5_
                      (try clear hb)
                      (try clear hb2)
                      (try clear hk)
                      (try clear hi)
                      refine hK.out _ _ ⟨(blk_cell BK103.out 0).trans rfl, (blk_cell BK103.out 1).trans rfl, (blk_cell BK104.out 0).trans rfl, (blk_cell BK104.out 1).trans rfl, (blk_cell BK105.out 0).trans rfl, (blk_cell BK105.out 1).trans rfl⟩ (fun hHeld => ?_)
                      clear hK K
                      refine norm_ (a' := ?_) ?_ ?_
                      rotate_left
                      · show Act.put _ (some 82) _ = _
                        simp only [Act.put, List.setIfInBounds_toArray, List.set_cons_zero, List.set_cons_succ, i64_w, i32_w]
                        rfl
                      refine pure_ (i := 13) (N := some 84) (v := ?_) (a' := ?_) #[true, true, true, true, true, true, true, true, true, true, true, true, true, true, false, false, false, false, false, false, false, false, false] rfl rfl (any_of HT_.out (by kernel_rfl)) (fun _ _ _ h => h) (Or.inl ⟨by rfl, ?_⟩) ?_ ?_
                      rotate_left
                      · intro w'
                        go_simp
                        with_reducible rfl
                      rotate_left
                      · simp only [Act.put, List.setIfInBounds_toArray, List.set_cons_zero, List.set_cons_succ, i64_w, i32_w]
                        rfl
                      refine pure_ (i := 14) (N := some 85) (v := ?_) (a' := ?_) #[true, true, true, true, true, true, true, true, true, true, true, true, true, true, true, false, false, false, false, false, false, false, false] rfl rfl (any_of HT_.out (by kernel_rfl)) (fun _ _ _ h => h) (Or.inl ⟨by rfl, ?_⟩) ?_ ?_
                      rotate_left
                      · intro w'
                        go_simp
                        with_reducible rfl
                      rotate_left
                      · simp only [Act.put, List.setIfInBounds_toArray, List.set_cons_zero, List.set_cons_succ, i64_w, i32_w]
                        rfl
                      refine pure_ (i := 15) (N := some 86) (v := ?_) (a' := ?_) #[true, true, true, true, true, true, true, true, true, true, true, true, true, true, true, true, false, false, false, false, false, false, false] rfl rfl (any_of HT_.out (by kernel_rfl)) (fun _ _ _ h => h) (Or.inl ⟨by rfl, ?_⟩) ?_ ?_
                      rotate_left
                      · intro w'
                        go_simp
                        with_reducible rfl
                      rotate_left
                      · simp only [Act.put, List.setIfInBounds_toArray, List.set_cons_zero, List.set_cons_succ, i64_w, i32_w]
                        rfl
                      refine pure_ (i := 17) (N := some 88) (v := ?_) (a' := ?_) #[true, true, true, true, true, true, true, true, true, true, true, true, true, true, true, true, false, true, false, false, false, false, false] rfl rfl (any_of HT_.out (by kernel_rfl)) (fun _ _ _ h => h) (Or.inl ⟨by rfl, ?_⟩) ?_ ?_
                      rotate_left
                      · intro w'
                        go_simp
                        with_reducible rfl
                      rotate_left
                      · simp only [Act.put, List.setIfInBounds_toArray, List.set_cons_zero, List.set_cons_succ, i64_w, i32_w]
                        rfl
                      refine take_ (i := 16) (N := some 87) (v := ?_) (a' := ?_) #[true, true, true, true, true, true, true, true, true, true, true, true, true, true, true, true, true, true, false, false, false, false, false] rfl rfl (take_ofW HT_.out HW_.out (by kernel_rfl)) (fun _ _ _ h => h) (Or.inl ⟨by rfl, ?_⟩) hHeld ?_ ?_
                      rotate_left
                      · rintro w' ⟨s0, s1, s2, s3, s4, s5⟩
                        go_simp
                        with_reducible rfl
                      rotate_left
                      · simp only [Act.put, List.setIfInBounds_toArray, List.set_cons_zero, List.set_cons_succ, i64_w, i32_w]
                        rfl
                      refine take_ (i := 19) (N := some 90) (v := ?_) (a' := ?_) #[true, true, true, true, true, true, true, true, true, true, true, true, true, true, true, true, true, true, false, true, false, false, false] rfl rfl (take_ofW HT_.out HW_.out (by kernel_rfl)) (fun _ _ _ h => h) (Or.inl ⟨by rfl, ?_⟩) hHeld ?_ ?_
                      rotate_left
                      · rintro w' ⟨s0, s1, s2, s3, s4, s5⟩
                        go_simp
                        with_reducible rfl
                      rotate_left
                      · simp only [Act.put, List.setIfInBounds_toArray, List.set_cons_zero, List.set_cons_succ, i64_w, i32_w]
                        rfl
                      refine one_ (i := 18) (N := some 89) #[true, true, true, true, true, true, true, true, true, true, true, true, true, true, true, true, true, true, true, true, false, false, false] rfl rfl (one_of HT_.out (by kernel_rfl)) (by decide) (fun K hK => ?_)
                      refine goes_ Tryd.func20 (by kernel_rfl) rfl #[.agg #[.bool false, .int .i64 9223372036854775807], .agg #[.bool false, .int .i64 500000]] (by rfl) rfl rfl (by (try simp only [List.map_toArray, List.map_cons, List.map_nil]); first | done | rfl | (simp only [List.length_drop, List.length_take]; rfl)) ?_
                      with_reducible refine (fix_Div.calls k false 9223372036854775807 false 500000 t127 t128 _ A22.out).mono ?_
                      rintro e w53 ⟨rfl, hb⟩
                      refine ⟨_, rfl, ?_⟩
                      have n0_ := Aside0.mk (Kd.R_below (by (with_reducible repeat (first | apply Kd.R_alloc | apply Kd.R_drewN | apply Kd.R_drew)); exact HO120.out) hb)
                      have n1_ := Aside0.mk (blk_below (g := gb101) (o := .cells #[.bool a1_0, .int .i64 a1_1] 25 (0, 0)) (by (with_reducible repeat (first | refine blk_drewN ?_ _ | refine blk_drew ?_ | refine blk_alloc ?_ _)); exact BK101.out) hb)
                      have n2_ := Aside0.mk (blk_below (g := gb103) (o := .cells #[.bool false, .int .i64 9223372036854775807] 25 (0, 0)) (by (with_reducible repeat (first | refine blk_drewN ?_ _ | refine blk_drew ?_ | refine blk_alloc ?_ _)); exact BK103.out) hb)
                      have n3_ := Aside0.mk (blk_below (g := gb104) (o := .cells #[.bool false, .int .i64 (wrap64 (a0))] 25 (0, 0)) (by (with_reducible repeat (first | refine blk_drewN ?_ _ | refine blk_drew ?_ | refine blk_alloc ?_ _)); exact BK104.out) hb)
                      have n4_ := Aside0.mk (blk_below (g := gb105) (o := .cells #[.bool true, .int .i64 0] 25 (0, 0)) (by (with_reducible repeat (first | refine blk_drewN ?_ _ | refine blk_drew ?_ | refine blk_alloc ?_ _)); exact BK105.out) hb)
                      have n5_ := Aside0.mk (below_step (by repeat (first | (with_reducible first | exact HB.out | apply below_alloc | apply pw_below_drewN | apply below_drew1 | refine below_set ?_ GE101.out | refine below_set ?_ GE103.out | refine below_set ?_ GE104.out | refine below_set ?_ GE105.out) | exact HB.out)) hb)
                      clear HO120
                      clear BK101
                      clear BK103
                      clear BK104
                      clear BK105
                      clear HB
                      have HO120 := n0_
                      have BK101 := n1_
                      have BK103 := n2_
                      have BK104 := n3_
                      have BK105 := n4_
                      have HB := n5_
                      clear n0_ n1_ n2_ n3_ n4_ n5_
                      (try clear hb)
                      (try clear hb2)
                      (try clear hk)
                      (try clear hi)
                      refine hK.out _ _ ⟨(blk_cell BK103.out 0).trans rfl, (blk_cell BK103.out 1).trans rfl, (blk_cell BK104.out 0).trans rfl, (blk_cell BK104.out 1).trans rfl, (blk_cell BK105.out 0).trans rfl, (blk_cell BK105.out 1).trans rfl⟩ (fun hHeld => ?_)
                      clear hK K
                      refine norm_ (a' := ?_) ?_ ?_
                      rotate_left
                      · show Act.put _ (some 89) _ = _
                        simp only [Act.put, List.setIfInBounds_toArray, List.set_cons_zero, List.set_cons_succ, i64_w, i32_w]
                        rfl
                      refine pure_ (i := 20) (N := some 91) (v := ?_) (a' := ?_) #[true, true, true, true, true, true, true, true, true, true, true, true, true, true, true, true, true, true, true, true, true, false, false] rfl rfl (any_of HT_.out (by kernel_rfl)) (fun _ _ _ h => h) (Or.inl ⟨by rfl, ?_⟩) ?_ ?_
                      rotate_left
                      · intro w'
                        go_simp
                        with_reducible rfl
                      rotate_left
                      · simp only [Act.put, List.setIfInBounds_toArray, List.set_cons_zero, List.set_cons_succ, i64_w, i32_w]
                        rfl
                      refine pure_ (i := 21) (N := some 92) (v := ?_) (a' := ?_) #[true, true, true, true, true, true, true, true, true, true, true, true, true, true, true, true, true, true, true, true, true, true, false] rfl rfl (any_of HT_.out (by kernel_rfl)) (fun _ _ _ h => h) (Or.inl ⟨by rfl, ?_⟩) ?_ ?_
                      rotate_left
                      · intro w'
                        go_simp
                        with_reducible rfl
                      rotate_left
                      · simp only [Act.put, List.setIfInBounds_toArray, List.set_cons_zero, List.set_cons_succ, i64_w, i32_w]
                        rfl
                      refine pure_ (i := 22) (N := some 4) (v := ?_) (a' := ?_) #[true, true, true, true, true, true, true, true, true, true, true, true, true, true, true, true, true, true, true, true, true, true, true] rfl rfl (any_of HT_.out (by kernel_rfl)) (fun _ _ _ h => h) (Or.inl ⟨by rfl, ?_⟩) ?_ ?_
                      rotate_left
                      · intro w'
                        go_simp
                        with_reducible rfl
                      rotate_left
                      · simp only [Act.put, List.setIfInBounds_toArray, List.set_cons_zero, List.set_cons_succ, i64_w, i32_w]
                        rfl
                      refine done_ (done_of HT_.out (by kernel_rfl)) ?_
                      try go_wp2
                      go_ret
                      exact ⟨by first | rfl | (simp [errW_none, errW_some] <;> rfl) | (simp [*, errW_none, errW_some] <;> rfl), by repeat (first | (with_reducible first | exact HB.out | apply below_alloc | apply pw_below_drewN | apply below_drew1 | refine below_set ?_ GE101.out | refine below_set ?_ GE103.out | refine below_set ?_ GE104.out | refine below_set ?_ GE105.out) | exact HB.out)⟩
                · rw [if_neg c21] at H
                  have c21b0 : (t125 && (t126 == 0)) = false := by simpa using c21
                  clear c21
                  exact absurd H (by simp)
              · rw [if_neg c18] at H
                have c18b0 : (!t121 && (t122 == (wrap64 (a0)))) = false := by simpa using c18
                clear c18
                exact absurd H (by simp)
          · replace c13 := Bool.eq_false_iff.mpr c13
            subst c13
            have H1 : (none) = some r := by rw [if_neg (show ¬ (false = true) by decide)] at H; exact H
            clear H
            have H := H1
            clear H1
            exact absurd H (by simp)
  · replace c4 := Bool.eq_false_iff.mpr c4
    subst c4
    have H1 : (none) = some r := by rw [if_neg (show ¬ (false = true) by decide)] at H; exact H
    clear H
    have H := H1
    clear H1
    exact absurd H (by simp)

end Go.Proofs.YtjaolddgnijgiaaDoor.H
