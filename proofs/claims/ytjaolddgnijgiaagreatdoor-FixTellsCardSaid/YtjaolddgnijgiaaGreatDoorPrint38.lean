-- PRINTED by print.py (a twelfth state) out of the translation. Not trusted: Lean checks it.
import Derived.Test.YtjaolddgnijgiaaGreatDoorPrint0
namespace Go.Proofs.YtjaolddgnijgiaaGreatDoor.Print
open Go.RowKit Go.Proofs.YtjaolddgnijgiaaGreatDoorX Go.Proofs.YtjaolddgnijgiaaGreatDoorW.PrintWords Go.Proofs.YtjaolddgnijgiaaGreatDoorW.PrintLast Go.Proofs.YtjaolddgnijgiaaGreatDoorW.PrintMore
attribute [local go_sem] max2_int min2_int max_two min_two max_three min_three max_four min_four   -- for this text's walks alone
set_option linter.unusedVariables false
set_option linter.unusedSimpArgs false

/-! ### spillwayref2_Digits: function 36 -/
def spillwayref2_Digits.l0 : Nat → Int → ByteArray → Option (ByteArray)
  | 0, _, _ => none
  | k + 1, x0, x3 => (some (([(IntKind.u64.wrap (48 + (Int.tmod x0 10))) % 256] : List Int) : List Int)).bind fun y333 => (if (strOfNums y333).size + x3.size ≤ 9223372036854775807 then (if (IntKind.u64.wrap (Int.tdiv x0 10)) = 0 then (some ((strOfNums y333) ++ x3)) else (spillwayref2_Digits.l0 k (IntKind.u64.wrap (Int.tdiv x0 10)) ((strOfNums y333) ++ x3))) else (none))
def spillwayref2_Digits.f (k : Nat) (a0 : Int) : Option (ByteArray) := spillwayref2_Digits.l0 k a0 (⟨#[]⟩ : ByteArray)
theorem spillwayref2_Digits.mono_l : ∀ k, (∀ y0 y1, LeO (spillwayref2_Digits.l0 k y0 y1) (spillwayref2_Digits.l0 (k + 1) y0 y1))
  | 0 => fun _ _ r h => by simp [spillwayref2_Digits.l0] at h
  | k + 1 => by
    have ih0 := spillwayref2_Digits.mono_l k
    · intro y0 y1
      unfold spillwayref2_Digits.l0
      repeat' first
      | (with_reducible exact ih0 _ _)
      | (with_reducible exact LeO.refl _)
      | (with_reducible exact LeO.none _)
      | (with_reducible refine LeO.ite ?_ ?_)
      | (with_reducible refine LeO.bind ?_ (fun _ => ?_))
      | exact ih0 _ _
      | exact LeO.none _
      | refine LeO.ite ?_ ?_
      | refine LeO.bind ?_ (fun _ => ?_)
theorem spillwayref2_Digits.mono : ∀ a0 k, LeO (spillwayref2_Digits.f k a0) (spillwayref2_Digits.f (k + 1) a0) := by
  intro a0 k
  have ih0 := spillwayref2_Digits.mono_l k
  unfold spillwayref2_Digits.f
  repeat' first
      | (with_reducible exact ih0 _ _)
      | (with_reducible exact LeO.refl _)
      | (with_reducible exact LeO.none _)
      | (with_reducible refine LeO.ite ?_ ?_)
      | (with_reducible refine LeO.bind ?_ (fun _ => ?_))
      | exact ih0 _ _
      | exact LeO.none _
      | refine LeO.ite ?_ ?_
      | refine LeO.bind ?_ (fun _ => ?_)
set_option maxHeartbeats 8000000 in
set_option maxRecDepth 100000 in
theorem spillwayref2_Digits.calls (k : Nat) (a0 : Int) (r : ByteArray) (w : World) (h : spillwayref2_Digits.f k a0 = some r) :
    Calls Tryz.prog 36 #[.int .u64 a0] w fun e w' => e = .returned (.string r) ∧ Below w.heap.size w w' := by
  have HB := Aside0.mk (Below.refl w.heap.size w)
  have H : (spillwayref2_Digits.l0 k a0 (⟨#[]⟩ : ByteArray)) = some r := h
  clear h
  have H' := Aside0.mk H
  clear H
  go_enter Tryz.func36, Tryz.ntmps36
  go_wp2
  go_loopg [0, 3] k (fun kq v0 v3 w' => ∃ (x0_1 : Int) (x3_1 : ByteArray), v0 = .int .u64 x0_1 ∧ v3 = .string x3_1 ∧ Aside0 (spillwayref2_Digits.l0 kq x0_1 x3_1 = some r) ∧ Aside0 (kq ≤ k) ∧ Aside0 (Below w.heap.size w w'))
  case atStart => exact ⟨(a0), ((⟨#[]⟩ : ByteArray)), (by first | rfl | (simp; done) | (simp [*]; done)), (by first | rfl | (simp; done) | (simp [*]; done)), H', ⟨Nat.le_refl _⟩, ⟨by repeat (first | (with_reducible first | exact HB.out | apply below_alloc | apply pw_below_drewN | apply below_drew1) | exact HB.out)⟩⟩
  case round =>
    clear H'
    obtain ⟨x0_1, x3_1, rfl, rfl, HA, HK1, HB⟩ := hrel
    cases gk with
    | zero => exact absurd HA.out (by simp [spillwayref2_Digits.l0])
    | succ k1 =>
      have H := HA.out
      clear HA
      simp only [spillwayref2_Digits.l0] at H
      replace H : (if (strOfNums ([(IntKind.u64.wrap (48 + (Int.tmod x0_1 10))) % 256] : List Int)).size + x3_1.size ≤ 9223372036854775807 then (if (IntKind.u64.wrap (Int.tdiv x0_1 10)) = 0 then (some ((strOfNums ([(IntKind.u64.wrap (48 + (Int.tmod x0_1 10))) % 256] : List Int)) ++ x3_1)) else (spillwayref2_Digits.l0 k1 (IntKind.u64.wrap (Int.tdiv x0_1 10)) ((strOfNums ([(IntKind.u64.wrap (48 + (Int.tmod x0_1 10))) % 256] : List Int)) ++ x3_1))) else (none)) = some r := H
      by_cases c2 : (strOfNums ([(IntKind.u64.wrap (48 + (Int.tmod x0_1 10))) % 256] : List Int)).size + x3_1.size ≤ 9223372036854775807
      · rw [if_pos c2] at H
        have c2b0 := eq_true c2
        have c2b1 : decide ((strOfNums ([(IntKind.u64.wrap (48 + (Int.tmod x0_1 10))) % 256] : List Int)).size + x3_1.size ≤ 9223372036854775807) = true := decide_eq_true c2
        try have c2b2 : (9223372036854775807 < (strOfNums ([(IntKind.u64.wrap (48 + (Int.tmod x0_1 10))) % 256] : List Int)).size + x3_1.size) = False := eq_false (Nat.not_lt.2 c2)
        by_cases c3 : (IntKind.u64.wrap (Int.tdiv x0_1 10)) = 0
        · rw [if_pos c3] at H
          have c3b0 : ((IntKind.u64.wrap (Int.tdiv x0_1 10)) == 0) = true := beq_iff_eq.mpr c3
          have c3b1 : ((IntKind.u64.wrap (Int.tdiv x0_1 10)) != 0) = false := bne_eq_false_iff_eq.mpr c3
          clear c3
          obtain rfl := Option.some.inj H
          have hcv_ : ∀ (W : World) (c : Int), (convert 73 9 (.slice (some ⟨W.heap.size, 0, none⟩) 1 1)).run Tryz.prog (W.alloc (.cells #[.int .u8 c] 5)) = .ok (.string (strOfNums [c])) (W.alloc (.cells #[.int .u8 c] 5)) := fun W c => Kd.C_string (P := Tryz.prog) (c := 1) Tryz.underlying73 Tryz.underlying5 Tryz.underlying9 (lit_reads W [c] 5 (0, 0) (by simp))
          go_wp2
          go_ret
          exact ⟨by first | rfl | (simp [errW_none, errW_some] <;> rfl) | (simp [*, errW_none, errW_some] <;> rfl), by repeat (first | (with_reducible first | exact HB.out | apply below_alloc | apply pw_below_drewN | apply below_drew1) | exact HB.out)⟩
        · rw [if_neg c3] at H
          have c3b0 : ((IntKind.u64.wrap (Int.tdiv x0_1 10)) == 0) = false := beq_eq_false_iff_ne.mpr c3
          have c3b1 : ((IntKind.u64.wrap (Int.tdiv x0_1 10)) != 0) = true := bne_iff_ne.mpr c3
          have H' := Aside0.mk H
          clear H
          have hcv_ : ∀ (W : World) (c : Int), (convert 73 9 (.slice (some ⟨W.heap.size, 0, none⟩) 1 1)).run Tryz.prog (W.alloc (.cells #[.int .u8 c] 5)) = .ok (.string (strOfNums [c])) (W.alloc (.cells #[.int .u8 c] 5)) := fun W c => Kd.C_string (P := Tryz.prog) (c := 1) Tryz.underlying73 Tryz.underlying5 Tryz.underlying9 (lit_reads W [c] 5 (0, 0) (by simp))
          go_wp2
          go_roundg k1
          case measure => have := HK1.out; omega
          case rel => exact ⟨(IntKind.u64.wrap (Int.tdiv x0_1 10)), ((strOfNums ([(IntKind.u64.wrap (48 + (Int.tmod x0_1 10))) % 256] : List Int)) ++ x3_1), (by first | rfl | (simp; done) | (simp [*]; done)), (by first | rfl | (simp; done) | (simp [*]; done)), H', ⟨by have := HK1.out; omega⟩, ⟨by repeat (first | (with_reducible first | exact HB.out | apply below_alloc | apply pw_below_drewN | apply below_drew1) | exact HB.out)⟩⟩
      · rw [if_neg c2] at H
        exact absurd H (by simp)

end Go.Proofs.YtjaolddgnijgiaaGreatDoor.Print
