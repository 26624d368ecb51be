-- PRINTED by print.py (a twelfth state) out of the translation. Not trusted: Lean checks it.
import Derived.Test.YtgjpaldbagkahaaPrint0
import Derived.Test.YtgjpaldbagkahaaPrint12
import Derived.Test.YtgjpaldbagkahaaPrint13
import Derived.Test.YtgjpaldbagkahaaExt2
namespace Go.Proofs.Ytgjpaldbagkahaa.Print
open Go.RowKit Go.Proofs.YtgjpaldbagkahaaX Go.Proofs.YtgjpaldbagkahaaW.PrintWords Go.Proofs.YtgjpaldbagkahaaW.PrintLast Go.Proofs.YtgjpaldbagkahaaW.PrintMore
attribute [local go_sem] max2_int min2_int max_two min_two max_three min_three max_four min_four   -- for this text's walks alone
set_option linter.unusedVariables false
set_option linter.unusedSimpArgs false

/-! ### spillwaylaw1_BitsTexts: function 6 -/
def spillwaylaw1_BitsTexts.j0 : Nat → List Int → ByteArray → Int → Bool → Option (Bool)
  | 0, _, _, _, _ => none
  | k + 1, x0, x1, x2, x26 => if x26 = true then (some true) else (if ([] : List Int).length + x0.length < 140737488355328 then ((bits_Text.f k (([] : List Int) ++ x0) x1).bind fun t230 => ((bits_GetText.f k (([] : List Int) ++ x0) x2).bind fun bt236 => ((spillwayref1_GetText.f k x0 x2).bind fun bt241 => (if 0 ≤ (x0.length : Int) then (if (x0.length : Int) ≤ (t230.length : Int) then ((bits_GetText.f k (t230.drop ((x0.length : Int) : Int).toNat) 300).bind fun bt251 => ((spillwayref1_Text.f k (([] : List Int) ++ x0) x1).bind fun t259 => (if (strOfNums t230).toList = (strOfNums t259).toList then (if bt236.1.toList = bt241.1.toList then (if bt236.2.2 = bt241.2.2 then (if (strOfNums bt236.2.1).toList = (strOfNums bt241.2.1).toList then (if bt251.1.toList = x1.toList then (if bt251.2.2 = 0 then (some ((bt251.2.1.length : Int) == 0)) else (some false)) else (some false)) else (some false)) else (some false)) else (some false)) else (some false)))) else (none)) else (none))))) else (none))
def spillwaylaw1_BitsTexts.f (k : Nat) (l0 : List Int) (a1 : ByteArray) (a2 : Int) : Option (Bool) := (spillwaylaw1_known.f).bind fun t226 => (if t226 = true then (if (l0.length : Int) > 300 then (spillwaylaw1_BitsTexts.j0 k l0 a1 a2 true) else (spillwaylaw1_BitsTexts.j0 k l0 a1 a2 (decide ((a1.size : Int) > 300)))) else (some false))
theorem spillwaylaw1_BitsTexts.mono_l : ∀ k, (∀ y0 y1 y2 y3, LeO (spillwaylaw1_BitsTexts.j0 k y0 y1 y2 y3) (spillwaylaw1_BitsTexts.j0 (k + 1) y0 y1 y2 y3))
  | 0 => fun _ _ _ _ r h => by simp [spillwaylaw1_BitsTexts.j0] at h
  | k + 1 => by
    have ih0 := spillwaylaw1_BitsTexts.mono_l k
    · intro y0 y1 y2 y3
      unfold spillwaylaw1_BitsTexts.j0
      repeat' first
      | (with_reducible exact ih0 _ _ _ _)
      | (with_reducible exact bits_GetText.mono _ _ _)
      | (with_reducible exact bits_Text.mono _ _ _)
      | (with_reducible exact spillwayref1_GetText.mono _ _ _)
      | (with_reducible exact spillwayref1_Text.mono _ _ _)
      | (with_reducible exact LeO.refl _)
      | (with_reducible exact LeO.none _)
      | (with_reducible refine LeO.ite ?_ ?_)
      | (with_reducible refine LeO.bind ?_ (fun _ => ?_))
      | exact ih0 _ _ _ _
      | exact bits_GetText.mono _ _ _
      | exact bits_Text.mono _ _ _
      | exact spillwayref1_GetText.mono _ _ _
      | exact spillwayref1_Text.mono _ _ _
      | exact LeO.none _
      | refine LeO.ite ?_ ?_
      | refine LeO.bind ?_ (fun _ => ?_)
theorem spillwaylaw1_BitsTexts.mono : ∀ a0 a1 a2 k, LeO (spillwaylaw1_BitsTexts.f k a0 a1 a2) (spillwaylaw1_BitsTexts.f (k + 1) a0 a1 a2) := by
  intro a0 a1 a2 k
  have ih0 := spillwaylaw1_BitsTexts.mono_l k
  unfold spillwaylaw1_BitsTexts.f
  repeat' first
      | (with_reducible exact ih0 _ _ _ _)
      | (with_reducible exact bits_GetText.mono _ _ _)
      | (with_reducible exact bits_Text.mono _ _ _)
      | (with_reducible exact spillwayref1_GetText.mono _ _ _)
      | (with_reducible exact spillwayref1_Text.mono _ _ _)
      | (with_reducible exact LeO.refl _)
      | (with_reducible exact LeO.none _)
      | (with_reducible refine LeO.ite ?_ ?_)
      | (with_reducible refine LeO.bind ?_ (fun _ => ?_))
      | exact ih0 _ _ _ _
      | exact bits_GetText.mono _ _ _
      | exact bits_Text.mono _ _ _
      | exact spillwayref1_GetText.mono _ _ _
      | exact spillwayref1_Text.mono _ _ _
      | exact LeO.none _
      | refine LeO.ite ?_ ?_
      | refine LeO.bind ?_ (fun _ => ?_)
def spillwaylaw1_BitsTexts.T9 : Bool × List (List Nat × List Nat) := (true, [([], []), ([0], [0]), ([], []), ([2], [2]), ([], []), ([3, 4, 3], [3, 4]), ([5], [5]), ([1, 6], [1, 6]), ([7, 5], [7]), ([8], [8]), ([8], [8]), ([9, 10, 8], [8, 9, 10]), ([8, 11], [8, 11]), ([12, 8], [12]), ([13], [13]), ([13], [13]), ([14, 15, 13], [13, 14, 15]), ([13, 16], [13, 16]), ([17, 13], [17]), ([18], [18]), ([19, 18], [18, 19]), ([18], [18]), ([21, 18], [18, 21]), ([20, 22, 18], [18, 20, 22]), ([18, 23], [18, 23]), ([24, 18], [24]), ([25], [25]), ([25], [25]), ([26, 27, 25], [25, 26, 27]), ([25, 28], [25, 28]), ([29, 25], [29]), ([30], [30]), ([31, 30], [30, 31]), ([30, 32], [30, 32]), ([33, 30], [33]), ([34], [34]), ([35, 34], [34, 35]), ([36, 34], [34, 36]), ([34, 37], [34, 37]), ([38, 34, 0, 1, 2, 3, 4, 5, 6, 7, 8, 9, 10, 11, 12, 13, 14, 15, 16, 17, 18, 19, 20, 21, 22, 23, 24, 25, 26, 27, 28, 29, 30, 31, 32, 33, 34, 35, 36, 37, 38], [38])])
def spillwaylaw1_BitsTexts.B9 : List Nat := [0, 1, 0, 4, 0, 28, 60, 127, 255, 511, 511, 2047, 4095, 8191, 16383, 16383, 65535, 131071, 262143, 524287, 1048575, 524287, 2621439, 8388607, 16777215, 33554431, 67108863, 67108863, 268435455, 536870911, 1073741823, 2147483647, 4294967295, 8589934591, 17179869183, 34359738367, 68719476735, 137438953471, 274877906943, 549755813887]
theorem spillwaylaw1_BitsTexts.tab9 : rtab .any (opsOf Try.f6 9) = spillwaylaw1_BitsTexts.T9 := by kernel_rfl
theorem spillwaylaw1_BitsTexts.bits9 : waitsOk spillwaylaw1_BitsTexts.T9.2 spillwaylaw1_BitsTexts.B9 = true := by kernel_rfl
set_option maxHeartbeats 8000000 in
set_option maxRecDepth 100000 in
theorem spillwaylaw1_BitsTexts.calls (k : Nat) (A0 : Option Addr) (c0 : Nat) (l0 : List Int) (a1 : ByteArray) (a2 : Int) (r : Bool) (w : World) (hr0 : Kd.C (Kd.int .u8) w A0 l0.length l0) (hc0 : l0.length ≤ c0) (h : spillwaylaw1_BitsTexts.f k l0 a1 a2 = some r) (hr_ : r = true) :
    Calls Try.prog 6 #[.slice A0 l0.length c0, .string a1, .int .i64 a2] w fun e w' => e = .returned (.bool r) ∧ Below w.heap.size w w' := by
  have HRT := Aside0.mk hr_
  clear hr_
  have HR0 := Aside0.mk hr0
  have HC0 := Aside0.mk hc0
  clear hr0 hc0
  have HB := Aside0.mk (Below.refl w.heap.size w)
  have H : ((spillwaylaw1_known.f).bind fun t226 => (if t226 = true then (if (l0.length : Int) > 300 then (spillwaylaw1_BitsTexts.j0 k l0 a1 a2 true) else (spillwaylaw1_BitsTexts.j0 k l0 a1 a2 (decide ((a1.size : Int) > 300)))) else (some false))) = some r := h
  clear h
  replace H := Option.bind_eq_some_iff.mp H
  obtain ⟨t226, A40, H⟩ := H
  replace H : (if t226 = true then (if (l0.length : Int) > 300 then (spillwaylaw1_BitsTexts.j0 k l0 a1 a2 true) else (spillwaylaw1_BitsTexts.j0 k l0 a1 a2 (decide ((a1.size : Int) > 300)))) else (some false)) = some r := H
  have A4 := Aside0.mk A40
  clear A40
  by_cases c5 : t226 = true
  · subst c5
    have H1 : (if (l0.length : Int) > 300 then (spillwaylaw1_BitsTexts.j0 k l0 a1 a2 true) else (spillwaylaw1_BitsTexts.j0 k l0 a1 a2 (decide ((a1.size : Int) > 300)))) = some r := by rw [if_pos rfl] at H; exact H
    clear H
    have H := H1
    clear H1
    have HC6 := Aside0.mk H
    clear H
    go_enter Try.func6, Try.ntmps6
    go_upto_region 3 with (first | ((with_reducible refine gate_callee (f := 9) rfl ?_); refine goesL_ (some 17) rfl rfl Try.func9 (by kernel_rfl) rfl #[] rfl (by (try simp only [List.map_toArray, List.map_cons, List.map_nil]); first | done | rfl | (simp only [List.length_drop, List.length_take]; rfl)) ?_; (with_reducible refine (spillwaylaw1_known.calls  true _ A4.out).mono ?_); rintro e w7 ⟨rfl, hb⟩; refine ⟨_, rfl, ?_⟩; have n0_ := Aside0.mk (below_step (by repeat (first | (with_reducible first | exact HB.out | apply below_alloc | apply pw_below_drewN | apply below_drew1) | exact HB.out)) hb); clear HB; have HB := n0_; clear n0_; (try clear hb); (try clear hb2); (try clear hk); (try clear hi)))
    (try simp only [Act.put, List.setIfInBounds_toArray, List.set_cons_zero, List.set_cons_succ])
    go_cut [26] (fun v26 wc => ∃ (kq : Nat) (x26_5 : Bool), v26 = .bool x26_5 ∧ Aside0 (spillwaylaw1_BitsTexts.j0 kq l0 a1 a2 x26_5 = some r) ∧ Aside0 (kq ≤ k) ∧ Aside0 (Below w.heap.size w wc))
    case first =>
      have H := HC6.out
      clear HC6
      by_cases c8 : (l0.length : Int) > 300
      · rw [if_pos c8] at H
        have c8b0 : decide (300 < (l0.length : Int)) = true := decide_eq_true c8
        have c8b1 : decide (300 < l0.length) = true := decide_eq_true (by omega)
        clear c8
        (first | rw [c8b0] | (simp only [i64_w, i32_w]; rw [c8b0]) | skip)
        have H' := Aside0.mk H
        clear H
        go_wp2
        go_meet
        case rel => exact ⟨_, (true), (by first | rfl | (simp; done) | (simp [*]; done)), H', ⟨by first | omega | exact Nat.le_refl _⟩, ⟨by repeat (first | (with_reducible first | exact HB.out | apply below_alloc | apply pw_below_drewN | apply below_drew1) | exact HB.out)⟩⟩
      · rw [if_neg c8] at H
        have c8b0 : decide (300 < (l0.length : Int)) = false := decide_eq_false c8
        have c8b1 : decide (300 < l0.length) = false := decide_eq_false (by omega)
        clear c8
        (first | rw [c8b0] | (simp only [i64_w, i32_w]; rw [c8b0]) | skip)
        have H' := Aside0.mk H
        clear H
        go_wp2
        go_meet
        case rel => exact ⟨_, (decide ((a1.size : Int) > 300)), (by first | rfl | (simp; done) | (simp [*]; done)), H', ⟨by first | omega | exact Nat.le_refl _⟩, ⟨by repeat (first | (with_reducible first | exact HB.out | apply below_alloc | apply pw_below_drewN | apply below_drew1) | exact HB.out)⟩⟩
    case rest =>
      clear HC6
      try clear p2
      try clear c5
      try clear c6
      try clear c8
      try clear c8b0
      try clear c8b1
      obtain ⟨kq, x26_5, rfl, HA, HJ5, HB⟩ := hcut
      cases kq with
      | zero => exact absurd HA.out (by simp [spillwaylaw1_BitsTexts.j0])
      | succ kj5 =>
        have H := HA.out
        clear HA
        simp only [spillwaylaw1_BitsTexts.j0] at H
        by_cases c9 : x26_5 = true
        · subst c9
          have H1 : (some true) = some r := by rw [if_pos rfl] at H; exact H
          clear H
          have H := H1
          clear H1
          obtain rfl := Option.some.inj H
          go_wp2
          go_ret
          exact ⟨by first | rfl | (simp [errW_none, errW_some] <;> rfl) | (simp [*, errW_none, errW_some] <;> rfl), by repeat (first | (with_reducible first | exact HB.out | apply below_alloc | apply pw_below_drewN | apply below_drew1) | exact HB.out)⟩
        · replace c9 := Bool.eq_false_iff.mpr c9
          subst c9
          have H1 : (if ([] : List Int).length + l0.length < 140737488355328 then ((bits_Text.f kj5 (([] : List Int) ++ l0) a1).bind fun t230 => ((bits_GetText.f kj5 (([] : List Int) ++ l0) a2).bind fun bt236 => ((spillwayref1_GetText.f kj5 l0 a2).bind fun bt241 => (if 0 ≤ (l0.length : Int) then (if (l0.length : Int) ≤ (t230.length : Int) then ((bits_GetText.f kj5 (t230.drop ((l0.length : Int) : Int).toNat) 300).bind fun bt251 => ((spillwayref1_Text.f kj5 (([] : List Int) ++ l0) a1).bind fun t259 => (if (strOfNums t230).toList = (strOfNums t259).toList then (if bt236.1.toList = bt241.1.toList then (if bt236.2.2 = bt241.2.2 then (if (strOfNums bt236.2.1).toList = (strOfNums bt241.2.1).toList then (if bt251.1.toList = a1.toList then (if bt251.2.2 = 0 then (some ((bt251.2.1.length : Int) == 0)) else (some false)) else (some false)) else (some false)) else (some false)) else (some false)) else (some false)))) else (none)) else (none))))) else (none)) = some r := by rw [if_neg (show ¬ (false = true) by decide)] at H; exact H
          clear H
          have H := H1
          clear H1
          by_cases c10 : ([] : List Int).length + l0.length < 140737488355328
          · rw [if_pos c10] at H
            have LMc10 := Aside0.mk c10
            clear c10
            obtain ⟨y227, hy227⟩ : ∃ y_ : List Int, y_ = (([] : List Int) ++ l0) := ⟨_, rfl⟩
            replace H : ((bits_Text.f kj5 y227 a1).bind fun t230 => ((bits_GetText.f kj5 (([] : List Int) ++ l0) a2).bind fun bt236 => ((spillwayref1_GetText.f kj5 l0 a2).bind fun bt241 => (if 0 ≤ (l0.length : Int) then (if (l0.length : Int) ≤ (t230.length : Int) then ((bits_GetText.f kj5 (t230.drop ((l0.length : Int) : Int).toNat) 300).bind fun bt251 => ((spillwayref1_Text.f kj5 (([] : List Int) ++ l0) a1).bind fun t259 => (if (strOfNums t230).toList = (strOfNums t259).toList then (if bt236.1.toList = bt241.1.toList then (if bt236.2.2 = bt241.2.2 then (if (strOfNums bt236.2.1).toList = (strOfNums bt241.2.1).toList then (if bt251.1.toList = a1.toList then (if bt251.2.2 = 0 then (some ((bt251.2.1.length : Int) == 0)) else (some false)) else (some false)) else (some false)) else (some false)) else (some false)) else (some false)))) else (none)) else (none))))) = some r := by first | (rw [hy227]; with_reducible exact H) | (have H2_ := (Option.bind_some _ _).symm.trans H; rw [hy227]; with_reducible exact H2_) | (have H2_ := (Option.bind_some _ _).symm.trans H; with_reducible exact H2_) | with_reducible exact H | (rw [hy227]; exact H) | exact H
            have Ny227 := Aside0.mk hy227
            clear hy227
            replace H := Option.bind_eq_some_iff.mp H
            obtain ⟨t230, A110, H⟩ := H
            replace H : ((bits_GetText.f kj5 (([] : List Int) ++ l0) a2).bind fun bt236 => ((spillwayref1_GetText.f kj5 l0 a2).bind fun bt241 => (if 0 ≤ (l0.length : Int) then (if (l0.length : Int) ≤ (t230.length : Int) then ((bits_GetText.f kj5 (t230.drop ((l0.length : Int) : Int).toNat) 300).bind fun bt251 => ((spillwayref1_Text.f kj5 (([] : List Int) ++ l0) a1).bind fun t259 => (if (strOfNums t230).toList = (strOfNums t259).toList then (if bt236.1.toList = bt241.1.toList then (if bt236.2.2 = bt241.2.2 then (if (strOfNums bt236.2.1).toList = (strOfNums bt241.2.1).toList then (if bt251.1.toList = a1.toList then (if bt251.2.2 = 0 then (some ((bt251.2.1.length : Int) == 0)) else (some false)) else (some false)) else (some false)) else (some false)) else (some false)) else (some false)))) else (none)) else (none)))) = some r := H
            have A11 := Aside0.mk A110
            clear A110
            obtain ⟨y233, hy233⟩ : ∃ y_ : List Int, y_ = (([] : List Int) ++ l0) := ⟨_, rfl⟩
            replace H : ((bits_GetText.f kj5 y233 a2).bind fun bt236 => ((spillwayref1_GetText.f kj5 l0 a2).bind fun bt241 => (if 0 ≤ (l0.length : Int) then (if (l0.length : Int) ≤ (t230.length : Int) then ((bits_GetText.f kj5 (t230.drop ((l0.length : Int) : Int).toNat) 300).bind fun bt251 => ((spillwayref1_Text.f kj5 (([] : List Int) ++ l0) a1).bind fun t259 => (if (strOfNums t230).toList = (strOfNums t259).toList then (if bt236.1.toList = bt241.1.toList then (if bt236.2.2 = bt241.2.2 then (if (strOfNums bt236.2.1).toList = (strOfNums bt241.2.1).toList then (if bt251.1.toList = a1.toList then (if bt251.2.2 = 0 then (some ((bt251.2.1.length : Int) == 0)) else (some false)) else (some false)) else (some false)) else (some false)) else (some false)) else (some false)))) else (none)) else (none)))) = some r := by first | (rw [hy233]; with_reducible exact H) | (have H2_ := (Option.bind_some _ _).symm.trans H; rw [hy233]; with_reducible exact H2_) | (have H2_ := (Option.bind_some _ _).symm.trans H; with_reducible exact H2_) | with_reducible exact H | (rw [hy233]; exact H) | exact H
            have Ny233 := Aside0.mk hy233
            clear hy233
            replace H := Option.bind_eq_some_iff.mp H
            obtain ⟨⟨t236, t237, t240⟩, A120, H⟩ := H
            replace H : ((spillwayref1_GetText.f kj5 l0 a2).bind fun bt241 => (if 0 ≤ (l0.length : Int) then (if (l0.length : Int) ≤ (t230.length : Int) then ((bits_GetText.f kj5 (t230.drop ((l0.length : Int) : Int).toNat) 300).bind fun bt251 => ((spillwayref1_Text.f kj5 (([] : List Int) ++ l0) a1).bind fun t259 => (if (strOfNums t230).toList = (strOfNums t259).toList then (if t236.toList = bt241.1.toList then (if t240 = bt241.2.2 then (if (strOfNums t237).toList = (strOfNums bt241.2.1).toList then (if bt251.1.toList = a1.toList then (if bt251.2.2 = 0 then (some ((bt251.2.1.length : Int) == 0)) else (some false)) else (some false)) else (some false)) else (some false)) else (some false)) else (some false)))) else (none)) else (none))) = some r := H
            have A12 := Aside0.mk A120
            clear A120
            replace H := Option.bind_eq_some_iff.mp H
            obtain ⟨⟨t241, t242, t245⟩, A130, H⟩ := H
            replace H : (if 0 ≤ (l0.length : Int) then (if (l0.length : Int) ≤ (t230.length : Int) then ((bits_GetText.f kj5 (t230.drop ((l0.length : Int) : Int).toNat) 300).bind fun bt251 => ((spillwayref1_Text.f kj5 (([] : List Int) ++ l0) a1).bind fun t259 => (if (strOfNums t230).toList = (strOfNums t259).toList then (if t236.toList = t241.toList then (if t240 = t245 then (if (strOfNums t237).toList = (strOfNums t242).toList then (if bt251.1.toList = a1.toList then (if bt251.2.2 = 0 then (some ((bt251.2.1.length : Int) == 0)) else (some false)) else (some false)) else (some false)) else (some false)) else (some false)) else (some false)))) else (none)) else (none)) = some r := H
            have A13 := Aside0.mk A130
            clear A130
            by_cases c14 : 0 ≤ (l0.length : Int)
            · rw [if_pos c14] at H
              have c14b0 := eq_true c14
              have c14b1 : decide (0 ≤ (l0.length : Int)) = true := decide_eq_true c14
              clear c14
              by_cases c15 : (l0.length : Int) ≤ (t230.length : Int)
              · rw [if_pos c15] at H
                have c15b0 := eq_true c15
                have c15b1 : decide ((l0.length : Int) ≤ (t230.length : Int)) = true := decide_eq_true c15
                clear c15
                obtain ⟨y246, hy246⟩ : ∃ y_ : List Int, y_ = (t230.drop ((l0.length : Int) : Int).toNat) := ⟨_, rfl⟩
                replace H : ((bits_GetText.f kj5 y246 300).bind fun bt251 => ((spillwayref1_Text.f kj5 (([] : List Int) ++ l0) a1).bind fun t259 => (if (strOfNums t230).toList = (strOfNums t259).toList then (if t236.toList = t241.toList then (if t240 = t245 then (if (strOfNums t237).toList = (strOfNums t242).toList then (if bt251.1.toList = a1.toList then (if bt251.2.2 = 0 then (some ((bt251.2.1.length : Int) == 0)) else (some false)) else (some false)) else (some false)) else (some false)) else (some false)) else (some false)))) = some r := by first | (rw [hy246]; with_reducible exact H) | (have H2_ := (Option.bind_some _ _).symm.trans H; rw [hy246]; with_reducible exact H2_) | (have H2_ := (Option.bind_some _ _).symm.trans H; with_reducible exact H2_) | with_reducible exact H | (rw [hy246]; exact H) | exact H
                have Ny246 := Aside0.mk hy246
                clear hy246
                replace H := Option.bind_eq_some_iff.mp H
                obtain ⟨⟨t251, t252, t255⟩, A160, H⟩ := H
                replace H : ((spillwayref1_Text.f kj5 (([] : List Int) ++ l0) a1).bind fun t259 => (if (strOfNums t230).toList = (strOfNums t259).toList then (if t236.toList = t241.toList then (if t240 = t245 then (if (strOfNums t237).toList = (strOfNums t242).toList then (if t251.toList = a1.toList then (if t255 = 0 then (some ((t252.length : Int) == 0)) else (some false)) else (some false)) else (some false)) else (some false)) else (some false)) else (some false))) = some r := H
                have A16 := Aside0.mk A160
                clear A160
                obtain ⟨y256, hy256⟩ : ∃ y_ : List Int, y_ = (([] : List Int) ++ l0) := ⟨_, rfl⟩
                replace H : ((spillwayref1_Text.f kj5 y256 a1).bind fun t259 => (if (strOfNums t230).toList = (strOfNums t259).toList then (if t236.toList = t241.toList then (if t240 = t245 then (if (strOfNums t237).toList = (strOfNums t242).toList then (if t251.toList = a1.toList then (if t255 = 0 then (some ((t252.length : Int) == 0)) else (some false)) else (some false)) else (some false)) else (some false)) else (some false)) else (some false))) = some r := by first | (rw [hy256]; with_reducible exact H) | (have H2_ := (Option.bind_some _ _).symm.trans H; rw [hy256]; with_reducible exact H2_) | (have H2_ := (Option.bind_some _ _).symm.trans H; with_reducible exact H2_) | with_reducible exact H | (rw [hy256]; exact H) | exact H
                have Ny256 := Aside0.mk hy256
                clear hy256
                replace H := Option.bind_eq_some_iff.mp H
                obtain ⟨t259, A170, H⟩ := H
                replace H : (if (strOfNums t230).toList = (strOfNums t259).toList then (if t236.toList = t241.toList then (if t240 = t245 then (if (strOfNums t237).toList = (strOfNums t242).toList then (if t251.toList = a1.toList then (if t255 = 0 then (some ((t252.length : Int) == 0)) else (some false)) else (some false)) else (some false)) else (some false)) else (some false)) else (some false)) = some r := H
                have A17 := Aside0.mk A170
                clear A170
                by_cases c18 : (strOfNums t230).toList = (strOfNums t259).toList
                · rw [if_pos c18] at H
                  have c18b0 : ((strOfNums t230).toList == (strOfNums t259).toList) = true := beq_iff_eq.mpr c18
                  have c18b1 : ((strOfNums t230).toList != (strOfNums t259).toList) = false := bne_eq_false_iff_eq.mpr c18
                  clear c18
                  by_cases c19 : t236.toList = t241.toList
                  · rw [if_pos c19] at H
                    have c19b0 : (t236.toList == t241.toList) = true := beq_iff_eq.mpr c19
                    have c19b1 : (t236.toList != t241.toList) = false := bne_eq_false_iff_eq.mpr c19
                    clear c19
                    by_cases c20 : t240 = t245
                    · rw [if_pos c20] at H
                      have c20b0 : (t240 == t245) = true := beq_iff_eq.mpr c20
                      have c20b1 : (t240 != t245) = false := bne_eq_false_iff_eq.mpr c20
                      clear c20
                      by_cases c21 : (strOfNums t237).toList = (strOfNums t242).toList
                      · rw [if_pos c21] at H
                        have c21b0 : ((strOfNums t237).toList == (strOfNums t242).toList) = true := beq_iff_eq.mpr c21
                        have c21b1 : ((strOfNums t237).toList != (strOfNums t242).toList) = false := bne_eq_false_iff_eq.mpr c21
                        clear c21
                        by_cases c22 : t251.toList = a1.toList
                        · rw [if_pos c22] at H
                          have c22b0 : (t251.toList == a1.toList) = true := beq_iff_eq.mpr c22
                          have c22b1 : (t251.toList != a1.toList) = false := bne_eq_false_iff_eq.mpr c22
                          clear c22
                          by_cases c23 : t255 = 0
                          · rw [if_pos c23] at H
                            have c23b0 : (t255 == 0) = true := beq_iff_eq.mpr c23
                            have c23b1 : (t255 != 0) = false := bne_eq_false_iff_eq.mpr c23
                            clear c23
                            obtain rfl := Option.some.inj H
                            try go_wp2_with (first | ((with_reducible refine gate_builtin (b := .append) (xs := #[.const (.slice none 0 0), .tmp 27]) rfl ?_); (try (refine gate_guard (by rfl) ?_; dsimp only)); at_builtin; refine Kd.R_append_rows (Kd.int .u8) (w0 := w) w.heap.size rfl (.const (.slice none 0 0)) (.tmp 27) 22 5 (.int .u8 0) 1 rfl Try.underlying22 info5 rfl (by decide) (by omega) (.slice none 0 0) ([] : List Int) l0 _ _ _ (fun _ => True) (fun _ => False) rfl rfl ?aO ?aR (fun _ _ h => h) (fun _ h => h.elim) ?aF ?aB ?aS ?aL ?_; (case aR => repeat (first | exact (Kd.C_below HR0.out HB.out) | (with_reducible refine Kd.C_alloc ?_ _) | (with_reducible refine Kd.C_drewN ?_ _) | (with_reducible refine Kd.C_drew ?_))); (case aB => exact (by repeat (first | (with_reducible first | exact HB.out | apply below_alloc | apply pw_below_drewN | apply below_drew1) | exact HB.out))); (case aF => exact (fun _ _ => trivial)); (case aO => exact ((Kd.R_nil _ _ _ _ (fun _ => True)))); (case aS => exact (below_size (by repeat (first | (with_reducible first | exact HB.out | apply below_alloc | apply pw_below_drewN | apply below_drew1) | exact HB.out)))); (case aL => have := LMc10.out; omega); intro v228 w24 ho hb hg hat; rw [← Ny227.out] at ho; have n0_ := Aside0.mk (hb); have n1_ := Aside0.mk (ho); clear HB; have HB := n0_; have HO229 := n1_; clear n0_ n1_; clear ho hb hg hat; obtain ⟨Ao25, co25, eo25⟩ := Kd.R_slice HO229.out; subst eo25) | ((with_reducible refine gate_callee (f := 17) rfl ?_); refine goesL_ (some 30) rfl rfl Try.func17 (by kernel_rfl) rfl #[.slice Ao25 y227.length co25, .string a1] rfl (by (try simp only [List.map_toArray, List.map_cons, List.map_nil]); first | done | rfl | (simp only [List.length_drop, List.length_take]; rfl)) ?_; (with_reducible refine (bits_Text.calls kj5 (fun k_ => some k_ = (.slice Ao25 y227.length co25 : Value).ownBlock) (.slice Ao25 y227.length co25) y227 a1 t230 w _ ?side1 ?side2 A11.out).mono ?_); (case side1 => repeat (first | (with_reducible first | exact HB.out | apply below_alloc | apply pw_below_drewN | apply below_drew1) | exact HB.out)); (case side2 => exact Kd.R_tight rfl HO229.out); rintro e w26 ⟨v231, rfl, ho0, hb, hkp⟩; refine ⟨_, rfl, ?_⟩; have n0_ := Aside0.mk (Kd.R_mono (ok' := fun k_ => True) ho0 (fun k_ hk_ => trivial)); have n1_ := Aside0.mk (hb); clear HB; clear HO229; have HO232 := n0_; have HB := n1_; clear n0_ n1_; (try clear hb); (try clear hkp); (try clear ho0)) | ((with_reducible refine gate_builtin (b := .append) (xs := #[.const (.slice none 0 0), .tmp 32]) rfl ?_); (try (refine gate_guard (by rfl) ?_; dsimp only)); at_builtin; refine Kd.R_append_rows (Kd.int .u8) (w0 := w) w.heap.size rfl (.const (.slice none 0 0)) (.tmp 32) 22 5 (.int .u8 0) 1 rfl Try.underlying22 info5 rfl (by decide) (by omega) (.slice none 0 0) ([] : List Int) l0 _ _ _ (fun k_ => some k_ ≠ (v231 : Value).ownBlock) (fun _ => False) rfl rfl ?aO ?aR (fun _ _ h => h) (fun _ h => h.elim) ?aF ?aB ?aS ?aL ?_; (case aR => repeat (first | exact (Kd.C_below HR0.out HB.out) | (with_reducible refine Kd.C_alloc ?_ _) | (with_reducible refine Kd.C_drewN ?_ _) | (with_reducible refine Kd.C_drew ?_))); (case aB => exact (by repeat (first | (with_reducible first | exact HB.out | apply below_alloc | apply pw_below_drewN | apply below_drew1) | exact HB.out))); (case aF => exact (fun k_ hk => Kd.fresh' (Kd.R_lt (by (with_reducible repeat (first | apply Kd.R_alloc | apply Kd.R_drewN | apply Kd.R_drew)); exact HO232.out)) k_ hk)); (case aO => exact ((Kd.R_nil _ _ _ _ (fun k_ => some k_ ≠ (v231 : Value).ownBlock)))); (case aS => exact (below_size (by repeat (first | (with_reducible first | exact HB.out | apply below_alloc | apply pw_below_drewN | apply below_drew1) | exact HB.out)))); (case aL => have := LMc10.out; omega); intro v234 w27 ho hb hg hat; rw [← Ny233.out] at ho; have n0_ := Aside0.mk (Kd.R_after (Kd.R_apart_nil (by (with_reducible repeat (first | apply Kd.R_alloc | apply Kd.R_drewN | apply Kd.R_drew)); exact HO232.out)) hg hat); have n1_ := Aside0.mk (hb); have n2_ := Aside0.mk (ho); clear HO232; clear HB; have HO232 := n0_; have HB := n1_; have HO235 := n2_; clear n0_ n1_ n2_; clear ho hb hg hat; obtain ⟨Ao28, co28, eo28⟩ := Kd.R_slice HO235.out; subst eo28) | ((with_reducible refine gate_callee (f := 18) rfl ?_); refine goesL_ (some 35) rfl rfl Try.func18 (by kernel_rfl) rfl #[.slice Ao28 y233.length co28, .int .i64 a2] rfl (by (try simp only [List.map_toArray, List.map_cons, List.map_nil]); first | done | rfl | (simp only [List.length_drop, List.length_take]; rfl)) ?_; (with_reducible refine (bits_GetText.calls kj5 (fun k_ => some k_ = (.slice Ao28 y233.length co28 : Value).ownBlock) _ _ y233 a2 t236 t237 t240 _ ?side1 A12.out).mono ?_); (case side1 => exact Kd.R_V (Kd.R_tight rfl (HO235.out))); rintro e w29 ⟨v238, rfl, ho0, hb⟩; refine ⟨_, rfl, ?_⟩; have n0_ := Aside0.mk (Kd.R_below (by (with_reducible repeat (first | apply Kd.R_alloc | apply Kd.R_drewN | apply Kd.R_drew)); exact HO232.out) hb); have n1_ := Aside0.mk (Kd.R_below (by (with_reducible repeat (first | apply Kd.R_alloc | apply Kd.R_drewN | apply Kd.R_drew)); exact HO235.out) hb); have n2_ := Aside0.mk (Kd.V_lower (Kd.V_mono (ok' := fun k_ => some k_ ≠ (v231 : Value).ownBlock) ho0 (fun k_ hk_ => Or.elim hk_ (fun hs_ => ((HO235.out).1 k_ hs_.symm)) (fun hn_ => (Kd.fresh' (Kd.R_lt (by (with_reducible repeat (first | apply Kd.R_alloc | apply Kd.R_drewN | apply Kd.R_drew)); exact HO232.out)) k_ hn_)))) (below_size (by repeat (first | (with_reducible first | exact HB.out | apply below_alloc | apply pw_below_drewN | apply below_drew1) | exact HB.out)))); have n3_ := Aside0.mk (below_step (by repeat (first | (with_reducible first | exact HB.out | apply below_alloc | apply pw_below_drewN | apply below_drew1) | exact HB.out)) hb); clear HO232; clear HO235; clear HB; have HO232 := n0_; have HO235 := n1_; have HO239 := n2_; have HB := n3_; clear n0_ n1_ n2_ n3_; (try clear hb); (try clear hb2); (try clear hk); (try clear hi); (try clear ho0)) | ((with_reducible refine gate_callee (f := 19) rfl ?_); refine goesL_ (some 42) rfl rfl Try.func19 (by kernel_rfl) rfl #[.slice A0 l0.length c0, .int .i64 a2] rfl (by (try simp only [List.map_toArray, List.map_cons, List.map_nil]); first | done | rfl | (simp only [List.length_drop, List.length_take]; rfl)) ?_; (with_reducible refine (spillwayref1_GetText.calls kj5 (fun k_ => k_ < w.heap.size) _ _ l0 a2 t241 t242 t245 _ ?side1 A13.out).mono ?_); (case side1 => exact Kd.V_mk HC0.out (Kd.F_below (Kd.C_F (Kd.heap_int .u8) HR0.out) (by repeat (first | (with_reducible first | exact HB.out | apply below_alloc | apply pw_below_drewN | apply below_drew1) | exact HB.out)))); rintro e w30 ⟨v243, rfl, ho0, hb⟩; refine ⟨_, rfl, ?_⟩; have n0_ := Aside0.mk (Kd.R_below (by (with_reducible repeat (first | apply Kd.R_alloc | apply Kd.R_drewN | apply Kd.R_drew)); exact HO232.out) hb); have n1_ := Aside0.mk (Kd.R_below (by (with_reducible repeat (first | apply Kd.R_alloc | apply Kd.R_drewN | apply Kd.R_drew)); exact HO235.out) hb); have n2_ := Aside0.mk (Kd.V_below (by (with_reducible repeat (first | apply Kd.V_alloc | apply Kd.V_drewN | apply Kd.V_drew)); exact HO239.out) hb); have n3_ := Aside0.mk (Kd.V_lower (Kd.V_mono (ok' := fun k_ => some k_ ≠ (v231 : Value).ownBlock ∧ some k_ ≠ (.slice Ao28 y233.length co28 : Value).ownBlock) ho0 (fun k_ hk_ => ⟨Or.elim hk_ (fun hs_ => fun e_ => Nat.not_le.2 hs_ (Kd.R_base HO232.out k_ e_.symm)) (fun hn_ => (Kd.fresh' (Kd.R_lt (by (with_reducible repeat (first | apply Kd.R_alloc | apply Kd.R_drewN | apply Kd.R_drew)); exact HO232.out)) k_ hn_)), Or.elim hk_ (fun hs_ => fun e_ => Nat.not_le.2 hs_ (Kd.R_base HO235.out k_ e_.symm)) (fun hn_ => (Kd.fresh' (Kd.R_lt (by (with_reducible repeat (first | apply Kd.R_alloc | apply Kd.R_drewN | apply Kd.R_drew)); exact HO235.out)) k_ hn_))⟩)) (below_size (by repeat (first | (with_reducible first | exact HB.out | apply below_alloc | apply pw_below_drewN | apply below_drew1) | exact HB.out)))); have n4_ := Aside0.mk (below_step (by repeat (first | (with_reducible first | exact HB.out | apply below_alloc | apply pw_below_drewN | apply below_drew1) | exact HB.out)) hb); clear HO232; clear HO235; clear HO239; clear HB; have HO232 := n0_; have HO235 := n1_; have HO239 := n2_; have HO244 := n3_; have HB := n4_; clear n0_ n1_ n2_ n3_ n4_; (try clear hb); (try clear hb2); (try clear hk); (try clear hi); (try clear ho0); obtain ⟨Ao32, co32, eo32⟩ := Kd.R_slice HO232.out; subst eo32; have q31 : ((l0.length : Int) : Int) ≤ ((t230.length : Int) : Int) := of_decide_eq_true (by first | (with_reducible assumption) | assumption); obtain ⟨i031, hi031, _, hsz31, _⟩ := info_parts info5; have hroom31 : t230.length ≤ co32 := (Kd.R_reads' HO232.out).2.1; have hC31 : Kd.F (Kd.int .u8) _ _ Ao32 t230.length t230 := (Kd.V_at (base := w.heap.size) (Kd.R_V HO232.out)).2.2; have q031 : (0 : Int) ≤ ((l0.length : Int) : Int) := of_decide_eq_true (by first | (with_reducible assumption) | assumption); have hcut31 := cut_from (P := Try.prog) 22 5 .i64 Try.underlying22 hi031 1 hsz31 Ao32 t230.length co32 (l0.length : Int) q031 q31; have hr31 := Kd.F_cut (m := ((l0.length : Int) : Int).toNat) (c := co32) hC31 (by omega) hroom31; obtain ⟨A31, hA31⟩ : ∃ A1, A1 = (if co32 = ((l0.length : Int) : Int).toNat then Ao32 else (Ao32 : Option Addr).map (·.add (((l0.length : Int) : Int).toNat * 1))) := ⟨_, rfl⟩; obtain ⟨c31, hc31⟩ : ∃ c1, c1 = co32 - ((l0.length : Int) : Int).toNat := ⟨_, rfl⟩; have hy31 : y246.length = t230.length - ((l0.length : Int) : Int).toNat := (by rw [Ny246.out, List.length_drop] <;> omega); rw [show (t230).drop ((l0.length : Int) : Int).toNat = y246 from Ny246.out.symm] at hr31; replace hr31 : Kd.F (Kd.int .u8) _ _ A31 y246.length y246 := (by rw [hA31]; exact hr31); rw [← hy31, ← hA31, ← hc31] at hcut31; have HO250 := Aside0.mk (show Kd.V (Kd.int .u8) 5 _ w.heap.size _ (.slice A31 y246.length c31) y246 from Kd.V_mk (by rw [hy31, hc31]; exact Nat.sub_le_sub_right hroom31 _) hr31); have HC250 := Aside0.mk (show y246.length ≤ c31 from by rw [hy31, hc31]; exact Nat.sub_le_sub_right hroom31 _); clear hr31 hC31 hroom31 hi031 hsz31 hc31; have KY31 := Aside0.mk hy31; have KA31 := Aside0.mk hA31; clear hy31 hA31; replace q31 := eq_true q31) | ((with_reducible refine gate_callee (f := 18) rfl ?_); refine goesL_ (some 51) rfl rfl Try.func18 (by kernel_rfl) rfl #[.slice A31 y246.length c31, .int .i64 300] rfl (by (try simp only [List.map_toArray, List.map_cons, List.map_nil]); first | done | rfl | (simp only [List.length_drop, List.length_take]; rfl)) ?_; (with_reducible refine (bits_GetText.calls kj5 (fun k_ => (True ∧ some k_ ≠ (.slice Ao28 y233.length co28 : Value).ownBlock)) _ _ y246 300 t251 t252 t255 _ ?side1 A16.out).mono ?_); (case side1 => exact HO250.out); rintro e w33 ⟨v253, rfl, ho0, hb⟩; refine ⟨_, rfl, ?_⟩; have n0_ := Aside0.mk (Kd.R_below (by (with_reducible repeat (first | apply Kd.R_alloc | apply Kd.R_drewN | apply Kd.R_drew)); exact HO232.out) hb); have n1_ := Aside0.mk (Kd.R_below (by (with_reducible repeat (first | apply Kd.R_alloc | apply Kd.R_drewN | apply Kd.R_drew)); exact HO235.out) hb); have n2_ := Aside0.mk (Kd.V_below (by (with_reducible repeat (first | apply Kd.V_alloc | apply Kd.V_drewN | apply Kd.V_drew)); exact HO239.out) hb); have n3_ := Aside0.mk (Kd.V_below (by (with_reducible repeat (first | apply Kd.V_alloc | apply Kd.V_drewN | apply Kd.V_drew)); exact HO244.out) hb); have n4_ := Aside0.mk (Kd.V_below (by (with_reducible repeat (first | apply Kd.V_alloc | apply Kd.V_drewN | apply Kd.V_drew)); exact HO250.out) hb); have n5_ := Aside0.mk (Kd.V_lower (Kd.V_mono (ok' := fun k_ => some k_ ≠ (.slice Ao28 y233.length co28 : Value).ownBlock) ho0 (fun k_ hk_ => Or.elim hk_ (fun hs_ => hs_.2) (fun hn_ => (Kd.fresh' (Kd.R_lt (by (with_reducible repeat (first | apply Kd.R_alloc | apply Kd.R_drewN | apply Kd.R_drew)); exact HO235.out)) k_ hn_)))) (below_size (by repeat (first | (with_reducible first | exact HB.out | apply below_alloc | apply pw_below_drewN | apply below_drew1) | exact HB.out)))); have n6_ := Aside0.mk (below_step (by repeat (first | (with_reducible first | exact HB.out | apply below_alloc | apply pw_below_drewN | apply below_drew1) | exact HB.out)) hb); clear HO232; clear HO235; clear HO239; clear HO244; clear HO250; clear HB; have HO232 := n0_; have HO235 := n1_; have HO239 := n2_; have HO244 := n3_; have HO250 := n4_; have HO254 := n5_; have HB := n6_; clear n0_ n1_ n2_ n3_ n4_ n5_ n6_; (try clear hb); (try clear hb2); (try clear hk); (try clear hi); (try clear ho0); obtain ⟨Ao34, co34, eo34⟩ := Kd.V_slice HO239.out; subst eo34; obtain ⟨Ao35, co35, eo35⟩ := Kd.V_slice HO244.out; subst eo35))
                            have n0_ := Aside0.mk (Kd.R_drew HO232.out)
                            have n1_ := Aside0.mk (Kd.R_drew HO235.out)
                            have n2_ := Aside0.mk (Kd.V_drew HO239.out)
                            have n3_ := Aside0.mk (Kd.V_drew HO244.out)
                            have n4_ := Aside0.mk (Kd.V_drew HO250.out)
                            have n5_ := Aside0.mk (Kd.V_drew HO254.out)
                            have n6_ := Aside0.mk (below_drew1 HB.out)
                            clear HO232
                            clear HO235
                            clear HO239
                            clear HO244
                            clear HO250
                            clear HO254
                            clear HB
                            have HO232 := n0_
                            have HO235 := n1_
                            have HO239 := n2_
                            have HO244 := n3_
                            have HO250 := n4_
                            have HO254 := n5_
                            have HB := n6_
                            clear n0_ n1_ n2_ n3_ n4_ n5_ n6_
                            refine start_ (n := 40) (S := fun w' => (convert 22 9 (.slice Ao32 t230.length co32)).run Try.prog w' = .ok (.string (strOfNums t230)) w' ∧ (convert 22 9 (.slice Ao34 t237.length co34)).run Try.prog w' = .ok (.string (strOfNums t237)) w' ∧ (convert 22 9 (.slice Ao35 t242.length co35)).run Try.prog w' = .ok (.string (strOfNums t242)) w') (ds := []) #[false, false, false, false, false, false, false, false, false, false, false, false, false, false, false, false, false, false, false, false, false, false, false, false, false, false, false, false, false, false, false, false, false, false, false, false, false, false, false, false] (by kernel_rfl) rfl rfl ⟨(own_string (P := Try.prog) Try.underlying22 Try.underlying5 Try.underlying9 (Kd.own_of_R (by (with_reducible repeat (first | apply Kd.R_alloc | apply Kd.R_drewN | apply Kd.R_drew)); exact HO232.out))), (V_string (P := Try.prog) (e' := 0) (base := 0) Try.underlying22 Try.underlying5 Try.underlying9 (by (with_reducible repeat (first | apply Kd.V_alloc | apply Kd.V_drewN | apply Kd.V_drew)); exact HO239.out)), (V_string (P := Try.prog) (e' := 0) (base := 0) Try.underlying22 Try.underlying5 Try.underlying9 (by (with_reducible repeat (first | apply Kd.V_alloc | apply Kd.V_drewN | apply Kd.V_drew)); exact HO244.out))⟩ (fun hHeld => ?_); refine with_tabW spillwaylaw1_BitsTexts.tab9 spillwaylaw1_BitsTexts.bits9 (fun HT_ HW_ => ?_)
                            generalize w33.drew = w36 at HO232 HO235 HO239 HO244 HO250 HO254 HB hHeld ⊢
                            refine pure_ (i := 0) (N := some 55) (v := ?_) (a' := ?_) #[true, false, false, false, false, false, false, false, false, false, false, false, false, false, false, false, false, false, false, false, false, false, false, false, false, false, false, false, false, false, false, false, false, false, false, false, false, false, false, false] rfl rfl (any_of HT_.out (by kernel_rfl)) (fun _ _ _ h => h) (Or.inl ⟨by rfl, ?_⟩) ?_ ?_
                            rotate_left
                            · intro w'
                              go_simp
                              with_reducible rfl
                            rotate_left
                            · simp only [Act.put, List.setIfInBounds_toArray, List.set_cons_zero, List.set_cons_succ, i64_w, i32_w]
                              rfl
                            refine pure_ (i := 2) (N := some 57) (v := ?_) (a' := ?_) #[true, false, true, false, false, false, false, false, false, false, false, false, false, false, false, false, false, false, false, false, false, false, false, false, false, false, false, false, false, false, false, false, false, false, false, false, false, false, false, false] rfl rfl (any_of HT_.out (by kernel_rfl)) (fun _ _ _ h => h) (Or.inl ⟨by rfl, ?_⟩) ?_ ?_
                            rotate_left
                            · intro w'
                              go_simp
                              with_reducible rfl
                            rotate_left
                            · simp only [Act.put, List.setIfInBounds_toArray, List.set_cons_zero, List.set_cons_succ, i64_w, i32_w]
                              rfl
                            refine pure_ (i := 4) (N := some 59) (v := ?_) (a' := ?_) #[true, false, true, false, true, false, false, false, false, false, false, false, false, false, false, false, false, false, false, false, false, false, false, false, false, false, false, false, false, false, false, false, false, false, false, false, false, false, false, false] rfl rfl (any_of HT_.out (by kernel_rfl)) (fun _ _ _ h => h) (Or.inl ⟨by rfl, ?_⟩) ?_ ?_
                            rotate_left
                            · intro w'
                              go_simp
                              with_reducible rfl
                            rotate_left
                            · simp only [Act.put, List.setIfInBounds_toArray, List.set_cons_zero, List.set_cons_succ, i64_w, i32_w]
                              rfl
                            refine take_ (i := 1) (N := some 56) (v := ?_) (a' := ?_) #[true, true, true, false, true, false, false, false, false, false, false, false, false, false, false, false, false, false, false, false, false, false, false, false, false, false, false, false, false, false, false, false, false, false, false, false, false, false, false, false] rfl rfl (take_ofW HT_.out HW_.out (by kernel_rfl)) (fun _ _ _ h => h) (Or.inl ⟨by rfl, ?_⟩) hHeld ?_ ?_
                            rotate_left
                            · rintro w' ⟨s0, s1, s2⟩
                              go_simp
                              with_reducible rfl
                            rotate_left
                            · simp only [Act.put, List.setIfInBounds_toArray, List.set_cons_zero, List.set_cons_succ, i64_w, i32_w]
                              rfl
                            refine one_ (i := 3) (N := some 58) #[true, true, true, true, true, false, false, false, false, false, false, false, false, false, false, false, false, false, false, false, false, false, false, false, false, false, false, false, false, false, false, false, false, false, false, false, false, false, false, false] rfl rfl (one_of HT_.out (by kernel_rfl)) (by decide) (fun K hK => ?_)
                            refine Kd.R_append_rows_step (Kd.int .u8) (w0 := w) w.heap.size rfl (.const (.slice none 0 0)) (.tmp 57) 22 5 (.int .u8 0) 1 rfl Try.underlying22 info5 rfl (by decide) (by omega) (.slice none 0 0) ([] : List Int) l0 _ _ _ (fun k_ => some k_ ≠ (.slice Ao32 t230.length co32 : Value).ownBlock ∧ some k_ ≠ (.slice Ao28 y233.length co28 : Value).ownBlock) (fun _ => False) rfl rfl ?aO ?aR (fun _ _ h => h) (fun _ h => h.elim) ?aF ?aB ?aS ?aL ?_
                            (case aR => repeat (first | exact (Kd.C_below HR0.out HB.out) | (with_reducible refine Kd.C_alloc ?_ _) | (with_reducible refine Kd.C_drewN ?_ _) | (with_reducible refine Kd.C_drew ?_)))
                            (case aB => exact (by repeat (first | (with_reducible first | exact HB.out | apply below_alloc | apply pw_below_drewN | apply below_drew1) | exact HB.out)))
                            (case aF => exact (fun k_ hk => ⟨Kd.fresh' (Kd.R_lt (by (with_reducible repeat (first | apply Kd.R_alloc | apply Kd.R_drewN | apply Kd.R_drew)); exact HO232.out)) k_ hk, Kd.fresh' (Kd.R_lt (by (with_reducible repeat (first | apply Kd.R_alloc | apply Kd.R_drewN | apply Kd.R_drew)); exact HO235.out)) k_ hk⟩))
                            (case aO => exact ((Kd.R_nil _ _ _ _ (fun k_ => some k_ ≠ (.slice Ao32 t230.length co32 : Value).ownBlock ∧ some k_ ≠ (.slice Ao28 y233.length co28 : Value).ownBlock))))
                            (case aS => exact (below_size (by repeat (first | (with_reducible first | exact HB.out | apply below_alloc | apply pw_below_drewN | apply below_drew1) | exact HB.out))))
                            (case aL => have := LMc10.out; omega)
                            intro v257 w37 ho hb hg hat
                            rw [← Ny256.out] at ho
                            have n0_ := Aside0.mk (Kd.R_after (Kd.R_apart_nil (by (with_reducible repeat (first | apply Kd.R_alloc | apply Kd.R_drewN | apply Kd.R_drew)); exact HO232.out)) hg hat)
                            have n1_ := Aside0.mk (Kd.R_after (Kd.R_apart_nil (by (with_reducible repeat (first | apply Kd.R_alloc | apply Kd.R_drewN | apply Kd.R_drew)); exact HO235.out)) hg hat)
                            have n2_ := Aside0.mk (Kd.V_afterv (Kd.V_apart_nil (by (with_reducible repeat (first | apply Kd.V_alloc | apply Kd.V_drewN | apply Kd.V_drew)); exact HO239.out)) hg hat)
                            have n3_ := Aside0.mk (Kd.V_afterv (Kd.V_apart_nil (by (with_reducible repeat (first | apply Kd.V_alloc | apply Kd.V_drewN | apply Kd.V_drew)); exact HO244.out)) hg hat)
                            have n4_ := Aside0.mk (Kd.V_afterv (Kd.V_apart_nil (by (with_reducible repeat (first | apply Kd.V_alloc | apply Kd.V_drewN | apply Kd.V_drew)); exact HO250.out)) hg hat)
                            have n5_ := Aside0.mk (Kd.V_afterv (Kd.V_apart_nil (by (with_reducible repeat (first | apply Kd.V_alloc | apply Kd.V_drewN | apply Kd.V_drew)); exact HO254.out)) hg hat)
                            have n6_ := Aside0.mk (hb)
                            have n7_ := Aside0.mk (ho)
                            clear HO232
                            clear HO235
                            clear HO239
                            clear HO244
                            clear HO250
                            clear HO254
                            clear HB
                            have HO232 := n0_
                            have HO235 := n1_
                            have HO239 := n2_
                            have HO244 := n3_
                            have HO250 := n4_
                            have HO254 := n5_
                            have HB := n6_
                            have HO258 := n7_
                            clear n0_ n1_ n2_ n3_ n4_ n5_ n6_ n7_
                            clear ho hb hg hat
                            obtain ⟨Ao38, co38, eo38⟩ := Kd.R_slice HO258.out
                            (first | subst eo38 | (injection eo38 with f1_ f2_ f3_; have f4_ := f1_.symm; have f5_ := f3_.symm; clear f1_ f2_ f3_; subst f4_; subst f5_))
                            refine hK.out _ _ ⟨(own_string (P := Try.prog) Try.underlying22 Try.underlying5 Try.underlying9 (Kd.own_of_R (by (with_reducible repeat (first | apply Kd.R_alloc | apply Kd.R_drewN | apply Kd.R_drew)); exact HO232.out))), (V_string (P := Try.prog) (e' := 0) (base := 0) Try.underlying22 Try.underlying5 Try.underlying9 (by (with_reducible repeat (first | apply Kd.V_alloc | apply Kd.V_drewN | apply Kd.V_drew)); exact HO239.out)), (V_string (P := Try.prog) (e' := 0) (base := 0) Try.underlying22 Try.underlying5 Try.underlying9 (by (with_reducible repeat (first | apply Kd.V_alloc | apply Kd.V_drewN | apply Kd.V_drew)); exact HO244.out))⟩ (fun hHeld => ?_)
                            clear hK K
                            refine norm_ (a' := ?_) ?_ ?_
                            rotate_left
                            · show Act.put _ (some 58) _ = _
                              simp only [Act.put, List.setIfInBounds_toArray, List.set_cons_zero, List.set_cons_succ, i64_w, i32_w]
                              rfl
                            refine one_ (i := 5) (N := some 60) #[true, true, true, true, true, true, false, false, false, false, false, false, false, false, false, false, false, false, false, false, false, false, false, false, false, false, false, false, false, false, false, false, false, false, false, false, false, false, false, false] rfl rfl (one_of HT_.out (by kernel_rfl)) (by decide) (fun K hK => ?_)
                            refine goes_ Try.func20 (by kernel_rfl) rfl #[.slice Ao38 y256.length co38, .string a1] (by rfl) rfl rfl (by (try simp only [List.map_toArray, List.map_cons, List.map_nil]); first | done | rfl | (simp only [List.length_drop, List.length_take]; rfl)) ?_
                            with_reducible refine (spillwayref1_Text.calls kj5 (fun k_ => some k_ = (.slice Ao38 y256.length co38 : Value).ownBlock) (.slice Ao38 y256.length co38) y256 a1 t259 w _ ?side1 ?side2 A17.out).mono ?_
                            (case side1 => repeat (first | (with_reducible first | exact HB.out | apply below_alloc | apply pw_below_drewN | apply below_drew1) | exact HB.out))
                            (case side2 => exact Kd.R_tight rfl HO258.out)
                            rintro e w39 ⟨v260, rfl, ho0, hb, hkp⟩
                            refine ⟨_, rfl, ?_⟩
                            have n0_ := Aside0.mk (Kd.R_mono (ok' := fun k_ => some k_ ≠ (.slice Ao28 y233.length co28 : Value).ownBlock ∧ some k_ ≠ (v260 : Value).ownBlock) (Kd.R_keptB (HO232.out) hkp (fun k_ hk_ hs_ => (hk_.2) hs_)) (fun k_ hk_ => ⟨hk_.1.1.2, fun e_ => Or.elim (ho0.1 k_ e_.symm) (fun hs_ => hk_.2.1 hs_) (fun hn_ => Nat.not_le.2 hk_.2.2 hn_)⟩))
                            have n1_ := Aside0.mk (Kd.R_mono (ok' := fun k_ => some k_ ≠ (.slice Ao32 t230.length co32 : Value).ownBlock ∧ some k_ ≠ (v260 : Value).ownBlock) (Kd.R_keptB (HO235.out) hkp (fun k_ hk_ hs_ => (hk_.2) hs_)) (fun k_ hk_ => ⟨hk_.1.1, fun e_ => Or.elim (ho0.1 k_ e_.symm) (fun hs_ => hk_.2.1 hs_) (fun hn_ => Nat.not_le.2 hk_.2.2 hn_)⟩))
                            have n2_ := Aside0.mk (Kd.V_mono (ok' := fun k_ => some k_ ≠ (.slice Ao32 t230.length co32 : Value).ownBlock ∧ some k_ ≠ (v260 : Value).ownBlock) (Kd.V_keptB (HO239.out) hkp (fun k_ hk_ hs_ => (hk_.2) hs_)) (fun k_ hk_ => ⟨hk_.1.1, fun e_ => Or.elim (ho0.1 k_ e_.symm) (fun hs_ => hk_.2.1 hs_) (fun hn_ => Nat.not_le.2 hk_.2.2 hn_)⟩))
                            have n3_ := Aside0.mk (Kd.V_mono (ok' := fun k_ => some k_ ≠ (.slice Ao32 t230.length co32 : Value).ownBlock ∧ some k_ ≠ (.slice Ao28 y233.length co28 : Value).ownBlock ∧ some k_ ≠ (v260 : Value).ownBlock) (Kd.V_keptB (HO244.out) hkp (fun k_ hk_ hs_ => (hk_.2) hs_)) (fun k_ hk_ => ⟨hk_.1.1.1, hk_.1.1.2, fun e_ => Or.elim (ho0.1 k_ e_.symm) (fun hs_ => hk_.2.1 hs_) (fun hn_ => Nat.not_le.2 hk_.2.2 hn_)⟩))
                            have n4_ := Aside0.mk (Kd.V_mono (ok' := fun k_ => some k_ ≠ (.slice Ao28 y233.length co28 : Value).ownBlock ∧ some k_ ≠ (v260 : Value).ownBlock) (Kd.V_keptB (HO250.out) hkp (fun k_ hk_ hs_ => (hk_.2) hs_)) (fun k_ hk_ => ⟨hk_.1.1.2, fun e_ => Or.elim (ho0.1 k_ e_.symm) (fun hs_ => hk_.2.1 hs_) (fun hn_ => Nat.not_le.2 hk_.2.2 hn_)⟩))
                            have n5_ := Aside0.mk (Kd.V_mono (ok' := fun k_ => some k_ ≠ (.slice Ao28 y233.length co28 : Value).ownBlock ∧ some k_ ≠ (v260 : Value).ownBlock) (Kd.V_keptB (HO254.out) hkp (fun k_ hk_ hs_ => (hk_.2) hs_)) (fun k_ hk_ => ⟨hk_.1.1, fun e_ => Or.elim (ho0.1 k_ e_.symm) (fun hs_ => hk_.2.1 hs_) (fun hn_ => Nat.not_le.2 hk_.2.2 hn_)⟩))
                            have n6_ := Aside0.mk (Kd.R_mono (ok' := fun k_ => some k_ ≠ (.slice Ao32 t230.length co32 : Value).ownBlock ∧ some k_ ≠ (.slice Ao28 y233.length co28 : Value).ownBlock) ho0 (fun k_ hk_ => ⟨Or.elim hk_ (fun hs_ => fun e_ => (((HO232.out).1 k_ e_.symm).2) hs_) (fun hn_ => (Kd.fresh' (Kd.R_lt (by (with_reducible repeat (first | apply Kd.R_alloc | apply Kd.R_drewN | apply Kd.R_drew)); exact HO232.out)) k_ hn_)), Or.elim hk_ (fun hs_ => fun e_ => (((HO235.out).1 k_ e_.symm).2) hs_) (fun hn_ => (Kd.fresh' (Kd.R_lt (by (with_reducible repeat (first | apply Kd.R_alloc | apply Kd.R_drewN | apply Kd.R_drew)); exact HO235.out)) k_ hn_))⟩))
                            have n7_ := Aside0.mk (hb)
                            clear HO232
                            clear HO235
                            clear HO239
                            clear HO244
                            clear HO250
                            clear HO254
                            clear HB
                            clear HO258
                            have HO232 := n0_
                            have HO235 := n1_
                            have HO239 := n2_
                            have HO244 := n3_
                            have HO250 := n4_
                            have HO254 := n5_
                            have HO261 := n6_
                            have HB := n7_
                            clear n0_ n1_ n2_ n3_ n4_ n5_ n6_ n7_
                            (try clear hb)
                            (try clear hkp)
                            (try clear ho0)
                            obtain ⟨Ao41, co41, eo41⟩ := Kd.V_slice HO254.out
                            (first | subst eo41 | (injection eo41 with f1_ f2_ f3_; have f4_ := f1_.symm; have f5_ := f3_.symm; clear f1_ f2_ f3_; subst f4_; subst f5_))
                            refine hK.out _ _ ⟨(own_string (P := Try.prog) Try.underlying22 Try.underlying5 Try.underlying9 (Kd.own_of_R (by (with_reducible repeat (first | apply Kd.R_alloc | apply Kd.R_drewN | apply Kd.R_drew)); exact HO232.out))), (V_string (P := Try.prog) (e' := 0) (base := 0) Try.underlying22 Try.underlying5 Try.underlying9 (by (with_reducible repeat (first | apply Kd.V_alloc | apply Kd.V_drewN | apply Kd.V_drew)); exact HO239.out)), (V_string (P := Try.prog) (e' := 0) (base := 0) Try.underlying22 Try.underlying5 Try.underlying9 (by (with_reducible repeat (first | apply Kd.V_alloc | apply Kd.V_drewN | apply Kd.V_drew)); exact HO244.out))⟩ (fun hHeld => ?_)
                            clear hK K
                            refine norm_ (a' := ?_) ?_ ?_
                            rotate_left
                            · show Act.put _ (some 60) _ = _
                              simp only [Act.put, List.setIfInBounds_toArray, List.set_cons_zero, List.set_cons_succ, i64_w, i32_w]
                              rfl
                            refine one_ (i := 6) (N := some 61) #[true, true, true, true, true, true, true, false, false, false, false, false, false, false, false, false, false, false, false, false, false, false, false, false, false, false, false, false, false, false, false, false, false, false, false, false, false, false, false, false] rfl rfl (one_of HT_.out (by kernel_rfl)) (by decide) (fun K hK => ?_)
                            have hcv40 := own_string (P := Try.prog) Try.underlying22 Try.underlying5 Try.underlying9 (Kd.own_of_R HO261.out)
                            refine value_ (w1 := ?_) (v := ?_) (by rfl) rfl ?_ ?_
                            rotate_left 2
                            · go_simp
                              constructor
                              · rfl
                              · rfl
                            clear hcv40
                            refine hK.out _ _ ⟨(own_string (P := Try.prog) Try.underlying22 Try.underlying5 Try.underlying9 (Kd.own_of_R (by (with_reducible repeat (first | apply Kd.R_alloc | apply Kd.R_drewN | apply Kd.R_drew)); exact HO232.out))), (V_string (P := Try.prog) (e' := 0) (base := 0) Try.underlying22 Try.underlying5 Try.underlying9 (by (with_reducible repeat (first | apply Kd.V_alloc | apply Kd.V_drewN | apply Kd.V_drew)); exact HO239.out)), (V_string (P := Try.prog) (e' := 0) (base := 0) Try.underlying22 Try.underlying5 Try.underlying9 (by (with_reducible repeat (first | apply Kd.V_alloc | apply Kd.V_drewN | apply Kd.V_drew)); exact HO244.out))⟩ (fun hHeld => ?_)
                            clear hK K
                            refine norm_ (a' := ?_) ?_ ?_
                            rotate_left
                            · show Act.put _ (some 61) _ = _
                              simp only [Act.put, List.setIfInBounds_toArray, List.set_cons_zero, List.set_cons_succ, i64_w, i32_w]
                              rfl
                            refine pure_ (i := 7) (N := some 62) (v := ?_) (a' := ?_) #[true, true, true, true, true, true, true, true, false, false, false, false, false, false, false, false, false, false, false, false, false, false, false, false, false, false, false, false, false, false, false, false, false, false, false, false, false, false, false, false] rfl rfl (any_of HT_.out (by kernel_rfl)) (fun _ _ _ h => h) (Or.inl ⟨by rfl, ?_⟩) ?_ ?_
                            rotate_left
                            · intro w'
                              go_simp
                              with_reducible rfl
                            rotate_left
                            · simp only [Act.put, List.setIfInBounds_toArray, List.set_cons_zero, List.set_cons_succ, i64_w, i32_w]
                              rfl
                            refine pure_ (i := 8) (N := some 63) (v := ?_) (a' := ?_) #[true, true, true, true, true, true, true, true, true, false, false, false, false, false, false, false, false, false, false, false, false, false, false, false, false, false, false, false, false, false, false, false, false, false, false, false, false, false, false, false] rfl rfl (any_of HT_.out (by kernel_rfl)) (fun _ _ _ h => h) (Or.inl ⟨by rfl, ?_⟩) ?_ ?_
                            rotate_left
                            · intro w'
                              go_simp
                              with_reducible rfl
                            rotate_left
                            · simp only [Act.put, List.setIfInBounds_toArray, List.set_cons_zero, List.set_cons_succ, i64_w, i32_w]
                              rfl
                            refine pure_ (i := 9) (N := some 64) (v := ?_) (a' := ?_) #[true, true, true, true, true, true, true, true, true, true, false, false, false, false, false, false, false, false, false, false, false, false, false, false, false, false, false, false, false, false, false, false, false, false, false, false, false, false, false, false] rfl rfl (any_of HT_.out (by kernel_rfl)) (fun _ _ _ h => h) (Or.inl ⟨by rfl, ?_⟩) ?_ ?_
                            rotate_left
                            · intro w'
                              go_simp
                              with_reducible rfl
                            rotate_left
                            · simp only [Act.put, List.setIfInBounds_toArray, List.set_cons_zero, List.set_cons_succ, i64_w, i32_w]
                              rfl
                            refine pure_ (i := 10) (N := some 65) (v := ?_) (a' := ?_) #[true, true, true, true, true, true, true, true, true, true, true, false, false, false, false, false, false, false, false, false, false, false, false, false, false, false, false, false, false, false, false, false, false, false, false, false, false, false, false, false] rfl rfl (any_of HT_.out (by kernel_rfl)) (fun _ _ _ h => h) (Or.inl ⟨by rfl, ?_⟩) ?_ ?_
                            rotate_left
                            · intro w'
                              go_simp
                              with_reducible rfl
                            rotate_left
                            · simp only [Act.put, List.setIfInBounds_toArray, List.set_cons_zero, List.set_cons_succ, i64_w, i32_w]
                              rfl
                            refine pure_ (i := 11) (N := some 66) (v := ?_) (a' := ?_) #[true, true, true, true, true, true, true, true, true, true, true, true, false, false, false, false, false, false, false, false, false, false, false, false, false, false, false, false, false, false, false, false, false, false, false, false, false, false, false, false] rfl rfl (any_of HT_.out (by kernel_rfl)) (fun _ _ _ h => h) (Or.inl ⟨by rfl, ?_⟩) ?_ ?_
                            rotate_left
                            · intro w'
                              go_simp
                              with_reducible rfl
                            rotate_left
                            · simp only [Act.put, List.setIfInBounds_toArray, List.set_cons_zero, List.set_cons_succ, i64_w, i32_w]
                              rfl
                            refine pure_ (i := 12) (N := some 67) (v := ?_) (a' := ?_) #[true, true, true, true, true, true, true, true, true, true, true, true, true, false, false, false, false, false, false, false, false, false, false, false, false, false, false, false, false, false, false, false, false, false, false, false, false, false, false, false] rfl rfl (any_of HT_.out (by kernel_rfl)) (fun _ _ _ h => h) (Or.inl ⟨by rfl, ?_⟩) ?_ ?_
                            rotate_left
                            · intro w'
                              go_simp
                              with_reducible rfl
                            rotate_left
                            · simp only [Act.put, List.setIfInBounds_toArray, List.set_cons_zero, List.set_cons_succ, i64_w, i32_w]
                              rfl
                            refine pure_ (i := 13) (N := some 68) (v := ?_) (a' := ?_) #[true, true, true, true, true, true, true, true, true, true, true, true, true, true, false, false, false, false, false, false, false, false, false, false, false, false, false, false, false, false, false, false, false, false, false, false, false, false, false, false] rfl rfl (any_of HT_.out (by kernel_rfl)) (fun _ _ _ h => h) (Or.inl ⟨by rfl, ?_⟩) ?_ ?_
                            rotate_left
                            · intro w'
                              go_simp
                              with_reducible rfl
                            rotate_left
                            · simp only [Act.put, List.setIfInBounds_toArray, List.set_cons_zero, List.set_cons_succ, i64_w, i32_w]
                              rfl
                            refine pure_ (i := 14) (N := some 69) (v := ?_) (a' := ?_) #[true, true, true, true, true, true, true, true, true, true, true, true, true, true, true, false, false, false, false, false, false, false, false, false, false, false, false, false, false, false, false, false, false, false, false, false, false, false, false, false] rfl rfl (any_of HT_.out (by kernel_rfl)) (fun _ _ _ h => h) (Or.inl ⟨by rfl, ?_⟩) ?_ ?_
                            rotate_left
                            · intro w'
                              go_simp
                              with_reducible rfl
                            rotate_left
                            · simp only [Act.put, List.setIfInBounds_toArray, List.set_cons_zero, List.set_cons_succ, i64_w, i32_w]
                              rfl
                            refine pure_ (i := 15) (N := some 70) (v := ?_) (a' := ?_) #[true, true, true, true, true, true, true, true, true, true, true, true, true, true, true, true, false, false, false, false, false, false, false, false, false, false, false, false, false, false, false, false, false, false, false, false, false, false, false, false] rfl rfl (any_of HT_.out (by kernel_rfl)) (fun _ _ _ h => h) (Or.inl ⟨by rfl, ?_⟩) ?_ ?_
                            rotate_left
                            · intro w'
                              go_simp
                              with_reducible rfl
                            rotate_left
                            · simp only [Act.put, List.setIfInBounds_toArray, List.set_cons_zero, List.set_cons_succ, i64_w, i32_w]
                              rfl
                            refine pure_ (i := 16) (N := some 71) (v := ?_) (a' := ?_) #[true, true, true, true, true, true, true, true, true, true, true, true, true, true, true, true, true, false, false, false, false, false, false, false, false, false, false, false, false, false, false, false, false, false, false, false, false, false, false, false] rfl rfl (any_of HT_.out (by kernel_rfl)) (fun _ _ _ h => h) (Or.inl ⟨by rfl, ?_⟩) ?_ ?_
                            rotate_left
                            · intro w'
                              go_simp
                              with_reducible rfl
                            rotate_left
                            · simp only [Act.put, List.setIfInBounds_toArray, List.set_cons_zero, List.set_cons_succ, i64_w, i32_w]
                              rfl
                            refine pure_ (i := 17) (N := some 72) (v := ?_) (a' := ?_) #[true, true, true, true, true, true, true, true, true, true, true, true, true, true, true, true, true, true, false, false, false, false, false, false, false, false, false, false, false, false, false, false, false, false, false, false, false, false, false, false] rfl rfl (any_of HT_.out (by kernel_rfl)) (fun _ _ _ h => h) (Or.inl ⟨by rfl, ?_⟩) ?_ ?_
                            rotate_left
                            · intro w'
                              go_simp
                              with_reducible rfl
                            rotate_left
                            · simp only [Act.put, List.setIfInBounds_toArray, List.set_cons_zero, List.set_cons_succ, i64_w, i32_w]
                              rfl
                            refine pure_ (i := 18) (N := some 73) (v := ?_) (a' := ?_) #[true, true, true, true, true, true, true, true, true, true, true, true, true, true, true, true, true, true, true, false, false, false, false, false, false, false, false, false, false, false, false, false, false, false, false, false, false, false, false, false] rfl rfl (any_of HT_.out (by kernel_rfl)) (fun _ _ _ h => h) (Or.inl ⟨by rfl, ?_⟩) ?_ ?_
                            rotate_left
                            · intro w'
                              go_simp
                              with_reducible rfl
                            rotate_left
                            · simp only [Act.put, List.setIfInBounds_toArray, List.set_cons_zero, List.set_cons_succ, i64_w, i32_w]
                              rfl
                            refine pure_ (i := 19) (N := some 74) (v := ?_) (a' := ?_) #[true, true, true, true, true, true, true, true, true, true, true, true, true, true, true, true, true, true, true, true, false, false, false, false, false, false, false, false, false, false, false, false, false, false, false, false, false, false, false, false] rfl rfl (any_of HT_.out (by kernel_rfl)) (fun _ _ _ h => h) (Or.inl ⟨by rfl, ?_⟩) ?_ ?_
                            rotate_left
                            · intro w'
                              go_simp
                              with_reducible rfl
                            rotate_left
                            · simp only [Act.put, List.setIfInBounds_toArray, List.set_cons_zero, List.set_cons_succ, i64_w, i32_w]
                              rfl
                            refine pure_ (i := 21) (N := some 76) (v := ?_) (a' := ?_) #[true, true, true, true, true, true, true, true, true, true, true, true, true, true, true, true, true, true, true, true, false, true, false, false, false, false, false, false, false, false, false, false, false, false, false, false, false, false, false, false] rfl rfl (any_of HT_.out (by kernel_rfl)) (fun _ _ _ h => h) (Or.inl ⟨by rfl, ?_⟩) ?_ ?_
                            rotate_left
                            · intro w'
                              go_simp
                              with_reducible rfl
                            rotate_left
                            · simp only [Act.put, List.setIfInBounds_toArray, List.set_cons_zero, List.set_cons_succ, i64_w, i32_w]
                              rfl
                            refine take_ (i := 20) (N := some 75) (v := ?_) (a' := ?_) #[true, true, true, true, true, true, true, true, true, true, true, true, true, true, true, true, true, true, true, true, true, true, false, false, false, false, false, false, false, false, false, false, false, false, false, false, false, false, false, false] rfl rfl (take_ofW HT_.out HW_.out (by kernel_rfl)) (fun _ _ _ h => h) (Or.inl ⟨by rfl, ?_⟩) hHeld ?_ ?_
                            rotate_left
                            · rintro w' ⟨s0, s1, s2⟩
                              go_simp
                              with_reducible rfl
                            rotate_left
                            · simp only [Act.put, List.setIfInBounds_toArray, List.set_cons_zero, List.set_cons_succ, i64_w, i32_w]
                              rfl
                            refine take_ (i := 22) (N := some 77) (v := ?_) (a' := ?_) #[true, true, true, true, true, true, true, true, true, true, true, true, true, true, true, true, true, true, true, true, true, true, true, false, false, false, false, false, false, false, false, false, false, false, false, false, false, false, false, false] rfl rfl (take_ofW HT_.out HW_.out (by kernel_rfl)) (fun _ _ _ h => h) (Or.inl ⟨by rfl, ?_⟩) hHeld ?_ ?_
                            rotate_left
                            · rintro w' ⟨s0, s1, s2⟩
                              go_simp
                              with_reducible rfl
                            rotate_left
                            · simp only [Act.put, List.setIfInBounds_toArray, List.set_cons_zero, List.set_cons_succ, i64_w, i32_w]
                              rfl
                            refine pure_ (i := 23) (N := some 78) (v := ?_) (a' := ?_) #[true, true, true, true, true, true, true, true, true, true, true, true, true, true, true, true, true, true, true, true, true, true, true, true, false, false, false, false, false, false, false, false, false, false, false, false, false, false, false, false] rfl rfl (any_of HT_.out (by kernel_rfl)) (fun _ _ _ h => h) (Or.inl ⟨by rfl, ?_⟩) ?_ ?_
                            rotate_left
                            · intro w'
                              go_simp
                              with_reducible rfl
                            rotate_left
                            · simp only [Act.put, List.setIfInBounds_toArray, List.set_cons_zero, List.set_cons_succ, i64_w, i32_w]
                              rfl
                            refine pure_ (i := 24) (N := some 79) (v := ?_) (a' := ?_) #[true, true, true, true, true, true, true, true, true, true, true, true, true, true, true, true, true, true, true, true, true, true, true, true, true, false, false, false, false, false, false, false, false, false, false, false, false, false, false, false] rfl rfl (any_of HT_.out (by kernel_rfl)) (fun _ _ _ h => h) (Or.inl ⟨by rfl, ?_⟩) ?_ ?_
                            rotate_left
                            · intro w'
                              go_simp
                              with_reducible rfl
                            rotate_left
                            · simp only [Act.put, List.setIfInBounds_toArray, List.set_cons_zero, List.set_cons_succ, i64_w, i32_w]
                              rfl
                            refine pure_ (i := 25) (N := some 80) (v := ?_) (a' := ?_) #[true, true, true, true, true, true, true, true, true, true, true, true, true, true, true, true, true, true, true, true, true, true, true, true, true, true, false, false, false, false, false, false, false, false, false, false, false, false, false, false] rfl rfl (any_of HT_.out (by kernel_rfl)) (fun _ _ _ h => h) (Or.inl ⟨by rfl, ?_⟩) ?_ ?_
                            rotate_left
                            · intro w'
                              go_simp
                              with_reducible rfl
                            rotate_left
                            · simp only [Act.put, List.setIfInBounds_toArray, List.set_cons_zero, List.set_cons_succ, i64_w, i32_w]
                              rfl
                            refine pure_ (i := 26) (N := some 81) (v := ?_) (a' := ?_) #[true, true, true, true, true, true, true, true, true, true, true, true, true, true, true, true, true, true, true, true, true, true, true, true, true, true, true, false, false, false, false, false, false, false, false, false, false, false, false, false] rfl rfl (any_of HT_.out (by kernel_rfl)) (fun _ _ _ h => h) (Or.inl ⟨by rfl, ?_⟩) ?_ ?_
                            rotate_left
                            · intro w'
                              go_simp
                              with_reducible rfl
                            rotate_left
                            · simp only [Act.put, List.setIfInBounds_toArray, List.set_cons_zero, List.set_cons_succ, i64_w, i32_w]
                              rfl
                            refine pure_ (i := 27) (N := some 82) (v := ?_) (a' := ?_) #[true, true, true, true, true, true, true, true, true, true, true, true, true, true, true, true, true, true, true, true, true, true, true, true, true, true, true, true, false, false, false, false, false, false, false, false, false, false, false, false] rfl rfl (any_of HT_.out (by kernel_rfl)) (fun _ _ _ h => h) (Or.inl ⟨by rfl, ?_⟩) ?_ ?_
                            rotate_left
                            · intro w'
                              go_simp
                              with_reducible rfl
                            rotate_left
                            · simp only [Act.put, List.setIfInBounds_toArray, List.set_cons_zero, List.set_cons_succ, i64_w, i32_w]
                              rfl
                            refine pure_ (i := 28) (N := some 83) (v := ?_) (a' := ?_) #[true, true, true, true, true, true, true, true, true, true, true, true, true, true, true, true, true, true, true, true, true, true, true, true, true, true, true, true, true, false, false, false, false, false, false, false, false, false, false, false] rfl rfl (any_of HT_.out (by kernel_rfl)) (fun _ _ _ h => h) (Or.inl ⟨by rfl, ?_⟩) ?_ ?_
                            rotate_left
                            · intro w'
                              go_simp
                              with_reducible rfl
                            rotate_left
                            · simp only [Act.put, List.setIfInBounds_toArray, List.set_cons_zero, List.set_cons_succ, i64_w, i32_w]
                              rfl
                            refine pure_ (i := 29) (N := some 84) (v := ?_) (a' := ?_) #[true, true, true, true, true, true, true, true, true, true, true, true, true, true, true, true, true, true, true, true, true, true, true, true, true, true, true, true, true, true, false, false, false, false, false, false, false, false, false, false] rfl rfl (any_of HT_.out (by kernel_rfl)) (fun _ _ _ h => h) (Or.inl ⟨by rfl, ?_⟩) ?_ ?_
                            rotate_left
                            · intro w'
                              go_simp
                              with_reducible rfl
                            rotate_left
                            · simp only [Act.put, List.setIfInBounds_toArray, List.set_cons_zero, List.set_cons_succ, i64_w, i32_w]
                              rfl
                            refine pure_ (i := 30) (N := some 85) (v := ?_) (a' := ?_) #[true, true, true, true, true, true, true, true, true, true, true, true, true, true, true, true, true, true, true, true, true, true, true, true, true, true, true, true, true, true, true, false, false, false, false, false, false, false, false, false] rfl rfl (any_of HT_.out (by kernel_rfl)) (fun _ _ _ h => h) (Or.inl ⟨by rfl, ?_⟩) ?_ ?_
                            rotate_left
                            · intro w'
                              go_simp
                              with_reducible rfl
                            rotate_left
                            · simp only [Act.put, List.setIfInBounds_toArray, List.set_cons_zero, List.set_cons_succ, i64_w, i32_w]
                              rfl
                            refine pure_ (i := 31) (N := some 86) (v := ?_) (a' := ?_) #[true, true, true, true, true, true, true, true, true, true, true, true, true, true, true, true, true, true, true, true, true, true, true, true, true, true, true, true, true, true, true, true, false, false, false, false, false, false, false, false] rfl rfl (any_of HT_.out (by kernel_rfl)) (fun _ _ _ h => h) (Or.inl ⟨by rfl, ?_⟩) ?_ ?_
                            rotate_left
                            · intro w'
                              go_simp
                              with_reducible rfl
                            rotate_left
                            · simp only [Act.put, List.setIfInBounds_toArray, List.set_cons_zero, List.set_cons_succ, i64_w, i32_w]
                              rfl
                            refine pure_ (i := 32) (N := some 87) (v := ?_) (a' := ?_) #[true, true, true, true, true, true, true, true, true, true, true, true, true, true, true, true, true, true, true, true, true, true, true, true, true, true, true, true, true, true, true, true, true, false, false, false, false, false, false, false] rfl rfl (any_of HT_.out (by kernel_rfl)) (fun _ _ _ h => h) (Or.inl ⟨by rfl, ?_⟩) ?_ ?_
                            rotate_left
                            · intro w'
                              go_simp
                              with_reducible rfl
                            rotate_left
                            · simp only [Act.put, List.setIfInBounds_toArray, List.set_cons_zero, List.set_cons_succ, i64_w, i32_w]
                              rfl
                            refine pure_ (i := 33) (N := some 88) (v := ?_) (a' := ?_) #[true, true, true, true, true, true, true, true, true, true, true, true, true, true, true, true, true, true, true, true, true, true, true, true, true, true, true, true, true, true, true, true, true, true, false, false, false, false, false, false] rfl rfl (any_of HT_.out (by kernel_rfl)) (fun _ _ _ h => h) (Or.inl ⟨by rfl, ?_⟩) ?_ ?_
                            rotate_left
                            · intro w'
                              go_simp
                              with_reducible rfl
                            rotate_left
                            · simp only [Act.put, List.setIfInBounds_toArray, List.set_cons_zero, List.set_cons_succ, i64_w, i32_w]
                              rfl
                            refine pure_ (i := 34) (N := some 89) (v := ?_) (a' := ?_) #[true, true, true, true, true, true, true, true, true, true, true, true, true, true, true, true, true, true, true, true, true, true, true, true, true, true, true, true, true, true, true, true, true, true, true, false, false, false, false, false] rfl rfl (any_of HT_.out (by kernel_rfl)) (fun _ _ _ h => h) (Or.inl ⟨by rfl, ?_⟩) ?_ ?_
                            rotate_left
                            · intro w'
                              go_simp
                              with_reducible rfl
                            rotate_left
                            · simp only [Act.put, List.setIfInBounds_toArray, List.set_cons_zero, List.set_cons_succ, i64_w, i32_w]
                              rfl
                            refine pure_ (i := 35) (N := some 90) (v := ?_) (a' := ?_) #[true, true, true, true, true, true, true, true, true, true, true, true, true, true, true, true, true, true, true, true, true, true, true, true, true, true, true, true, true, true, true, true, true, true, true, true, false, false, false, false] rfl rfl (any_of HT_.out (by kernel_rfl)) (fun _ _ _ h => h) (Or.inl ⟨by rfl, ?_⟩) ?_ ?_
                            rotate_left
                            · intro w'
                              go_simp
                              with_reducible rfl
                            rotate_left
                            · simp only [Act.put, List.setIfInBounds_toArray, List.set_cons_zero, List.set_cons_succ, i64_w, i32_w]
                              rfl
                            refine pure_ (i := 36) (N := some 91) (v := ?_) (a' := ?_) #[true, true, true, true, true, true, true, true, true, true, true, true, true, true, true, true, true, true, true, true, true, true, true, true, true, true, true, true, true, true, true, true, true, true, true, true, true, false, false, false] rfl rfl (any_of HT_.out (by kernel_rfl)) (fun _ _ _ h => h) (Or.inl ⟨by rfl, ?_⟩) ?_ ?_
                            rotate_left
                            · intro w'
                              go_simp
                              with_reducible rfl
                            rotate_left
                            · simp only [Act.put, List.setIfInBounds_toArray, List.set_cons_zero, List.set_cons_succ, i64_w, i32_w]
                              rfl
                            refine pure_ (i := 37) (N := some 92) (v := ?_) (a' := ?_) #[true, true, true, true, true, true, true, true, true, true, true, true, true, true, true, true, true, true, true, true, true, true, true, true, true, true, true, true, true, true, true, true, true, true, true, true, true, true, false, false] rfl rfl (any_of HT_.out (by kernel_rfl)) (fun _ _ _ h => h) (Or.inl ⟨by rfl, ?_⟩) ?_ ?_
                            rotate_left
                            · intro w'
                              go_simp
                              with_reducible rfl
                            rotate_left
                            · simp only [Act.put, List.setIfInBounds_toArray, List.set_cons_zero, List.set_cons_succ, i64_w, i32_w]
                              rfl
                            refine pure_ (i := 38) (N := some 93) (v := ?_) (a' := ?_) #[true, true, true, true, true, true, true, true, true, true, true, true, true, true, true, true, true, true, true, true, true, true, true, true, true, true, true, true, true, true, true, true, true, true, true, true, true, true, true, false] rfl rfl (any_of HT_.out (by kernel_rfl)) (fun _ _ _ h => h) (Or.inl ⟨by rfl, ?_⟩) ?_ ?_
                            rotate_left
                            · intro w'
                              go_simp
                              with_reducible rfl
                            rotate_left
                            · simp only [Act.put, List.setIfInBounds_toArray, List.set_cons_zero, List.set_cons_succ, i64_w, i32_w]
                              rfl
                            refine pure_ (i := 39) (N := some 6) (v := ?_) (a' := ?_) #[true, true, true, true, true, true, true, true, true, true, true, true, true, true, true, true, true, true, true, true, true, true, true, true, true, true, true, true, true, true, true, true, true, true, true, true, true, true, true, true] rfl rfl (any_of HT_.out (by kernel_rfl)) (fun _ _ _ h => h) (Or.inl ⟨by rfl, ?_⟩) ?_ ?_
                            rotate_left
                            · intro w'
                              go_simp
                              with_reducible rfl
                            rotate_left
                            · simp only [Act.put, List.setIfInBounds_toArray, List.set_cons_zero, List.set_cons_succ, i64_w, i32_w]
                              rfl
                            refine done_ (done_of HT_.out (by kernel_rfl)) ?_
                            try go_wp2
                            go_ret
                            exact ⟨by first | rfl | (simp [errW_none, errW_some] <;> rfl) | (simp [*, errW_none, errW_some] <;> rfl), by repeat (first | (with_reducible first | exact HB.out | apply below_alloc | apply pw_below_drewN | apply below_drew1) | exact HB.out)⟩
                          · rw [if_neg c23] at H
                            have c23b0 : (t255 == 0) = false := beq_eq_false_iff_ne.mpr c23
                            have c23b1 : (t255 != 0) = true := bne_iff_ne.mpr c23
                            exact absurd ((Option.some.inj H).trans HRT.out) (by decide)
                        · rw [if_neg c22] at H
                          have c22b0 : (t251.toList == a1.toList) = false := beq_eq_false_iff_ne.mpr c22
                          have c22b1 : (t251.toList != a1.toList) = true := bne_iff_ne.mpr c22
                          exact absurd ((Option.some.inj H).trans HRT.out) (by decide)
                      · rw [if_neg c21] at H
                        have c21b0 : ((strOfNums t237).toList == (strOfNums t242).toList) = false := beq_eq_false_iff_ne.mpr c21
                        have c21b1 : ((strOfNums t237).toList != (strOfNums t242).toList) = true := bne_iff_ne.mpr c21
                        exact absurd ((Option.some.inj H).trans HRT.out) (by decide)
                    · rw [if_neg c20] at H
                      have c20b0 : (t240 == t245) = false := beq_eq_false_iff_ne.mpr c20
                      have c20b1 : (t240 != t245) = true := bne_iff_ne.mpr c20
                      exact absurd ((Option.some.inj H).trans HRT.out) (by decide)
                  · rw [if_neg c19] at H
                    have c19b0 : (t236.toList == t241.toList) = false := beq_eq_false_iff_ne.mpr c19
                    have c19b1 : (t236.toList != t241.toList) = true := bne_iff_ne.mpr c19
                    exact absurd ((Option.some.inj H).trans HRT.out) (by decide)
                · rw [if_neg c18] at H
                  have c18b0 : ((strOfNums t230).toList == (strOfNums t259).toList) = false := beq_eq_false_iff_ne.mpr c18
                  have c18b1 : ((strOfNums t230).toList != (strOfNums t259).toList) = true := bne_iff_ne.mpr c18
                  exact absurd ((Option.some.inj H).trans HRT.out) (by decide)
              · rw [if_neg c15] at H
                exact absurd H (by simp)
            · rw [if_neg c14] at H
              exact absurd H (by simp)
          · rw [if_neg c10] at H
            exact absurd H (by simp)
  · replace c5 := Bool.eq_false_iff.mpr c5
    subst c5
    have H1 : (some false) = some r := by rw [if_neg (show ¬ (false = true) by decide)] at H; exact H
    clear H
    have H := H1
    clear H1
    exact absurd ((Option.some.inj H).trans HRT.out) (by decide)

/-- THE ONE PURE STATEMENT of spillwaylaw1_BitsTexts: yours. -/
def spillwaylaw1_BitsTexts.Pure : Prop := ∀ (l0 : List Int) (a1 : ByteArray) (a2 : Int), l0.length ≤ maxLen → l0.length * 1 ≤ 140737488351232 → (∀ x ∈ l0, (Lit.int .u8 x).wf = true) → a1.size ≤ 140737488351232 → (Lit.int .i64 a2).wf = true → ∃ k, spillwaylaw1_BitsTexts.f k l0 a1 a2 = some true
theorem spillwaylaw1_BitsTexts.walk (P : spillwaylaw1_BitsTexts.Pure) (a0 : Option Addr) (len0 cap0 : Nat) (z0 : List Int) (a1 : ByteArray) (a2 : Int) (w : World) (w0 : (a0 = none ∧ len0 = 0 ∧ cap0 = 0 ∧ z0 = []) ∨ ∃ x, a0 = some x ∧ len0 ≤ cap0 ∧ cap0 ≤ maxLen ∧ z0.length = cap0 ∧ (∀ i, i < z0.length → w.cell? (x.add i) = some (.int .u8 (z0.getD i 0))) ∧ ∀ n ∈ z0, (Lit.int .u8 n).wf = true) (y0 : len0 * 1 ≤ 140737488351232) (w1 : a1.size ≤ 140737488351232) (w2 : (Lit.int .i64 a2).wf = true) :
    Calls Try.prog 6 #[.slice a0 len0 cap0, .string a1, .int .i64 a2] w fun e w' => e = .returned (.bool true) ∧ Below w.heap.size w w' := by
  obtain ⟨l0, rfl, hr0, hm0, hw0, hc0⟩ := ReadsInt.ofRowC w0
  obtain ⟨k, h⟩ := P l0 a1 a2 hm0 y0 hw0 w1 w2
  refine (spillwaylaw1_BitsTexts.calls k _ _ l0 a1 a2 true w (Kd.C_of_reads (d := (0 : Int)) (h1 := fun _ => rfl) hr0) hc0 h rfl).mono ?_
  rintro e w' ⟨rfl, hd⟩
  exact ⟨rfl, hd⟩

end Go.Proofs.Ytgjpaldbagkahaa.Print
