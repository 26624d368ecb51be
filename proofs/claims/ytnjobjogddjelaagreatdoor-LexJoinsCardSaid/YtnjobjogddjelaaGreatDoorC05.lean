/- A part of the proof of LexJoins: what the functions that the law reaches come to. -/
import Derived.Test.YtnjobjogddjelaaGreatDoorC01
import Derived.Test.YtnjobjogddjelaaGreatDoorC03
import Derived.Test.YtnjobjogddjelaaGreatDoorC04
set_option linter.unusedVariables false
set_option linter.unusedSimpArgs false
section
namespace Go.Proofs.YtnjobjogddjelaaGreatDoor.Print
open Go.RowKit Go.Proofs.YtnjobjogddjelaaGreatDoorX Go.Proofs.YtnjobjogddjelaaGreatDoorW.PrintWords Go.Proofs.YtnjobjogddjelaaGreatDoorW.PrintLast Go.Proofs.YtnjobjogddjelaaGreatDoorW.PrintMore
attribute [local go_sem] max2_int min2_int max_two min_two max_three min_three max_four min_four

theorem wrap_in (a b : Int) : wrap64 (wrap64 a + b) = wrap64 (a + b) := by unfold wrap64; omega
/-! ### spillwaylaw7_LexJoins: function 5 -/
mutual
def spillwaylaw7_LexJoins.j0 : Nat → ByteArray → ByteArray → Bool → Option (Bool)
 | 0, _, _, _ => none
 | k + 1, x0, x1, x24 => if x24 = true then (some true) else ((lex_Scan.f k x0).bind fun bt367 => ((lex_Scan.f k x1).bind fun bt372 => (if x0.size + 1 ≤ 9223372036854775807 then (if (x0 ++ (⟨#[32]⟩ : ByteArray)).size + x1.size ≤ 9223372036854775807 then ((lex_Scan.f k ((x0 ++ (⟨#[32]⟩ : ByteArray)) ++ x1)).bind fun bt377 => (if bt367.2.2 = 0 then (if bt372.2.2 = 0 then (spillwaylaw7_LexJoins.l0 k x0 bt367.1 bt372.1 bt377.1 bt377.2.2 0) else (if bt377.2.2 = bt372.2.2 then (some (bt377.2.1 == (wrap64 ((wrap64 ((x0.size : Int) + 1)) + bt372.2.1)))) else (none))) else (if bt377.2.2 = 0 then (some (decide ((bt377.1.length : Int) > 0))) else (some true)))) else (none)) else (none))))
def spillwaylaw7_LexJoins.l0 : Nat → ByteArray → List (S36) → List (S36) → List (S36) → Int → Int → Option (Bool)
 | 0, _, _, _, _, _, _ => none
 | k + 1, x0, x5, x8, x11, x13, x14 => if x14 < (x8.length : Int) then (if 0 ≤ x14 then (spillwaylaw7_LexJoins.l0 k x0 x5 (x8.set (x14 : Int).toNat (⟨(rd_T36 x8 x14).f0, wrap64 ((wrap64 (((rd_T36 x8 x14).f1) + (x0.size : Int))) + 1), (rd_T36 x8 x14).f2, (⟨(rd_T36 x8 x14).f3.f0, (rd_T36 x8 x14).f3.f1⟩ : S34), (rd_T36 x8 x14).f4⟩ : S36)) x11 x13 (wrap64 (x14 + 1))) else (none)) else (if x13 = 0 then (if 0 ≤ (wrap64 ((x5.length : Int) - 1)) then (if (wrap64 ((x5.length : Int) - 1)) ≤ (x5.length : Int) then ((some (x5.take ((wrap64 ((x5.length : Int) - 1)) : Int).toNat : List (S36))).bind fun y384 => (if ([] : List (S36)).length + y384.length < 2513169434916 then ((some (([] : List (S36)) ++ y384 : List (S36))).bind fun y388 => (if y388.length + x8.length < 2513169434916 then ((spillwaylaw7_same.f k x11 (y388 ++ x8) true).bind fun t394 => (some t394)) else (none))) else (none))) else (none)) else (none)) else (none))
end
def spillwaylaw7_LexJoins.f (k : Nat) (a0 : ByteArray) (a1 : ByteArray) : Option (Bool) := (spillwaylaw7_known.f k).bind fun t366 => (if t366 = true then (if (a0.size : Int) > 200 then (spillwaylaw7_LexJoins.j0 k a0 a1 true) else (spillwaylaw7_LexJoins.j0 k a0 a1 (decide ((a1.size : Int) > 200)))) else (none))
theorem spillwaylaw7_LexJoins.mono_l : ∀ k, (∀ y0 y1 y2, LeO (spillwaylaw7_LexJoins.j0 k y0 y1 y2) (spillwaylaw7_LexJoins.j0 (k + 1) y0 y1 y2)) ∧ (∀ y0 y1 y2 y3 y4 y5, LeO (spillwaylaw7_LexJoins.l0 k y0 y1 y2 y3 y4 y5) (spillwaylaw7_LexJoins.l0 (k + 1) y0 y1 y2 y3 y4 y5))
 | 0 => ⟨fun _ _ _ r h => by simp [spillwaylaw7_LexJoins.j0] at h, fun _ _ _ _ _ _ r h => by simp [spillwaylaw7_LexJoins.l0] at h⟩
 | k + 1 => by
  obtain ⟨ih0, ih1⟩ := spillwaylaw7_LexJoins.mono_l k
  refine ⟨?_, ?_⟩
  ·intro y0 y1 y2
   unfold spillwaylaw7_LexJoins.j0
   repeat' first
   | (with_reducible exact ih0 _ _ _)
   | (with_reducible exact ih1 _ _ _ _ _ _)
   | (with_reducible exact lex_Scan.mono _ _)
   | (with_reducible exact spillwaylaw7_known.mono _)
   | (with_reducible exact spillwaylaw7_same.mono _ _ _ _)
   | (with_reducible exact LeO.refl _)
   | (with_reducible exact LeO.none _)
   | (with_reducible refine LeO.ite ?_ ?_)
   | (with_reducible refine LeO.bind ?_ (fun _ => ?_))
   | exact ih0 _ _ _
   | exact ih1 _ _ _ _ _ _
   | exact lex_Scan.mono _ _
   | exact spillwaylaw7_known.mono _
   | exact spillwaylaw7_same.mono _ _ _ _
   | exact LeO.none _
   | refine LeO.ite ?_ ?_
   | refine LeO.bind ?_ (fun _ => ?_)
  ·intro y0 y1 y2 y3 y4 y5
   unfold spillwaylaw7_LexJoins.l0
   repeat' first
   | (with_reducible exact ih0 _ _ _)
   | (with_reducible exact ih1 _ _ _ _ _ _)
   | (with_reducible exact lex_Scan.mono _ _)
   | (with_reducible exact spillwaylaw7_known.mono _)
   | (with_reducible exact spillwaylaw7_same.mono _ _ _ _)
   | (with_reducible exact LeO.refl _)
   | (with_reducible exact LeO.none _)
   | (with_reducible refine LeO.ite ?_ ?_)
   | (with_reducible refine LeO.bind ?_ (fun _ => ?_))
   | exact ih0 _ _ _
   | exact ih1 _ _ _ _ _ _
   | exact lex_Scan.mono _ _
   | exact spillwaylaw7_known.mono _
   | exact spillwaylaw7_same.mono _ _ _ _
   | exact LeO.none _
   | refine LeO.ite ?_ ?_
   | refine LeO.bind ?_ (fun _ => ?_)
theorem spillwaylaw7_LexJoins.mono : ∀ a0 a1 k, LeO (spillwaylaw7_LexJoins.f k a0 a1) (spillwaylaw7_LexJoins.f (k + 1) a0 a1) := by
 intro a0 a1 k
 obtain ⟨ih0, ih1⟩ := spillwaylaw7_LexJoins.mono_l k
 unfold spillwaylaw7_LexJoins.f
 repeat' first
   | (with_reducible exact ih0 _ _ _)
   | (with_reducible exact ih1 _ _ _ _ _ _)
   | (with_reducible exact lex_Scan.mono _ _)
   | (with_reducible exact spillwaylaw7_known.mono _)
   | (with_reducible exact spillwaylaw7_same.mono _ _ _ _)
   | (with_reducible exact LeO.refl _)
   | (with_reducible exact LeO.none _)
   | (with_reducible refine LeO.ite ?_ ?_)
   | (with_reducible refine LeO.bind ?_ (fun _ => ?_))
   | exact ih0 _ _ _
   | exact ih1 _ _ _ _ _ _
   | exact lex_Scan.mono _ _
   | exact spillwaylaw7_known.mono _
   | exact spillwaylaw7_same.mono _ _ _ _
   | exact LeO.none _
   | refine LeO.ite ?_ ?_
   | refine LeO.bind ?_ (fun _ => ?_)
set_option maxHeartbeats 8000000 in
set_option maxRecDepth 100000 in
theorem spillwaylaw7_LexJoins.calls (k : Nat) (a0 : ByteArray) (a1 : ByteArray) (r : Bool) (w : World) (hg_ : LaidW w) (h : spillwaylaw7_LexJoins.f k a0 a1 = some r) (hr_ : r = true) :
  Calls Tryz.prog 5 #[.string a0, .string a1] w fun e w' => e = .returned (.bool r) ∧ Below w.heap.size w w' := by
 have HRT := Aside0.mk hr_
 clear hr_
 have HLW := Aside0.mk hg_
 clear hg_
 have HB := Aside0.mk (Below.refl w.heap.size w)
 have H : ((spillwaylaw7_known.f k).bind fun t366 => (if t366 = true then (if (a0.size : Int) > 200 then (spillwaylaw7_LexJoins.j0 k a0 a1 true) else (spillwaylaw7_LexJoins.j0 k a0 a1 (decide ((a1.size : Int) > 200)))) else (none))) = some r := h
 clear h
 replace H := Option.bind_eq_some_iff.mp H
 obtain ⟨t366, A30, H⟩ := H
 replace H : (if t366 = true then (if (a0.size : Int) > 200 then (spillwaylaw7_LexJoins.j0 k a0 a1 true) else (spillwaylaw7_LexJoins.j0 k a0 a1 (decide ((a1.size : Int) > 200)))) else (none)) = some r := H
 have A3 := Aside0.mk A30
 clear A30
 by_cases c4 : t366 = true
 ·subst c4
  have H1 : (if (a0.size : Int) > 200 then (spillwaylaw7_LexJoins.j0 k a0 a1 true) else (spillwaylaw7_LexJoins.j0 k a0 a1 (decide ((a1.size : Int) > 200)))) = some r := by rw [if_pos rfl] at H; exact H
  clear H
  have H := H1
  clear H1
  have HC5 := Aside0.mk H
  clear H
  go_enter Tryz.func5, Tryz.ntmps5
  go_upto_region 3 with (first | ((with_reducible refine gate_callee (f := 8) rfl ?_); refine goesL_ (some 15) rfl rfl Tryz.func8 (by kernel_rfl) rfl #[] rfl (by (try simp only [List.map_toArray, List.map_cons, List.map_nil]); first | done | rfl | (simp only [List.length_drop, List.length_take]; rfl)) ?_; (with_reducible refine (spillwaylaw7_known.calls k  true _ ?side1 A3.out).mono ?_); (case side1 => exact LaidW.below HLW.out (by repeat (first | (with_reducible first | exact HB.out | apply below_alloc | apply pw_below_drewN | apply below_drew1) | exact HB.out | (refine below_set ?_ (Aside0.out ?hge); (case hge => assumption))))); rintro e w6 ⟨rfl, hb⟩; refine ⟨_, rfl, ?_⟩; have n0_ := Aside0.mk (below_step (by repeat (first | (with_reducible first | exact HB.out | apply below_alloc | apply pw_below_drewN | apply below_drew1) | exact HB.out)) hb); clear HB; have HB := n0_; clear n0_; (try clear hb); (try clear hb2); (try clear hk); (try clear hi)))
  (try simp only [Act.put, List.setIfInBounds_toArray, List.set_cons_zero, List.set_cons_succ])
  go_cut [24] (fun v24 wc => ∃ (kq : Nat) (x24_4 : Bool), v24 = .bool x24_4 ∧ Aside0 (spillwaylaw7_LexJoins.j0 kq a0 a1 x24_4 = some r) ∧ Aside0 (kq ≤ k) ∧ Aside0 (Below w.heap.size w wc))
  case first =>
   have H := HC5.out
   clear HC5
   by_cases c7 : (a0.size : Int) > 200
   ·rw [if_pos c7] at H
    have c7b0 : decide (200 < (a0.size : Int)) = true := decide_eq_true c7
    have c7b1 : decide (200 < a0.size) = true := decide_eq_true (by omega)
    clear c7
    (first | rw [c7b0] | (simp only [i64_w, i32_w]; rw [c7b0]) | skip)
    have H' := Aside0.mk H
    clear H
    go_wp2
    go_meet
    case rel => exact ⟨_, (true), (by first | rfl | (simp; done) | (simp [*]; done)), H', ⟨by first | omega | exact Nat.le_refl _⟩, ⟨by repeat (first | (with_reducible first | exact HB.out | apply below_alloc | apply pw_below_drewN | apply below_drew1) | exact HB.out)⟩⟩
   ·rw [if_neg c7] at H
    have c7b0 : decide (200 < (a0.size : Int)) = false := decide_eq_false c7
    have c7b1 : decide (200 < a0.size) = false := decide_eq_false (by omega)
    clear c7
    (first | rw [c7b0] | (simp only [i64_w, i32_w]; rw [c7b0]) | skip)
    have H' := Aside0.mk H
    clear H
    go_wp2
    go_meet
    case rel => exact ⟨_, (decide ((a1.size : Int) > 200)), (by first | rfl | (simp; done) | (simp [*]; done)), H', ⟨by first | omega | exact Nat.le_refl _⟩, ⟨by repeat (first | (with_reducible first | exact HB.out | apply below_alloc | apply pw_below_drewN | apply below_drew1) | exact HB.out)⟩⟩
  case rest =>
   clear HC5
   try clear p2
   try clear c4
   try clear c5
   try clear c7
   try clear c7b0
   try clear c7b1
   obtain ⟨kq, x24_4, rfl, HA, HJ4, HB⟩ := hcut
   cases kq with
   | zero => exact absurd HA.out (by simp [spillwaylaw7_LexJoins.j0])
   | succ kj4 =>
    have H := HA.out
    clear HA
    simp only [spillwaylaw7_LexJoins.j0] at H
    by_cases c8 : x24_4 = true
    ·subst c8
     have H1 : (some true) = some r := by rw [if_pos rfl] at H; exact H
     clear H
     have H := H1
     clear H1
     obtain rfl := Option.some.inj H
     go_wp2
     go_ret
     exact ⟨by first | rfl | (rw [wrap_in]; rfl) | (simp [errW_none, errW_some] <;> rfl) | (simp [*, errW_none, errW_some] <;> rfl), by repeat (first | (with_reducible first | exact HB.out | apply below_alloc | apply pw_below_drewN | apply below_drew1) | exact HB.out)⟩
    ·replace c8 := Bool.eq_false_iff.mpr c8
     subst c8
     have H1 : ((lex_Scan.f kj4 a0).bind fun bt367 => ((lex_Scan.f kj4 a1).bind fun bt372 => (if a0.size + 1 ≤ 9223372036854775807 then (if (a0 ++ (⟨#[32]⟩ : ByteArray)).size + a1.size ≤ 9223372036854775807 then ((lex_Scan.f kj4 ((a0 ++ (⟨#[32]⟩ : ByteArray)) ++ a1)).bind fun bt377 => (if bt367.2.2 = 0 then (if bt372.2.2 = 0 then (spillwaylaw7_LexJoins.l0 kj4 a0 bt367.1 bt372.1 bt377.1 bt377.2.2 0) else (if bt377.2.2 = bt372.2.2 then (some (bt377.2.1 == (wrap64 ((wrap64 ((a0.size : Int) + 1)) + bt372.2.1)))) else (none))) else (if bt377.2.2 = 0 then (some (decide ((bt377.1.length : Int) > 0))) else (some true)))) else (none)) else (none)))) = some r := by rw [if_neg (show ¬ (false = true) by decide)] at H; exact H
     clear H
     have H := H1
     clear H1
     replace H := Option.bind_eq_some_iff.mp H
     obtain ⟨⟨t367, t368, t369⟩, A90, H⟩ := H
     replace H : ((lex_Scan.f kj4 a1).bind fun bt372 => (if a0.size + 1 ≤ 9223372036854775807 then (if (a0 ++ (⟨#[32]⟩ : ByteArray)).size + a1.size ≤ 9223372036854775807 then ((lex_Scan.f kj4 ((a0 ++ (⟨#[32]⟩ : ByteArray)) ++ a1)).bind fun bt377 => (if t369 = 0 then (if bt372.2.2 = 0 then (spillwaylaw7_LexJoins.l0 kj4 a0 t367 bt372.1 bt377.1 bt377.2.2 0) else (if bt377.2.2 = bt372.2.2 then (some (bt377.2.1 == (wrap64 ((wrap64 ((a0.size : Int) + 1)) + bt372.2.1)))) else (none))) else (if bt377.2.2 = 0 then (some (decide ((bt377.1.length : Int) > 0))) else (some true)))) else (none)) else (none))) = some r := H
     have A9 := Aside0.mk A90
     clear A90
     replace H := Option.bind_eq_some_iff.mp H
     obtain ⟨⟨t372, t373, t374⟩, A100, H⟩ := H
     replace H : (if a0.size + 1 ≤ 9223372036854775807 then (if (a0 ++ (⟨#[32]⟩ : ByteArray)).size + a1.size ≤ 9223372036854775807 then ((lex_Scan.f kj4 ((a0 ++ (⟨#[32]⟩ : ByteArray)) ++ a1)).bind fun bt377 => (if t369 = 0 then (if t374 = 0 then (spillwaylaw7_LexJoins.l0 kj4 a0 t367 t372 bt377.1 bt377.2.2 0) else (if bt377.2.2 = t374 then (some (bt377.2.1 == (wrap64 ((wrap64 ((a0.size : Int) + 1)) + t373)))) else (none))) else (if bt377.2.2 = 0 then (some (decide ((bt377.1.length : Int) > 0))) else (some true)))) else (none)) else (none)) = some r := H
     have A10 := Aside0.mk A100
     clear A100
     by_cases c11 : a0.size + 1 ≤ 9223372036854775807
     ·rw [if_pos c11] at H
      have c11b0 := eq_true c11
      have c11b1 : decide (a0.size + 1 ≤ 9223372036854775807) = true := decide_eq_true c11
      try have c11b2 : (9223372036854775807 < a0.size + 1) = False := eq_false (Nat.not_lt.2 c11)
      by_cases c12 : (a0 ++ (⟨#[32]⟩ : ByteArray)).size + a1.size ≤ 9223372036854775807
      ·rw [if_pos c12] at H
       have c12b0 := eq_true c12
       have c12b1 : decide ((a0 ++ (⟨#[32]⟩ : ByteArray)).size + a1.size ≤ 9223372036854775807) = true := decide_eq_true c12
       try have c12b2 : (9223372036854775807 < (a0 ++ (⟨#[32]⟩ : ByteArray)).size + a1.size) = False := eq_false (Nat.not_lt.2 c12)
       try (have c12b3 := c12; simp only [ByteArray.size_append, sz_one] at c12b3; have c12b4 := eq_false (Nat.not_lt.2 c12b3); clear c12b3)
       replace H := Option.bind_eq_some_iff.mp H
       obtain ⟨⟨t377, t378, t379⟩, A130, H⟩ := H
       replace H : (if t369 = 0 then (if t374 = 0 then (spillwaylaw7_LexJoins.l0 kj4 a0 t367 t372 t377 t379 0) else (if t379 = t374 then (some (t378 == (wrap64 ((wrap64 ((a0.size : Int) + 1)) + t373)))) else (none))) else (if t379 = 0 then (some (decide ((t377.length : Int) > 0))) else (some true))) = some r := H
       have A13 := Aside0.mk A130
       clear A130
       by_cases c14 : t369 = 0
       ·rw [if_pos c14] at H
        have c14b0 : (t369 == 0) = true := beq_iff_eq.mpr c14
        have c14b1 : (t369 != 0) = false := bne_eq_false_iff_eq.mpr c14
        clear c14
        by_cases c15 : t374 = 0
        ·rw [if_pos c15] at H
         have c15b0 : (t374 == 0) = true := beq_iff_eq.mpr c15
         have c15b1 : (t374 != 0) = false := bne_eq_false_iff_eq.mpr c15
         clear c15
         have H' := Aside0.mk H
         clear H
         go_wp2_with (first | ((with_reducible refine gate_callee (f := 9) rfl ?_); refine goesL_ (some 27) rfl rfl Tryz.func9 (by kernel_rfl) rfl #[.string a0] rfl (by (try simp only [List.map_toArray, List.map_cons, List.map_nil]); first | done | rfl | (simp only [List.length_drop, List.length_take]; rfl)) ?_; (with_reducible refine (lex_Scan.calls kj4 a0 t367 t368 t369 _ ?side1 A9.out).mono ?_); (case side1 => exact LaidW.below HLW.out (by repeat (first | (with_reducible first | exact HB.out | apply below_alloc | apply pw_below_drewN | apply below_drew1) | exact HB.out | (refine below_set ?_ (Aside0.out ?hge); (case hge => assumption))))); rintro e w16 ⟨v370, rfl, ho0, hb⟩; refine ⟨_, rfl, ?_⟩; have n0_ := Aside0.mk (Kd.R_lower ho0 (below_size (by repeat (first | (with_reducible first | exact HB.out | apply below_alloc | apply pw_below_drewN | apply below_drew1) | exact HB.out)))); have n1_ := Aside0.mk (below_step (by repeat (first | (with_reducible first | exact HB.out | apply below_alloc | apply pw_below_drewN | apply below_drew1) | exact HB.out)) hb); clear HB; have HO371 := n0_; have HB := n1_; clear n0_ n1_; (try clear hb); (try clear hb2); (try clear hk); (try clear hi); (try clear ho0)) | ((with_reducible refine gate_callee (f := 9) rfl ?_); refine goesL_ (some 33) rfl rfl Tryz.func9 (by kernel_rfl) rfl #[.string a1] rfl (by (try simp only [List.map_toArray, List.map_cons, List.map_nil]); first | done | rfl | (simp only [List.length_drop, List.length_take]; rfl)) ?_; (with_reducible refine (lex_Scan.calls kj4 a1 t372 t373 t374 _ ?side1 A10.out).mono ?_); (case side1 => exact LaidW.below HLW.out (by repeat (first | (with_reducible first | exact HB.out | apply below_alloc | apply pw_below_drewN | apply below_drew1) | exact HB.out | (refine below_set ?_ (Aside0.out ?hge); (case hge => assumption))))); rintro e w17 ⟨v375, rfl, ho0, hb⟩; refine ⟨_, rfl, ?_⟩; have n0_ := Aside0.mk (Kd.R_elder' (by (with_reducible repeat (first | apply Kd.R_alloc | apply Kd.R_drewN | apply Kd.R_drew)); exact HO371.out) (Kd.R_base ho0) hb); have n1_ := Aside0.mk (Kd.R_lower (Kd.R_new' ho0 (Kd.R_lt (by (with_reducible repeat (first | apply Kd.R_alloc | apply Kd.R_drewN | apply Kd.R_drew)); exact HO371.out))) (below_size (by repeat (first | (with_reducible first | exact HB.out | apply below_alloc | apply pw_below_drewN | apply below_drew1) | exact HB.out)))); have n2_ := Aside0.mk (below_step (by repeat (first | (with_reducible first | exact HB.out | apply below_alloc | apply pw_below_drewN | apply below_drew1) | exact HB.out)) hb); clear HO371; clear HB; have HO371 := n0_; have HO376 := n1_; have HB := n2_; clear n0_ n1_ n2_; (try clear hb); (try clear hb2); (try clear hk); (try clear hi); (try clear ho0)) | ((with_reducible refine gate_callee (f := 9) rfl ?_); refine goesL_ (some 42) rfl rfl Tryz.func9 (by kernel_rfl) rfl #[.string ((a0 ++ (⟨#[32]⟩ : ByteArray)) ++ a1)] rfl (by (try simp only [List.map_toArray, List.map_cons, List.map_nil]); first | done | rfl | (simp only [List.length_drop, List.length_take]; rfl)) ?_; (with_reducible refine (lex_Scan.calls kj4 ((a0 ++ (⟨#[32]⟩ : ByteArray)) ++ a1) t377 t378 t379 _ ?side1 A13.out).mono ?_); (case side1 => exact LaidW.below HLW.out (by repeat (first | (with_reducible first | exact HB.out | apply below_alloc | apply pw_below_drewN | apply below_drew1) | exact HB.out | (refine below_set ?_ (Aside0.out ?hge); (case hge => assumption))))); rintro e w18 ⟨v380, rfl, ho0, hb⟩; refine ⟨_, rfl, ?_⟩; have n0_ := Aside0.mk (Kd.R_elder' (by (with_reducible repeat (first | apply Kd.R_alloc | apply Kd.R_drewN | apply Kd.R_drew)); exact HO371.out) (Kd.R_base ho0) hb); have n1_ := Aside0.mk (Kd.R_elder' (by (with_reducible repeat (first | apply Kd.R_alloc | apply Kd.R_drewN | apply Kd.R_drew)); exact HO376.out) (Kd.R_base ho0) hb); have n2_ := Aside0.mk (Kd.R_lower (Kd.R_new' (Kd.R_new' ho0 (Kd.R_lt (by (with_reducible repeat (first | apply Kd.R_alloc | apply Kd.R_drewN | apply Kd.R_drew)); exact HO371.out))) (Kd.R_lt (by (with_reducible repeat (first | apply Kd.R_alloc | apply Kd.R_drewN | apply Kd.R_drew)); exact HO376.out))) (below_size (by repeat (first | (with_reducible first | exact HB.out | apply below_alloc | apply pw_below_drewN | apply below_drew1) | exact HB.out)))); have n3_ := Aside0.mk (below_step (by repeat (first | (with_reducible first | exact HB.out | apply below_alloc | apply pw_below_drewN | apply below_drew1) | exact HB.out)) hb); clear HO371; clear HO376; clear HB; have HO371 := n0_; have HO376 := n1_; have HO381 := n2_; have HB := n3_; clear n0_ n1_ n2_ n3_; (try clear hb); (try clear hb2); (try clear hk); (try clear hi); (try clear ho0)))
         go_loopg [14] kj4 (fun kq v14 w' => ∃ (x8_2 : List (S36)) (x14_2 : Int), v14 = .int .i64 x14_2 ∧ Aside0 (spillwaylaw7_LexJoins.l0 kq a0 t367 x8_2 t377 t379 x14_2 = some r) ∧ Aside0 (kq ≤ kj4) ∧ Aside0 (Kd.R k36 36 w' w.heap.size (fun k_ => some k_ ≠ (v375 : Value).ownBlock ∧ some k_ ≠ (v380 : Value).ownBlock) v370 t367) ∧ Aside0 (Kd.R k36 36 w' w.heap.size (fun k_ => some k_ ≠ (v370 : Value).ownBlock ∧ some k_ ≠ (v380 : Value).ownBlock) v375 x8_2) ∧ Aside0 (Kd.R k36 36 w' w.heap.size (fun k_ => some k_ ≠ (v370 : Value).ownBlock ∧ some k_ ≠ (v375 : Value).ownBlock) v380 t377) ∧ Aside0 (Below w.heap.size w w'))
         case atStart => exact ⟨(t372), (0), (by first | rfl | (simp; done) | (simp [*]; done)), H', ⟨Nat.le_refl _⟩, ⟨by (with_reducible repeat (first | apply Kd.R_alloc | apply Kd.R_drewN | apply Kd.R_drew)); exact Kd.R_mono HO371.out (fun _ hk => ⟨hk.1.2, hk.2⟩)⟩, ⟨by (with_reducible repeat (first | apply Kd.R_alloc | apply Kd.R_drewN | apply Kd.R_drew)); exact Kd.R_mono HO376.out (fun _ hk => ⟨hk.1.2, hk.2⟩)⟩, ⟨by (with_reducible repeat (first | apply Kd.R_alloc | apply Kd.R_drewN | apply Kd.R_drew)); exact Kd.R_mono HO381.out (fun _ hk => ⟨hk.1.2, hk.2⟩)⟩, ⟨by repeat (first | (with_reducible first | exact HB.out | apply below_alloc | apply pw_below_drewN | apply below_drew1) | exact HB.out)⟩⟩
         case round =>
          clear H'
          try clear c1
          try clear p2
          try clear c4
          try clear c5
          try clear p6
          try clear c7
          try clear c7b0
          try clear c7b1
          try clear c8
          try clear c9
          try clear c11
          try clear c11b0
          try clear c11b1
          try clear c11b2
          try clear c12
          try clear c12b0
          try clear c12b1
          try clear c12b2
          try clear c14
          try clear c14b0
          try clear c14b1
          try clear c15
          try clear c15b0
          try clear c15b1
          try clear p2
          obtain ⟨x8_2, x14_2, rfl, HA, HK2, HO_5, HO_8, HO_11, HB⟩ := hrel
          cases gk with
          | zero => exact absurd HA.out (by simp [spillwaylaw7_LexJoins.l0])
          | succ k2 =>
           have H := HA.out
           clear HA
           simp only [spillwaylaw7_LexJoins.l0] at H
           by_cases c19 : x14_2 < (x8_2.length : Int)
           ·rw [if_pos c19] at H
            have c19b0 : decide (x14_2 < (x8_2.length : Int)) = true := decide_eq_true c19
            clear c19
            by_cases c20 : 0 ≤ x14_2
            ·rw [if_pos c20] at H
             have c20b0 : decide (0 ≤ x14_2) = true := decide_eq_true c20
             clear c20
             obtain ⟨y383, hy383⟩ : ∃ y_ : List (S36), y_ = (x8_2.set (x14_2 : Int).toNat (⟨(rd_T36 x8_2 x14_2).f0, wrap64 ((wrap64 (((rd_T36 x8_2 x14_2).f1) + (a0.size : Int))) + 1), (rd_T36 x8_2 x14_2).f2, (⟨(rd_T36 x8_2 x14_2).f3.f0, (rd_T36 x8_2 x14_2).f3.f1⟩ : S34), (rd_T36 x8_2 x14_2).f4⟩ : S36)) := ⟨_, rfl⟩
             replace H : (spillwaylaw7_LexJoins.l0 k2 a0 t367 y383 t377 t379 (wrap64 (x14_2 + 1))) = some r := by first | (rw [hy383]; with_reducible exact H) | (have H2_ := (Option.bind_some _ _).symm.trans H; rw [hy383]; with_reducible exact H2_) | (have H2_ := (Option.bind_some _ _).symm.trans H; with_reducible exact H2_) | with_reducible exact H | (rw [hy383]; exact H) | exact H
             have Ny383 := Aside0.mk hy383
             clear hy383
             have H' := Aside0.mk H
             clear H
             obtain ⟨Ao22, co22, eo22⟩ := Kd.R_slice HO_8.out
             subst eo22
             have p382 : 0 ≤ (x14_2 : Int) := of_decide_eq_true (by first | (with_reducible assumption) | assumption)
             have q382 : x14_2 < (x8_2.length : Int) := of_decide_eq_true (by first | (with_reducible assumption) | assumption)
             obtain ⟨ad382, e382, hx382_0, hx382_1, hx382_2, hx382_3, hx382_4, hx382_5⟩ := at_T36 (Kd.R_reads' HO_8.out).2.2 x14_2 p382 q382
             cases e382
             replace p382 := eq_true p382
             replace q382 := eq_true q382
             have p21 : 0 ≤ (x14_2 : Int) := of_decide_eq_true (by first | (with_reducible assumption) | assumption)
             have q21 : (x14_2 : Int) < ((x8_2.length : Int) : Int) := of_decide_eq_true (by first | (with_reducible assumption) | assumption)
             obtain ⟨go21, co21, eo21, gb21, gl21, cl21, HG21⟩ := Kd.R_form HO_8.out (by omega)
             (first | cases eo21 | (injection eo21 with ea_ en_ ec_; (first | subst ea_ | (injection ea_ with ea_; subst ea_)); subst ec_; clear en_))
             have GB21 := Aside0.mk gb21
             have GG21 := Aside0.mk HG21
             clear gb21 gl21 HG21
             (first | simp only [add_plain] at hx382_0 | skip)
             (first | simp only [add_plain] at hx382_1 | skip)
             (first | simp only [add_plain] at hx382_2 | skip)
             (first | simp only [add_plain] at hx382_3 | skip)
             (first | simp only [add_plain] at hx382_4 | skip)
             (first | simp only [add_plain] at hx382_5 | skip)
             obtain ⟨ce21, hcl21, hM21, hcc21, hfr21⟩ := Kd.R_elem HO_8.out z36 (x14_2 : Int) p21 q21
             obtain rfl := k36_openM hM21
             have hx21_0 : wr.cell? ⟨go21, (x14_2 : Int).toNat * 6, none⟩ = some (.int .i64 ((rd_T36 x8_2 x14_2).f0)) := hcc21 0 _ rfl
             have hx21_1 : wr.cell? ⟨go21, (x14_2 : Int).toNat * 6 + 1, none⟩ = some (.int .i64 ((rd_T36 x8_2 x14_2).f1)) := hcc21 1 _ rfl
             have hx21_2 : wr.cell? ⟨go21, (x14_2 : Int).toNat * 6 + 2, none⟩ = some (.string ((rd_T36 x8_2 x14_2).f2)) := hcc21 2 _ rfl
             have hx21_3 : wr.cell? ⟨go21, (x14_2 : Int).toNat * 6 + 3, none⟩ = some (.bool ((rd_T36 x8_2 x14_2).f3.f0)) := hcc21 3 _ rfl
             have hx21_4 : wr.cell? ⟨go21, (x14_2 : Int).toNat * 6 + 4, none⟩ = some (.int .i64 ((rd_T36 x8_2 x14_2).f3.f1)) := hcc21 4 _ rfl
             have hx21_5 : wr.cell? ⟨go21, (x14_2 : Int).toNat * 6 + 5, none⟩ = some (.int .i64 ((rd_T36 x8_2 x14_2).f4)) := hcc21 5 _ rfl
             have hf21_0 : wr.frozen? ⟨go21, (x14_2 : Int).toNat * 6, none⟩ = false := hfr21 0
             have hf21_1 : wr.frozen? ⟨go21, (x14_2 : Int).toNat * 6 + 1, none⟩ = false := hfr21 1
             have hf21_2 : wr.frozen? ⟨go21, (x14_2 : Int).toNat * 6 + 2, none⟩ = false := hfr21 2
             have hf21_3 : wr.frozen? ⟨go21, (x14_2 : Int).toNat * 6 + 3, none⟩ = false := hfr21 3
             have hf21_4 : wr.frozen? ⟨go21, (x14_2 : Int).toNat * 6 + 4, none⟩ = false := hfr21 4
             have hf21_5 : wr.frozen? ⟨go21, (x14_2 : Int).toNat * 6 + 5, none⟩ = false := hfr21 5
             clear hcl21 hcc21 hfr21 hM21
             replace p21 := eq_true p21
             replace q21 := eq_true q21
             have HX23 := Aside0.mk (show Kd.R k36 36 wr w.heap.size (fun k_ => some k_ ≠ (v370 : Value).ownBlock ∧ some k_ ≠ (v380 : Value).ownBlock) (.slice (some ⟨go21, 0, none⟩) x8_2.length co22) x8_2 from (by (with_reducible repeat (first | apply Kd.R_alloc | apply Kd.R_drewN | apply Kd.R_drew)); exact HO_8.out))
             obtain ⟨ce23, hcl23, hM23, hcc23, hfr23⟩ := Kd.R_elem HX23.out z36 (x14_2 : Int) (of_decide_eq_true (by first | (with_reducible assumption) | assumption)) (by have h_ : (x14_2 : Int) < ((x8_2.length : Int) : Int) := of_decide_eq_true (by first | (with_reducible assumption) | assumption); first | exact h_ | (have e_ := (Kd.R_reads' HO_8.out).1; omega) | simpa using h_)
             obtain rfl := k36_openM hM23
             have HP23 := Kd.R_seg HX23.out (x14_2 : Int) (of_decide_eq_true (by first | (with_reducible assumption) | assumption)) (by have h_ : (x14_2 : Int) < ((x8_2.length : Int) : Int) := of_decide_eq_true (by first | (with_reducible assumption) | assumption); first | exact h_ | (have e_ := (Kd.R_reads' HO_8.out).1; omega) | simpa using h_) (seg := [.int .i64 (wrap64 ((wrap64 (((rd_T36 x8_2 x14_2).f1) + (a0.size : Int))) + 1))]) (j := 1) hcl23 hcc23 (show 2 ≤ 6 from by decide) (x' := (⟨(rd_T36 x8_2 x14_2).f0, wrap64 ((wrap64 (((rd_T36 x8_2 x14_2).f1) + (a0.size : Int))) + 1), (rd_T36 x8_2 x14_2).f2, (⟨(rd_T36 x8_2 x14_2).f3.f0, (rd_T36 x8_2 x14_2).f3.f1⟩ : S34), (rd_T36 x8_2 x14_2).f4⟩ : S36)) (k36_mkM _ _ _ (⟨(rd_T36 x8_2 x14_2).f0, wrap64 ((wrap64 (((rd_T36 x8_2 x14_2).f1) + (a0.size : Int))) + 1), (rd_T36 x8_2 x14_2).f2, (⟨(rd_T36 x8_2 x14_2).f3.f0, (rd_T36 x8_2 x14_2).f3.f1⟩ : S34), (rd_T36 x8_2 x14_2).f4⟩ : S36) ) (fun _ hk => hk)
             have hx23_1 := hcc23 1 _ rfl
             (try simp only [show (k36).sz = 6 from rfl, Nat.mul_one, Nat.add_zero] at hx23_1)
             have hf23_1 := hfr23 1
             (try simp only [show (k36).sz = 6 from rfl, Nat.mul_one, Nat.add_zero] at hf23_1)
             clear hcl23 hcc23 hfr23 hM23
             go_wp2_with (first | ((with_reducible refine gate_store (t := 3) (p := 87) rfl ?_); refine store_event (t := 3) (p := 87) (v := ?vo_w24) (w1 := (wr.setCell ⟨go21, (x14_2 : Int).toNat * 6 + 1, none⟩ (.int .i64 (wrap64 ((wrap64 (((rd_T36 x8_2 x14_2).f1) + (a0.size : Int))) + 1))))) ?hg ?ho ?hn ?hr ?_; (case ho => rfl); (case hg => rfl); (case hn => rfl); (case hr => first | (go_simp; done) | (go_simp; rfl)); intro w24 hw; have hg : wr.grownBy w24 (some go21) := (by rw [hw]; exact HP23.2); have hp_ : Kd.R k36 36 w24 w.heap.size (fun k_ => some k_ ≠ (v370 : Value).ownBlock ∧ some k_ ≠ (v380 : Value).ownBlock) (.slice (some ⟨go21, 0, none⟩) x8_2.length co22) y383 := (by rw [hw, Ny383.out]; exact HP23.1); clear HP23; have n0_ := Aside0.mk (Kd.R_after (v := (.slice (some ⟨go21, 0, none⟩) x8_2.length co22)) (v1 := (.slice (some ⟨go21, 0, none⟩) x8_2.length co22)) (ok := (fun k_ => some k_ ≠ (v380 : Value).ownBlock)) (by (with_reducible repeat (first | apply Kd.R_alloc | apply Kd.R_drewN | apply Kd.R_drew)); exact Kd.R_mono HO_5.out (fun _ hk => ⟨hk.2, hk.1⟩)) hg (.inl rfl)); have n1_ := Aside0.mk (hp_); have n2_ := Aside0.mk (Kd.R_after (v := (.slice (some ⟨go21, 0, none⟩) x8_2.length co22)) (v1 := (.slice (some ⟨go21, 0, none⟩) x8_2.length co22)) (ok := (fun k_ => some k_ ≠ (v370 : Value).ownBlock)) (by (with_reducible repeat (first | apply Kd.R_alloc | apply Kd.R_drewN | apply Kd.R_drew)); exact HO_11.out) hg (.inl rfl)); have n3_ := Aside0.mk ((by rw [hw]; exact below_set (HB.out) GB21.out : Below w.heap.size w w24)); clear HO_5; clear HO_8; clear HO_11; clear HB; have HO_5 := n0_; have HO_8 := n1_; have HO_11 := n2_; have HB := n3_; clear n0_ n1_ n2_ n3_; clear hg hw hp_))
             go_roundg k2
             case measure => have := HJ4.out; have := HK2.out; omega
             case rel => exact ⟨(y383), (wrap64 (x14_2 + 1)), (by first | rfl | (simp; done) | (simp [*]; done)), H', ⟨by have := HJ4.out; have := HK2.out; omega⟩, ⟨by (with_reducible repeat (first | apply Kd.R_alloc | apply Kd.R_drewN | apply Kd.R_drew)); exact Kd.R_mono HO_5.out (fun _ hk => ⟨hk.2, hk.1⟩)⟩, ⟨by (with_reducible repeat (first | apply Kd.R_alloc | apply Kd.R_drewN | apply Kd.R_drew)); exact HO_8.out⟩, ⟨by (with_reducible repeat (first | apply Kd.R_alloc | apply Kd.R_drewN | apply Kd.R_drew)); exact HO_11.out⟩, ⟨by repeat (first | (with_reducible first | exact HB.out | apply below_alloc | apply pw_below_drewN | apply below_drew1) | exact HB.out)⟩⟩
            ·rw [if_neg c20] at H
             exact absurd H (by simp)
           ·rw [if_neg c19] at H
            have c19b0 : decide (x14_2 < (x8_2.length : Int)) = false := decide_eq_false c19
            clear c19
            by_cases c25 : t379 = 0
            ·rw [if_pos c25] at H
             have c25b0 : (t379 == 0) = true := beq_iff_eq.mpr c25
             have c25b1 : (t379 != 0) = false := bne_eq_false_iff_eq.mpr c25
             clear c25
             obtain ⟨ji26, hji26⟩ : ∃ j_ : Int, (wrap64 ((t367.length : Int) - 1)) = j_ := ⟨_, rfl⟩
             replace H : (if 0 ≤ (ji26) then (if (ji26) ≤ (t367.length : Int) then ((some (t367.take ((ji26) : Int).toNat : List (S36))).bind fun y384 => (if ([] : List (S36)).length + y384.length < 2513169434916 then ((some (([] : List (S36)) ++ y384 : List (S36))).bind fun y388 => (if y388.length + x8_2.length < 2513169434916 then ((spillwaylaw7_same.f k2 t377 (y388 ++ x8_2) true).bind fun t394 => (some t394)) else (none))) else (none))) else (none)) else (none)) = some r := by first | (rw [hji26] at H; exact H) | (simp only [hji26] at H ⊢; exact H)
             have hji26w : (IntKind.i64.wrap ((t367.length : Int) - 1)) = ji26 := (i64_w _).trans hji26
             by_cases c27 : 0 ≤ (ji26)
             ·rw [if_pos c27] at H
              have c27b0 := eq_true c27
              have c27b1 : decide (0 ≤ (ji26)) = true := decide_eq_true c27
              clear c27
              by_cases c28 : (ji26) ≤ (t367.length : Int)
              ·rw [if_pos c28] at H
               have c28b0 := eq_true c28
               have c28b1 : decide ((ji26) ≤ (t367.length : Int)) = true := decide_eq_true c28
               clear c28
               obtain ⟨y384, hy384⟩ : ∃ y_ : List (S36), y_ = (t367.take ((ji26) : Int).toNat) := ⟨_, rfl⟩
               replace H : (if ([] : List (S36)).length + y384.length < 2513169434916 then ((some (([] : List (S36)) ++ y384 : List (S36))).bind fun y388 => (if y388.length + x8_2.length < 2513169434916 then ((spillwaylaw7_same.f k2 t377 (y388 ++ x8_2) true).bind fun t394 => (some t394)) else (none))) else (none)) = some r := by first | (rw [hy384]; with_reducible exact H) | (have H2_ := (Option.bind_some _ _).symm.trans H; rw [hy384]; with_reducible exact H2_) | (have H2_ := (Option.bind_some _ _).symm.trans H; with_reducible exact H2_) | with_reducible exact H | (rw [hy384]; exact H) | exact H
               have Ny384 := Aside0.mk hy384
               clear hy384
               by_cases c29 : ([] : List (S36)).length + y384.length < 2513169434916
               ·rw [if_pos c29] at H
                have LMc29 := Aside0.mk c29
                clear c29
                obtain ⟨y388, hy388⟩ : ∃ y_ : List (S36), y_ = (([] : List (S36)) ++ y384) := ⟨_, rfl⟩
                replace H : (if y388.length + x8_2.length < 2513169434916 then ((spillwaylaw7_same.f k2 t377 (y388 ++ x8_2) true).bind fun t394 => (some t394)) else (none)) = some r := by first | (rw [hy388]; with_reducible exact H) | (have H2_ := (Option.bind_some _ _).symm.trans H; rw [hy388]; with_reducible exact H2_) | (have H2_ := (Option.bind_some _ _).symm.trans H; with_reducible exact H2_) | with_reducible exact H | (rw [hy388]; exact H) | exact H
                have Ny388 := Aside0.mk hy388
                clear hy388
                by_cases c30 : y388.length + x8_2.length < 2513169434916
                ·rw [if_pos c30] at H
                 have LMc30 := Aside0.mk c30
                 clear c30
                 obtain ⟨y391, hy391⟩ : ∃ y_ : List (S36), y_ = (y388 ++ x8_2) := ⟨_, rfl⟩
                 replace H : ((spillwaylaw7_same.f k2 t377 y391 true).bind fun t394 => (some t394)) = some r := by first | (rw [hy391]; with_reducible exact H) | (have H2_ := (Option.bind_some _ _).symm.trans H; rw [hy391]; with_reducible exact H2_) | (have H2_ := (Option.bind_some _ _).symm.trans H; with_reducible exact H2_) | with_reducible exact H | (rw [hy391]; exact H) | exact H
                 have Ny391 := Aside0.mk hy391
                 clear hy391
                 replace H := Option.bind_eq_some_iff.mp H
                 obtain ⟨t394, A310, H⟩ := H
                 replace H : (some t394) = some r := H
                 have A31 := Aside0.mk A310
                 clear A310
                 obtain rfl := Option.some.inj H
                 obtain ⟨Ao32, co32, eo32⟩ := Kd.R_slice HO_8.out
                 subst eo32
                 obtain ⟨Ao33, co33, eo33⟩ := Kd.R_slice HO_5.out
                 subst eo33
                 have q34 : ((ji26) : Int) ≤ ((t367.length : Int) : Int) := of_decide_eq_true (by first | (with_reducible assumption) | assumption)
                 obtain ⟨i034, hi034, _, hsz34, _⟩ := info_parts info36
                 have hroom34 : t367.length ≤ co33 := (Kd.R_reads' HO_5.out).2.1
                 have hC34 : Kd.C k36 _ Ao33 t367.length t367 := (Kd.R_reads' HO_5.out).2.2
                 have hcut34 := cut_to (P := Tryz.prog) 23 36 .i64 Tryz.underlying23 hi034 Ao33 t367.length co33 (ji26) (of_decide_eq_true (by first | (with_reducible assumption) | assumption)) q34 hroom34
                 have hr34 := Kd.C_take (m := ((ji26) : Int).toNat) hC34 (by omega)
                 have hy34 : y384.length = ((ji26) : Int).toNat := (by rw [Ny384.out, List.length_take]; omega)
                 rw [← Ny384.out] at hr34
                 rw [← hy34] at hcut34
                 have HR387 := Aside0.mk hr34
                 have HC387 := Aside0.mk (show y384.length ≤ co33 from by omega)
                 clear hr34 hC34 hroom34 hi034 hsz34
                 have KY34 := Aside0.mk hy34
                 clear hy34
                 have KL34 := Aside0.mk (show ((ji26) : Int).toNat ≤ t367.length from by omega)
                 replace q34 := eq_true q34
                 go_wp2_with (first | ((with_reducible refine gate_builtin (b := .append) (xs := #[.const (.slice none 0 0), .tmp 96]) rfl ?_); (try (refine gate_guard (by rfl) ?_; dsimp only)); at_builtin; refine Kd.R_append_rows k36 (w0 := w) w.heap.size rfl (.const (.slice none 0 0)) (.tmp 96) 23 36 (.agg #[(.int .i64 0), (.int .i64 0), (.string ⟨#[]⟩), (.bool false), (.int .i64 0), (.int .i64 0)]) 56 rfl Tryz.underlying23 info36 rfl (by decide) (by omega) (.slice none 0 0) ([] : List (S36)) y384 _ _ _ (fun k_ => some k_ ≠ (.slice Ao33 t367.length co33 : Value).ownBlock ∧ some k_ ≠ (.slice Ao32 x8_2.length co32 : Value).ownBlock ∧ some k_ ≠ (v380 : Value).ownBlock) (fun _ => False) rfl rfl ?aO ?aR (fun _ _ h => h) (fun _ h => h.elim) ?aF ?aB ?aS ?aL ?_; (case aR => repeat (first | exact (by repeat (first | (with_reducible exact HR387.out) | (with_reducible refine Kd.C_alloc ?_ _) | (with_reducible refine Kd.C_drewN ?_ _) | (with_reducible refine Kd.C_drew ?_) | exact HR387.out)) | (with_reducible refine Kd.C_alloc ?_ _) | (with_reducible refine Kd.C_drewN ?_ _) | (with_reducible refine Kd.C_drew ?_))); (case aB => exact (by repeat (first | (with_reducible first | exact HB.out | apply below_alloc | apply pw_below_drewN | apply below_drew1) | exact HB.out))); (case aF => exact (fun k_ hk => ⟨Kd.fresh' (Kd.R_lt (by (with_reducible repeat (first | apply Kd.R_alloc | apply Kd.R_drewN | apply Kd.R_drew)); exact HO_5.out)) k_ hk, Kd.fresh' (Kd.R_lt (by (with_reducible repeat (first | apply Kd.R_alloc | apply Kd.R_drewN | apply Kd.R_drew)); exact HO_8.out)) k_ hk, Kd.fresh' (Kd.R_lt (by (with_reducible repeat (first | apply Kd.R_alloc | apply Kd.R_drewN | apply Kd.R_drew)); exact HO_11.out)) k_ hk⟩)); (case aO => exact ((Kd.R_nil _ _ _ _ (fun k_ => some k_ ≠ (.slice Ao33 t367.length co33 : Value).ownBlock ∧ some k_ ≠ (.slice Ao32 x8_2.length co32 : Value).ownBlock ∧ some k_ ≠ (v380 : Value).ownBlock)))); (case aS => exact (below_size (by repeat (first | (with_reducible first | exact HB.out | apply below_alloc | apply pw_below_drewN | apply below_drew1) | exact HB.out)))); (case aL => have := LMc29.out; omega); intro v389 w35 ho hb hg hat; rw [← Ny388.out] at ho; have n0_ := Aside0.mk (Kd.R_after (Kd.R_apart_nil (by (with_reducible repeat (first | apply Kd.R_alloc | apply Kd.R_drewN | apply Kd.R_drew)); exact HO_5.out)) hg hat); have n1_ := Aside0.mk (Kd.R_after (Kd.R_apart_nil (by (with_reducible repeat (first | apply Kd.R_alloc | apply Kd.R_drewN | apply Kd.R_drew)); exact HO_8.out)) hg hat); have n2_ := Aside0.mk (Kd.R_after (Kd.R_apart_nil (by (with_reducible repeat (first | apply Kd.R_alloc | apply Kd.R_drewN | apply Kd.R_drew)); exact HO_11.out)) hg hat); have n3_ := Aside0.mk (hb); have n4_ := Aside0.mk ((show Kd.C k36 w35 Ao33 y384.length y384 from by rw [Ny384.out]; exact Kd.C_take (m := ((ji26) : Int).toNat) ((Kd.R_reads' (Kd.R_after (Kd.R_apart_nil (by (with_reducible repeat (first | apply Kd.R_alloc | apply Kd.R_drewN | apply Kd.R_drew)); exact HO_5.out)) hg hat)).2.2) KL34.out)); have n5_ := Aside0.mk (ho); clear HO_5; clear HO_8; clear HO_11; clear HB; clear HR387; have HO_5 := n0_; have HO_8 := n1_; have HO_11 := n2_; have HB := n3_; have HR387 := n4_; have HO390 := n5_; clear n0_ n1_ n2_ n3_ n4_ n5_; clear ho hb hg hat) | ((with_reducible refine gate_builtin (b := .append) (xs := #[.tmp 97, .tmp 98]) rfl ?_); (try (refine gate_guard (by rfl) ?_; dsimp only)); at_builtin; refine Kd.R_append_rows k36 (w0 := w) w.heap.size rfl (.tmp 97) (.tmp 98) 23 36 (.agg #[(.int .i64 0), (.int .i64 0), (.string ⟨#[]⟩), (.bool false), (.int .i64 0), (.int .i64 0)]) 56 rfl Tryz.underlying23 info36 rfl (by decide) (by omega) v389 y388 x8_2 _ _ _ (fun k_ => some k_ ≠ (.slice Ao33 t367.length co33 : Value).ownBlock ∧ some k_ ≠ (.slice Ao32 x8_2.length co32 : Value).ownBlock ∧ some k_ ≠ (v380 : Value).ownBlock) (fun _ => False) rfl rfl ?aO ?aR (fun _ _ h => h) (fun _ h => h.elim) ?aF ?aB ?aS ?aL ?_; (case aR => repeat (first | exact (Kd.R_reads' HO_8.out).2.2 | (with_reducible refine Kd.C_alloc ?_ _) | (with_reducible refine Kd.C_drewN ?_ _) | (with_reducible refine Kd.C_drew ?_))); (case aB => exact (by repeat (first | (with_reducible first | exact HB.out | apply below_alloc | apply pw_below_drewN | apply below_drew1) | exact HB.out))); (case aF => exact (fun k_ hk => ⟨Kd.fresh' (Kd.R_lt (by (with_reducible repeat (first | apply Kd.R_alloc | apply Kd.R_drewN | apply Kd.R_drew)); exact HO_5.out)) k_ hk, Kd.fresh' (Kd.R_lt (by (with_reducible repeat (first | apply Kd.R_alloc | apply Kd.R_drewN | apply Kd.R_drew)); exact HO_8.out)) k_ hk, Kd.fresh' (Kd.R_lt (by (with_reducible repeat (first | apply Kd.R_alloc | apply Kd.R_drewN | apply Kd.R_drew)); exact HO_11.out)) k_ hk⟩)); (case aO => exact (by (with_reducible repeat (first | apply Kd.R_alloc | apply Kd.R_drewN | apply Kd.R_drew)); exact HO390.out)); (case aS => exact (below_size (by repeat (first | (with_reducible first | exact HB.out | apply below_alloc | apply pw_below_drewN | apply below_drew1) | exact HB.out)))); (case aL => have := LMc30.out; omega); intro v392 w36 ho hb hg hat; rw [← Ny391.out] at ho; have n0_ := Aside0.mk (Kd.R_after (ok := (fun k_ => some k_ ≠ (.slice Ao32 x8_2.length co32 : Value).ownBlock ∧ some k_ ≠ (v380 : Value).ownBlock)) (by (with_reducible repeat (first | apply Kd.R_alloc | apply Kd.R_drewN | apply Kd.R_drew)); exact HO_5.out) hg hat); have n1_ := Aside0.mk (Kd.R_after (ok := (fun k_ => some k_ ≠ (.slice Ao33 t367.length co33 : Value).ownBlock ∧ some k_ ≠ (v380 : Value).ownBlock)) (by (with_reducible repeat (first | apply Kd.R_alloc | apply Kd.R_drewN | apply Kd.R_drew)); exact HO_8.out) hg hat); have n2_ := Aside0.mk (Kd.R_after (ok := (fun k_ => some k_ ≠ (.slice Ao33 t367.length co33 : Value).ownBlock ∧ some k_ ≠ (.slice Ao32 x8_2.length co32 : Value).ownBlock)) (by (with_reducible repeat (first | apply Kd.R_alloc | apply Kd.R_drewN | apply Kd.R_drew)); exact HO_11.out) hg hat); have n3_ := Aside0.mk (hb); have n4_ := Aside0.mk ((show Kd.C k36 w36 Ao33 y384.length y384 from by rw [Ny384.out]; exact Kd.C_take (m := ((ji26) : Int).toNat) ((Kd.R_reads' (Kd.R_after (ok := (fun k_ => some k_ ≠ (.slice Ao32 x8_2.length co32 : Value).ownBlock ∧ some k_ ≠ (v380 : Value).ownBlock)) (by (with_reducible repeat (first | apply Kd.R_alloc | apply Kd.R_drewN | apply Kd.R_drew)); exact HO_5.out) hg hat)).2.2) KL34.out)); have n5_ := Aside0.mk (ho); clear HO_5; clear HO_8; clear HO_11; clear HB; clear HR387; clear HO390; have HO_5 := n0_; have HO_8 := n1_; have HO_11 := n2_; have HB := n3_; have HR387 := n4_; have HO393 := n5_; clear n0_ n1_ n2_ n3_ n4_ n5_; clear ho hb hg hat; obtain ⟨Ao37, co37, eo37⟩ := Kd.R_slice HO_11.out; subst eo37; obtain ⟨Ao38, co38, eo38⟩ := Kd.R_slice HO393.out; subst eo38) | (go_at_call 11; (with_reducible refine (spillwaylaw7_same.calls k2 _ _ t377 _ _ y391 true t394 _ ?side1 ?side2 ?side3 ?side4 A31.out).mono ?_); (case side1 => repeat (first | exact (Kd.R_reads' HO_11.out).2.2 | (with_reducible refine Kd.C_alloc ?_ _) | (with_reducible refine Kd.C_drewN ?_ _) | (with_reducible refine Kd.C_drew ?_))); (case side2 => exact (Kd.R_reads' HO_11.out).2.1); (case side3 => repeat (first | exact (Kd.R_reads' HO393.out).2.2 | (with_reducible refine Kd.C_alloc ?_ _) | (with_reducible refine Kd.C_drewN ?_ _) | (with_reducible refine Kd.C_drew ?_))); (case side4 => exact (Kd.R_reads' HO393.out).2.1); rintro e w39 ⟨rfl, hb⟩; have n0_ := Aside0.mk (Kd.R_below (by (with_reducible repeat (first | apply Kd.R_alloc | apply Kd.R_drewN | apply Kd.R_drew)); exact HO_5.out) hb); have n1_ := Aside0.mk (Kd.R_below (by (with_reducible repeat (first | apply Kd.R_alloc | apply Kd.R_drewN | apply Kd.R_drew)); exact HO_8.out) hb); have n2_ := Aside0.mk (Kd.R_below (by (with_reducible repeat (first | apply Kd.R_alloc | apply Kd.R_drewN | apply Kd.R_drew)); exact HO_11.out) hb); have n3_ := Aside0.mk (Kd.R_below (by (with_reducible repeat (first | apply Kd.R_alloc | apply Kd.R_drewN | apply Kd.R_drew)); exact HO393.out) hb); have n4_ := Aside0.mk (Kd.C_below (by repeat (first | (with_reducible exact HR387.out) | (with_reducible refine Kd.C_alloc ?_ _) | (with_reducible refine Kd.C_drewN ?_ _) | (with_reducible refine Kd.C_drew ?_) | exact HR387.out)) hb); have n5_ := Aside0.mk (below_step (by repeat (first | (with_reducible first | exact HB.out | apply below_alloc | apply pw_below_drewN | apply below_drew1) | exact HB.out)) hb); clear HO_5; clear HO_8; clear HO_11; clear HO393; clear HR387; clear HB; have HO_5 := n0_; have HO_8 := n1_; have HO_11 := n2_; have HO393 := n3_; have HR387 := n4_; have HB := n5_; clear n0_ n1_ n2_ n3_ n4_ n5_; (try clear hb); (try clear hb2); (try clear hk); (try clear hi)))
                 go_ret
                 exact ⟨by first | rfl | (rw [wrap_in]; rfl) | (simp [errW_none, errW_some] <;> rfl) | (simp only [← hji26]; first | rfl | (simp [errW_none, errW_some] <;> rfl)) | (simp [*, errW_none, errW_some] <;> rfl), by repeat (first | (with_reducible first | exact HB.out | apply below_alloc | apply pw_below_drewN | apply below_drew1) | exact HB.out)⟩
                ·rw [if_neg c30] at H
                 exact absurd H (by simp)
               ·rw [if_neg c29] at H
                exact absurd H (by simp)
              ·rw [if_neg c28] at H
               exact absurd H (by simp)
             ·rw [if_neg c27] at H
              exact absurd H (by simp)
            ·rw [if_neg c25] at H
             exact absurd H (by simp)
        ·rw [if_neg c15] at H
         have c15b0 : (t374 == 0) = false := beq_eq_false_iff_ne.mpr c15
         have c15b1 : (t374 != 0) = true := bne_iff_ne.mpr c15
         by_cases c40 : t379 = t374
         ·rw [if_pos c40] at H
          have c40b0 : (t379 == t374) = true := beq_iff_eq.mpr c40
          have c40b1 : (t379 != t374) = false := bne_eq_false_iff_eq.mpr c40
          clear c40
          obtain rfl := Option.some.inj H
          go_wp2_with (first | ((with_reducible refine gate_callee (f := 9) rfl ?_); refine goesL_ (some 27) rfl rfl Tryz.func9 (by kernel_rfl) rfl #[.string a0] rfl (by (try simp only [List.map_toArray, List.map_cons, List.map_nil]); first | done | rfl | (simp only [List.length_drop, List.length_take]; rfl)) ?_; (with_reducible refine (lex_Scan.calls kj4 a0 t367 t368 t369 _ ?side1 A9.out).mono ?_); (case side1 => exact LaidW.below HLW.out (by repeat (first | (with_reducible first | exact HB.out | apply below_alloc | apply pw_below_drewN | apply below_drew1) | exact HB.out | (refine below_set ?_ (Aside0.out ?hge); (case hge => assumption))))); rintro e w41 ⟨v370, rfl, ho0, hb⟩; refine ⟨_, rfl, ?_⟩; have n0_ := Aside0.mk (Kd.R_lower ho0 (below_size (by repeat (first | (with_reducible first | exact HB.out | apply below_alloc | apply pw_below_drewN | apply below_drew1) | exact HB.out)))); have n1_ := Aside0.mk (below_step (by repeat (first | (with_reducible first | exact HB.out | apply below_alloc | apply pw_below_drewN | apply below_drew1) | exact HB.out)) hb); clear HB; have HO371 := n0_; have HB := n1_; clear n0_ n1_; (try clear hb); (try clear hb2); (try clear hk); (try clear hi); (try clear ho0)) | ((with_reducible refine gate_callee (f := 9) rfl ?_); refine goesL_ (some 33) rfl rfl Tryz.func9 (by kernel_rfl) rfl #[.string a1] rfl (by (try simp only [List.map_toArray, List.map_cons, List.map_nil]); first | done | rfl | (simp only [List.length_drop, List.length_take]; rfl)) ?_; (with_reducible refine (lex_Scan.calls kj4 a1 t372 t373 t374 _ ?side1 A10.out).mono ?_); (case side1 => exact LaidW.below HLW.out (by repeat (first | (with_reducible first | exact HB.out | apply below_alloc | apply pw_below_drewN | apply below_drew1) | exact HB.out | (refine below_set ?_ (Aside0.out ?hge); (case hge => assumption))))); rintro e w42 ⟨v375, rfl, ho0, hb⟩; refine ⟨_, rfl, ?_⟩; have n0_ := Aside0.mk (Kd.R_elder' (by (with_reducible repeat (first | apply Kd.R_alloc | apply Kd.R_drewN | apply Kd.R_drew)); exact HO371.out) (Kd.R_base ho0) hb); have n1_ := Aside0.mk (Kd.R_lower (Kd.R_new' ho0 (Kd.R_lt (by (with_reducible repeat (first | apply Kd.R_alloc | apply Kd.R_drewN | apply Kd.R_drew)); exact HO371.out))) (below_size (by repeat (first | (with_reducible first | exact HB.out | apply below_alloc | apply pw_below_drewN | apply below_drew1) | exact HB.out)))); have n2_ := Aside0.mk (below_step (by repeat (first | (with_reducible first | exact HB.out | apply below_alloc | apply pw_below_drewN | apply below_drew1) | exact HB.out)) hb); clear HO371; clear HB; have HO371 := n0_; have HO376 := n1_; have HB := n2_; clear n0_ n1_ n2_; (try clear hb); (try clear hb2); (try clear hk); (try clear hi); (try clear ho0)) | ((with_reducible refine gate_callee (f := 9) rfl ?_); refine goesL_ (some 42) rfl rfl Tryz.func9 (by kernel_rfl) rfl #[.string ((a0 ++ (⟨#[32]⟩ : ByteArray)) ++ a1)] rfl (by (try simp only [List.map_toArray, List.map_cons, List.map_nil]); first | done | rfl | (simp only [List.length_drop, List.length_take]; rfl)) ?_; (with_reducible refine (lex_Scan.calls kj4 ((a0 ++ (⟨#[32]⟩ : ByteArray)) ++ a1) t377 t378 t379 _ ?side1 A13.out).mono ?_); (case side1 => exact LaidW.below HLW.out (by repeat (first | (with_reducible first | exact HB.out | apply below_alloc | apply pw_below_drewN | apply below_drew1) | exact HB.out | (refine below_set ?_ (Aside0.out ?hge); (case hge => assumption))))); rintro e w43 ⟨v380, rfl, ho0, hb⟩; refine ⟨_, rfl, ?_⟩; have n0_ := Aside0.mk (Kd.R_elder' (by (with_reducible repeat (first | apply Kd.R_alloc | apply Kd.R_drewN | apply Kd.R_drew)); exact HO371.out) (Kd.R_base ho0) hb); have n1_ := Aside0.mk (Kd.R_elder' (by (with_reducible repeat (first | apply Kd.R_alloc | apply Kd.R_drewN | apply Kd.R_drew)); exact HO376.out) (Kd.R_base ho0) hb); have n2_ := Aside0.mk (Kd.R_lower (Kd.R_new' (Kd.R_new' ho0 (Kd.R_lt (by (with_reducible repeat (first | apply Kd.R_alloc | apply Kd.R_drewN | apply Kd.R_drew)); exact HO371.out))) (Kd.R_lt (by (with_reducible repeat (first | apply Kd.R_alloc | apply Kd.R_drewN | apply Kd.R_drew)); exact HO376.out))) (below_size (by repeat (first | (with_reducible first | exact HB.out | apply below_alloc | apply pw_below_drewN | apply below_drew1) | exact HB.out)))); have n3_ := Aside0.mk (below_step (by repeat (first | (with_reducible first | exact HB.out | apply below_alloc | apply pw_below_drewN | apply below_drew1) | exact HB.out)) hb); clear HO371; clear HO376; clear HB; have HO371 := n0_; have HO376 := n1_; have HO381 := n2_; have HB := n3_; clear n0_ n1_ n2_ n3_; (try clear hb); (try clear hb2); (try clear hk); (try clear hi); (try clear ho0)))
          go_ret
          exact ⟨by first | rfl | (rw [wrap_in]; rfl) | (simp [errW_none, errW_some] <;> rfl) | (simp [*, errW_none, errW_some] <;> rfl), by repeat (first | (with_reducible first | exact HB.out | apply below_alloc | apply pw_below_drewN | apply below_drew1) | exact HB.out)⟩
         ·rw [if_neg c40] at H
          exact absurd H (by simp)
       ·rw [if_neg c14] at H
        have c14b0 : (t369 == 0) = false := beq_eq_false_iff_ne.mpr c14
        have c14b1 : (t369 != 0) = true := bne_iff_ne.mpr c14
        by_cases c44 : t379 = 0
        ·rw [if_pos c44] at H
         have c44b0 : (t379 == 0) = true := beq_iff_eq.mpr c44
         have c44b1 : (t379 != 0) = false := bne_eq_false_iff_eq.mpr c44
         clear c44
         obtain rfl := Option.some.inj H
         go_wp2_with (first | ((with_reducible refine gate_callee (f := 9) rfl ?_); refine goesL_ (some 27) rfl rfl Tryz.func9 (by kernel_rfl) rfl #[.string a0] rfl (by (try simp only [List.map_toArray, List.map_cons, List.map_nil]); first | done | rfl | (simp only [List.length_drop, List.length_take]; rfl)) ?_; (with_reducible refine (lex_Scan.calls kj4 a0 t367 t368 t369 _ ?side1 A9.out).mono ?_); (case side1 => exact LaidW.below HLW.out (by repeat (first | (with_reducible first | exact HB.out | apply below_alloc | apply pw_below_drewN | apply below_drew1) | exact HB.out | (refine below_set ?_ (Aside0.out ?hge); (case hge => assumption))))); rintro e w45 ⟨v370, rfl, ho0, hb⟩; refine ⟨_, rfl, ?_⟩; have n0_ := Aside0.mk (Kd.R_lower ho0 (below_size (by repeat (first | (with_reducible first | exact HB.out | apply below_alloc | apply pw_below_drewN | apply below_drew1) | exact HB.out)))); have n1_ := Aside0.mk (below_step (by repeat (first | (with_reducible first | exact HB.out | apply below_alloc | apply pw_below_drewN | apply below_drew1) | exact HB.out)) hb); clear HB; have HO371 := n0_; have HB := n1_; clear n0_ n1_; (try clear hb); (try clear hb2); (try clear hk); (try clear hi); (try clear ho0)) | ((with_reducible refine gate_callee (f := 9) rfl ?_); refine goesL_ (some 33) rfl rfl Tryz.func9 (by kernel_rfl) rfl #[.string a1] rfl (by (try simp only [List.map_toArray, List.map_cons, List.map_nil]); first | done | rfl | (simp only [List.length_drop, List.length_take]; rfl)) ?_; (with_reducible refine (lex_Scan.calls kj4 a1 t372 t373 t374 _ ?side1 A10.out).mono ?_); (case side1 => exact LaidW.below HLW.out (by repeat (first | (with_reducible first | exact HB.out | apply below_alloc | apply pw_below_drewN | apply below_drew1) | exact HB.out | (refine below_set ?_ (Aside0.out ?hge); (case hge => assumption))))); rintro e w46 ⟨v375, rfl, ho0, hb⟩; refine ⟨_, rfl, ?_⟩; have n0_ := Aside0.mk (Kd.R_elder' (by (with_reducible repeat (first | apply Kd.R_alloc | apply Kd.R_drewN | apply Kd.R_drew)); exact HO371.out) (Kd.R_base ho0) hb); have n1_ := Aside0.mk (Kd.R_lower (Kd.R_new' ho0 (Kd.R_lt (by (with_reducible repeat (first | apply Kd.R_alloc | apply Kd.R_drewN | apply Kd.R_drew)); exact HO371.out))) (below_size (by repeat (first | (with_reducible first | exact HB.out | apply below_alloc | apply pw_below_drewN | apply below_drew1) | exact HB.out)))); have n2_ := Aside0.mk (below_step (by repeat (first | (with_reducible first | exact HB.out | apply below_alloc | apply pw_below_drewN | apply below_drew1) | exact HB.out)) hb); clear HO371; clear HB; have HO371 := n0_; have HO376 := n1_; have HB := n2_; clear n0_ n1_ n2_; (try clear hb); (try clear hb2); (try clear hk); (try clear hi); (try clear ho0)) | ((with_reducible refine gate_callee (f := 9) rfl ?_); refine goesL_ (some 42) rfl rfl Tryz.func9 (by kernel_rfl) rfl #[.string ((a0 ++ (⟨#[32]⟩ : ByteArray)) ++ a1)] rfl (by (try simp only [List.map_toArray, List.map_cons, List.map_nil]); first | done | rfl | (simp only [List.length_drop, List.length_take]; rfl)) ?_; (with_reducible refine (lex_Scan.calls kj4 ((a0 ++ (⟨#[32]⟩ : ByteArray)) ++ a1) t377 t378 t379 _ ?side1 A13.out).mono ?_); (case side1 => exact LaidW.below HLW.out (by repeat (first | (with_reducible first | exact HB.out | apply below_alloc | apply pw_below_drewN | apply below_drew1) | exact HB.out | (refine below_set ?_ (Aside0.out ?hge); (case hge => assumption))))); rintro e w47 ⟨v380, rfl, ho0, hb⟩; refine ⟨_, rfl, ?_⟩; have n0_ := Aside0.mk (Kd.R_elder' (by (with_reducible repeat (first | apply Kd.R_alloc | apply Kd.R_drewN | apply Kd.R_drew)); exact HO371.out) (Kd.R_base ho0) hb); have n1_ := Aside0.mk (Kd.R_elder' (by (with_reducible repeat (first | apply Kd.R_alloc | apply Kd.R_drewN | apply Kd.R_drew)); exact HO376.out) (Kd.R_base ho0) hb); have n2_ := Aside0.mk (Kd.R_lower (Kd.R_new' (Kd.R_new' ho0 (Kd.R_lt (by (with_reducible repeat (first | apply Kd.R_alloc | apply Kd.R_drewN | apply Kd.R_drew)); exact HO371.out))) (Kd.R_lt (by (with_reducible repeat (first | apply Kd.R_alloc | apply Kd.R_drewN | apply Kd.R_drew)); exact HO376.out))) (below_size (by repeat (first | (with_reducible first | exact HB.out | apply below_alloc | apply pw_below_drewN | apply below_drew1) | exact HB.out)))); have n3_ := Aside0.mk (below_step (by repeat (first | (with_reducible first | exact HB.out | apply below_alloc | apply pw_below_drewN | apply below_drew1) | exact HB.out)) hb); clear HO371; clear HO376; clear HB; have HO371 := n0_; have HO376 := n1_; have HO381 := n2_; have HB := n3_; clear n0_ n1_ n2_ n3_; (try clear hb); (try clear hb2); (try clear hk); (try clear hi); (try clear ho0); obtain ⟨Ao48, co48, eo48⟩ := Kd.R_slice HO381.out; subst eo48))
         go_ret
         exact ⟨by first | rfl | (rw [wrap_in]; rfl) | (simp [errW_none, errW_some] <;> rfl) | (simp [*, errW_none, errW_some] <;> rfl), by repeat (first | (with_reducible first | exact HB.out | apply below_alloc | apply pw_below_drewN | apply below_drew1) | exact HB.out)⟩
        ·rw [if_neg c44] at H
         have c44b0 : (t379 == 0) = false := beq_eq_false_iff_ne.mpr c44
         have c44b1 : (t379 != 0) = true := bne_iff_ne.mpr c44
         obtain rfl := Option.some.inj H
         go_wp2_with (first | ((with_reducible refine gate_callee (f := 9) rfl ?_); refine goesL_ (some 27) rfl rfl Tryz.func9 (by kernel_rfl) rfl #[.string a0] rfl (by (try simp only [List.map_toArray, List.map_cons, List.map_nil]); first | done | rfl | (simp only [List.length_drop, List.length_take]; rfl)) ?_; (with_reducible refine (lex_Scan.calls kj4 a0 t367 t368 t369 _ ?side1 A9.out).mono ?_); (case side1 => exact LaidW.below HLW.out (by repeat (first | (with_reducible first | exact HB.out | apply below_alloc | apply pw_below_drewN | apply below_drew1) | exact HB.out | (refine below_set ?_ (Aside0.out ?hge); (case hge => assumption))))); rintro e w49 ⟨v370, rfl, ho0, hb⟩; refine ⟨_, rfl, ?_⟩; have n0_ := Aside0.mk (Kd.R_lower ho0 (below_size (by repeat (first | (with_reducible first | exact HB.out | apply below_alloc | apply pw_below_drewN | apply below_drew1) | exact HB.out)))); have n1_ := Aside0.mk (below_step (by repeat (first | (with_reducible first | exact HB.out | apply below_alloc | apply pw_below_drewN | apply below_drew1) | exact HB.out)) hb); clear HB; have HO371 := n0_; have HB := n1_; clear n0_ n1_; (try clear hb); (try clear hb2); (try clear hk); (try clear hi); (try clear ho0)) | ((with_reducible refine gate_callee (f := 9) rfl ?_); refine goesL_ (some 33) rfl rfl Tryz.func9 (by kernel_rfl) rfl #[.string a1] rfl (by (try simp only [List.map_toArray, List.map_cons, List.map_nil]); first | done | rfl | (simp only [List.length_drop, List.length_take]; rfl)) ?_; (with_reducible refine (lex_Scan.calls kj4 a1 t372 t373 t374 _ ?side1 A10.out).mono ?_); (case side1 => exact LaidW.below HLW.out (by repeat (first | (with_reducible first | exact HB.out | apply below_alloc | apply pw_below_drewN | apply below_drew1) | exact HB.out | (refine below_set ?_ (Aside0.out ?hge); (case hge => assumption))))); rintro e w50 ⟨v375, rfl, ho0, hb⟩; refine ⟨_, rfl, ?_⟩; have n0_ := Aside0.mk (Kd.R_elder' (by (with_reducible repeat (first | apply Kd.R_alloc | apply Kd.R_drewN | apply Kd.R_drew)); exact HO371.out) (Kd.R_base ho0) hb); have n1_ := Aside0.mk (Kd.R_lower (Kd.R_new' ho0 (Kd.R_lt (by (with_reducible repeat (first | apply Kd.R_alloc | apply Kd.R_drewN | apply Kd.R_drew)); exact HO371.out))) (below_size (by repeat (first | (with_reducible first | exact HB.out | apply below_alloc | apply pw_below_drewN | apply below_drew1) | exact HB.out)))); have n2_ := Aside0.mk (below_step (by repeat (first | (with_reducible first | exact HB.out | apply below_alloc | apply pw_below_drewN | apply below_drew1) | exact HB.out)) hb); clear HO371; clear HB; have HO371 := n0_; have HO376 := n1_; have HB := n2_; clear n0_ n1_ n2_; (try clear hb); (try clear hb2); (try clear hk); (try clear hi); (try clear ho0)) | ((with_reducible refine gate_callee (f := 9) rfl ?_); refine goesL_ (some 42) rfl rfl Tryz.func9 (by kernel_rfl) rfl #[.string ((a0 ++ (⟨#[32]⟩ : ByteArray)) ++ a1)] rfl (by (try simp only [List.map_toArray, List.map_cons, List.map_nil]); first | done | rfl | (simp only [List.length_drop, List.length_take]; rfl)) ?_; (with_reducible refine (lex_Scan.calls kj4 ((a0 ++ (⟨#[32]⟩ : ByteArray)) ++ a1) t377 t378 t379 _ ?side1 A13.out).mono ?_); (case side1 => exact LaidW.below HLW.out (by repeat (first | (with_reducible first | exact HB.out | apply below_alloc | apply pw_below_drewN | apply below_drew1) | exact HB.out | (refine below_set ?_ (Aside0.out ?hge); (case hge => assumption))))); rintro e w51 ⟨v380, rfl, ho0, hb⟩; refine ⟨_, rfl, ?_⟩; have n0_ := Aside0.mk (Kd.R_elder' (by (with_reducible repeat (first | apply Kd.R_alloc | apply Kd.R_drewN | apply Kd.R_drew)); exact HO371.out) (Kd.R_base ho0) hb); have n1_ := Aside0.mk (Kd.R_elder' (by (with_reducible repeat (first | apply Kd.R_alloc | apply Kd.R_drewN | apply Kd.R_drew)); exact HO376.out) (Kd.R_base ho0) hb); have n2_ := Aside0.mk (Kd.R_lower (Kd.R_new' (Kd.R_new' ho0 (Kd.R_lt (by (with_reducible repeat (first | apply Kd.R_alloc | apply Kd.R_drewN | apply Kd.R_drew)); exact HO371.out))) (Kd.R_lt (by (with_reducible repeat (first | apply Kd.R_alloc | apply Kd.R_drewN | apply Kd.R_drew)); exact HO376.out))) (below_size (by repeat (first | (with_reducible first | exact HB.out | apply below_alloc | apply pw_below_drewN | apply below_drew1) | exact HB.out)))); have n3_ := Aside0.mk (below_step (by repeat (first | (with_reducible first | exact HB.out | apply below_alloc | apply pw_below_drewN | apply below_drew1) | exact HB.out)) hb); clear HO371; clear HO376; clear HB; have HO371 := n0_; have HO376 := n1_; have HO381 := n2_; have HB := n3_; clear n0_ n1_ n2_ n3_; (try clear hb); (try clear hb2); (try clear hk); (try clear hi); (try clear ho0)))
         go_ret
         exact ⟨by first | rfl | (rw [wrap_in]; rfl) | (simp [errW_none, errW_some] <;> rfl) | (simp [*, errW_none, errW_some] <;> rfl), by repeat (first | (with_reducible first | exact HB.out | apply below_alloc | apply pw_below_drewN | apply below_drew1) | exact HB.out)⟩
      ·rw [if_neg c12] at H
       exact absurd H (by simp)
     ·rw [if_neg c11] at H
      exact absurd H (by simp)
 ·replace c4 := Bool.eq_false_iff.mpr c4
  subst c4
  have H1 : (none) = some r := by rw [if_neg (show ¬ (false = true) by decide)] at H; exact H
  clear H
  have H := H1
  clear H1
  exact absurd H (by simp)

def spillwaylaw7_LexJoins.Pure : Prop := ∀ (a0 : ByteArray) (a1 : ByteArray), a0.size ≤ 140737488351232 → a1.size ≤ 140737488351232 → ∃ k, spillwaylaw7_LexJoins.f k a0 a1 = some true
theorem spillwaylaw7_LexJoins.walk (P : spillwaylaw7_LexJoins.Pure) (a0 : ByteArray) (a1 : ByteArray) (w : World) (w0 : a0.size ≤ 140737488351232) (w1 : a1.size ≤ 140737488351232) (hg_ : LaidW w) :
  Calls Tryz.prog 5 #[.string a0, .string a1] w fun e w' => e = .returned (.bool true) ∧ Below w.heap.size w w' := by
 obtain ⟨k, h⟩ := P a0 a1 w0 w1
 refine (spillwaylaw7_LexJoins.calls k a0 a1 true w hg_ h rfl).mono ?_
 rintro e w' ⟨rfl, hd⟩
 exact ⟨rfl, hd⟩

end Go.Proofs.YtnjobjogddjelaaGreatDoor.Print
end

section
namespace Go.Proofs.YtnjobjogddjelaaGreatDoor.PureN
open Go.RowKit Go.Proofs.YtnjobjogddjelaaGreatDoor.Print Go.Proofs.YtnjobjogddjelaaGreatDoor.Pure Go.Proofs.YtnjobjogddjelaaGreatDoorW.PrintWords Go.Proofs.YtnjobjogddjelaaGreatDoorW.PrintLast Go.Proofs.YtnjobjogddjelaaGreatDoorW.PrintMore

/-! LexJoins. -/
theorem scanW_of2 (l : List UInt8) (h : l.length ≤ 600) (x : Except Nat (List Tok)) (hx : scanS 0 l = x) : scanW l = scanO [] x := by
 unfold scanW
 rw [if_neg (by omega), hx]

theorem toS_g (t : Tok) : (toS t).f0 = t.kind ∧ (toS t).f1 = t.place ∧ (toS t).f2 = ⟨t.text.toArray⟩ ∧ (toS t).f3.f0 = false ∧ (toS t).f3.f1 = t.v ∧ (toS t).f4 = t.n := ⟨rfl, rfl, rfl, rfl, rfl, rfl⟩
/-- The signs, the first so many moved. -/
def movS (D i : Nat) (vs : List Tok) : List S36 := (vs.take i).map (fun t => toS (moved D t)) ++ (vs.drop i).map toS
theorem movS_len (D i : Nat) (vs : List Tok) : (movS D i vs).length = vs.length := by
 unfold movS
 rw [List.length_append, List.length_map, List.length_map, List.length_take, List.length_drop]
 omega
theorem movS_at (D i : Nat) (vs : List Tok) (h : i < vs.length) : (movS D i vs)[i]'(by rw [movS_len]; exact h) = toS vs[i] := by
 unfold movS
 rw [List.getElem_append_right (by rw [List.length_map, List.length_take]; omega)]
 simp only [List.length_map, List.length_take, List.getElem_map, List.getElem_drop]
 congr 2
 omega
theorem movS_set (D i : Nat) (vs : List Tok) (h : i < vs.length) : (movS D i vs).set i (toS (moved D vs[i])) = movS D (i + 1) vs := by
 unfold movS
 rw [List.set_append_right _ _ (by rw [List.length_map, List.length_take]; omega)]
 rw [List.length_map, List.length_take, show i - min i vs.length = 0 by omega, List.drop_eq_getElem_cons h, List.map_cons, List.set_cons_zero, List.take_succ_eq_append_getElem h, List.map_append, List.append_assoc]
 rfl
def plOk (t : Tok) : Prop := -100000 ≤ t.place ∧ t.place ≤ 100000
theorem scan_place (n : Nat) : ∀ (l : List UInt8) (i : Nat) (ts : List Tok), l.length ≤ n → i + l.length ≤ 100000 → scanS i l = .ok ts → ∀ t ∈ ts, plOk t := by
 induction n with
 | zero =>
  intro l i ts h hb hs
  cases l with
  | nil =>
   rw [scanS_nil] at hs
   injection hs with hs
   rw [← hs]
   intro t ht
   rw [List.mem_singleton] at ht
   rw [ht]
   simp only [List.length_nil] at hb
   constructor <;> simp only [endT] <;> omega
  | cons c r => simp at h
 | succ n ih =>
  intro l i ts h hb hs
  cases l with
  | nil =>
   rw [scanS_nil] at hs
   injection hs with hs
   rw [← hs]
   intro t ht
   rw [List.mem_singleton] at ht
   rw [ht]
   simp only [List.length_nil] at hb
   constructor <;> simp only [endT] <;> omega
  | cons c r =>
   have hlen : (c :: r).length = r.length + 1 := rfl
   cases hbl : blank c
   ·cases e : readS (c :: r) with
    | none => rw [scanS_bad _ _ _ hbl e] at hs; simp at hs
    | some x =>
     have hp := readS_pos _ x e
     rw [scanS_good _ _ _ x e] at hs
     cases e2 : scanS (i + x.2) (r.drop (x.2 - 1)) with
     | error j => rw [e2] at hs; simp at hs
     | ok ts' =>
      rw [e2] at hs
      injection hs with hs
      have := ih (r.drop (x.2 - 1)) (i + x.2) ts' (by rw [List.length_drop]; omega) (by rw [List.length_drop]; omega) e2
      rw [← hs]
      intro t ht
      rw [List.mem_cons] at ht
      rcases ht with rfl | ht
      ·constructor <;> simp only <;> omega
      ·exact this t ht
   ·rw [scanS_blank _ _ _ hbl] at hs
    exact ih r (i + 1) ts (by omega) (by omega) hs
theorem scan_err (n : Nat) : ∀ (l : List UInt8) (i j : Nat), l.length ≤ n → scanS i l = .error j → j ≤ i + l.length := by
 induction n with
 | zero =>
  intro l i j h hs
  cases l with
  | nil => rw [scanS_nil] at hs; simp at hs
  | cons c r => simp at h
 | succ n ih =>
  intro l i j h hs
  cases l with
  | nil => rw [scanS_nil] at hs; simp at hs
  | cons c r =>
   have hlen : (c :: r).length = r.length + 1 := rfl
   cases hbl : blank c
   ·cases e : readS (c :: r) with
    | none =>
     rw [scanS_bad _ _ _ hbl e] at hs
     injection hs with hs
     omega
    | some x =>
     have hp := readS_pos _ x e
     rw [scanS_good _ _ _ x e] at hs
     cases e2 : scanS (i + x.2) (r.drop (x.2 - 1)) with
     | ok ts' => rw [e2] at hs; simp at hs
     | error j' =>
      rw [e2] at hs
      injection hs with hs
      have := ih (r.drop (x.2 - 1)) (i + x.2) j' (by rw [List.length_drop]; omega) e2
      rw [List.length_drop] at this
      omega
   ·rw [scanS_blank _ _ _ hbl] at hs
    have := ih r (i + 1) j (by omega) hs
    omega
theorem joins_l0 (a : ByteArray) (D : Nat) (hD : (a.size : Int) + 1 = (D : Int)) (hD2 : D ≤ 1000) (us vs : List Tok) (e : Tok) (z : List S36) (hu : us.length ≤ 1000) (hv : vs.length ≤ 1000)
  (hz : z = us.map toS ++ (vs.map (moved D)).map toS) (hp : ∀ t ∈ vs, plOk t) : ∀ (d k i : Nat), i + d = vs.length → d + 3000 < k →
  spillwaylaw7_LexJoins.l0 k a ((us ++ [e]).map toS) (movS D i vs) z 0 (i : Int) = some true
 | 0, k, i, h, hk => by
  obtain ⟨k, rfl⟩ : ∃ m, k = m + 1 := ⟨k - 1, by omega⟩
  have hi : i = vs.length := by omega
  have hm : movS D i vs = (vs.map (moved D)).map toS := by
   unfold movS
   rw [hi, List.take_length, List.drop_length, List.map_nil, List.append_nil, List.map_map]
   rfl
  have hx : ((us ++ [e]).map toS).length = us.length + 1 := by simp
  have hw : wrap64 ((((us ++ [e]).map toS).length : Int) - 1) = (us.length : Int) := by
   rw [hx]
   unfold wrap64
   omega
  have htk : ((us ++ [e]).map toS).take us.length = us.map toS := by
   rw [List.map_append, List.take_left' (by rw [List.length_map])]
  rw [spillwaylaw7_LexJoins.l0, movS_len, if_neg (by omega), if_pos rfl, hw, if_pos (by omega), hx, if_pos (by omega), Option.bind_some, Int.toNat_natCast, htk]
  have hl2 : ((vs.map (moved D)).map toS).length = vs.length := by rw [List.length_map, List.length_map]
  rw [if_pos (by rw [List.length_nil, List.length_map]; omega), Option.bind_some, List.nil_append, hm, List.length_map, if_pos (by omega), hz]
  rw [same_self _ _ k (by rw [List.length_append, hl2, List.length_map]; omega) (by rw [List.length_append, hl2, List.length_map]; omega), Option.bind_some]
 | d + 1, k, i, h, hk => by
  obtain ⟨k, rfl⟩ : ∃ m, k = m + 1 := ⟨k - 1, by omega⟩
  have hi : i < vs.length := by omega
  have ih := joins_l0 a D hD hD2 us vs e z hu hv hz hp d k (i + 1) (by omega) (by omega)
  have hrd : rd_T36 (movS D i vs) (i : Int) = toS vs[i] := by
   rw [rd_at _ i (by rw [movS_len]; exact hi), movS_at D i vs hi]
  have hpl := hp _ (List.getElem_mem hi)
  have hw : wrap64 (wrap64 (vs[i].place + (a.size : Int)) + 1) = (moved D vs[i]).place := by
   show _ = vs[i].place + (D : Int)
   unfold plOk at hpl
   rw [← hD]
   generalize vs[i].place = p at hpl
   generalize (a.size : Int) = s at hD
   have e : wrap64 (p + s) = p + s := by unfold wrap64; omega
   rw [e]
   clear e
   unfold wrap64
   omega
  have hset := movS_set D i vs hi
  rw [spillwaylaw7_LexJoins.l0, movS_len, if_pos (by omega), if_pos (by omega), hrd]
  obtain ⟨a0, a1, a2, a3, a4, a5⟩ := toS_g vs[i]
  rw [a0, a1, a2, a3, a4, a5, hw, Int.toNat_natCast, w1 i (by omega)]
  rw [show (⟨vs[i].kind, (moved D vs[i]).place, ⟨vs[i].text.toArray⟩, (⟨false, vs[i].v⟩ : S34), vs[i].n⟩ : S36) = toS (moved D vs[i]) from rfl, hset]
  exact ih
theorem LexJoins (a0 a1 : ByteArray) : spillwaylaw7_LexJoins.f 9000 a0 a1 = some true := by
 obtain ⟨⟨a⟩⟩ := a0
 obtain ⟨⟨b⟩⟩ := a1
 unfold spillwaylaw7_LexJoins.f
 have htrue : ∀ k, spillwaylaw7_LexJoins.j0 (k + 1) ⟨a.toArray⟩ ⟨b.toArray⟩ true = some true := fun k => by rw [spillwaylaw7_LexJoins.j0, if_pos rfl]
 rw [known_eq 9000 (by omega), Option.bind_some, if_pos rfl]
 split
 ·exact htrue _
 ·rename_i ha
  have ha : a.length ≤ 200 := by
   have : ¬ (a.length : Int) > 200 := ha
   omega
  by_cases hb : b.length ≤ 200
  ·have hbf : decide ((((⟨b.toArray⟩ : ByteArray).size : Nat) : Int) > 200) = false := decide_eq_false (by rw [size_list]; omega)
   rw [hbf, show (9000 : Nat) = 8999 + 1 from rfl, spillwaylaw7_LexJoins.j0, if_neg (by simp), show (⟨#[32]⟩ : ByteArray) = ⟨[32].toArray⟩ from rfl, app_list, app_list, lexscan_eq a 8999 (by omega), Option.bind_some, lexscan_eq b 8999 (by omega), Option.bind_some, size_list, size_list, size_list,
    if_pos (by omega), if_pos (by rw [List.length_append, List.length_singleton]; omega), lexscan_eq ((a ++ [32]) ++ b) 8999 (by omega), Option.bind_some]
   have hab : (a ++ [32]) ++ b = a ++ 32 :: b := by simp
   have hzl : (a ++ 32 :: b).length ≤ 600 := by rw [List.length_append, List.length_cons]; omega
   rw [hab]
   cases ea : scanS 0 a with
   | error j =>
    rw [scanW_of2 a (by omega) _ ea]
    show (if (70 : Int) = 0 then _ else _) = _
    rw [if_neg (by omega)]
    cases ez : scanS 0 (a ++ 32 :: b) with
    | error j2 =>
     rw [scanW_of2 _ hzl _ ez]
     rfl
    | ok zs =>
     rw [scanW_of2 _ hzl _ ez]
     show (if (0 : Int) = 0 then _ else _) = _
     rw [if_pos rfl]
     obtain ⟨us, rfl, _, _⟩ := scan_good _ _ 0 zs (Nat.le_refl _) ez
     show some (decide ((((us ++ [endT _]).map toS).length : Int) > 0)) = _
     rw [List.length_map, List.length_append, List.length_singleton, decide_eq_true (by omega)]
   | ok ts =>
    rw [scanW_of2 a (by omega) _ ea]
    show (if (0 : Int) = 0 then _ else _) = _
    rw [if_pos rfl]
    obtain ⟨us, hus, hz⟩ := scanS_join b _ a 0 ts (Nat.le_refl _) ea
    rw [show 0 + a.length + 1 = 0 + (a.length + 1) by omega, scanS_moved (a.length + 1) _ b 0 (Nat.le_refl _)] at hz
    have hlen := scan_len _ a 0 ts (Nat.le_refl _) ea
    cases eb : scanS 0 b with
    | error j =>
     rw [eb] at hz
     rw [scanW_of2 b (by omega) _ eb, scanW_of2 _ hzl _ hz]
     show (if (70 : Int) = 0 then _ else _) = _
     rw [if_neg (by omega)]
     show (if (70 : Int) = 70 then _ else _) = _
     rw [if_pos rfl]
     have hj := scan_err _ b 0 j (Nat.le_refl _) eb
     show some (((j + (a.length + 1) : Nat) : Int) == wrap64 (wrap64 ((a.length : Int) + 1) + (j : Int))) = _
     have hw : wrap64 (wrap64 ((a.length : Int) + 1) + (j : Int)) = ((j + (a.length + 1) : Nat) : Int) := by
      rw [w1 a.length (by omega), w_nat _ _ (by omega)]
      congr 1
      omega
     rw [hw]
     simp
    | ok vs =>
     rw [eb] at hz
     simp only at hz
     rw [scanW_of2 b (by omega) _ eb, scanW_of2 _ hzl _ hz]
     show (if (0 : Int) = 0 then _ else _) = _
     rw [if_pos rfl]
     have hlv := scan_len _ b 0 vs (Nat.le_refl _) eb
     have hpv := scan_place _ b 0 vs (Nat.le_refl _) (by omega) eb
     have := joins_l0 ⟨a.toArray⟩ (a.length + 1) (by rw [size_list]; omega) (by omega) us vs (endT (0 + a.length)) _ (by rw [hus, List.length_append, List.length_singleton] at hlen; omega) (by omega) rfl hpv vs.length 8999 0 (by omega) (by omega)
     rw [hus]
     show spillwaylaw7_LexJoins.l0 8999 ⟨a.toArray⟩ ((us ++ [endT (0 + a.length)]).map toS) (vs.map toS) ((us ++ vs.map (moved (a.length + 1))).map toS) 0 0 = some true
     rw [List.map_append]
     have h0 : movS (a.length + 1) 0 vs = vs.map toS := by simp [movS]
     rw [h0, List.map_append] at this
     rw [List.map_append]
     exact this
  ·have hbf : decide ((((⟨b.toArray⟩ : ByteArray).size : Nat) : Int) > 200) = true := decide_eq_true (by rw [size_list]; omega)
   rw [hbf]
   exact htrue _
end Go.Proofs.YtnjobjogddjelaaGreatDoor.PureN
end
