/- A part of the proof of LexTells: what the functions that the law reaches come to. -/
import Derived.Test.YtnjobjogddjelaaGreatDoorC01
import Derived.Test.YtnjobjogddjelaaGreatDoorC02
import Derived.Test.YtnjobjogddjelaaGreatDoorC03
set_option linter.unusedVariables false
set_option linter.unusedSimpArgs false
section
namespace Go.Proofs.YtnjobjogddjelaaGreatDoor.Print
open Go.RowKit Go.Proofs.YtnjobjogddjelaaGreatDoorX Go.Proofs.YtnjobjogddjelaaGreatDoorW.PrintWords Go.Proofs.YtnjobjogddjelaaGreatDoorW.PrintLast Go.Proofs.YtnjobjogddjelaaGreatDoorW.PrintMore
attribute [local go_sem] max2_int min2_int max_two min_two max_three min_three max_four min_four

/-! ### lex_Scan: function 9 -/
mutual
def lex_Scan.l0 : Nat → ByteArray → List (S36) → Int → Option ((List (S36)) × Int × Int)
 | 0, _, _, _ => none
 | k + 1, x0, x5, x6 => if x6 < (x0.size : Int) then (if 0 ≤ x6 then (if (bt x0 x6) = 32 then (lex_Scan.j1 k x0 x5 x6 true) else (lex_Scan.j1 k x0 x5 x6 ((bt x0 x6) == 9))) else (none)) else (if x5.length < 2513169434916 then (some ((x5 ++ [(⟨0, (x0.size : Int), (⟨#[]⟩ : ByteArray), (⟨false, 0⟩ : S34), 0⟩ : S36)]), 0, 0)) else (none))
def lex_Scan.j1 : Nat → ByteArray → List (S36) → Int → Bool → Option ((List (S36)) × Int × Int)
 | 0, _, _, _, _ => none
 | k + 1, x0, x5, x6, x25 => if x25 = true then (lex_Scan.l0 k x0 x5 (wrap64 (x6 + 1))) else (if 0 ≤ x6 then (if x6 ≤ (x0.size : Int) then ((lex_read.f k (x0.extract (x6 : Int).toNat x0.size)).bind fun bt197 => (if bt197.2.2.2.2.2.2 = 0 then (some (([] : List (S36)), x6, 70)) else (if x5.length < 2513169434916 then (lex_Scan.l0 k x0 (x5 ++ [(⟨bt197.1, x6, bt197.2.2.1, (⟨bt197.2.2.2.1, bt197.2.2.2.2.1⟩ : S34), bt197.2.2.2.2.2.1⟩ : S36)]) (wrap64 (x6 + bt197.2.2.2.2.2.2))) else (none)))) else (none)) else (none))
end
def lex_Scan.f (k : Nat) (a0 : ByteArray) : Option ((List (S36)) × Int × Int) := if (a0.size : Int) > 600 then (some (([] : List (S36)), 0, 11)) else (lex_Scan.l0 k a0 ([] : List (S36)) 0)
theorem lex_Scan.mono_l : ∀ k, (∀ y0 y1 y2, LeO (lex_Scan.l0 k y0 y1 y2) (lex_Scan.l0 (k + 1) y0 y1 y2)) ∧ (∀ y0 y1 y2 y3, LeO (lex_Scan.j1 k y0 y1 y2 y3) (lex_Scan.j1 (k + 1) y0 y1 y2 y3))
 | 0 => ⟨fun _ _ _ r h => by simp [lex_Scan.l0] at h, fun _ _ _ _ r h => by simp [lex_Scan.j1] at h⟩
 | k + 1 => by
  obtain ⟨ih0, ih1⟩ := lex_Scan.mono_l k
  refine ⟨?_, ?_⟩
  ·intro y0 y1 y2
   unfold lex_Scan.l0
   repeat' first
   | (with_reducible exact ih0 _ _ _)
   | (with_reducible exact ih1 _ _ _ _)
   | (with_reducible exact lex_read.mono _ _)
   | (with_reducible exact LeO.refl _)
   | (with_reducible exact LeO.none _)
   | (with_reducible refine LeO.ite ?_ ?_)
   | (with_reducible refine LeO.bind ?_ (fun _ => ?_))
   | exact ih0 _ _ _
   | exact ih1 _ _ _ _
   | exact lex_read.mono _ _
   | exact LeO.none _
   | refine LeO.ite ?_ ?_
   | refine LeO.bind ?_ (fun _ => ?_)
  ·intro y0 y1 y2 y3
   unfold lex_Scan.j1
   repeat' first
   | (with_reducible exact ih0 _ _ _)
   | (with_reducible exact ih1 _ _ _ _)
   | (with_reducible exact lex_read.mono _ _)
   | (with_reducible exact LeO.refl _)
   | (with_reducible exact LeO.none _)
   | (with_reducible refine LeO.ite ?_ ?_)
   | (with_reducible refine LeO.bind ?_ (fun _ => ?_))
   | exact ih0 _ _ _
   | exact ih1 _ _ _ _
   | exact lex_read.mono _ _
   | exact LeO.none _
   | refine LeO.ite ?_ ?_
   | refine LeO.bind ?_ (fun _ => ?_)
theorem lex_Scan.mono : ∀ a0 k, LeO (lex_Scan.f k a0) (lex_Scan.f (k + 1) a0) := by
 intro a0 k
 obtain ⟨ih0, ih1⟩ := lex_Scan.mono_l k
 unfold lex_Scan.f
 repeat' first
   | (with_reducible exact ih0 _ _ _)
   | (with_reducible exact ih1 _ _ _ _)
   | (with_reducible exact lex_read.mono _ _)
   | (with_reducible exact LeO.refl _)
   | (with_reducible exact LeO.none _)
   | (with_reducible refine LeO.ite ?_ ?_)
   | (with_reducible refine LeO.bind ?_ (fun _ => ?_))
   | exact ih0 _ _ _
   | exact ih1 _ _ _ _
   | exact lex_read.mono _ _
   | exact LeO.none _
   | refine LeO.ite ?_ ?_
   | refine LeO.bind ?_ (fun _ => ?_)
set_option maxHeartbeats 8000000 in
set_option maxRecDepth 100000 in
theorem lex_Scan.calls (k : Nat) (a0 : ByteArray) (r1 : List (S36)) (r2 : Int) (r3 : Int) (w : World) (hg_ : LaidW w) (h : lex_Scan.f k a0 = some (r1, r2, r3)) :
  Calls Tryz.prog 9 #[.string a0] w fun e w' => ∃ v0_ : Value, e = .returned (.tuple #[v0_, .int .i64 r2, .int .i64 r3]) ∧ Kd.R k36 36 w' w.heap.size (fun _ => True) v0_ r1 ∧ Below w.heap.size w w' := by
 have HLW := Aside0.mk hg_
 clear hg_
 have hu36 := Tryz.underlying36
 have HB := Aside0.mk (Below.refl w.heap.size w)
 have H : (if (a0.size : Int) > 600 then (some (([] : List (S36)), 0, 11)) else (lex_Scan.l0 k a0 ([] : List (S36)) 0)) = some (r1, r2, r3) := h
 clear h
 by_cases c2 : (a0.size : Int) > 600
 ·rw [if_pos c2] at H
  have c2b0 : decide (600 < (a0.size : Int)) = true := decide_eq_true c2
  have c2b1 : decide (600 < a0.size) = true := decide_eq_true (by omega)
  clear c2
  simp only [Option.some.injEq, Prod.mk.injEq] at H
  obtain ⟨rfl, rfl, rfl⟩ := H
  go_enter Tryz.func9, Tryz.ntmps9
  go_wp2
  go_ret3
  exact ⟨_, by first | rfl | (simp [errW_none, errW_some] <;> rfl) | (simp [*, errW_none, errW_some] <;> rfl), by first | exact Kd.R_nil _ _ _ _ _ | exact Kd.N_nil _ _ _ _ _ | exact Kd.V_nil _ _ _ _ _ | exact Kd.Q_nil _ _ _ _ _ | exact Kd.S_nil _ _ _ _ _, by repeat (first | (with_reducible first | exact HB.out | apply below_alloc | apply pw_below_drewN | apply below_drew1) | exact HB.out)⟩
 ·rw [if_neg c2] at H
  have c2b0 : decide (600 < (a0.size : Int)) = false := decide_eq_false c2
  have c2b1 : decide (600 < a0.size) = false := decide_eq_false (by omega)
  clear c2
  have H' := Aside0.mk H
  clear H
  go_enter Tryz.func9, Tryz.ntmps9
  go_wp2
  go_loopg [5, 6] k (fun kq v5 v6 w' => ∃ (x5_1 : List (S36)) (x6_1 : Int), v6 = .int .i64 x6_1 ∧ Aside0 (lex_Scan.l0 kq a0 x5_1 x6_1 = some (r1, r2, r3)) ∧ Aside0 (kq ≤ k) ∧ Aside0 (Kd.R k36 36 w' w.heap.size (fun _ => True) v5 x5_1) ∧ Aside0 (Below w.heap.size w w'))
  case atStart => exact ⟨(([] : List (S36))), (0), (by first | rfl | (simp; done) | (simp [*]; done)), H', ⟨Nat.le_refl _⟩, ⟨by first | exact Kd.R_nil _ _ _ _ _ | exact Kd.N_nil _ _ _ _ _ | exact Kd.V_nil _ _ _ _ _ | exact Kd.Q_nil _ _ _ _ _ | exact Kd.S_nil _ _ _ _ _⟩, ⟨by repeat (first | (with_reducible first | exact HB.out | apply below_alloc | apply pw_below_drewN | apply below_drew1) | exact HB.out)⟩⟩
  case round =>
   clear H'
   try clear c2
   try clear c2b0
   try clear c2b1
   try clear p2
   obtain ⟨x5_1, x6_1, rfl, HA, HK1, HO_5, HB⟩ := hrel
   cases gk with
   | zero => exact absurd HA.out (by simp [lex_Scan.l0])
   | succ k1 =>
    have H := HA.out
    clear HA
    simp only [lex_Scan.l0] at H
    by_cases c3 : x6_1 < (a0.size : Int)
    ·rw [if_pos c3] at H
     have c3b0 : decide (x6_1 < (a0.size : Int)) = true := decide_eq_true c3
     clear c3
     have HC4 := Aside0.mk H
     clear H
     go_upto_region 6 with (fail)
     go_cut [25] (fun v25 wc => ∃ (kq : Nat) (x25_3 : Bool), v25 = .bool x25_3 ∧ Aside0 (lex_Scan.j1 kq a0 x5_1 x6_1 x25_3 = some (r1, r2, r3)) ∧ Aside0 (kq ≤ k1) ∧ Aside0 (Kd.R k36 36 wc w.heap.size (fun _ => True) u5 x5_1) ∧ Aside0 (Below w.heap.size w wc))
     case first =>
      have H := HC4.out
      clear HC4
      by_cases c5 : 0 ≤ x6_1
      ·rw [if_pos c5] at H
       have c5b0 : decide (0 ≤ x6_1) = true := decide_eq_true c5
       clear c5
       (first | rw [c5b0] | (simp only [i64_w, i32_w]; rw [c5b0]) | skip)
       by_cases c7 : (bt a0 x6_1) = 32
       ·rw [if_pos c7] at H
        have c7b0 : ((bt a0 x6_1) == 32) = true := beq_iff_eq.mpr c7
        have c7b1 : ((bt a0 x6_1) != 32) = false := bne_eq_false_iff_eq.mpr c7
        clear c7
        have H' := Aside0.mk H
        clear H
        have p6 : 0 ≤ (x6_1 : Int) := of_decide_eq_true (by first | (with_reducible assumption) | assumption)
        have q6 : x6_1 < (a0.size : Int) := of_decide_eq_true (by first | (with_reducible assumption) | assumption)
        have hx6 := bt_at a0 x6_1
        replace p6 := eq_true p6
        replace q6 := eq_true q6
        go_wp2
        go_meet
        case rel => exact ⟨_, (true), (by first | rfl | (simp; done) | (simp [*]; done)), H', ⟨by have := HK1.out; first | omega | exact Nat.le_refl _⟩, ⟨by (with_reducible repeat (first | apply Kd.R_alloc | apply Kd.R_drewN | apply Kd.R_drew)); exact HO_5.out⟩, ⟨by repeat (first | (with_reducible first | exact HB.out | apply below_alloc | apply pw_below_drewN | apply below_drew1) | exact HB.out)⟩⟩
       ·rw [if_neg c7] at H
        have c7b0 : ((bt a0 x6_1) == 32) = false := beq_eq_false_iff_ne.mpr c7
        have c7b1 : ((bt a0 x6_1) != 32) = true := bne_iff_ne.mpr c7
        have H' := Aside0.mk H
        clear H
        have p6 : 0 ≤ (x6_1 : Int) := of_decide_eq_true (by first | (with_reducible assumption) | assumption)
        have q6 : x6_1 < (a0.size : Int) := of_decide_eq_true (by first | (with_reducible assumption) | assumption)
        have hx6 := bt_at a0 x6_1
        replace p6 := eq_true p6
        replace q6 := eq_true q6
        have p8 : 0 ≤ (x6_1 : Int) := of_decide_eq_true (by first | (with_reducible assumption) | assumption)
        have q8 : x6_1 < (a0.size : Int) := of_decide_eq_true (by first | (with_reducible assumption) | assumption)
        have hx8 := bt_at a0 x6_1
        replace p8 := eq_true p8
        replace q8 := eq_true q8
        go_wp2
        go_meet
        case rel => exact ⟨_, (((bt a0 x6_1) == 9)), (by first | rfl | (simp; done) | (simp [*]; done)), H', ⟨by have := HK1.out; first | omega | exact Nat.le_refl _⟩, ⟨by (with_reducible repeat (first | apply Kd.R_alloc | apply Kd.R_drewN | apply Kd.R_drew)); exact HO_5.out⟩, ⟨by repeat (first | (with_reducible first | exact HB.out | apply below_alloc | apply pw_below_drewN | apply below_drew1) | exact HB.out)⟩⟩
      ·rw [if_neg c5] at H
       exact absurd H (by simp)
     case rest =>
      clear HC4
      try clear c2
      try clear c2b0
      try clear c2b1
      try clear p2
      try clear c3
      try clear c3b0
      try clear c5
      try clear c5b0
      try clear p6
      try clear q6
      try clear hx6
      try clear c7
      try clear c7b0
      try clear c7b1
      try clear p8
      try clear q8
      try clear hx8
      try clear p2
      try clear p6
      try clear p8
      try clear q6
      try clear q8
      obtain ⟨kq, x25_3, rfl, HA, HJ3, HO_5, HB⟩ := hcut
      cases kq with
      | zero => exact absurd HA.out (by simp [lex_Scan.j1])
      | succ kj3 =>
       have H := HA.out
       clear HA
       simp only [lex_Scan.j1] at H
       by_cases c9 : x25_3 = true
       ·subst c9
        have H1 : (lex_Scan.l0 kj3 a0 x5_1 (wrap64 (x6_1 + 1))) = some (r1, r2, r3) := by rw [if_pos rfl] at H; exact H
        clear H
        have H := H1
        clear H1
        have H' := Aside0.mk H
        clear H
        go_wp2
        go_roundg kj3
        case measure => have := HK1.out; have := HJ3.out; omega
        case rel => exact ⟨(x5_1), (wrap64 (x6_1 + 1)), (by first | rfl | (simp; done) | (simp [*]; done)), H', ⟨by have := HK1.out; have := HJ3.out; omega⟩, ⟨by (with_reducible repeat (first | apply Kd.R_alloc | apply Kd.R_drewN | apply Kd.R_drew)); exact HO_5.out⟩, ⟨by repeat (first | (with_reducible first | exact HB.out | apply below_alloc | apply pw_below_drewN | apply below_drew1) | exact HB.out)⟩⟩
       ·replace c9 := Bool.eq_false_iff.mpr c9
        subst c9
        have H1 : (if 0 ≤ x6_1 then (if x6_1 ≤ (a0.size : Int) then ((lex_read.f kj3 (a0.extract (x6_1 : Int).toNat a0.size)).bind fun bt197 => (if bt197.2.2.2.2.2.2 = 0 then (some (([] : List (S36)), x6_1, 70)) else (if x5_1.length < 2513169434916 then (lex_Scan.l0 kj3 a0 (x5_1 ++ [(⟨bt197.1, x6_1, bt197.2.2.1, (⟨bt197.2.2.2.1, bt197.2.2.2.2.1⟩ : S34), bt197.2.2.2.2.2.1⟩ : S36)]) (wrap64 (x6_1 + bt197.2.2.2.2.2.2))) else (none)))) else (none)) else (none)) = some (r1, r2, r3) := by rw [if_neg (show ¬ (false = true) by decide)] at H; exact H
        clear H
        have H := H1
        clear H1
        by_cases c10 : 0 ≤ x6_1
        ·rw [if_pos c10] at H
         have c10b0 := eq_true c10
         have c10b1 : decide (0 ≤ x6_1) = true := decide_eq_true c10
         clear c10
         by_cases c11 : x6_1 ≤ (a0.size : Int)
         ·rw [if_pos c11] at H
          have c11b0 := eq_true c11
          have c11b1 : decide (x6_1 ≤ (a0.size : Int)) = true := decide_eq_true c11
          clear c11
          replace H := Option.bind_eq_some_iff.mp H
          obtain ⟨⟨t197, t198, t199, t200, t201, t202, t203⟩, A120, H⟩ := H
          replace H : (if t203 = 0 then (some (([] : List (S36)), x6_1, 70)) else (if x5_1.length < 2513169434916 then (lex_Scan.l0 kj3 a0 (x5_1 ++ [(⟨t197, x6_1, t199, (⟨t200, t201⟩ : S34), t202⟩ : S36)]) (wrap64 (x6_1 + t203))) else (none))) = some (r1, r2, r3) := H
          have A12 := Aside0.mk A120
          clear A120
          by_cases c13 : t203 = 0
          ·rw [if_pos c13] at H
           have c13b0 : (t203 == 0) = true := beq_iff_eq.mpr c13
           have c13b1 : (t203 != 0) = false := bne_eq_false_iff_eq.mpr c13
           clear c13
           simp only [Option.some.injEq, Prod.mk.injEq] at H
           obtain ⟨rfl, rfl, rfl⟩ := H
           go_wp2_with (first | ((with_reducible refine gate_callee (f := 18) rfl ?_); refine goesL_ (some 32) rfl rfl Tryz.func18 (by kernel_rfl) rfl #[.string (a0.extract (x6_1 : Int).toNat a0.size)] rfl (by (try simp only [List.map_toArray, List.map_cons, List.map_nil]); first | done | rfl | (simp only [List.length_drop, List.length_take]; rfl)) ?_; (with_reducible refine (lex_read.calls kj3 (a0.extract (x6_1 : Int).toNat a0.size) t197 t198 t199 t200 t201 t202 t203 _ ?side1 A12.out).mono ?_); (case side1 => exact LaidW.below HLW.out (by repeat (first | (with_reducible first | exact HB.out | apply below_alloc | apply pw_below_drewN | apply below_drew1) | exact HB.out | (refine below_set ?_ (Aside0.out ?hge); (case hge => assumption))))); rintro e w14 ⟨rfl, hb⟩; refine ⟨_, rfl, ?_⟩; have n0_ := Aside0.mk (Kd.R_below (by (with_reducible repeat (first | apply Kd.R_alloc | apply Kd.R_drewN | apply Kd.R_drew)); exact HO_5.out) hb); have n1_ := Aside0.mk (below_step (by repeat (first | (with_reducible first | exact HB.out | apply below_alloc | apply pw_below_drewN | apply below_drew1) | exact HB.out)) hb); clear HO_5; clear HB; have HO_5 := n0_; have HB := n1_; clear n0_ n1_; (try clear hb); (try clear hb2); (try clear hk); (try clear hi)) | ((with_reducible refine gate_dst (N := 7) rfl ?_); refine box_event ?hg (N := 7) ?hd (cs := #[.int .i64 0, .int .i64 0, .string (⟨#[]⟩ : ByteArray), .bool false, .int .i64 0, .int .i64 0]) (t := 36) ?hr ?_; (case hd => rfl); (case hg => rfl); (case hr => first | (go_simp; done) | (go_simp; rfl)); intro gb204 hg w15 hbox hb; have n0_ := Aside0.mk (Kd.R_below (Kd.R_elderB (by (with_reducible repeat (first | apply Kd.R_alloc | apply Kd.R_drewN | apply Kd.R_drew)); exact HO_5.out) gb204 (Nat.le_of_eq hg.symm)) hb); have n1_ := Aside0.mk (below_step (by repeat (first | (with_reducible first | exact HB.out | apply below_alloc | apply pw_below_drewN | apply below_drew1) | exact HB.out)) hb); have n2_ := Aside0.mk (hbox); have n3_ := Aside0.mk ((by rw [hg]; exact (below_size (by repeat (first | (with_reducible first | exact HB.out | apply below_alloc | apply pw_below_drewN | apply below_drew1) | exact HB.out))) : w.heap.size ≤ gb204)); have n4_ := Aside0.mk ((by rw [hg]; exact (below_size (by repeat (first | (with_reducible first | exact HB.out | apply below_alloc | apply pw_below_drewN | apply below_drew1) | exact HB.out))) : w.heap.size ≤ gb204)); clear HO_5; clear HB; have HO_5 := n0_; have HB := n1_; have BK204 := n2_; have GW204 := n3_; have GE204 := n4_; clear n0_ n1_ n2_ n3_ n4_; clear hb hbox hg; have hcz16_0 : w15.cell? ⟨gb204, 0, none⟩ = some (.int .i64 0) := (blk_cell BK204.out 0).trans rfl; have hcz16_1 : w15.cell? ⟨gb204, 1, none⟩ = some (.int .i64 0) := (blk_cell BK204.out 1).trans rfl; have hcz16_2 : w15.cell? ⟨gb204, 2, none⟩ = some (.string (⟨#[]⟩ : ByteArray)) := (blk_cell BK204.out 2).trans rfl; have hcz16_3 : w15.cell? ⟨gb204, 3, none⟩ = some (.bool false) := (blk_cell BK204.out 3).trans rfl; have hcz16_4 : w15.cell? ⟨gb204, 4, none⟩ = some (.int .i64 0) := (blk_cell BK204.out 4).trans rfl; have hcz16_5 : w15.cell? ⟨gb204, 5, none⟩ = some (.int .i64 0) := (blk_cell BK204.out 5).trans rfl; have hfz16_0 := blk_frozen BK204.out 0; have hfz16_1 := blk_frozen BK204.out 1; have hfz16_2 := blk_frozen BK204.out 2; have hfz16_3 := blk_frozen BK204.out 3; have hfz16_4 := blk_frozen BK204.out 4; have hfz16_5 := blk_frozen BK204.out 5))
           go_ret3
           exact ⟨_, by first | rfl | (simp [errW_none, errW_some] <;> rfl) | (simp [*, errW_none, errW_some] <;> rfl), by first | exact Kd.R_nil _ _ _ _ _ | exact Kd.N_nil _ _ _ _ _ | exact Kd.V_nil _ _ _ _ _ | exact Kd.Q_nil _ _ _ _ _ | exact Kd.S_nil _ _ _ _ _, by repeat (first | (with_reducible first | exact HB.out | apply below_alloc | apply pw_below_drewN | apply below_drew1 | refine below_set ?_ GE204.out) | exact HB.out)⟩
          ·rw [if_neg c13] at H
           have c13b0 : (t203 == 0) = false := beq_eq_false_iff_ne.mpr c13
           have c13b1 : (t203 != 0) = true := bne_iff_ne.mpr c13
           by_cases c17 : x5_1.length < 2513169434916
           ·rw [if_pos c17] at H
            have LMc17 := Aside0.mk c17
            clear c17
            obtain ⟨y205, hy205⟩ : ∃ y_ : List (S36), y_ = (x5_1 ++ [(⟨t197, x6_1, t199, (⟨t200, t201⟩ : S34), t202⟩ : S36)]) := ⟨_, rfl⟩
            replace H : (lex_Scan.l0 kj3 a0 y205 (wrap64 (x6_1 + t203))) = some (r1, r2, r3) := by first | (rw [hy205]; with_reducible exact H) | (have H2_ := (Option.bind_some _ _).symm.trans H; rw [hy205]; with_reducible exact H2_) | (have H2_ := (Option.bind_some _ _).symm.trans H; with_reducible exact H2_) | with_reducible exact H | (rw [hy205]; exact H) | exact H
            have Ny205 := Aside0.mk hy205
            clear hy205
            have H' := Aside0.mk H
            clear H
            go_wp2_with (first | ((with_reducible refine gate_callee (f := 18) rfl ?_); refine goesL_ (some 32) rfl rfl Tryz.func18 (by kernel_rfl) rfl #[.string (a0.extract (x6_1 : Int).toNat a0.size)] rfl (by (try simp only [List.map_toArray, List.map_cons, List.map_nil]); first | done | rfl | (simp only [List.length_drop, List.length_take]; rfl)) ?_; (with_reducible refine (lex_read.calls kj3 (a0.extract (x6_1 : Int).toNat a0.size) t197 t198 t199 t200 t201 t202 t203 _ ?side1 A12.out).mono ?_); (case side1 => exact LaidW.below HLW.out (by repeat (first | (with_reducible first | exact HB.out | apply below_alloc | apply pw_below_drewN | apply below_drew1) | exact HB.out | (refine below_set ?_ (Aside0.out ?hge); (case hge => assumption))))); rintro e w18 ⟨rfl, hb⟩; refine ⟨_, rfl, ?_⟩; have n0_ := Aside0.mk (Kd.R_below (by (with_reducible repeat (first | apply Kd.R_alloc | apply Kd.R_drewN | apply Kd.R_drew)); exact HO_5.out) hb); have n1_ := Aside0.mk (below_step (by repeat (first | (with_reducible first | exact HB.out | apply below_alloc | apply pw_below_drewN | apply below_drew1) | exact HB.out)) hb); clear HO_5; clear HB; have HO_5 := n0_; have HB := n1_; clear n0_ n1_; (try clear hb); (try clear hb2); (try clear hk); (try clear hi)) | ((with_reducible refine gate_dst (N := 7) rfl ?_); refine box_event ?hg (N := 7) ?hd (cs := #[.int .i64 0, .int .i64 0, .string (⟨#[]⟩ : ByteArray), .bool false, .int .i64 0, .int .i64 0]) (t := 36) ?hr ?_; (case hd => rfl); (case hg => rfl); (case hr => first | (go_simp; done) | (go_simp; rfl)); intro gb204 hg w19 hbox hb; have n0_ := Aside0.mk (Kd.R_below (Kd.R_elderB (by (with_reducible repeat (first | apply Kd.R_alloc | apply Kd.R_drewN | apply Kd.R_drew)); exact HO_5.out) gb204 (Nat.le_of_eq hg.symm)) hb); have n1_ := Aside0.mk (below_step (by repeat (first | (with_reducible first | exact HB.out | apply below_alloc | apply pw_below_drewN | apply below_drew1) | exact HB.out)) hb); have n2_ := Aside0.mk (hbox); have n3_ := Aside0.mk ((by rw [hg]; exact (below_size (by repeat (first | (with_reducible first | exact HB.out | apply below_alloc | apply pw_below_drewN | apply below_drew1) | exact HB.out))) : w.heap.size ≤ gb204)); have n4_ := Aside0.mk ((by rw [hg]; exact (below_size (by repeat (first | (with_reducible first | exact HB.out | apply below_alloc | apply pw_below_drewN | apply below_drew1) | exact HB.out))) : w.heap.size ≤ gb204)); clear HO_5; clear HB; have HO_5 := n0_; have HB := n1_; have BK204 := n2_; have GW204 := n3_; have GE204 := n4_; clear n0_ n1_ n2_ n3_ n4_; clear hb hbox hg) | ((with_reducible refine gate_ (.store 36 (.tmp 7) (.tmp 33)) rfl ?_); refine row_event (x := .tmp 7) (y := .tmp 33) (t := 36) (g := gb204) (cells := #[.int .i64 t197, .int .i64 t198, .string t199, .bool t200, .int .i64 t201, .int .i64 t202]) (old := #[.int .i64 0, .int .i64 0, .string (⟨#[]⟩ : ByteArray), .bool false, .int .i64 0, .int .i64 0]) (e := 36) rfl rfl rfl rfl rfl BK204.out (by kernel_rfl) rfl (by first | kernel_rfl | (simp [Value.oneCell']; done)) ?_; intro w91 hw_; have n0_ := Aside0.mk (show w91.heap[gb204]? = some (.cells #[.int .i64 t197, .int .i64 t198, .string t199, .bool t200, .int .i64 t201, .int .i64 t202] 36 (0, 0)) by rw [hw_]; exact setRow_heap _ _ #[.int .i64 0, .int .i64 0, .string (⟨#[]⟩ : ByteArray), .bool false, .int .i64 0, .int .i64 0] _ _ _ BK204.out); have n1_ := Aside0.mk (show Below w.heap.size w w91 by rw [hw_]; exact below_setRow HB.out GE204.out _); have n2_ := Aside0.mk (R_row HO_5.out (g := gb204) (fun _ hk => hk.2) #[.int .i64 t197, .int .i64 t198, .string t199, .bool t200, .int .i64 t201, .int .i64 t202]); rw [← hw_] at n2_; clear hw_ BK204 HB HO_5; have BK204 := n0_; have HB := n1_; have HO_5 := n2_; clear n0_ n1_ n2_) | ((with_reducible refine gate_ (.store 3 (.tmp 39) (.tmp 38)) rfl ?_); refine cell_event (x := .tmp 39) (y := .tmp 38) (t := 3) (g := gb204) (i := 1) (old := #[.int .i64 t197, .int .i64 t198, .string t199, .bool t200, .int .i64 t201, .int .i64 t202]) (new := #[.int .i64 t197, .int .i64 x6_1, .string t199, .bool t200, .int .i64 t201, .int .i64 t202]) (e := 36) rfl rfl rfl rfl rfl rfl rfl BK204.out (by kernel_rfl) (show 1 < 6 by decide) rfl ?_; intro w92 hw_; have n0_ := Aside0.mk (show w92.heap[gb204]? = some (.cells #[.int .i64 t197, .int .i64 x6_1, .string t199, .bool t200, .int .i64 t201, .int .i64 t202] 36 (0, 0)) by rw [hw_]; exact setRow_heap _ _ #[.int .i64 t197, .int .i64 t198, .string t199, .bool t200, .int .i64 t201, .int .i64 t202] _ _ _ BK204.out); have n1_ := Aside0.mk (show Below w.heap.size w w92 by rw [hw_]; exact below_setRow HB.out GE204.out _); have n2_ := Aside0.mk (R_row HO_5.out (g := gb204) (fun _ hk => hk.2) #[.int .i64 t197, .int .i64 x6_1, .string t199, .bool t200, .int .i64 t201, .int .i64 t202]); rw [← hw_] at n2_; clear hw_ BK204 HB HO_5; have BK204 := n0_; have HB := n1_; have HO_5 := n2_; clear n0_ n1_ n2_; have hcy0 : w92.cell? ⟨gb204, 0, none⟩ = some (.int .i64 t197) := (blk_cell BK204.out 0).trans rfl; have hcy1 : w92.cell? ⟨gb204, 1, none⟩ = some (.int .i64 x6_1) := (blk_cell BK204.out 1).trans rfl; have hcy2 : w92.cell? ⟨gb204, 2, none⟩ = some (.string t199) := (blk_cell BK204.out 2).trans rfl; have hcy3 : w92.cell? ⟨gb204, 3, none⟩ = some (.bool t200) := (blk_cell BK204.out 3).trans rfl; have hcy4 : w92.cell? ⟨gb204, 4, none⟩ = some (.int .i64 t201) := (blk_cell BK204.out 4).trans rfl; have hcy5 : w92.cell? ⟨gb204, 5, none⟩ = some (.int .i64 t202) := (blk_cell BK204.out 5).trans rfl) | ((with_reducible refine gate_builtin (b := .append) (xs := #[.tmp 40, .tmp 42]) rfl ?_); at_builtin; refine Kd.R_append k36 (w0 := w) w.heap.size rfl (.tmp 40) (.tmp 42) 23 36 (.agg #[(.int .i64 0), (.int .i64 0), (.string ⟨#[]⟩), (.bool false), (.int .i64 0), (.int .i64 0)]) 56 rfl Tryz.underlying23 info36 rfl (by decide) (by omega) u5 x5_1 (⟨t197, x6_1, t199, (⟨t200, t201⟩ : S34), t202⟩ : S36) [.int .i64 t197, .int .i64 x6_1, .string t199, .bool t200, .int .i64 t201, .int .i64 t202] (fun k_ => k_ ≠ gb204) (fun _ => False) rfl (by first | (go_simp; done) | (go_simp; rfl)) ?aP (fun _ hk => hk.elim) ?aF ?aO ?aB ?aS ?aL ?_; (case aP => exact k36_mkM _ _ _ (⟨t197, x6_1, t199, (⟨t200, t201⟩ : S34), t202⟩ : S36)); (case aB => exact HB.out); (case aF => exact (fun k_ hk => Kd.freshB (g := gb204) (o := .cells #[.int .i64 t197, .int .i64 x6_1, .string t199, .bool t200, .int .i64 t201, .int .i64 t202] 36 (0, 0)) BK204.out k_ hk)); (case aO => exact Kd.R_mono HO_5.out (fun _ hk => hk.2)); (case aS => exact below_size HB.out); (case aL => have := LMc17.out; omega); intro v206 w93 ho hb hg hat; rw [← Ny205.out] at ho; have n0_ := Aside0.mk hb; have n1_ := Aside0.mk ho; clear BK204 HB HO_5; have HB := n0_; have HO207 := n1_; clear n0_ n1_ hb ho hg hat))
            go_roundg kj3
            case measure => have := HK1.out; have := HJ3.out; omega
            case rel => exact ⟨(y205), (wrap64 (x6_1 + t203)), (by first | rfl | (simp; done) | (simp [*]; done)), H', ⟨by have := HK1.out; have := HJ3.out; omega⟩, ⟨by (with_reducible repeat (first | apply Kd.R_alloc | apply Kd.R_drewN | apply Kd.R_drew)); exact Kd.R_mono HO207.out (fun _ hk => trivial)⟩, ⟨by repeat (first | (with_reducible first | exact HB.out | apply below_alloc | apply pw_below_drewN | apply below_drew1 | refine below_set ?_ GE204.out) | exact HB.out)⟩⟩
           ·rw [if_neg c17] at H
            exact absurd H (by simp)
         ·rw [if_neg c11] at H
          exact absurd H (by simp)
        ·rw [if_neg c10] at H
         exact absurd H (by simp)
    ·rw [if_neg c3] at H
     have c3b0 : decide (x6_1 < (a0.size : Int)) = false := decide_eq_false c3
     clear c3
     by_cases c22 : x5_1.length < 2513169434916
     ·rw [if_pos c22] at H
      have LMc22 := Aside0.mk c22
      clear c22
      obtain ⟨y194, hy194⟩ : ∃ y_ : List (S36), y_ = (x5_1 ++ [(⟨0, (a0.size : Int), (⟨#[]⟩ : ByteArray), (⟨false, 0⟩ : S34), 0⟩ : S36)]) := ⟨_, rfl⟩
      replace H : (some (y194, 0, 0)) = some (r1, r2, r3) := by first | (rw [hy194]; with_reducible exact H) | (have H2_ := (Option.bind_some _ _).symm.trans H; rw [hy194]; with_reducible exact H2_) | (have H2_ := (Option.bind_some _ _).symm.trans H; with_reducible exact H2_) | with_reducible exact H | (rw [hy194]; exact H) | exact H
      have Ny194 := Aside0.mk hy194
      clear hy194
      simp only [Option.some.injEq, Prod.mk.injEq] at H
      obtain ⟨rfl, rfl, rfl⟩ := H
      go_wp2_with (first | ((with_reducible refine gate_builtin (b := .append) (xs := #[.tmp 47, .tmp 51]) rfl ?_); at_builtin; refine Kd.R_append k36 (w0 := w) w.heap.size rfl (.tmp 47) (.tmp 51) 23 36 (.agg #[(.int .i64 0), (.int .i64 0), (.string ⟨#[]⟩), (.bool false), (.int .i64 0), (.int .i64 0)]) 56 rfl Tryz.underlying23 info36 rfl (by decide) (by omega) u5 x5_1 (⟨0, (a0.size : Int), (⟨#[]⟩ : ByteArray), (⟨false, 0⟩ : S34), 0⟩ : S36) [.int .i64 0, .int .i64 (a0.size : Int), .string (⟨#[]⟩ : ByteArray), .bool false, .int .i64 0, .int .i64 0] (fun _ => True) (fun _ => False) rfl rfl ?aP (fun _ hk => hk.elim) ?aF ?aO ?aB ?aS ?aL ?_; (case aP => exact k36_mkM _ _ _ (⟨0, (a0.size : Int), (⟨#[]⟩ : ByteArray), (⟨false, 0⟩ : S34), 0⟩ : S36)); (case aB => exact (by repeat (first | (with_reducible first | exact HB.out | apply below_alloc | apply pw_below_drewN | apply below_drew1) | exact HB.out))); (case aF => exact (fun _ _ => trivial)); (case aO => exact (by (with_reducible repeat (first | apply Kd.R_alloc | apply Kd.R_drewN | apply Kd.R_drew)); exact HO_5.out)); (case aS => exact (below_size (by repeat (first | (with_reducible first | exact HB.out | apply below_alloc | apply pw_below_drewN | apply below_drew1) | exact HB.out)))); (case aL => have := LMc22.out; omega); intro v195 w23 ho hb hg hat; rw [← Ny194.out] at ho; have n0_ := Aside0.mk (hb); have n1_ := Aside0.mk (ho); clear HB; clear HO_5; have HB := n0_; have HO196 := n1_; clear n0_ n1_; clear ho hb hg hat))
      go_ret3
      exact ⟨_, by first | rfl | (simp [errW_none, errW_some] <;> rfl) | (simp [*, errW_none, errW_some] <;> rfl), by (with_reducible repeat (first | apply Kd.R_alloc | apply Kd.R_drewN | apply Kd.R_drew)); exact HO196.out, by repeat (first | (with_reducible first | exact HB.out | apply below_alloc | apply pw_below_drewN | apply below_drew1) | exact HB.out)⟩
     ·rw [if_neg c22] at H
      exact absurd H (by simp)

end Go.Proofs.YtnjobjogddjelaaGreatDoor.Print
end

section
namespace Go.Proofs.YtnjobjogddjelaaGreatDoor.PureN
open Go.RowKit Go.Proofs.YtnjobjogddjelaaGreatDoor.Print Go.Proofs.YtnjobjogddjelaaGreatDoor.Pure Go.Proofs.YtnjobjogddjelaaGreatDoorW.PrintWords Go.Proofs.YtnjobjogddjelaaGreatDoorW.PrintLast Go.Proofs.YtnjobjogddjelaaGreatDoorW.PrintMore

/-! What the printed functions of lex come to. -/
theorem u8_dec (p : UInt8 → Bool) (h : (List.range 256).all (fun n => p (UInt8.ofNat n)) = true) : ∀ c, p c = true := by
 intro c
 have := List.all_eq_true.1 h c.toNat (List.mem_range.2 c.toNat_lt)
 rwa [UInt8.ofNat_toNat] at this
theorem letter_eq (c : UInt8) : lex_letter.f (c.toNat : Int) = some (isL c) := of_decide_eq_true (u8_dec (fun c => decide (lex_letter.f (c.toNat : Int) = some (isL c))) (by decide +kernel) c)
theorem digit_eq (c : UInt8) : lex_digit.f (c.toNat : Int) = some (isD c) := of_decide_eq_true (u8_dec (fun c => decide (lex_digit.f (c.toNat : Int) = some (isD c))) (by decide +kernel) c)
theorem idP_eq (c : UInt8) : decide (idP (c.toNat : Int)) = idc c := of_decide_eq_true (u8_dec (fun c => decide (decide (idP (c.toNat : Int)) = idc c)) (by decide +kernel) c)
theorem isD_int (c : UInt8) : isD c = (decide (48 ≤ (c.toNat : Int)) && decide ((c.toNat : Int) ≤ 57)) := of_decide_eq_true (u8_dec (fun c => decide (isD c = (decide (48 ≤ (c.toNat : Int)) && decide ((c.toNat : Int) ≤ 57)))) (by decide +kernel) c)
theorem ext_take (l : List UInt8) (n : Nat) : (⟨l.toArray⟩ : ByteArray).extract 0 n = ⟨(l.take n).toArray⟩ := by
 apply ByteArray.ext
 apply Array.ext'
 rw [ByteArray.data_extract, Array.toList_extract]
 simp
theorem drop_cons (l : List UInt8) (i : Nat) (h : i < l.length) : l.drop i = l[i] :: l.drop (i + 1) := List.drop_eq_getElem_cons h
theorem w1 (i : Nat) (h : i ≤ 100000) : wrap64 ((i : Int) + 1) = ((i + 1 : Nat) : Int) := by unfold wrap64; omega
theorem many25_l0 (l : List UInt8) (hl : l.length ≤ 700) : ∀ (d k i : Nat), i + d = l.length → d < k → lex_many25.l0 k ⟨l.toArray⟩ (i : Int) = some ((i + ((l.drop i).takeWhile isD).length : Nat) : Int)
 | 0, k, i, h, hk => by
  obtain ⟨k, rfl⟩ : ∃ m, k = m + 1 := ⟨k - 1, by omega⟩
  unfold lex_many25.l0
  rw [size_list, if_neg (by omega), List.drop_eq_nil_of_le (by omega)]
  simp
 | d + 1, k, i, h, hk => by
  obtain ⟨k, rfl⟩ : ∃ m, k = m + 1 := ⟨k - 1, by omega⟩
  have hi : i < l.length := by omega
  unfold lex_many25.l0
  rw [size_list, if_pos (by omega), if_pos (by omega), bt_list l i hi, drop_cons l i hi, List.takeWhile_cons, w1 i (by omega)]
  have hd := isD_int l[i]
  cases c : isD l[i]
  ·rw [c] at hd
   simp only [Bool.false_eq_true, if_false, List.length_nil, Nat.add_zero]
   split
   ·split
    ·rename_i h1 h2
     rw [decide_eq_true h1, decide_eq_true h2] at hd
     simp at hd
    ·rfl
   ·rfl
  ·rw [c] at hd
   have hd := Bool.and_eq_true_iff.1 hd.symm
   rw [if_pos (of_decide_eq_true hd.1), if_pos (of_decide_eq_true hd.2), many25_l0 l hl d k (i + 1) (by omega) (by omega)]
   simp only [if_true, List.length_cons]
   congr 2
   omega
theorem many25_eq (l : List UInt8) (k : Nat) (hl : l.length ≤ 700) (hk : 700 < k) : lex_many25.f k ⟨l.toArray⟩ = some ((l.takeWhile isD).length : Int) := by
 have := many25_l0 l hl l.length k 0 (by omega) (by omega)
 simpa [lex_many25.f] using this
theorem many42_l0 (l : List UInt8) (hl : l.length ≤ 700) : ∀ (d k i : Nat), i + d = l.length → d < k → lex_many42.l0 k ⟨l.toArray⟩ (i : Int) = some ((i + ((l.drop i).takeWhile idc).length : Nat) : Int)
 | 0, k, i, h, hk => by
  obtain ⟨k, rfl⟩ : ∃ m, k = m + 1 := ⟨k - 1, by omega⟩
  unfold lex_many42.l0
  rw [size_list, if_neg (by omega), List.drop_eq_nil_of_le (by omega)]
  simp
 | d + 1, k, i, h, hk => by
  obtain ⟨k, rfl⟩ : ∃ m, k = m + 1 := ⟨k - 1, by omega⟩
  have hi : i < l.length := by omega
  unfold lex_many42.l0
  rw [size_list, if_pos (by omega), if_pos (by omega), bt_list l i hi, drop_cons l i hi, List.takeWhile_cons, w1 i (by omega)]
  have hd := idP_eq l[i]
  cases c : idc l[i]
  ·rw [c] at hd
   rw [if_neg (of_decide_eq_false hd)]
   simp
  ·rw [c] at hd
   rw [if_pos (of_decide_eq_true hd), many42_l0 l hl d k (i + 1) (by omega) (by omega)]
   simp only [if_true, List.length_cons]
   congr 2
   omega
theorem many42_eq (l : List UInt8) (k : Nat) (hl : l.length ≤ 700) (hk : 700 < k) : lex_many42.f k ⟨l.toArray⟩ = some ((l.takeWhile idc).length : Int) := by
 have := many42_l0 l hl l.length k 0 (by omega) (by omega)
 simpa [lex_many42.f] using this
abbrev Out := Int × Int × ByteArray × Bool × Int × Int × Int
def zeroO : Out := (0, 0, ⟨#[]⟩, false, 0, 0, 0)
def outR : Option (Tok × Nat) → Out
 | some x => (x.1.kind, 0, ⟨x.1.text.toArray⟩, false, x.1.v, x.1.n, (x.2 : Int))
 | none => zeroO
theorem ident_eq (l : List UInt8) (k : Nat) (hl : l.length ≤ 700) (hk : 700 < k) : lex_ident.f k ⟨l.toArray⟩ = some (outR (readId l)) := by
 unfold lex_ident.f readId
 rw [many42_eq l k hl hk, Option.bind_some]
 have hle := tw_le (p := idc) l
 by_cases h : (l.takeWhile idc).length ≤ 20
 ·rw [if_neg (by omega), if_pos (by omega), size_list, if_pos (by omega), if_pos h, Int.toNat_natCast, ext_take, take_tw]
  rfl
 ·rw [if_pos (by omega), if_neg h]
  rfl
/-! Durations. -/
theorem pu_ok : ∀ (l : List UInt8) (a : Nat), l.all isD = true → valF a l < 1000000000000000000 → Lib.parseUint10 a l = .ok (valF a l)
 | [], a, _, _ => rfl
 | c :: l, a, h, hv => by
  simp only [List.all_cons, Bool.and_eq_true] at h
  have hc : 48 ≤ c.toNat ∧ c.toNat ≤ 57 := by
   have := h.1
   unfold isD at this
   simpa using this
  have e : valF a (c :: l) = valF (a * 10 + (c.toNat - 48)) l := rfl
  rw [e] at hv ⊢
  have h3 := valF_lin l (a * 10 + (c.toNat - 48))
  have hp : 1 ≤ 10 ^ l.length := Nat.one_le_pow _ _ (by omega)
  have h4 : a * 10 + (c.toNat - 48) ≤ (a * 10 + (c.toNat - 48)) * 10 ^ l.length := Nat.le_mul_of_pos_right _ hp
  unfold Lib.parseUint10
  rw [if_pos hc, if_neg (by omega), if_neg (by omega)]
  exact pu_ok l _ h.2 hv
theorem pu_any : ∀ (l : List UInt8) (a : Nat), l.all isD = true → (∃ r, Lib.parseUint10 a l = .ok r) ∨ Lib.parseUint10 a l = .range
 | [], a, _ => Or.inl ⟨_, rfl⟩
 | c :: l, a, h => by
  simp only [List.all_cons, Bool.and_eq_true] at h
  have hc : 48 ≤ c.toNat ∧ c.toNat ≤ 57 := by
   have := h.1
   unfold isD at this
   simpa using this
  unfold Lib.parseUint10
  rw [if_pos hc]
  split
  ·exact Or.inr rfl
  ·split
   ·exact Or.inr rfl
   ·exact pu_any l _ h.2
theorem atoi_cons (c : UInt8) (l : List UInt8) (h : (c :: l).all isD = true) : (∀ u, Lib.parseUint10 0 (c :: l) = .ok u → Lib.atoiAll (c :: l) = if 9223372036854775808 ≤ u then .range else .ok (u : Int)) ∧ (Lib.parseUint10 0 (c :: l) = .range → Lib.atoiAll (c :: l) = .range) := by
 have hc : 48 ≤ c.toNat ∧ c.toNat ≤ 57 := by
  simp only [List.all_cons, Bool.and_eq_true] at h
  have := h.1
  unfold isD at this
  simpa using this
 unfold Lib.atoiAll
 simp only
 rw [if_neg (show ¬ (c.toNat = 43 ∨ c.toNat = 45) by omega)]
 unfold Lib.parseMag
 rw [if_neg (by simp)]
 have h45 : ¬ c.toNat = 45 := by omega
 refine ⟨fun u e => ?_, fun e => ?_⟩
 ·rw [e]
  simp [h45]
 ·rw [e]
theorem atoi_any (c : UInt8) (l : List UInt8) (h : (c :: l).all isD = true) : (∃ v, Lib.atoiAll (c :: l) = .ok v) ∨ Lib.atoiAll (c :: l) = .range := by
 rcases pu_any (c :: l) 0 h with ⟨r, e⟩ | e
 ·rw [(atoi_cons c l h).1 r e]
  split
  ·exact Or.inr rfl
  ·exact Or.inl ⟨_, rfl⟩
 ·rw [(atoi_cons c l h).2 e]
  exact Or.inr rfl
theorem atoi_small (c : UInt8) (l : List UInt8) (h : (c :: l).all isD = true) (hl : (c :: l).length ≤ 3) : Lib.atoiAll (c :: l) = .ok (valN (c :: l) : Int) := by
 have h1 := valN_lt (c :: l) h
 have h2 : 10 ^ (c :: l).length ≤ 10 ^ 3 := Nat.pow_le_pow_right (by omega) hl
 have h3 : valN (c :: l) < 1000 := by omega
 rw [(atoi_cons c l h).1 _ (pu_ok (c :: l) 0 h (by unfold valN at h3; omega))]
 rw [if_neg (by unfold valN at h3; omega)]
 rfl
def durO (d : List UInt8) (n : Nat) : Out := match durS d with | some t => (3, 0, ⟨#[]⟩, false, 0, (t : Int), ((n + 1 : Nat) : Int)) | none => zeroO
theorem duration_eq (l : List UInt8) (hl : l.length ≤ 700) (h1 : l.takeWhile isD ≠ []) : lex_duration.f ⟨l.toArray⟩ ((l.takeWhile isD).length : Int) = some (durO (l.takeWhile isD) (l.takeWhile isD).length) := by
 have hle := tw_le (p := isD) l
 have hall := tw_D l
 obtain ⟨c, d, hd⟩ : ∃ c d, l.takeWhile isD = c :: d := by
  cases e : l.takeWhile isD with
  | nil => exact absurd e h1
  | cons c d => exact ⟨c, d, rfl⟩
 have hl0 : 0 < l.length := by rw [hd, List.length_cons] at hle; omega
 have hc0 : l[0] = c := by
  cases l with
  | nil => simp at hl0
  | cons b r =>
   rw [List.takeWhile_cons] at hd
   split at hd
   ·exact (List.cons.inj hd).1
   ·simp at hd
 have hbt : bt ⟨l.toArray⟩ 0 = (c.toNat : Int) := by
  have := bt_list l 0 hl0
  rw [hc0] at this
  exact this
 unfold lex_duration.f
 rw [size_list, if_pos ⟨by omega, by omega, hl0, by omega⟩, Int.toNat_natCast, ext_take, take_tw, hbt]
 show (match Lib.atoiAll (l.takeWhile isD) with | .ok v => _ | .range => _ | _ => _) = _
 generalize hW : l.takeWhile isD = W at *
 subst hd
 have hw : wrap64 (((c :: d).length : Int) + 1) = (((c :: d).length + 1 : Nat) : Int) := by
  unfold wrap64
  omega
 unfold durO durS
 by_cases h3 : (c :: d).length ≤ 3
 ·rw [atoi_small c d hall h3]
  simp only
  generalize hv : valN (c :: d) = v
  rw [List.head?_cons]
  by_cases h4 : c = 48
  ·rw [if_pos, if_neg]
   ·rfl
   ·rintro ⟨_, h, _⟩
    exact h (by rw [h4])
   ·exact Or.inr (Or.inl (by rw [h4]; rfl))
  ·have h4' : ¬ (c.toNat : Int) = 48 := by
    intro e
    apply h4
    apply UInt8.toNat_inj.1
    show c.toNat = 48
    omega
   by_cases h5 : 1 ≤ v ∧ v ≤ 100
   ·rw [if_neg, if_pos]
    ·rw [hw]
    ·exact ⟨h3, by simpa using h4, h5.1, h5.2⟩
    ·rintro (h | h | h | h)
     ·omega
     ·exact h4' h
     ·omega
     ·omega
   ·rw [if_pos, if_neg]
    ·rfl
    ·rintro ⟨_, _, h⟩
     exact h5 h
    ·by_cases h6 : 1 ≤ v
     ·exact Or.inr (Or.inr (Or.inr (by omega)))
     ·exact Or.inr (Or.inr (Or.inl (by omega)))
 ·rw [if_neg (fun h => h3 h.1)]
  rcases atoi_any c d hall with ⟨v, e⟩ | e
  ·rw [e]
   simp only
   rw [if_pos (show durBad _ _ _ from Or.inl (by omega))]
   rfl
  ·rw [e]
   rfl
end Go.Proofs.YtnjobjogddjelaaGreatDoor.PureN
end

section
namespace Go.Proofs.YtnjobjogddjelaaGreatDoor.PureN
open Go.RowKit Go.Proofs.YtnjobjogddjelaaGreatDoor.Print Go.Proofs.YtnjobjogddjelaaGreatDoor.Pure Go.Proofs.YtnjobjogddjelaaGreatDoorW.PrintWords Go.Proofs.YtnjobjogddjelaaGreatDoorW.PrintLast Go.Proofs.YtnjobjogddjelaaGreatDoorW.PrintMore

/-! Numbers. -/
theorem w2 (a b : Nat) (h : a + b ≤ 100000) : wrap64 ((a : Int) + wrap64 (1 + (b : Int))) = ((a + (1 + b) : Nat) : Int) := by
 have e : wrap64 (1 + (b : Int)) = ((1 + b : Nat) : Int) := by unfold wrap64; omega
 rw [e]
 clear e
 unfold wrap64
 omega
def numO (l : List UInt8) (n : Nat) : Out := match rdNum (l.take n) with | some v => (2, 0, ⟨#[]⟩, false, v, 0, (n : Int)) | none => zeroO
theorem numP (l : List UInt8) (n : Nat) : (if (parseS (l.take n)).2.2 = 0 then (if (parseS (l.take n)).1 = true then (some zeroO) else (some ((2, 0, (⟨#[]⟩ : ByteArray), (parseS (l.take n)).1, (parseS (l.take n)).2.1, 0, (n : Int)) : Out))) else (some zeroO)) = some (numO l n) := by
 unfold numO rdNum
 generalize parseS (l.take n) = p
 obtain ⟨a, v, e⟩ := p
 simp only
 by_cases he : e = 0
 ·rw [if_pos he]
  cases a
  ·rw [if_neg (by simp), if_pos ⟨he, rfl⟩]
  ·rw [if_pos rfl, if_neg (by simp)]
 ·rw [if_neg he, if_neg (fun h => he h.1)]
theorem num_at (l : List UInt8) (n k : Nat) (hl : l.length ≤ 620) (hn : n ≤ l.length) (hk : 1200 < k) :
  ((fix_Parse.f k ((⟨l.toArray⟩ : ByteArray).extract 0 (n : Int).toNat)).bind fun bt147 => (if bt147.2.2 = 0 then (if bt147.1 = true then (some zeroO) else (some ((2, 0, (⟨#[]⟩ : ByteArray), bt147.1, bt147.2.1, 0, (n : Int)) : Out))) else (some zeroO))) = some (numO l n) := by
 rw [Int.toNat_natCast, ext_take, fixparse_eq k (l.take n) hk (by rw [List.length_take]; omega), Option.bind_some]
 exact numP l n
theorem number_eq (l : List UInt8) (k : Nat) (hl : l.length ≤ 600) (hk : 1210 < k) (h1 : l.takeWhile isD ≠ []) : lex_number.f k ⟨l.toArray⟩ = some (outR (readNum l)) := by
 obtain ⟨k2, rfl⟩ : ∃ m, k = m + 1 + 1 := ⟨k - 2, by omega⟩
 have hw := tw_le (p := isD) l
 have hs := List.takeWhile_append_dropWhile (p := isD) (l := l)
 have hlen := congrArg List.length hs
 rw [List.length_append] at hlen
 unfold lex_number.f readNum
 rw [many25_eq l (k2 + 1 + 1) (by omega) (by omega), Option.bind_some, size_list]
 cases hr : l.dropWhile isD with
 | nil =>
  rw [hr, List.length_nil] at hlen
  rw [if_neg (by omega), List.head?_nil, if_neg (by simp)]
  have hp : numLen l = (l.takeWhile isD).length := by unfold numLen; rw [hr]; rfl
  rw [hp]
  rw [lex_number.j0, if_neg (by simp), size_list, if_neg (by omega)]
  rw [lex_number.j1, if_neg (by simp), size_list, if_pos (by omega), if_pos (by omega)]
  refine (num_at l _ k2 (by omega) hw (by omega)).trans ?_
  unfold numO
  cases rdNum (l.take (l.takeWhile isD).length) <;> rfl
 | cons c r =>
  rw [hr, List.length_cons] at hlen
  have hlt : (l.takeWhile isD).length < l.length := by omega
  have hat : l[(l.takeWhile isD).length] = c := by
   have : (l.takeWhile isD ++ l.dropWhile isD)[(l.takeWhile isD).length]'(by rw [hs]; exact hlt) = c := by
    rw [List.getElem_append_right (Nat.le_refl _)]
    simp [hr]
   simpa [hs] using this
  have hbt := bt_list l _ hlt
  rw [hat] at hbt
  have hdrop : l.drop ((l.takeWhile isD).length + 1) = r := by
   have := congrArg (List.drop ((l.takeWhile isD).length + 1)) hs
   rw [List.drop_append, List.drop_eq_nil_of_le (by omega), List.nil_append, hr, show (l.takeWhile isD).length + 1 - (l.takeWhile isD).length = 1 by omega] at this
   exact this.symm
  rw [if_pos (by omega), if_pos (by omega), hbt, List.head?_cons]
  rw [lex_number.j0]
  by_cases h116 : c = 116
  ·rw [if_pos (by rw [h116]; rfl), if_pos (by rw [h116]), duration_eq l (by omega) h1, Option.bind_some]
   unfold durO
   cases durS (l.takeWhile isD) <;> rfl
  ·have hb : (((c.toNat : Int)) == 116) = false := beq_eq_false_iff_ne.mpr (fun e => h116 ((Print.toNat_is c 116 (by omega)).1 e))
   rw [hb, if_neg (by simp), size_list, if_pos (by omega), if_pos (by omega), hbt, if_neg (by simpa using h116)]
   rw [lex_number.j1]
   have hp : numLen l = (l.takeWhile isD).length + part (c :: r) := by unfold numLen; rw [hr]
   by_cases h46 : c = 46
   ·have hb2 : (((c.toNat : Int)) == 46) = true := by rw [h46]; rfl
    rw [if_pos hb2, w1 _ (by omega), if_pos (by omega), size_list, if_pos (by omega), Int.toNat_natCast]
    have he : (⟨l.toArray⟩ : ByteArray).extract ((l.takeWhile isD).length + 1) l.length = ⟨r.toArray⟩ := by rw [extract_list, hdrop]
    rw [he, many25_eq r k2 (by omega) (by omega), Option.bind_some]
    have hr2 := tw_le (p := isD) r
    by_cases hz : (r.takeWhile isD).length = 0
    ·have hpart : part (c :: r) = 0 := by rw [part, if_neg (fun h => h.2 hz)]
     rw [if_neg (by omega), if_pos (by omega), if_pos (by omega), hp, hpart, Nat.add_zero]
     refine (num_at l _ k2 (by omega) hw (by omega)).trans ?_
     unfold numO
     cases rdNum (l.take (l.takeWhile isD).length) <;> rfl
    ·have hpart : part (c :: r) = 1 + (r.takeWhile isD).length := by rw [part, if_pos ⟨h46, hz⟩]
     have hw2 : wrap64 (((l.takeWhile isD).length : Int) + wrap64 (1 + ((r.takeWhile isD).length : Int))) = (((l.takeWhile isD).length + (1 + (r.takeWhile isD).length) : Nat) : Int) := w2 _ _ (by omega)
     rw [if_pos (by omega), hw2, if_pos (by omega), if_pos (by omega), hp, hpart]
     refine (num_at l _ k2 (by omega) (by omega) (by omega)).trans ?_
     unfold numO
     cases rdNum (l.take ((l.takeWhile isD).length + (1 + (r.takeWhile isD).length))) <;> rfl
   ·have hb2 : (((c.toNat : Int)) == 46) = false := beq_eq_false_iff_ne.mpr (fun e => h46 ((Print.toNat_is c 46 (by omega)).1 e))
    have hpart : part (c :: r) = 0 := by rw [part, if_neg (fun h => h46 h.1)]
    rw [hb2, if_neg (by simp), size_list, if_pos (by omega), if_pos (by omega), hp, hpart, Nat.add_zero]
    refine (num_at l _ k2 (by omega) hw (by omega)).trans ?_
    unfold numO
    cases rdNum (l.take (l.takeWhile isD).length) <;> rfl
end Go.Proofs.YtnjobjogddjelaaGreatDoor.PureN
end

section
namespace Go.Proofs.YtnjobjogddjelaaGreatDoor.PureN
open Go.RowKit Go.Proofs.YtnjobjogddjelaaGreatDoor.Print Go.Proofs.YtnjobjogddjelaaGreatDoor.Pure Go.Proofs.YtnjobjogddjelaaGreatDoorW.PrintWords Go.Proofs.YtnjobjogddjelaaGreatDoorW.PrintLast Go.Proofs.YtnjobjogddjelaaGreatDoorW.PrintMore

/-! Texts, signs, the whole. -/
theorem ib_mem (c : UInt8) : ∀ l : List UInt8, 0 ≤ Lib.indexByte l c ↔ c ∈ l
 | [] => by simp [Lib.indexByte]
 | b :: l => by
  have ih := ib_mem c l
  have hge := Lib.indexByte_ge l c
  unfold Lib.indexByte
  by_cases h : b = c
  ·rw [if_pos (beq_iff_eq.2 h)]
   simp [h]
  ·rw [if_neg (by simpa using h), List.mem_cons, ← ih]
   have h' : ¬ c = b := fun e => h e.symm
   simp only [h', false_or]
   split
   ·rename_i e
    have : Lib.indexByte l c = -1 := by simpa using e
    rw [this]
   ·rename_i e
    have : ¬ Lib.indexByte l c = -1 := by simpa using e
    omega
theorem ib_eq (l : List UInt8) (c : UInt8) : strings_IndexByte.f ⟨l.toArray⟩ (c.toNat : Int) = some (Lib.indexByte l c) := by
 unfold strings_IndexByte.f
 rw [Int.toNat_natCast]
 congr 2
 simp
theorem text_eq (r : List UInt8) (hl : (34 :: r).length ≤ 700) : lex_text.f ⟨(34 :: r).toArray⟩ = some (outR (readText r)) := by
 have hu : unqR ⟨(34 :: r).toArray⟩ = fin ⟨(34 :: r).toArray⟩ [] r := by
  unfold unqR
  simp
 unfold lex_text.f label_Unquote.f readText
 rw [if_pos (by show (34 :: r).length ≤ _; omega), Option.bind_some, hu]
 unfold fin
 cases e : unq r with
 | none => rfl
 | some y =>
  obtain ⟨v, n⟩ := y
  have hy := unq_take r v n e
  simp only [List.nil_append, if_true]
  rw [size_list]
  by_cases h30 : v.length ≤ 30
  ·rw [if_neg (by omega)]
   have h10 := ib_eq v 10
   rw [show (((10 : UInt8).toNat : Nat) : Int) = 10 from rfl] at h10
   rw [h10, Option.bind_some]
   have hm := ib_mem 10 v
   by_cases hin : (10 : UInt8) ∈ v
   ·rw [if_pos (hm.2 hin), if_neg (fun h => h.2 hin)]
    rfl
   ·rw [if_neg (fun h => hin (hm.1 h)), if_pos ⟨h30, hin⟩, size_list, size_list, List.length_drop, List.length_cons]
    rw [List.length_cons] at hl
    have : wrap64 (((r.length + 1 : Nat) : Int) - ((r.length - n : Nat) : Int)) = ((n + 1 : Nat) : Int) := by
     have := hy.2.2
     unfold wrap64
     omega
    rw [this]
    rfl
  ·rw [if_pos (by omega), if_neg (fun h => h30 h.1)]
   rfl
theorem sign_eq (c : UInt8) (r : List UInt8) (k : Nat) (hl : (c :: r).length ≤ 700) (hk : 1 < k) : lex_sign.f k ⟨(c :: r).toArray⟩ = some (outR (readSign (c :: r))) := by
 obtain ⟨k, rfl⟩ : ∃ m, k = m + 1 := ⟨k - 1, by omega⟩
 have hb0 : bt ⟨(c :: r).toArray⟩ 0 = (c.toNat : Int) := bt_list (c :: r) 0 (by simp)
 have h1 := ib_eq ones c
 have h2 := ib_eq twos c
 have m1 := ib_mem c ones
 have m2 := ib_mem c twos
 have hx : ∀ l : List UInt8, (⟨l.toArray⟩ : ByteArray).extract 0 1 = ⟨(l.take 1).toArray⟩ := fun l => ext_take l 1
 have hx2 : ∀ l : List UInt8, (⟨l.toArray⟩ : ByteArray).extract 0 2 = ⟨(l.take 2).toArray⟩ := fun l => ext_take l 2
 have hj : ∀ b, lex_sign.j0 (k + 1) ⟨(c :: r).toArray⟩ 0 b = some (if b = true ∧ 2 ≤ (c :: r).length then ((5, 0, ⟨((c :: r).take 2).toArray⟩, false, 0, 0, 2) : Out) else if b = true then zeroO else if c ∈ ones then ((5, 0, ⟨((c :: r).take 1).toArray⟩, false, 0, 0, 1) : Out) else zeroO) ∨ (b = true ∧ ¬ 2 ≤ (c :: r).length) := by
  intro b
  rw [lex_sign.j0]
  cases b
  ·left
   rw [if_neg (by simp), size_list, if_pos (by rw [List.length_cons]; omega), hb0]
   have h1' : strings_IndexByte.f (⟨#[40, 41, 123, 125, 91, 93, 44, 43, 45, 42, 47, 61, 62, 60]⟩ : ByteArray) (c.toNat : Int) = some (Lib.indexByte ones c) := h1
   rw [h1', Option.bind_some]
   by_cases hin : c ∈ ones
   ·rw [if_pos (m1.2 hin), if_neg (by omega), if_pos (by omega), if_pos (by rw [List.length_cons]; omega), hx, if_neg (by simp), if_neg (by simp), if_pos hin]
   ·rw [if_neg (fun h => hin (m1.1 h)), if_pos rfl, if_neg (by simp), if_neg (by simp), if_neg hin]
    rfl
  ·by_cases h : 2 ≤ (c :: r).length
   ·left
    rw [if_pos rfl, if_neg (by omega), if_pos (by omega), size_list, if_pos (by omega), if_pos ⟨rfl, h⟩, hx2]
   ·exact Or.inr ⟨rfl, h⟩
 unfold lex_sign.f readSign
 rw [size_list]
 cases r with
 | nil =>
  have hj0 := (hj false).resolve_right (by simp)
  rw [if_neg (by simp), hj0]
  unfold signLen
  simp only [Bool.false_eq_true, false_and, if_false, List.head?_nil, reduceCtorEq]
  by_cases hin : c ∈ ones
  ·rw [if_pos hin, if_pos hin, if_neg (by omega)]
   rfl
  ·rw [if_neg hin, if_neg hin, if_pos rfl]
   rfl
 | cons d r =>
  have hb1 : bt ⟨(c :: d :: r).toArray⟩ 1 = (d.toNat : Int) := bt_list (c :: d :: r) 1 (by simp)
  have hlen : 2 ≤ (c :: d :: r).length := by simp
  rw [if_pos (by simp only [List.length_cons]; omega), if_pos (by simp only [List.length_cons]; omega), hb1]
  have h2' : strings_IndexByte.f (⟨#[94, 42, 33, 61, 62, 60]⟩ : ByteArray) (c.toNat : Int) = some (Lib.indexByte twos c) := h2
  have hj0 := (hj false).resolve_right (by simp)
  have hj1 := (hj true).resolve_right (fun h => h.2 hlen)
  simp only [Bool.false_eq_true, false_and, if_false] at hj0
  simp only [true_and] at hj1
  rw [if_pos hlen] at hj1
  have fin1 : (some (if c ∈ ones then ((5, 0, ⟨((c :: d :: r).take 1).toArray⟩, false, 0, 0, 1) : Out) else zeroO)) = some (outR (if (if c ∈ ones then 1 else 0) = 0 then none else some (⟨5, 0, (c :: d :: r).take (if c ∈ ones then 1 else 0), 0, 0⟩, (if c ∈ ones then 1 else 0)))) := by
   by_cases hin : c ∈ ones
   ·rw [if_pos hin, if_pos hin, if_neg (by omega)]
    rfl
   ·rw [if_neg hin, if_neg hin, if_pos rfl]
    rfl
  unfold signLen
  simp only [List.head?_cons, Option.some.injEq]
  by_cases h61 : d = 61
  ·rw [if_pos (by rw [h61]; rfl), if_pos (by simp only [List.length_cons]; omega), hb0, h2', Option.bind_some]
   by_cases hin2 : c ∈ twos
   ·have hs2 : (if d = 61 ∧ c ∈ twos then 2 else if c ∈ ones then 1 else 0) = 2 := if_pos ⟨h61, hin2⟩
    rw [decide_eq_true (m2.2 hin2), hj1, hs2]
    rfl
   ·have hs2 : (if d = 61 ∧ c ∈ twos then 2 else if c ∈ ones then 1 else 0) = (if c ∈ ones then 1 else 0) := if_neg (fun h => hin2 h.2)
    rw [decide_eq_false (fun h => hin2 (m2.1 h)), hj0, hs2]
    exact fin1
  ·have hs2 : (if d = 61 ∧ c ∈ twos then 2 else if c ∈ ones then 1 else 0) = (if c ∈ ones then 1 else 0) := if_neg (fun h => h61 h.1)
   have hne : ¬ (d.toNat : Int) = 61 := fun e => h61 ((Print.toNat_is d 61 (by omega)).1 e)
   rw [if_neg hne, hj0, hs2]
   exact fin1
theorem read_eq (c : UInt8) (r : List UInt8) (k : Nat) (hl : (c :: r).length ≤ 600) (hk : 1210 < k) : lex_read.f k ⟨(c :: r).toArray⟩ = some (outR (readS (c :: r))) := by
 have hb0 : bt ⟨(c :: r).toArray⟩ 0 = (c.toNat : Int) := bt_list (c :: r) 0 (by simp)
 have eta : ∀ x : Out, (some ((x.1, x.2.1, x.2.2.1, x.2.2.2.1, x.2.2.2.2.1, x.2.2.2.2.2.1, x.2.2.2.2.2.2) : Out)) = some x := fun x => rfl
 unfold lex_read.f
 rw [size_list, if_pos (by rw [List.length_cons]; omega), hb0, letter_eq, Option.bind_some, readS]
 cases h1 : isL c
 ·simp only [Bool.false_eq_true, if_false]
  rw [digit_eq, Option.bind_some]
  cases h2 : isD c
  ·simp only [Bool.false_eq_true, if_false]
   by_cases h3 : c = 34
   ·rw [if_pos (by rw [h3]; rfl), if_pos h3]
    subst h3
    rw [text_eq r (by omega), Option.bind_some]
   ·have hne : ¬ (c.toNat : Int) = 34 := fun e => h3 ((Print.toNat_is c 34 (by omega)).1 e)
    rw [if_neg hne, if_neg h3, sign_eq c r k (by omega) (by omega), Option.bind_some]
  ·simp only [if_true]
   rw [number_eq (c :: r) k hl hk (by rw [List.takeWhile_cons, if_pos h2]; simp), Option.bind_some]
 ·simp only [if_true]
  rw [ident_eq (c :: r) k (by omega) (by omega), Option.bind_some]
/-! The scan. -/
theorem w_nat (a b : Nat) (h : a + b ≤ 100000) : wrap64 ((a : Int) + (b : Int)) = ((a + b : Nat) : Int) := by
 unfold wrap64
 omega
def toS (t : Tok) : S36 := ⟨t.kind, t.place, ⟨t.text.toArray⟩, ⟨false, t.v⟩, t.n⟩
def scanO (acc : List S36) : Except Nat (List Tok) → List S36 × Int × Int
 | .ok ts => (acc ++ ts.map toS, 0, 0)
 | .error j => ([], (j : Int), 70)
theorem blank_eq (c : UInt8) : ((decide ((c.toNat : Int) = 32)) || ((c.toNat : Int) == 9)) = blank c := of_decide_eq_true (u8_dec (fun c => decide (((decide ((c.toNat : Int) = 32)) || ((c.toNat : Int) == 9)) = blank c)) (by decide +kernel) c)
theorem scan_l0 (l : List UInt8) (hl : l.length ≤ 600) : ∀ (d k i : Nat) (acc : List S36), l.length - i ≤ d → i ≤ l.length → 2 * d + 1300 < k → acc.length ≤ i →
  lex_Scan.l0 k ⟨l.toArray⟩ acc (i : Int) = some (scanO acc (scanS i (l.drop i))) := by
 intro d
 induction d with
 | zero =>
  intro k i acc h1 h2 hk ha
  obtain ⟨k, rfl⟩ : ∃ m, k = m + 1 := ⟨k - 1, by omega⟩
  rw [lex_Scan.l0, size_list, if_neg (by omega), if_pos (by omega), List.drop_eq_nil_of_le (by omega), scanS_nil]
  have : i = l.length := by omega
  rw [← this]
  rfl
 | succ d ih =>
  intro k i acc h1 h2 hk ha
  by_cases hi : i < l.length
  ·obtain ⟨k, rfl⟩ : ∃ m, k = m + 1 + 1 := ⟨k - 2, by omega⟩
   have hd := drop_cons l i hi
   have hbt := bt_list l i hi
   rw [lex_Scan.l0, size_list, if_pos (by omega), if_pos (by omega), hbt]
   generalize l[i] = c at hd hbt ⊢
   have hb := blank_eq c
   have hstep : (if (c.toNat : Int) = 32 then lex_Scan.j1 (k + 1) ⟨l.toArray⟩ acc (i : Int) true else lex_Scan.j1 (k + 1) ⟨l.toArray⟩ acc (i : Int) ((c.toNat : Int) == 9)) = lex_Scan.j1 (k + 1) ⟨l.toArray⟩ acc (i : Int) (blank c) := by
    rw [← hb]
    by_cases h32 : (c.toNat : Int) = 32
    ·rw [if_pos h32, decide_eq_true h32]
     rfl
    ·rw [if_neg h32, decide_eq_false h32]
     rfl
   rw [hstep, hd, lex_Scan.j1]
   cases hbl : blank c
   ·rw [if_neg (by simp), if_pos (by omega), size_list, if_pos (by omega), Int.toNat_natCast, extract_list, hd]
    have hlen : (c :: l.drop (i + 1)).length = l.length - i := by rw [← hd, List.length_drop]
    rw [read_eq c _ k (by rw [hlen]; omega) (by omega), Option.bind_some]
    cases hr : readS (c :: l.drop (i + 1)) with
    | none =>
     rw [scanS_bad i c _ hbl hr]
     rfl
    | some x =>
     have hp := readS_pos _ x hr
     rw [hlen] at hp
     rw [scanS_good i c _ x hr]
     show (if (x.2 : Int) = 0 then _ else _) = _
     rw [if_neg (by omega), if_pos (by omega)]
     show lex_Scan.l0 k ⟨l.toArray⟩ (acc ++ [toS { x.1 with place := (i : Int) }]) (wrap64 ((i : Int) + (x.2 : Int))) = _
     have hw : wrap64 ((i : Int) + (x.2 : Int)) = ((i + x.2 : Nat) : Int) := w_nat _ _ (by omega)
     clear hstep hb hbl hr hbt
     rw [hw, ih k (i + x.2) _ (by omega) (by omega) (by omega) (by rw [List.length_append, List.length_singleton]; omega), List.drop_drop]
     rw [show i + 1 + (x.2 - 1) = i + x.2 by omega]
     cases scanS (i + x.2) (l.drop (i + x.2)) with
     | error j => rfl
     | ok ts =>
      unfold scanO
      simp
   ·rw [if_pos rfl, w1 i (by omega), ih k (i + 1) acc (by omega) (by omega) (by omega) (by omega), scanS_blank i c _ hbl]
  ·obtain ⟨k, rfl⟩ : ∃ m, k = m + 1 := ⟨k - 1, by omega⟩
   rw [lex_Scan.l0, size_list, if_neg (by omega), if_pos (by omega), List.drop_eq_nil_of_le (by omega), scanS_nil]
   have : i = l.length := by omega
   rw [← this]
   rfl
/-- The whole: signs, or where it stops; too long. -/
def scanW (l : List UInt8) : List S36 × Int × Int := if 600 < l.length then ([], 0, 11) else scanO [] (scanS 0 l)
theorem lexscan_eq (l : List UInt8) (k : Nat) (hk : 3000 < k) : lex_Scan.f k ⟨l.toArray⟩ = some (scanW l) := by
 unfold lex_Scan.f scanW
 rw [size_list]
 by_cases h : 600 < l.length
 ·rw [if_pos (by omega), if_pos h]
 ·rw [if_neg (by omega), if_neg h]
  exact scan_l0 l (by omega) l.length k 0 [] (by omega) (by omega) (by omega) (by simp)
end Go.Proofs.YtnjobjogddjelaaGreatDoor.PureN
end

section
namespace Go.Proofs.YtnjobjogddjelaaGreatDoor.Print
open Go.RowKit Go.Proofs.YtnjobjogddjelaaGreatDoorX Go.Proofs.YtnjobjogddjelaaGreatDoorW.PrintWords Go.Proofs.YtnjobjogddjelaaGreatDoorW.PrintLast Go.Proofs.YtnjobjogddjelaaGreatDoorW.PrintMore
attribute [local go_sem] max2_int min2_int max_two min_two max_three min_three max_four min_four

/-! ### spillwayref7_letter: function 29 -/
def spillwayref7_letter.f (a0 : Int) : Option (Bool) := if a0 ≥ 97 then (if a0 ≤ 122 then (some true) else (if a0 ≥ 65 then (if a0 ≤ 90 then (some true) else (some (a0 == 95))) else (some (a0 == 95)))) else (if a0 ≥ 65 then (if a0 ≤ 90 then (some true) else (some (a0 == 95))) else (some (a0 == 95)))
set_option maxHeartbeats 8000000 in
set_option maxRecDepth 100000 in
theorem spillwayref7_letter.calls (a0 : Int) (r : Bool) (w : World) (h : spillwayref7_letter.f a0 = some r) :
  Calls Tryz.prog 29 #[.int .u8 a0] w fun e w' => e = .returned (.bool r) ∧ Drawn0 w w' := by
 have H : (if a0 ≥ 97 then (if a0 ≤ 122 then (some true) else (if a0 ≥ 65 then (if a0 ≤ 90 then (some true) else (some (a0 == 95))) else (some (a0 == 95)))) else (if a0 ≥ 65 then (if a0 ≤ 90 then (some true) else (some (a0 == 95))) else (some (a0 == 95)))) = some r := h
 clear h
 by_cases c2 : a0 ≥ 97
 ·rw [if_pos c2] at H
  have c2b0 : decide (97 ≤ a0) = true := decide_eq_true c2
  clear c2
  by_cases c3 : a0 ≤ 122
  ·rw [if_pos c3] at H
   have c3b0 : decide (a0 ≤ 122) = true := decide_eq_true c3
   clear c3
   obtain rfl := Option.some.inj H
   go_enter Tryz.func29, Tryz.ntmps29
   go_wp2
   go_ret
   exact ⟨by first | rfl | (simp; done) | (simp [*]; done), by repeat (first | exact Drawn0.refl _ | apply Drawn0.step)⟩
  ·rw [if_neg c3] at H
   have c3b0 : decide (a0 ≤ 122) = false := decide_eq_false c3
   clear c3
   by_cases c4 : a0 ≥ 65
   ·rw [if_pos c4] at H
    have c4b0 : decide (65 ≤ a0) = true := decide_eq_true c4
    clear c4
    by_cases c5 : a0 ≤ 90
    ·rw [if_pos c5] at H
     have c5b0 : decide (a0 ≤ 90) = true := decide_eq_true c5
     clear c5
     obtain rfl := Option.some.inj H
     go_enter Tryz.func29, Tryz.ntmps29
     go_wp2
     go_ret
     exact ⟨by first | rfl | (simp; done) | (simp [*]; done), by repeat (first | exact Drawn0.refl _ | apply Drawn0.step)⟩
    ·rw [if_neg c5] at H
     have c5b0 : decide (a0 ≤ 90) = false := decide_eq_false c5
     clear c5
     obtain rfl := Option.some.inj H
     go_enter Tryz.func29, Tryz.ntmps29
     go_wp2
     go_ret
     exact ⟨by first | rfl | (simp; done) | (simp [*]; done), by repeat (first | exact Drawn0.refl _ | apply Drawn0.step)⟩
   ·rw [if_neg c4] at H
    have c4b0 : decide (65 ≤ a0) = false := decide_eq_false c4
    clear c4
    obtain rfl := Option.some.inj H
    go_enter Tryz.func29, Tryz.ntmps29
    go_wp2
    go_ret
    exact ⟨by first | rfl | (simp; done) | (simp [*]; done), by repeat (first | exact Drawn0.refl _ | apply Drawn0.step)⟩
 ·rw [if_neg c2] at H
  have c2b0 : decide (97 ≤ a0) = false := decide_eq_false c2
  clear c2
  by_cases c6 : a0 ≥ 65
  ·rw [if_pos c6] at H
   have c6b0 : decide (65 ≤ a0) = true := decide_eq_true c6
   clear c6
   by_cases c7 : a0 ≤ 90
   ·rw [if_pos c7] at H
    have c7b0 : decide (a0 ≤ 90) = true := decide_eq_true c7
    clear c7
    obtain rfl := Option.some.inj H
    go_enter Tryz.func29, Tryz.ntmps29
    go_wp2
    go_ret
    exact ⟨by first | rfl | (simp; done) | (simp [*]; done), by repeat (first | exact Drawn0.refl _ | apply Drawn0.step)⟩
   ·rw [if_neg c7] at H
    have c7b0 : decide (a0 ≤ 90) = false := decide_eq_false c7
    clear c7
    obtain rfl := Option.some.inj H
    go_enter Tryz.func29, Tryz.ntmps29
    go_wp2
    go_ret
    exact ⟨by first | rfl | (simp; done) | (simp [*]; done), by repeat (first | exact Drawn0.refl _ | apply Drawn0.step)⟩
  ·rw [if_neg c6] at H
   have c6b0 : decide (65 ≤ a0) = false := decide_eq_false c6
   clear c6
   obtain rfl := Option.some.inj H
   go_enter Tryz.func29, Tryz.ntmps29
   go_wp2
   go_ret
   exact ⟨by first | rfl | (simp; done) | (simp [*]; done), by repeat (first | exact Drawn0.refl _ | apply Drawn0.step)⟩

end Go.Proofs.YtnjobjogddjelaaGreatDoor.Print
end

section
namespace Go.Proofs.YtnjobjogddjelaaGreatDoor.Print
open Go.RowKit Go.Proofs.YtnjobjogddjelaaGreatDoorX Go.Proofs.YtnjobjogddjelaaGreatDoorW.PrintWords Go.Proofs.YtnjobjogddjelaaGreatDoorW.PrintLast Go.Proofs.YtnjobjogddjelaaGreatDoorW.PrintMore
attribute [local go_sem] max2_int min2_int max_two min_two max_three min_three max_four min_four

/-! ### spillwayref7_digit: function 30 -/
def spillwayref7_digit.f (a0 : Int) : Option (Bool) := if a0 ≥ 48 then (some (decide (a0 ≤ 57))) else (some false)
set_option maxHeartbeats 8000000 in
set_option maxRecDepth 100000 in
theorem spillwayref7_digit.calls (a0 : Int) (r : Bool) (w : World) (h : spillwayref7_digit.f a0 = some r) :
  Calls Tryz.prog 30 #[.int .u8 a0] w fun e w' => e = .returned (.bool r) ∧ Drawn0 w w' := by
 have H : (if a0 ≥ 48 then (some (decide (a0 ≤ 57))) else (some false)) = some r := h
 clear h
 by_cases c2 : a0 ≥ 48
 ·rw [if_pos c2] at H
  have c2b0 : decide (48 ≤ a0) = true := decide_eq_true c2
  clear c2
  obtain rfl := Option.some.inj H
  go_enter Tryz.func30, Tryz.ntmps30
  go_wp2
  go_ret
  exact ⟨by first | rfl | (simp; done) | (simp [*]; done), by repeat (first | exact Drawn0.refl _ | apply Drawn0.step)⟩
 ·rw [if_neg c2] at H
  have c2b0 : decide (48 ≤ a0) = false := decide_eq_false c2
  clear c2
  obtain rfl := Option.some.inj H
  go_enter Tryz.func30, Tryz.ntmps30
  go_wp2
  go_ret
  exact ⟨by first | rfl | (simp; done) | (simp [*]; done), by repeat (first | exact Drawn0.refl _ | apply Drawn0.step)⟩

end Go.Proofs.YtnjobjogddjelaaGreatDoor.Print
end

section
namespace Go.Proofs.YtnjobjogddjelaaGreatDoor.Print
open Go.RowKit Go.Proofs.YtnjobjogddjelaaGreatDoorX Go.Proofs.YtnjobjogddjelaaGreatDoorW.PrintWords Go.Proofs.YtnjobjogddjelaaGreatDoorW.PrintLast Go.Proofs.YtnjobjogddjelaaGreatDoorW.PrintMore
attribute [local go_sem] max2_int min2_int max_two min_two max_three min_three max_four min_four

/-! ### spillwayref2_Whole: function 47 -/
mutual
def spillwayref2_Whole.j0 : Nat → ByteArray → Bool → Option (Int)
 | 0, _, _ => none
 | k + 1, x0, x32 => if x32 = true then (some (-1)) else (spillwayref2_Whole.l0 k x0 0 0)
def spillwayref2_Whole.l0 : Nat → ByteArray → Int → Int → Option (Int)
 | 0, _, _, _ => none
 | k + 1, x0, x5, x6 => if x6 < (x0.size : Int) then (if 0 ≤ x6 then (spillwayref2_Whole.l0 k x0 (wrap64 ((wrap64 (10 * x5)) + (((bt x0 x6) - 48) % 256))) (wrap64 (x6 + 1))) else (none)) else (some x5)
end
def spillwayref2_Whole.f (k : Nat) (a0 : ByteArray) (a1 : Int) : Option (Int) := if (a0.size : Int) < 1 then (spillwayref2_Whole.j0 k a0 true) else (if (a0.size : Int) > a1 then (spillwayref2_Whole.j0 k a0 true) else (if (a0.size : Int) > 1 then (if 0 < (a0.size : Int) then (if (bt a0 0) = 48 then (spillwayref2_Whole.j0 k a0 true) else ((spillwayref2_digits.f k a0).bind fun t242 => (spillwayref2_Whole.j0 k a0 (t242 != (a0.size : Int))))) else (none)) else ((spillwayref2_digits.f k a0).bind fun t243 => (spillwayref2_Whole.j0 k a0 (t243 != (a0.size : Int))))))
theorem spillwayref2_Whole.mono_l : ∀ k, (∀ y0 y1, LeO (spillwayref2_Whole.j0 k y0 y1) (spillwayref2_Whole.j0 (k + 1) y0 y1)) ∧ (∀ y0 y1 y2, LeO (spillwayref2_Whole.l0 k y0 y1 y2) (spillwayref2_Whole.l0 (k + 1) y0 y1 y2))
 | 0 => ⟨fun _ _ r h => by simp [spillwayref2_Whole.j0] at h, fun _ _ _ r h => by simp [spillwayref2_Whole.l0] at h⟩
 | k + 1 => by
  obtain ⟨ih0, ih1⟩ := spillwayref2_Whole.mono_l k
  refine ⟨?_, ?_⟩
  ·intro y0 y1
   unfold spillwayref2_Whole.j0
   repeat' first
   | (with_reducible exact ih0 _ _)
   | (with_reducible exact ih1 _ _ _)
   | (with_reducible exact spillwayref2_digits.mono _ _)
   | (with_reducible exact LeO.refl _)
   | (with_reducible exact LeO.none _)
   | (with_reducible refine LeO.ite ?_ ?_)
   | (with_reducible refine LeO.bind ?_ (fun _ => ?_))
   | exact ih0 _ _
   | exact ih1 _ _ _
   | exact spillwayref2_digits.mono _ _
   | exact LeO.none _
   | refine LeO.ite ?_ ?_
   | refine LeO.bind ?_ (fun _ => ?_)
  ·intro y0 y1 y2
   unfold spillwayref2_Whole.l0
   repeat' first
   | (with_reducible exact ih0 _ _)
   | (with_reducible exact ih1 _ _ _)
   | (with_reducible exact spillwayref2_digits.mono _ _)
   | (with_reducible exact LeO.refl _)
   | (with_reducible exact LeO.none _)
   | (with_reducible refine LeO.ite ?_ ?_)
   | (with_reducible refine LeO.bind ?_ (fun _ => ?_))
   | exact ih0 _ _
   | exact ih1 _ _ _
   | exact spillwayref2_digits.mono _ _
   | exact LeO.none _
   | refine LeO.ite ?_ ?_
   | refine LeO.bind ?_ (fun _ => ?_)
theorem spillwayref2_Whole.mono : ∀ a0 a1 k, LeO (spillwayref2_Whole.f k a0 a1) (spillwayref2_Whole.f (k + 1) a0 a1) := by
 intro a0 a1 k
 obtain ⟨ih0, ih1⟩ := spillwayref2_Whole.mono_l k
 unfold spillwayref2_Whole.f
 repeat' first
   | (with_reducible exact ih0 _ _)
   | (with_reducible exact ih1 _ _ _)
   | (with_reducible exact spillwayref2_digits.mono _ _)
   | (with_reducible exact LeO.refl _)
   | (with_reducible exact LeO.none _)
   | (with_reducible refine LeO.ite ?_ ?_)
   | (with_reducible refine LeO.bind ?_ (fun _ => ?_))
   | exact ih0 _ _
   | exact ih1 _ _ _
   | exact spillwayref2_digits.mono _ _
   | exact LeO.none _
   | refine LeO.ite ?_ ?_
   | refine LeO.bind ?_ (fun _ => ?_)
set_option maxHeartbeats 8000000 in
set_option maxRecDepth 100000 in
theorem spillwayref2_Whole.calls (k : Nat) (a0 : ByteArray) (a1 : Int) (r : Int) (w : World) (h : spillwayref2_Whole.f k a0 a1 = some r) :
  Calls Tryz.prog 47 #[.string a0, .int .i64 a1] w fun e w' => e = .returned (.int .i64 r) ∧ Drawn0 w w' := by
 have H : (if (a0.size : Int) < 1 then (spillwayref2_Whole.j0 k a0 true) else (if (a0.size : Int) > a1 then (spillwayref2_Whole.j0 k a0 true) else (if (a0.size : Int) > 1 then (if 0 < (a0.size : Int) then (if (bt a0 0) = 48 then (spillwayref2_Whole.j0 k a0 true) else ((spillwayref2_digits.f k a0).bind fun t242 => (spillwayref2_Whole.j0 k a0 (t242 != (a0.size : Int))))) else (none)) else ((spillwayref2_digits.f k a0).bind fun t243 => (spillwayref2_Whole.j0 k a0 (t243 != (a0.size : Int))))))) = some r := h
 clear h
 have HC3 := Aside0.mk H
 clear H
 go_enter Tryz.func47, Tryz.ntmps47
 go_upto_region 1 with (fail)
 go_cut [32] (fun v32 wc => ∃ (kq : Nat) (x32_2 : Bool), v32 = .bool x32_2 ∧ Aside0 (spillwayref2_Whole.j0 kq a0 x32_2 = some r) ∧ Aside0 (kq ≤ k) ∧ Drawn0 w wc)
 case first =>
  have H := HC3.out
  clear HC3
  by_cases c4 : (a0.size : Int) < 1
  ·rw [if_pos c4] at H
   have c4b0 : decide ((a0.size : Int) < 1) = true := decide_eq_true c4
   have c4b1 : decide (a0.size < 1) = true := decide_eq_true (by omega)
   clear c4
   (first | rw [c4b0] | (simp only [i64_w, i32_w]; rw [c4b0]) | skip)
   have H' := Aside0.mk H
   clear H
   go_wp2
   go_meet
   case rel => exact ⟨_, (true), (by first | rfl | (simp; done) | (simp [*]; done)), H', ⟨by first | omega | exact Nat.le_refl _⟩, by repeat (first | exact Drawn0.refl _ | apply Drawn0.step)⟩
  ·rw [if_neg c4] at H
   have c4b0 : decide ((a0.size : Int) < 1) = false := decide_eq_false c4
   have c4b1 : decide (a0.size < 1) = false := decide_eq_false (by omega)
   clear c4
   (first | rw [c4b0] | (simp only [i64_w, i32_w]; rw [c4b0]) | skip)
   by_cases c5 : (a0.size : Int) > a1
   ·rw [if_pos c5] at H
    have c5b0 : decide (a1 < (a0.size : Int)) = true := decide_eq_true c5
    clear c5
    have H' := Aside0.mk H
    clear H
    go_wp2
    go_meet
    case rel => exact ⟨_, (true), (by first | rfl | (simp; done) | (simp [*]; done)), H', ⟨by first | omega | exact Nat.le_refl _⟩, by repeat (first | exact Drawn0.refl _ | apply Drawn0.step)⟩
   ·rw [if_neg c5] at H
    have c5b0 : decide (a1 < (a0.size : Int)) = false := decide_eq_false c5
    clear c5
    by_cases c6 : (a0.size : Int) > 1
    ·rw [if_pos c6] at H
     have c6b0 : decide (1 < (a0.size : Int)) = true := decide_eq_true c6
     have c6b1 : decide (1 < a0.size) = true := decide_eq_true (by omega)
     clear c6
     by_cases c7 : 0 < (a0.size : Int)
     ·rw [if_pos c7] at H
      have c7b0 : decide (0 < (a0.size : Int)) = true := decide_eq_true c7
      have c7b1 : decide (0 < a0.size) = true := decide_eq_true (by omega)
      clear c7
      by_cases c9 : (bt a0 0) = 48
      ·rw [if_pos c9] at H
       have c9b0 : ((bt a0 0) == 48) = true := beq_iff_eq.mpr c9
       have c9b1 : ((bt a0 0) != 48) = false := bne_eq_false_iff_eq.mpr c9
       clear c9
       have H' := Aside0.mk H
       clear H
       have p8 : 0 ≤ (0 : Int) := (by omega)
       have q8 : 0 < a0.size := (by have : (0 : Int) < (a0.size : Int) := of_decide_eq_true (by first | (with_reducible assumption) | assumption); omega)
       have hx8 : ∀ h : 0 < a0.size, ((a0[0]'h).toNat : Int) = bt a0 0 := bt_at a0 0
       clear p8
       have qi8 : (0 < (a0.size : Int)) = True := eq_true (of_decide_eq_true (by first | (with_reducible assumption) | assumption))
       replace q8 := eq_true q8
       go_wp2
       go_meet
       case rel => exact ⟨_, (true), (by first | rfl | (simp; done) | (simp [*]; done)), H', ⟨by first | omega | exact Nat.le_refl _⟩, by repeat (first | exact Drawn0.refl _ | apply Drawn0.step)⟩
      ·rw [if_neg c9] at H
       have c9b0 : ((bt a0 0) == 48) = false := beq_eq_false_iff_ne.mpr c9
       have c9b1 : ((bt a0 0) != 48) = true := bne_iff_ne.mpr c9
       replace H := Option.bind_eq_some_iff.mp H
       obtain ⟨t242, A100, H⟩ := H
       replace H : (spillwayref2_Whole.j0 k a0 (t242 != (a0.size : Int))) = some r := H
       have A10 := Aside0.mk A100
       clear A100
       have H' := Aside0.mk H
       clear H
       have p8 : 0 ≤ (0 : Int) := (by omega)
       have q8 : 0 < a0.size := (by have : (0 : Int) < (a0.size : Int) := of_decide_eq_true (by first | (with_reducible assumption) | assumption); omega)
       have hx8 : ∀ h : 0 < a0.size, ((a0[0]'h).toNat : Int) = bt a0 0 := bt_at a0 0
       clear p8
       have qi8 : (0 < (a0.size : Int)) = True := eq_true (of_decide_eq_true (by first | (with_reducible assumption) | assumption))
       replace q8 := eq_true q8
       go_wp2_with (first | (go_at_call 66; (with_reducible refine (spillwayref2_digits.calls k a0 t242 _ A10.out).mono ?_); rintro e w' ⟨rfl, ⟨nd, rfl⟩⟩))
       go_meet
       case rel => exact ⟨_, ((t242 != (a0.size : Int))), (by first | rfl | (simp; done) | (simp [*]; done)), H', ⟨by first | omega | exact Nat.le_refl _⟩, by repeat (first | exact Drawn0.refl _ | apply Drawn0.step)⟩
     ·rw [if_neg c7] at H
      exact absurd H (by simp)
    ·rw [if_neg c6] at H
     have c6b0 : decide (1 < (a0.size : Int)) = false := decide_eq_false c6
     have c6b1 : decide (1 < a0.size) = false := decide_eq_false (by omega)
     clear c6
     replace H := Option.bind_eq_some_iff.mp H
     obtain ⟨t243, A110, H⟩ := H
     replace H : (spillwayref2_Whole.j0 k a0 (t243 != (a0.size : Int))) = some r := H
     have A11 := Aside0.mk A110
     clear A110
     have H' := Aside0.mk H
     clear H
     go_wp2_with (first | (go_at_call 66; (with_reducible refine (spillwayref2_digits.calls k a0 t243 _ A11.out).mono ?_); rintro e w' ⟨rfl, ⟨nd, rfl⟩⟩))
     go_meet
     case rel => exact ⟨_, ((t243 != (a0.size : Int))), (by first | rfl | (simp; done) | (simp [*]; done)), H', ⟨by first | omega | exact Nat.le_refl _⟩, by repeat (first | exact Drawn0.refl _ | apply Drawn0.step)⟩
 case rest =>
  clear HC3
  try clear p2
  try clear c4
  try clear c4b0
  try clear c4b1
  try clear c5
  try clear c5b0
  try clear c6
  try clear c6b0
  try clear c6b1
  try clear c7
  try clear c7b0
  try clear c7b1
  try clear p8
  try clear q8
  try clear hx8
  try clear qi8
  try clear c9
  try clear c9b0
  try clear c9b1
  try clear p8
  try clear q8
  obtain ⟨kq, x32_2, rfl, HA, HJ2, ⟨mc2, rfl⟩⟩ := hcut
  cases kq with
  | zero => exact absurd HA.out (by simp [spillwayref2_Whole.j0])
  | succ kj2 =>
   have H := HA.out
   clear HA
   simp only [spillwayref2_Whole.j0] at H
   by_cases c12 : x32_2 = true
   ·subst c12
    have H1 : (some (-1)) = some r := by rw [if_pos rfl] at H; exact H
    clear H
    have H := H1
    clear H1
    obtain rfl := Option.some.inj H
    go_wp2
    go_ret
    exact ⟨by first | rfl | (simp; done) | (simp [*]; done), by repeat (first | exact Drawn0.refl _ | apply Drawn0.step)⟩
   ·replace c12 := Bool.eq_false_iff.mpr c12
    subst c12
    have H1 : (spillwayref2_Whole.l0 kj2 a0 0 0) = some r := by rw [if_neg (show ¬ (false = true) by decide)] at H; exact H
    clear H
    have H := H1
    clear H1
    have H' := Aside0.mk H
    clear H
    go_wp2
    go_loopg [5, 6] kj2 (fun kq v5 v6 w' => ∃ (x5_2 : Int) (x6_2 : Int), v5 = .int .i64 x5_2 ∧ v6 = .int .i64 x6_2 ∧ Aside0 (spillwayref2_Whole.l0 kq a0 x5_2 x6_2 = some r) ∧ Aside0 (kq ≤ kj2) ∧ Drawn0 w w')
    case atStart => exact ⟨(0), (0), (by first | rfl | (simp; done) | (simp [*]; done)), (by first | rfl | (simp; done) | (simp [*]; done)), H', ⟨Nat.le_refl _⟩, by repeat (first | exact Drawn0.refl _ | apply Drawn0.step)⟩
    case round =>
     clear H'
     try clear c1
     try clear c2
     try clear p2
     try clear c4
     try clear c4b0
     try clear c4b1
     try clear c5
     try clear c5b0
     try clear c6
     try clear c6b0
     try clear c6b1
     try clear c7
     try clear c7b0
     try clear c7b1
     try clear p8
     try clear q8
     try clear hx8
     try clear qi8
     try clear c9
     try clear c9b0
     try clear c9b1
     try clear c12
     try clear p2
     try clear p8
     try clear q8
     obtain ⟨x5_2, x6_2, rfl, rfl, HA, HK2, ⟨m2, rfl⟩⟩ := hrel
     cases gk with
     | zero => exact absurd HA.out (by simp [spillwayref2_Whole.l0])
     | succ k2 =>
      have H := HA.out
      clear HA
      simp only [spillwayref2_Whole.l0] at H
      by_cases c13 : x6_2 < (a0.size : Int)
      ·rw [if_pos c13] at H
       have c13b0 : decide (x6_2 < (a0.size : Int)) = true := decide_eq_true c13
       clear c13
       by_cases c14 : 0 ≤ x6_2
       ·rw [if_pos c14] at H
        have c14b0 : decide (0 ≤ x6_2) = true := decide_eq_true c14
        clear c14
        have H' := Aside0.mk H
        clear H
        have p15 : 0 ≤ (x6_2 : Int) := of_decide_eq_true (by first | (with_reducible assumption) | assumption)
        have q15 : x6_2 < (a0.size : Int) := of_decide_eq_true (by first | (with_reducible assumption) | assumption)
        have hx15 := bt_at a0 x6_2
        replace p15 := eq_true p15
        replace q15 := eq_true q15
        go_wp2
        go_roundg k2
        case measure => have := HJ2.out; have := HK2.out; omega
        case rel => exact ⟨(wrap64 ((wrap64 (10 * x5_2)) + (((bt a0 x6_2) - 48) % 256))), (wrap64 (x6_2 + 1)), (by first | rfl | (simp; done) | (simp [*]; done)), (by first | rfl | (simp; done) | (simp [*]; done)), H', ⟨by have := HJ2.out; have := HK2.out; omega⟩, by repeat (first | exact Drawn0.refl _ | apply Drawn0.step)⟩
       ·rw [if_neg c14] at H
        exact absurd H (by simp)
      ·rw [if_neg c13] at H
       have c13b0 : decide (x6_2 < (a0.size : Int)) = false := decide_eq_false c13
       clear c13
       obtain rfl := Option.some.inj H
       go_wp2
       go_ret
       exact ⟨by first | rfl | (simp; done) | (simp [*]; done), by repeat (first | exact Drawn0.refl _ | apply Drawn0.step)⟩

end Go.Proofs.YtnjobjogddjelaaGreatDoor.Print
end

section
namespace Go.Proofs.YtnjobjogddjelaaGreatDoor.Print
open Go.RowKit Go.Proofs.YtnjobjogddjelaaGreatDoorX Go.Proofs.YtnjobjogddjelaaGreatDoorW.PrintWords Go.Proofs.YtnjobjogddjelaaGreatDoorW.PrintLast Go.Proofs.YtnjobjogddjelaaGreatDoorW.PrintMore
attribute [local go_sem] max2_int min2_int max_two min_two max_three min_three max_four min_four

/-! ### spillwayref7_number: function 31 -/
mutual
def spillwayref7_number.j1 : Nat → ByteArray → Int → Option (Int × Int × ByteArray × Bool × Int × Int × Int)
 | 0, _, _ => none
 | k + 1, x0, x4 => if x4 < (x0.size : Int) then (if 0 ≤ x4 then (spillwayref7_number.j2 k x0 x4 ((bt x0 x4) == 116)) else (none)) else (spillwayref7_number.j2 k x0 x4 false)
def spillwayref7_number.j2 : Nat → ByteArray → Int → Bool → Option (Int × Int × ByteArray × Bool × Int × Int × Int)
 | 0, _, _, _ => none
 | k + 1, x0, x4, x29 => if x29 = true then (if 0 ≤ x4 then (if x4 ≤ (x0.size : Int) then ((spillwayref2_Whole.f k (x0.extract 0 (x4 : Int).toNat) 3).bind fun t259 => (if t259 < 1 then (some (0, 0, (⟨#[]⟩ : ByteArray), false, 0, 0, 0)) else (if t259 > 100 then (some (0, 0, (⟨#[]⟩ : ByteArray), false, 0, 0, 0)) else (some (3, 0, (⟨#[]⟩ : ByteArray), false, 0, t259, wrap64 (x4 + 1)))))) else (none)) else (none)) else (if (wrap64 (x4 + 1)) < (x0.size : Int) then (if 0 ≤ x4 then (if x4 < (x0.size : Int) then (if (bt x0 x4) = 46 then (if 0 ≤ (wrap64 (x4 + 1)) then ((spillwayref7_digit.f (bt x0 (wrap64 (x4 + 1)))).bind fun t260 => (spillwayref7_number.j3 k x0 x4 t260)) else (none)) else (spillwayref7_number.j3 k x0 x4 false)) else (none)) else (none)) else (spillwayref7_number.j3 k x0 x4 false))
def spillwayref7_number.j3 : Nat → ByteArray → Int → Bool → Option (Int × Int × ByteArray × Bool × Int × Int × Int)
 | 0, _, _, _ => none
 | k + 1, x0, x4, x62 => if x62 = true then (spillwayref7_number.l1 k x0 (wrap64 (x4 + 1))) else (if 0 ≤ x4 then (if x4 ≤ (x0.size : Int) then ((spillwayref2_Parse.f k (x0.extract 0 (x4 : Int).toNat)).bind fun bt270 => (if bt270.2.2 = true then (if bt270.1 = true then (some (0, 0, (⟨#[]⟩ : ByteArray), false, 0, 0, 0)) else (some (2, 0, (⟨#[]⟩ : ByteArray), bt270.1, bt270.2.1, 0, x4))) else (some (0, 0, (⟨#[]⟩ : ByteArray), false, 0, 0, 0)))) else (none)) else (none))
def spillwayref7_number.l1 : Nat → ByteArray → Int → Option (Int × Int × ByteArray × Bool × Int × Int × Int)
 | 0, _, _ => none
 | k + 1, x0, x4 => if x4 < (x0.size : Int) then (if 0 ≤ x4 then ((spillwayref7_digit.f (bt x0 x4)).bind fun t261 => (if t261 = true then (spillwayref7_number.l1 k x0 (wrap64 (x4 + 1))) else (if x4 ≤ (x0.size : Int) then ((spillwayref2_Parse.f k (x0.extract 0 (x4 : Int).toNat)).bind fun bt262 => (if bt262.2.2 = true then (if bt262.1 = true then (some (0, 0, (⟨#[]⟩ : ByteArray), false, 0, 0, 0)) else (some (2, 0, (⟨#[]⟩ : ByteArray), bt262.1, bt262.2.1, 0, x4))) else (some (0, 0, (⟨#[]⟩ : ByteArray), false, 0, 0, 0)))) else (none)))) else (none)) else (if 0 ≤ x4 then (if x4 ≤ (x0.size : Int) then ((spillwayref2_Parse.f k (x0.extract 0 (x4 : Int).toNat)).bind fun bt266 => (if bt266.2.2 = true then (if bt266.1 = true then (some (0, 0, (⟨#[]⟩ : ByteArray), false, 0, 0, 0)) else (some (2, 0, (⟨#[]⟩ : ByteArray), bt266.1, bt266.2.1, 0, x4))) else (some (0, 0, (⟨#[]⟩ : ByteArray), false, 0, 0, 0)))) else (none)) else (none))
def spillwayref7_number.l0 : Nat → ByteArray → Int → Option (Int × Int × ByteArray × Bool × Int × Int × Int)
 | 0, _, _ => none
 | k + 1, x0, x4 => if x4 < (x0.size : Int) then (if 0 ≤ x4 then ((spillwayref7_digit.f (bt x0 x4)).bind fun t258 => (if t258 = true then (spillwayref7_number.l0 k x0 (wrap64 (x4 + 1))) else (spillwayref7_number.j1 k x0 x4))) else (none)) else (spillwayref7_number.j1 k x0 x4)
end
def spillwayref7_number.f (k : Nat) (a0 : ByteArray) : Option (Int × Int × ByteArray × Bool × Int × Int × Int) := spillwayref7_number.l0 k a0 0
theorem spillwayref7_number.mono_l : ∀ k, (∀ y0 y1, LeO (spillwayref7_number.j1 k y0 y1) (spillwayref7_number.j1 (k + 1) y0 y1)) ∧ (∀ y0 y1 y2, LeO (spillwayref7_number.j2 k y0 y1 y2) (spillwayref7_number.j2 (k + 1) y0 y1 y2)) ∧ (∀ y0 y1 y2, LeO (spillwayref7_number.j3 k y0 y1 y2) (spillwayref7_number.j3 (k + 1) y0 y1 y2)) ∧ (∀ y0 y1, LeO (spillwayref7_number.l1 k y0 y1) (spillwayref7_number.l1 (k + 1) y0 y1)) ∧ (∀ y0 y1, LeO (spillwayref7_number.l0 k y0 y1) (spillwayref7_number.l0 (k + 1) y0 y1))
 | 0 => ⟨fun _ _ r h => by simp [spillwayref7_number.j1] at h, fun _ _ _ r h => by simp [spillwayref7_number.j2] at h, fun _ _ _ r h => by simp [spillwayref7_number.j3] at h, fun _ _ r h => by simp [spillwayref7_number.l1] at h, fun _ _ r h => by simp [spillwayref7_number.l0] at h⟩
 | k + 1 => by
  obtain ⟨ih0, ih1, ih2, ih3, ih4⟩ := spillwayref7_number.mono_l k
  refine ⟨?_, ?_, ?_, ?_, ?_⟩
  ·intro y0 y1
   unfold spillwayref7_number.j1
   repeat' first
   | (with_reducible exact ih0 _ _)
   | (with_reducible exact ih1 _ _ _)
   | (with_reducible exact ih2 _ _ _)
   | (with_reducible exact ih3 _ _)
   | (with_reducible exact ih4 _ _)
   | (with_reducible exact spillwayref2_Parse.mono _ _)
   | (with_reducible exact spillwayref2_Whole.mono _ _ _)
   | (with_reducible exact LeO.refl _)
   | (with_reducible exact LeO.none _)
   | (with_reducible refine LeO.ite ?_ ?_)
   | (with_reducible refine LeO.bind ?_ (fun _ => ?_))
   | exact ih0 _ _
   | exact ih1 _ _ _
   | exact ih2 _ _ _
   | exact ih3 _ _
   | exact ih4 _ _
   | exact spillwayref2_Parse.mono _ _
   | exact spillwayref2_Whole.mono _ _ _
   | exact LeO.none _
   | refine LeO.ite ?_ ?_
   | refine LeO.bind ?_ (fun _ => ?_)
  ·intro y0 y1 y2
   unfold spillwayref7_number.j2
   repeat' first
   | (with_reducible exact ih0 _ _)
   | (with_reducible exact ih1 _ _ _)
   | (with_reducible exact ih2 _ _ _)
   | (with_reducible exact ih3 _ _)
   | (with_reducible exact ih4 _ _)
   | (with_reducible exact spillwayref2_Parse.mono _ _)
   | (with_reducible exact spillwayref2_Whole.mono _ _ _)
   | (with_reducible exact LeO.refl _)
   | (with_reducible exact LeO.none _)
   | (with_reducible refine LeO.ite ?_ ?_)
   | (with_reducible refine LeO.bind ?_ (fun _ => ?_))
   | exact ih0 _ _
   | exact ih1 _ _ _
   | exact ih2 _ _ _
   | exact ih3 _ _
   | exact ih4 _ _
   | exact spillwayref2_Parse.mono _ _
   | exact spillwayref2_Whole.mono _ _ _
   | exact LeO.none _
   | refine LeO.ite ?_ ?_
   | refine LeO.bind ?_ (fun _ => ?_)
  ·intro y0 y1 y2
   unfold spillwayref7_number.j3
   repeat' first
   | (with_reducible exact ih0 _ _)
   | (with_reducible exact ih1 _ _ _)
   | (with_reducible exact ih2 _ _ _)
   | (with_reducible exact ih3 _ _)
   | (with_reducible exact ih4 _ _)
   | (with_reducible exact spillwayref2_Parse.mono _ _)
   | (with_reducible exact spillwayref2_Whole.mono _ _ _)
   | (with_reducible exact LeO.refl _)
   | (with_reducible exact LeO.none _)
   | (with_reducible refine LeO.ite ?_ ?_)
   | (with_reducible refine LeO.bind ?_ (fun _ => ?_))
   | exact ih0 _ _
   | exact ih1 _ _ _
   | exact ih2 _ _ _
   | exact ih3 _ _
   | exact ih4 _ _
   | exact spillwayref2_Parse.mono _ _
   | exact spillwayref2_Whole.mono _ _ _
   | exact LeO.none _
   | refine LeO.ite ?_ ?_
   | refine LeO.bind ?_ (fun _ => ?_)
  ·intro y0 y1
   unfold spillwayref7_number.l1
   repeat' first
   | (with_reducible exact ih0 _ _)
   | (with_reducible exact ih1 _ _ _)
   | (with_reducible exact ih2 _ _ _)
   | (with_reducible exact ih3 _ _)
   | (with_reducible exact ih4 _ _)
   | (with_reducible exact spillwayref2_Parse.mono _ _)
   | (with_reducible exact spillwayref2_Whole.mono _ _ _)
   | (with_reducible exact LeO.refl _)
   | (with_reducible exact LeO.none _)
   | (with_reducible refine LeO.ite ?_ ?_)
   | (with_reducible refine LeO.bind ?_ (fun _ => ?_))
   | exact ih0 _ _
   | exact ih1 _ _ _
   | exact ih2 _ _ _
   | exact ih3 _ _
   | exact ih4 _ _
   | exact spillwayref2_Parse.mono _ _
   | exact spillwayref2_Whole.mono _ _ _
   | exact LeO.none _
   | refine LeO.ite ?_ ?_
   | refine LeO.bind ?_ (fun _ => ?_)
  ·intro y0 y1
   unfold spillwayref7_number.l0
   repeat' first
   | (with_reducible exact ih0 _ _)
   | (with_reducible exact ih1 _ _ _)
   | (with_reducible exact ih2 _ _ _)
   | (with_reducible exact ih3 _ _)
   | (with_reducible exact ih4 _ _)
   | (with_reducible exact spillwayref2_Parse.mono _ _)
   | (with_reducible exact spillwayref2_Whole.mono _ _ _)
   | (with_reducible exact LeO.refl _)
   | (with_reducible exact LeO.none _)
   | (with_reducible refine LeO.ite ?_ ?_)
   | (with_reducible refine LeO.bind ?_ (fun _ => ?_))
   | exact ih0 _ _
   | exact ih1 _ _ _
   | exact ih2 _ _ _
   | exact ih3 _ _
   | exact ih4 _ _
   | exact spillwayref2_Parse.mono _ _
   | exact spillwayref2_Whole.mono _ _ _
   | exact LeO.none _
   | refine LeO.ite ?_ ?_
   | refine LeO.bind ?_ (fun _ => ?_)
theorem spillwayref7_number.mono : ∀ a0 k, LeO (spillwayref7_number.f k a0) (spillwayref7_number.f (k + 1) a0) := by
 intro a0 k
 obtain ⟨ih0, ih1, ih2, ih3, ih4⟩ := spillwayref7_number.mono_l k
 unfold spillwayref7_number.f
 repeat' first
   | (with_reducible exact ih0 _ _)
   | (with_reducible exact ih1 _ _ _)
   | (with_reducible exact ih2 _ _ _)
   | (with_reducible exact ih3 _ _)
   | (with_reducible exact ih4 _ _)
   | (with_reducible exact spillwayref2_Parse.mono _ _)
   | (with_reducible exact spillwayref2_Whole.mono _ _ _)
   | (with_reducible exact LeO.refl _)
   | (with_reducible exact LeO.none _)
   | (with_reducible refine LeO.ite ?_ ?_)
   | (with_reducible refine LeO.bind ?_ (fun _ => ?_))
   | exact ih0 _ _
   | exact ih1 _ _ _
   | exact ih2 _ _ _
   | exact ih3 _ _
   | exact ih4 _ _
   | exact spillwayref2_Parse.mono _ _
   | exact spillwayref2_Whole.mono _ _ _
   | exact LeO.none _
   | refine LeO.ite ?_ ?_
   | refine LeO.bind ?_ (fun _ => ?_)
set_option maxHeartbeats 8000000 in
set_option maxRecDepth 100000 in
theorem spillwayref7_number.calls (k : Nat) (a0 : ByteArray) (r1 : Int) (r2 : Int) (r3 : ByteArray) (r4 : Bool) (r5 : Int) (r6 : Int) (r7 : Int) (w : World) (h : spillwayref7_number.f k a0 = some (r1, r2, r3, r4, r5, r6, r7)) :
  Calls Tryz.prog 31 #[.string a0] w fun e w' => e = .returned (.tuple #[.agg #[.int .i64 r1, .int .i64 r2, .string r3, .bool r4, .int .i64 r5, .int .i64 r6], .int .i64 r7]) ∧ Below w.heap.size w w' := by
 have hu36 := Tryz.underlying36
 have hu34 := Tryz.underlying34
 have HB := Aside0.mk (Below.refl w.heap.size w)
 have H : (spillwayref7_number.l0 k a0 0) = some (r1, r2, r3, r4, r5, r6, r7) := h
 clear h
 have HC2 := Aside0.mk H
 clear H
 go_enter Tryz.func31, Tryz.ntmps31
 go_upto_block 0 with (first | ((with_reducible refine gate_dst (N := 2) rfl ?_); refine box_event ?hg (N := 2) ?hd (cs := #[.int .i64 0, .int .i64 0, .string (⟨#[]⟩ : ByteArray), .bool false, .int .i64 0, .int .i64 0]) (t := 36) ?hr ?_; (case hd => rfl); (case hg => rfl); (case hr => first | (go_simp; done) | (go_simp; rfl)); intro gb257 hg w3 hbox hb; have n0_ := Aside0.mk (below_step (by repeat (first | (with_reducible first | exact HB.out | apply below_alloc | apply pw_below_drewN | apply below_drew1) | exact HB.out)) hb); have n1_ := Aside0.mk (hbox); have n2_ := Aside0.mk ((by rw [hg]; exact (below_size (by repeat (first | (with_reducible first | exact HB.out | apply below_alloc | apply pw_below_drewN | apply below_drew1) | exact HB.out))) : w.heap.size ≤ gb257)); have n3_ := Aside0.mk ((by rw [hg]; exact (below_size (by repeat (first | (with_reducible first | exact HB.out | apply below_alloc | apply pw_below_drewN | apply below_drew1) | exact HB.out))) : w.heap.size ≤ gb257)); clear HB; have HB := n0_; have BK257 := n1_; have GW257 := n2_; have GE257 := n3_; clear n0_ n1_ n2_ n3_; clear hb hbox hg))
 (try simp only [Act.put, List.setIfInBounds_toArray, List.set_cons_zero, List.set_cons_succ])
 go_cut [4] (fun v4 wc => ∃ (kq : Nat) (x4_1 : Int), v4 = .int .i64 x4_1 ∧ Aside0 (spillwayref7_number.j1 kq a0 x4_1 = some (r1, r2, r3, r4, r5, r6, r7)) ∧ Aside0 (kq ≤ k) ∧ Aside0 (wc.heap[gb257]? = some (.cells #[.int .i64 0, .int .i64 0, .string (⟨#[]⟩ : ByteArray), .bool false, .int .i64 0, .int .i64 0] 36 (0, 0))) ∧ Aside0 (Below w.heap.size w wc))
 case first =>
  have H := HC2.out
  clear HC2
  have H' := Aside0.mk H
  clear H
  go_wp2
  go_loopg [4] k (fun kq v4 w' => ∃ (x4_1 : Int), v4 = .int .i64 x4_1 ∧ Aside0 (spillwayref7_number.l0 kq a0 x4_1 = some (r1, r2, r3, r4, r5, r6, r7)) ∧ Aside0 (kq ≤ k) ∧ Aside0 (w'.heap[gb257]? = some (.cells #[.int .i64 0, .int .i64 0, .string (⟨#[]⟩ : ByteArray), .bool false, .int .i64 0, .int .i64 0] 36 (0, 0))) ∧ Aside0 (Below w.heap.size w w'))
  case atStart => exact ⟨(0), (by first | rfl | (simp; done) | (simp [*]; done)), H', ⟨Nat.le_refl _⟩, ⟨by (with_reducible repeat (first | refine blk_drewN ?_ _ | refine blk_drew ?_ | refine blk_alloc ?_ _)); exact BK257.out⟩, ⟨by repeat (first | (with_reducible first | exact HB.out | apply below_alloc | apply pw_below_drewN | apply below_drew1 | refine below_set ?_ GE257.out) | exact HB.out)⟩⟩
  case round =>
   clear H'
   try clear p2
   try clear c3
   obtain ⟨x4_1, rfl, HA, HK1, BK257, HB⟩ := hrel
   cases gk with
   | zero => exact absurd HA.out (by simp [spillwayref7_number.l0])
   | succ k1 =>
    have H := HA.out
    clear HA
    simp only [spillwayref7_number.l0] at H
    by_cases c4 : x4_1 < (a0.size : Int)
    ·rw [if_pos c4] at H
     have c4b0 : decide (x4_1 < (a0.size : Int)) = true := decide_eq_true c4
     clear c4
     (first | rw [c4b0] | (simp only [i64_w, i32_w]; rw [c4b0]) | skip)
     by_cases c5 : 0 ≤ x4_1
     ·rw [if_pos c5] at H
      have c5b0 : decide (0 ≤ x4_1) = true := decide_eq_true c5
      clear c5
      replace H := Option.bind_eq_some_iff.mp H
      obtain ⟨t258, A70, H⟩ := H
      replace H : (if t258 = true then (spillwayref7_number.l0 k1 a0 (wrap64 (x4_1 + 1))) else (spillwayref7_number.j1 k1 a0 x4_1)) = some (r1, r2, r3, r4, r5, r6, r7) := H
      have A7 := Aside0.mk A70
      clear A70
      by_cases c8 : t258 = true
      ·subst c8
       have H1 : (spillwayref7_number.l0 k1 a0 (wrap64 (x4_1 + 1))) = some (r1, r2, r3, r4, r5, r6, r7) := by rw [if_pos rfl] at H; exact H
       clear H
       have H := H1
       clear H1
       have H' := Aside0.mk H
       clear H
       have p6 : 0 ≤ (x4_1 : Int) := of_decide_eq_true (by first | (with_reducible assumption) | assumption)
       have q6 : x4_1 < (a0.size : Int) := of_decide_eq_true (by first | (with_reducible assumption) | assumption)
       have hx6 := bt_at a0 x4_1
       replace p6 := eq_true p6
       replace q6 := eq_true q6
       go_wp2_with (first | (go_at_call 30; (with_reducible refine (spillwayref7_digit.calls (bt a0 x4_1) true _ A7.out).mono ?_); rintro e w' ⟨rfl, ⟨nd, rfl⟩⟩))
       go_roundg k1
       case measure => have := HK1.out; omega
       case rel => exact ⟨(wrap64 (x4_1 + 1)), (by first | rfl | (simp; done) | (simp [*]; done)), H', ⟨by have := HK1.out; omega⟩, ⟨by (with_reducible repeat (first | refine blk_drewN ?_ _ | refine blk_drew ?_ | refine blk_alloc ?_ _)); exact BK257.out⟩, ⟨by repeat (first | (with_reducible first | exact HB.out | apply below_alloc | apply pw_below_drewN | apply below_drew1 | refine below_set ?_ GE257.out) | exact HB.out)⟩⟩
      ·replace c8 := Bool.eq_false_iff.mpr c8
       subst c8
       have H1 : (spillwayref7_number.j1 k1 a0 x4_1) = some (r1, r2, r3, r4, r5, r6, r7) := by rw [if_neg (show ¬ (false = true) by decide)] at H; exact H
       clear H
       have H := H1
       clear H1
       have H' := Aside0.mk H
       clear H
       have p6 : 0 ≤ (x4_1 : Int) := of_decide_eq_true (by first | (with_reducible assumption) | assumption)
       have q6 : x4_1 < (a0.size : Int) := of_decide_eq_true (by first | (with_reducible assumption) | assumption)
       have hx6 := bt_at a0 x4_1
       replace p6 := eq_true p6
       replace q6 := eq_true q6
       go_wp2_with (first | (go_at_call 30; (with_reducible refine (spillwayref7_digit.calls (bt a0 x4_1) false _ A7.out).mono ?_); rintro e w' ⟨rfl, ⟨nd, rfl⟩⟩))
       go_meet
       case rel => exact ⟨_, (x4_1), (by first | rfl | (simp; done) | (simp [*]; done)), H', ⟨by have := HK1.out; first | omega | exact Nat.le_refl _⟩, ⟨by (with_reducible repeat (first | refine blk_drewN ?_ _ | refine blk_drew ?_ | refine blk_alloc ?_ _)); exact BK257.out⟩, ⟨by repeat (first | (with_reducible first | exact HB.out | apply below_alloc | apply pw_below_drewN | apply below_drew1 | refine below_set ?_ GE257.out) | exact HB.out)⟩⟩
     ·rw [if_neg c5] at H
      exact absurd H (by simp)
    ·rw [if_neg c4] at H
     have c4b0 : decide (x4_1 < (a0.size : Int)) = false := decide_eq_false c4
     clear c4
     (first | rw [c4b0] | (simp only [i64_w, i32_w]; rw [c4b0]) | skip)
     have H' := Aside0.mk H
     clear H
     go_wp2
     go_meet
     case rel => exact ⟨_, (x4_1), (by first | rfl | (simp; done) | (simp [*]; done)), H', ⟨by have := HK1.out; first | omega | exact Nat.le_refl _⟩, ⟨by (with_reducible repeat (first | refine blk_drewN ?_ _ | refine blk_drew ?_ | refine blk_alloc ?_ _)); exact BK257.out⟩, ⟨by repeat (first | (with_reducible first | exact HB.out | apply below_alloc | apply pw_below_drewN | apply below_drew1 | refine below_set ?_ GE257.out) | exact HB.out)⟩⟩
 case rest =>
  clear HC2
  try clear p2
  try clear c3
  try clear c4
  try clear c4b0
  try clear c5
  try clear c5b0
  try clear p6
  try clear q6
  try clear hx6
  try clear c8
  try clear p2
  try clear p6
  try clear q6
  obtain ⟨kq, x4_1, rfl, HA, HJ1, BK257, HB⟩ := hcut
  cases kq with
  | zero => exact absurd HA.out (by simp [spillwayref7_number.j1])
  | succ kj1 =>
   have H := HA.out
   clear HA
   simp only [spillwayref7_number.j1] at H
   have HC9 := Aside0.mk H
   clear H
   go_upto_region 4 with (fail)
   go_cut [29] (fun v29 wc => ∃ (kq : Nat) (x29_8 : Bool), v29 = .bool x29_8 ∧ Aside0 (spillwayref7_number.j2 kq a0 x4_1 x29_8 = some (r1, r2, r3, r4, r5, r6, r7)) ∧ Aside0 (kq ≤ kj1) ∧ Aside0 (wc.heap[gb257]? = some (.cells #[.int .i64 0, .int .i64 0, .string (⟨#[]⟩ : ByteArray), .bool false, .int .i64 0, .int .i64 0] 36 (0, 0))) ∧ Aside0 (Below w.heap.size w wc))
   case first =>
    have H := HC9.out
    clear HC9
    by_cases c10 : x4_1 < (a0.size : Int)
    ·rw [if_pos c10] at H
     have c10b0 : decide (x4_1 < (a0.size : Int)) = true := decide_eq_true c10
     clear c10
     (first | rw [c10b0] | (simp only [i64_w, i32_w]; rw [c10b0]) | skip)
     by_cases c11 : 0 ≤ x4_1
     ·rw [if_pos c11] at H
      have c11b0 : decide (0 ≤ x4_1) = true := decide_eq_true c11
      clear c11
      have H' := Aside0.mk H
      clear H
      have p12 : 0 ≤ (x4_1 : Int) := of_decide_eq_true (by first | (with_reducible assumption) | assumption)
      have q12 : x4_1 < (a0.size : Int) := of_decide_eq_true (by first | (with_reducible assumption) | assumption)
      have hx12 := bt_at a0 x4_1
      replace p12 := eq_true p12
      replace q12 := eq_true q12
      go_wp2
      go_meet
      case rel => exact ⟨_, (((bt a0 x4_1) == 116)), (by first | rfl | (simp; done) | (simp [*]; done)), H', ⟨by have := HJ1.out; first | omega | exact Nat.le_refl _⟩, ⟨by (with_reducible repeat (first | refine blk_drewN ?_ _ | refine blk_drew ?_ | refine blk_alloc ?_ _)); exact BK257.out⟩, ⟨by repeat (first | (with_reducible first | exact HB.out | apply below_alloc | apply pw_below_drewN | apply below_drew1 | refine below_set ?_ GE257.out) | exact HB.out)⟩⟩
     ·rw [if_neg c11] at H
      exact absurd H (by simp)
    ·rw [if_neg c10] at H
     have c10b0 : decide (x4_1 < (a0.size : Int)) = false := decide_eq_false c10
     clear c10
     (first | rw [c10b0] | (simp only [i64_w, i32_w]; rw [c10b0]) | skip)
     have H' := Aside0.mk H
     clear H
     go_wp2
     go_meet
     case rel => exact ⟨_, (false), (by first | rfl | (simp; done) | (simp [*]; done)), H', ⟨by have := HJ1.out; first | omega | exact Nat.le_refl _⟩, ⟨by (with_reducible repeat (first | refine blk_drewN ?_ _ | refine blk_drew ?_ | refine blk_alloc ?_ _)); exact BK257.out⟩, ⟨by repeat (first | (with_reducible first | exact HB.out | apply below_alloc | apply pw_below_drewN | apply below_drew1 | refine below_set ?_ GE257.out) | exact HB.out)⟩⟩
   case rest =>
    clear HC9
    try clear c1
    try clear p1
    try clear q1
    try clear hx1
    try clear p2
    try clear c3
    try clear c4
    try clear c4b0
    try clear c5
    try clear c5b0
    try clear p6
    try clear q6
    try clear hx6
    try clear c8
    try clear c10
    try clear c10b0
    try clear c11
    try clear c11b0
    try clear p12
    try clear q12
    try clear hx12
    try clear p12
    try clear p2
    try clear p6
    try clear q12
    try clear q6
    obtain ⟨kq, x29_8, rfl, HA, HJ8, BK257, HB⟩ := hcut
    cases kq with
    | zero => exact absurd HA.out (by simp [spillwayref7_number.j2])
    | succ kj8 =>
     have H := HA.out
     clear HA
     simp only [spillwayref7_number.j2] at H
     by_cases c13 : x29_8 = true
     ·subst c13
      have H1 : (if 0 ≤ x4_1 then (if x4_1 ≤ (a0.size : Int) then ((spillwayref2_Whole.f kj8 (a0.extract 0 (x4_1 : Int).toNat) 3).bind fun t259 => (if t259 < 1 then (some (0, 0, (⟨#[]⟩ : ByteArray), false, 0, 0, 0)) else (if t259 > 100 then (some (0, 0, (⟨#[]⟩ : ByteArray), false, 0, 0, 0)) else (some (3, 0, (⟨#[]⟩ : ByteArray), false, 0, t259, wrap64 (x4_1 + 1)))))) else (none)) else (none)) = some (r1, r2, r3, r4, r5, r6, r7) := by rw [if_pos rfl] at H; exact H
      clear H
      have H := H1
      clear H1
      by_cases c14 : 0 ≤ x4_1
      ·rw [if_pos c14] at H
       have c14b0 := eq_true c14
       have c14b1 : decide (0 ≤ x4_1) = true := decide_eq_true c14
       clear c14
       by_cases c15 : x4_1 ≤ (a0.size : Int)
       ·rw [if_pos c15] at H
        have c15b0 := eq_true c15
        have c15b1 : decide (x4_1 ≤ (a0.size : Int)) = true := decide_eq_true c15
        clear c15
        replace H := Option.bind_eq_some_iff.mp H
        obtain ⟨t259, A160, H⟩ := H
        replace H : (if t259 < 1 then (some (0, 0, (⟨#[]⟩ : ByteArray), false, 0, 0, 0)) else (if t259 > 100 then (some (0, 0, (⟨#[]⟩ : ByteArray), false, 0, 0, 0)) else (some (3, 0, (⟨#[]⟩ : ByteArray), false, 0, t259, wrap64 (x4_1 + 1))))) = some (r1, r2, r3, r4, r5, r6, r7) := H
        have A16 := Aside0.mk A160
        clear A160
        by_cases c17 : t259 < 1
        ·rw [if_pos c17] at H
         have c17b0 : decide (t259 < 1) = true := decide_eq_true c17
         clear c17
         simp only [Option.some.injEq, Prod.mk.injEq] at H
         obtain ⟨rfl, rfl, rfl, rfl, rfl, rfl, rfl⟩ := H
         go_wp2_with (first | ((with_reducible refine gate_callee (f := 47) rfl ?_); refine goesL_ (some 33) rfl rfl Tryz.func47 (by kernel_rfl) rfl #[.string (a0.extract 0 (x4_1 : Int).toNat), .int .i64 3] rfl (by (try simp only [List.map_toArray, List.map_cons, List.map_nil]); first | done | rfl | (simp only [List.length_drop, List.length_take]; rfl)) ?_; (with_reducible refine (spillwayref2_Whole.calls kj8 (a0.extract 0 (x4_1 : Int).toNat) 3 t259 _ A16.out).mono ?_); rintro e w' ⟨rfl, ⟨nd, rfl⟩⟩; refine ⟨_, rfl, ?_⟩; (try (rw [drewN_self wc]; generalize hq_ : World.drewN wc _ = wc; have n0_ : Aside0 (wc.heap[gb257]? = some (.cells #[.int .i64 0, .int .i64 0, .string (⟨#[]⟩ : ByteArray), .bool false, .int .i64 0, .int .i64 0] 36 (0, 0))) := ⟨by rw [← hq_]; exact (by (with_reducible repeat (first | refine blk_drewN ?_ _ | refine blk_drew ?_ | refine blk_alloc ?_ _)); exact BK257.out)⟩; have n1_ : Aside0 (Below w.heap.size w wc) := ⟨by rw [← hq_]; exact (by repeat (first | (with_reducible first | exact HB.out | apply below_alloc | apply pw_below_drewN | apply below_drew1 | refine below_set ?_ GE257.out) | exact HB.out))⟩; clear BK257 HB hq_; have BK257 := n0_; have HB := n1_; clear n0_ n1_)); have hcz18_0 : wc.cell? ⟨gb257, 0, none⟩ = some (.int .i64 0) := (blk_cell BK257.out 0).trans rfl; have hcz18_1 : wc.cell? ⟨gb257, 1, none⟩ = some (.int .i64 0) := (blk_cell BK257.out 1).trans rfl; have hcz18_2 : wc.cell? ⟨gb257, 2, none⟩ = some (.string (⟨#[]⟩ : ByteArray)) := (blk_cell BK257.out 2).trans rfl; have hcz18_3 : wc.cell? ⟨gb257, 3, none⟩ = some (.bool false) := (blk_cell BK257.out 3).trans rfl; have hcz18_4 : wc.cell? ⟨gb257, 4, none⟩ = some (.int .i64 0) := (blk_cell BK257.out 4).trans rfl; have hcz18_5 : wc.cell? ⟨gb257, 5, none⟩ = some (.int .i64 0) := (blk_cell BK257.out 5).trans rfl; have hfz18_0 := blk_frozen BK257.out 0; have hfz18_1 := blk_frozen BK257.out 1; have hfz18_2 := blk_frozen BK257.out 2; have hfz18_3 := blk_frozen BK257.out 3; have hfz18_4 := blk_frozen BK257.out 4; have hfz18_5 := blk_frozen BK257.out 5))
         refine bodyPost_ret (results_ct rfl _ _ gb257 36 #[.int .i64 0, .int .i64 0, .string (⟨#[]⟩ : ByteArray), .bool false, .int .i64 0, .int .i64 0] (0, 0) _ rfl (by (with_reducible repeat (first | refine blk_drewN ?_ _ | refine blk_drew ?_ | refine blk_alloc ?_ _)); refine blk_put (cs := #[.int .i64 0, .int .i64 0, .string (⟨#[]⟩ : ByteArray), .bool false, .int .i64 0, .int .i64 0]) ?_ 5 _ rfl; (with_reducible repeat (first | refine blk_drewN ?_ _ | refine blk_drew ?_ | refine blk_alloc ?_ _)); refine blk_put (cs := #[.int .i64 0, .int .i64 0, .string (⟨#[]⟩ : ByteArray), .bool false, .int .i64 0, .int .i64 0]) ?_ 4 _ rfl; (with_reducible repeat (first | refine blk_drewN ?_ _ | refine blk_drew ?_ | refine blk_alloc ?_ _)); refine blk_put (cs := #[.int .i64 0, .int .i64 0, .string (⟨#[]⟩ : ByteArray), .bool false, .int .i64 0, .int .i64 0]) ?_ 3 _ rfl; (with_reducible repeat (first | refine blk_drewN ?_ _ | refine blk_drew ?_ | refine blk_alloc ?_ _)); refine blk_put (cs := #[.int .i64 0, .int .i64 0, .string (⟨#[]⟩ : ByteArray), .bool false, .int .i64 0, .int .i64 0]) ?_ 2 _ rfl; (with_reducible repeat (first | refine blk_drewN ?_ _ | refine blk_drew ?_ | refine blk_alloc ?_ _)); refine blk_put (cs := #[.int .i64 0, .int .i64 0, .string (⟨#[]⟩ : ByteArray), .bool false, .int .i64 0, .int .i64 0]) ?_ 1 _ rfl; (with_reducible repeat (first | refine blk_drewN ?_ _ | refine blk_drew ?_ | refine blk_alloc ?_ _)); refine blk_put (cs := #[.int .i64 0, .int .i64 0, .string (⟨#[]⟩ : ByteArray), .bool false, .int .i64 0, .int .i64 0]) ?_ 0 _ rfl; (with_reducible repeat (first | refine blk_drewN ?_ _ | refine blk_drew ?_ | refine blk_alloc ?_ _)); exact BK257.out) Tryz.underlying36 rfl (by kernel_rfl)) rfl ?_
         exact ⟨by first | rfl | (simp [errW_none, errW_some] <;> rfl) | (simp [*, errW_none, errW_some] <;> rfl), by repeat (first | (with_reducible first | exact HB.out | apply below_alloc | apply pw_below_drewN | apply below_drew1 | refine below_set ?_ GE257.out) | exact HB.out)⟩
        ·rw [if_neg c17] at H
         have c17b0 : decide (t259 < 1) = false := decide_eq_false c17
         clear c17
         by_cases c19 : t259 > 100
         ·rw [if_pos c19] at H
          have c19b0 : decide (100 < t259) = true := decide_eq_true c19
          clear c19
          simp only [Option.some.injEq, Prod.mk.injEq] at H
          obtain ⟨rfl, rfl, rfl, rfl, rfl, rfl, rfl⟩ := H
          go_wp2_with (first | ((with_reducible refine gate_callee (f := 47) rfl ?_); refine goesL_ (some 33) rfl rfl Tryz.func47 (by kernel_rfl) rfl #[.string (a0.extract 0 (x4_1 : Int).toNat), .int .i64 3] rfl (by (try simp only [List.map_toArray, List.map_cons, List.map_nil]); first | done | rfl | (simp only [List.length_drop, List.length_take]; rfl)) ?_; (with_reducible refine (spillwayref2_Whole.calls kj8 (a0.extract 0 (x4_1 : Int).toNat) 3 t259 _ A16.out).mono ?_); rintro e w' ⟨rfl, ⟨nd, rfl⟩⟩; refine ⟨_, rfl, ?_⟩; (try (rw [drewN_self wc]; generalize hq_ : World.drewN wc _ = wc; have n0_ : Aside0 (wc.heap[gb257]? = some (.cells #[.int .i64 0, .int .i64 0, .string (⟨#[]⟩ : ByteArray), .bool false, .int .i64 0, .int .i64 0] 36 (0, 0))) := ⟨by rw [← hq_]; exact (by (with_reducible repeat (first | refine blk_drewN ?_ _ | refine blk_drew ?_ | refine blk_alloc ?_ _)); exact BK257.out)⟩; have n1_ : Aside0 (Below w.heap.size w wc) := ⟨by rw [← hq_]; exact (by repeat (first | (with_reducible first | exact HB.out | apply below_alloc | apply pw_below_drewN | apply below_drew1 | refine below_set ?_ GE257.out) | exact HB.out))⟩; clear BK257 HB hq_; have BK257 := n0_; have HB := n1_; clear n0_ n1_)); have hcz20_0 : wc.cell? ⟨gb257, 0, none⟩ = some (.int .i64 0) := (blk_cell BK257.out 0).trans rfl; have hcz20_1 : wc.cell? ⟨gb257, 1, none⟩ = some (.int .i64 0) := (blk_cell BK257.out 1).trans rfl; have hcz20_2 : wc.cell? ⟨gb257, 2, none⟩ = some (.string (⟨#[]⟩ : ByteArray)) := (blk_cell BK257.out 2).trans rfl; have hcz20_3 : wc.cell? ⟨gb257, 3, none⟩ = some (.bool false) := (blk_cell BK257.out 3).trans rfl; have hcz20_4 : wc.cell? ⟨gb257, 4, none⟩ = some (.int .i64 0) := (blk_cell BK257.out 4).trans rfl; have hcz20_5 : wc.cell? ⟨gb257, 5, none⟩ = some (.int .i64 0) := (blk_cell BK257.out 5).trans rfl; have hfz20_0 := blk_frozen BK257.out 0; have hfz20_1 := blk_frozen BK257.out 1; have hfz20_2 := blk_frozen BK257.out 2; have hfz20_3 := blk_frozen BK257.out 3; have hfz20_4 := blk_frozen BK257.out 4; have hfz20_5 := blk_frozen BK257.out 5))
          refine bodyPost_ret (results_ct rfl _ _ gb257 36 #[.int .i64 0, .int .i64 0, .string (⟨#[]⟩ : ByteArray), .bool false, .int .i64 0, .int .i64 0] (0, 0) _ rfl (by (with_reducible repeat (first | refine blk_drewN ?_ _ | refine blk_drew ?_ | refine blk_alloc ?_ _)); refine blk_put (cs := #[.int .i64 0, .int .i64 0, .string (⟨#[]⟩ : ByteArray), .bool false, .int .i64 0, .int .i64 0]) ?_ 5 _ rfl; (with_reducible repeat (first | refine blk_drewN ?_ _ | refine blk_drew ?_ | refine blk_alloc ?_ _)); refine blk_put (cs := #[.int .i64 0, .int .i64 0, .string (⟨#[]⟩ : ByteArray), .bool false, .int .i64 0, .int .i64 0]) ?_ 4 _ rfl; (with_reducible repeat (first | refine blk_drewN ?_ _ | refine blk_drew ?_ | refine blk_alloc ?_ _)); refine blk_put (cs := #[.int .i64 0, .int .i64 0, .string (⟨#[]⟩ : ByteArray), .bool false, .int .i64 0, .int .i64 0]) ?_ 3 _ rfl; (with_reducible repeat (first | refine blk_drewN ?_ _ | refine blk_drew ?_ | refine blk_alloc ?_ _)); refine blk_put (cs := #[.int .i64 0, .int .i64 0, .string (⟨#[]⟩ : ByteArray), .bool false, .int .i64 0, .int .i64 0]) ?_ 2 _ rfl; (with_reducible repeat (first | refine blk_drewN ?_ _ | refine blk_drew ?_ | refine blk_alloc ?_ _)); refine blk_put (cs := #[.int .i64 0, .int .i64 0, .string (⟨#[]⟩ : ByteArray), .bool false, .int .i64 0, .int .i64 0]) ?_ 1 _ rfl; (with_reducible repeat (first | refine blk_drewN ?_ _ | refine blk_drew ?_ | refine blk_alloc ?_ _)); refine blk_put (cs := #[.int .i64 0, .int .i64 0, .string (⟨#[]⟩ : ByteArray), .bool false, .int .i64 0, .int .i64 0]) ?_ 0 _ rfl; (with_reducible repeat (first | refine blk_drewN ?_ _ | refine blk_drew ?_ | refine blk_alloc ?_ _)); exact BK257.out) Tryz.underlying36 rfl (by kernel_rfl)) rfl ?_
          exact ⟨by first | rfl | (simp [errW_none, errW_some] <;> rfl) | (simp [*, errW_none, errW_some] <;> rfl), by repeat (first | (with_reducible first | exact HB.out | apply below_alloc | apply pw_below_drewN | apply below_drew1 | refine below_set ?_ GE257.out) | exact HB.out)⟩
         ·rw [if_neg c19] at H
          have c19b0 : decide (100 < t259) = false := decide_eq_false c19
          clear c19
          simp only [Option.some.injEq, Prod.mk.injEq] at H
          obtain ⟨rfl, rfl, rfl, rfl, rfl, rfl, rfl⟩ := H
          go_wp2_with (first | ((with_reducible refine gate_callee (f := 47) rfl ?_); refine goesL_ (some 33) rfl rfl Tryz.func47 (by kernel_rfl) rfl #[.string (a0.extract 0 (x4_1 : Int).toNat), .int .i64 3] rfl (by (try simp only [List.map_toArray, List.map_cons, List.map_nil]); first | done | rfl | (simp only [List.length_drop, List.length_take]; rfl)) ?_; (with_reducible refine (spillwayref2_Whole.calls kj8 (a0.extract 0 (x4_1 : Int).toNat) 3 t259 _ A16.out).mono ?_); rintro e w' ⟨rfl, ⟨nd, rfl⟩⟩; refine ⟨_, rfl, ?_⟩; (try (rw [drewN_self wc]; generalize hq_ : World.drewN wc _ = wc; have n0_ : Aside0 (wc.heap[gb257]? = some (.cells #[.int .i64 0, .int .i64 0, .string (⟨#[]⟩ : ByteArray), .bool false, .int .i64 0, .int .i64 0] 36 (0, 0))) := ⟨by rw [← hq_]; exact (by (with_reducible repeat (first | refine blk_drewN ?_ _ | refine blk_drew ?_ | refine blk_alloc ?_ _)); exact BK257.out)⟩; have n1_ : Aside0 (Below w.heap.size w wc) := ⟨by rw [← hq_]; exact (by repeat (first | (with_reducible first | exact HB.out | apply below_alloc | apply pw_below_drewN | apply below_drew1 | refine below_set ?_ GE257.out) | exact HB.out))⟩; clear BK257 HB hq_; have BK257 := n0_; have HB := n1_; clear n0_ n1_)); have hcz21_0 : wc.cell? ⟨gb257, 0, none⟩ = some (.int .i64 0) := (blk_cell BK257.out 0).trans rfl; have hcz21_1 : wc.cell? ⟨gb257, 1, none⟩ = some (.int .i64 0) := (blk_cell BK257.out 1).trans rfl; have hcz21_2 : wc.cell? ⟨gb257, 2, none⟩ = some (.string (⟨#[]⟩ : ByteArray)) := (blk_cell BK257.out 2).trans rfl; have hcz21_3 : wc.cell? ⟨gb257, 3, none⟩ = some (.bool false) := (blk_cell BK257.out 3).trans rfl; have hcz21_4 : wc.cell? ⟨gb257, 4, none⟩ = some (.int .i64 0) := (blk_cell BK257.out 4).trans rfl; have hcz21_5 : wc.cell? ⟨gb257, 5, none⟩ = some (.int .i64 0) := (blk_cell BK257.out 5).trans rfl; have hfz21_0 := blk_frozen BK257.out 0; have hfz21_1 := blk_frozen BK257.out 1; have hfz21_2 := blk_frozen BK257.out 2; have hfz21_3 := blk_frozen BK257.out 3; have hfz21_4 := blk_frozen BK257.out 4; have hfz21_5 := blk_frozen BK257.out 5))
          refine bodyPost_ret (results_ct rfl _ _ gb257 36 #[.int .i64 3, .int .i64 0, .string (⟨#[]⟩ : ByteArray), .bool false, .int .i64 0, .int .i64 t259] (0, 0) _ rfl (by (with_reducible repeat (first | refine blk_drewN ?_ _ | refine blk_drew ?_ | refine blk_alloc ?_ _)); refine blk_put (cs := #[.int .i64 3, .int .i64 0, .string (⟨#[]⟩ : ByteArray), .bool false, .int .i64 0, .int .i64 0]) ?_ 5 _ rfl; (with_reducible repeat (first | refine blk_drewN ?_ _ | refine blk_drew ?_ | refine blk_alloc ?_ _)); refine blk_put (cs := #[.int .i64 3, .int .i64 0, .string (⟨#[]⟩ : ByteArray), .bool false, .int .i64 0, .int .i64 0]) ?_ 4 _ rfl; (with_reducible repeat (first | refine blk_drewN ?_ _ | refine blk_drew ?_ | refine blk_alloc ?_ _)); refine blk_put (cs := #[.int .i64 3, .int .i64 0, .string (⟨#[]⟩ : ByteArray), .bool false, .int .i64 0, .int .i64 0]) ?_ 3 _ rfl; (with_reducible repeat (first | refine blk_drewN ?_ _ | refine blk_drew ?_ | refine blk_alloc ?_ _)); refine blk_put (cs := #[.int .i64 3, .int .i64 0, .string (⟨#[]⟩ : ByteArray), .bool false, .int .i64 0, .int .i64 0]) ?_ 2 _ rfl; (with_reducible repeat (first | refine blk_drewN ?_ _ | refine blk_drew ?_ | refine blk_alloc ?_ _)); refine blk_put (cs := #[.int .i64 3, .int .i64 0, .string (⟨#[]⟩ : ByteArray), .bool false, .int .i64 0, .int .i64 0]) ?_ 1 _ rfl; (with_reducible repeat (first | refine blk_drewN ?_ _ | refine blk_drew ?_ | refine blk_alloc ?_ _)); refine blk_put (cs := #[.int .i64 0, .int .i64 0, .string (⟨#[]⟩ : ByteArray), .bool false, .int .i64 0, .int .i64 0]) ?_ 0 _ rfl; (with_reducible repeat (first | refine blk_drewN ?_ _ | refine blk_drew ?_ | refine blk_alloc ?_ _)); exact BK257.out) Tryz.underlying36 rfl (by kernel_rfl)) rfl ?_
          exact ⟨by first | rfl | (simp [errW_none, errW_some] <;> rfl) | (simp [*, errW_none, errW_some] <;> rfl), by repeat (first | (with_reducible first | exact HB.out | apply below_alloc | apply pw_below_drewN | apply below_drew1 | refine below_set ?_ GE257.out) | exact HB.out)⟩
       ·rw [if_neg c15] at H
        exact absurd H (by simp)
      ·rw [if_neg c14] at H
       exact absurd H (by simp)
     ·replace c13 := Bool.eq_false_iff.mpr c13
      subst c13
      have H1 : (if (wrap64 (x4_1 + 1)) < (a0.size : Int) then (if 0 ≤ x4_1 then (if x4_1 < (a0.size : Int) then (if (bt a0 x4_1) = 46 then (if 0 ≤ (wrap64 (x4_1 + 1)) then ((spillwayref7_digit.f (bt a0 (wrap64 (x4_1 + 1)))).bind fun t260 => (spillwayref7_number.j3 kj8 a0 x4_1 t260)) else (none)) else (spillwayref7_number.j3 kj8 a0 x4_1 false)) else (none)) else (none)) else (spillwayref7_number.j3 kj8 a0 x4_1 false)) = some (r1, r2, r3, r4, r5, r6, r7) := by rw [if_neg (show ¬ (false = true) by decide)] at H; exact H
      clear H
      have H := H1
      clear H1
      have HC22 := Aside0.mk H
      clear H
      go_upto_region 9 with (fail)
      go_cut [62] (fun v62 wc => ∃ (kq : Nat) (x62_21 : Bool), v62 = .bool x62_21 ∧ Aside0 (spillwayref7_number.j3 kq a0 x4_1 x62_21 = some (r1, r2, r3, r4, r5, r6, r7)) ∧ Aside0 (kq ≤ kj8) ∧ Aside0 (wc.heap[gb257]? = some (.cells #[.int .i64 0, .int .i64 0, .string (⟨#[]⟩ : ByteArray), .bool false, .int .i64 0, .int .i64 0] 36 (0, 0))) ∧ Aside0 (Below w.heap.size w wc))
      case first =>
       have H := HC22.out
       clear HC22
       by_cases c23 : (wrap64 (x4_1 + 1)) < (a0.size : Int)
       ·rw [if_pos c23] at H
        have c23b0 : decide ((wrap64 (x4_1 + 1)) < (a0.size : Int)) = true := decide_eq_true c23
        clear c23
        (first | rw [c23b0] | (simp only [i64_w, i32_w]; rw [c23b0]) | skip)
        by_cases c24 : 0 ≤ x4_1
        ·rw [if_pos c24] at H
         have c24b0 : decide (0 ≤ x4_1) = true := decide_eq_true c24
         clear c24
         by_cases c25 : x4_1 < (a0.size : Int)
         ·rw [if_pos c25] at H
          have c25b0 : decide (x4_1 < (a0.size : Int)) = true := decide_eq_true c25
          clear c25
          by_cases c27 : (bt a0 x4_1) = 46
          ·rw [if_pos c27] at H
           have c27b0 : ((bt a0 x4_1) == 46) = true := beq_iff_eq.mpr c27
           have c27b1 : ((bt a0 x4_1) != 46) = false := bne_eq_false_iff_eq.mpr c27
           clear c27
           obtain ⟨ji28, hji28⟩ : ∃ j_ : Int, (wrap64 (x4_1 + 1)) = j_ := ⟨_, rfl⟩
           replace H : (if 0 ≤ (ji28) then ((spillwayref7_digit.f (bt a0 (ji28))).bind fun t260 => (spillwayref7_number.j3 kj8 a0 x4_1 t260)) else (none)) = some (r1, r2, r3, r4, r5, r6, r7) := by first | (rw [hji28] at H; exact H) | (simp only [hji28] at H ⊢; exact H)
           (try rw [hji28] at c23b0)
           have hji28w : (IntKind.i64.wrap (x4_1 + 1)) = ji28 := (i64_w _).trans hji28
           by_cases c29 : 0 ≤ (ji28)
           ·rw [if_pos c29] at H
            have c29b0 : decide (0 ≤ (ji28)) = true := decide_eq_true c29
            clear c29
            replace H := Option.bind_eq_some_iff.mp H
            obtain ⟨t260, A310, H⟩ := H
            replace H : (spillwayref7_number.j3 kj8 a0 x4_1 t260) = some (r1, r2, r3, r4, r5, r6, r7) := H
            have A31 := Aside0.mk A310
            clear A310
            have H' := Aside0.mk H
            clear H
            have p26 : 0 ≤ (x4_1 : Int) := of_decide_eq_true (by first | (with_reducible assumption) | assumption)
            have q26 : x4_1 < (a0.size : Int) := of_decide_eq_true (by first | (with_reducible assumption) | assumption)
            have hx26 := bt_at a0 x4_1
            replace p26 := eq_true p26
            replace q26 := eq_true q26
            have p30 : 0 ≤ ((ji28) : Int) := of_decide_eq_true (by first | (with_reducible assumption) | assumption)
            have q30 : (ji28) < (a0.size : Int) := of_decide_eq_true (by first | (with_reducible assumption) | assumption)
            have hx30 := bt_at a0 (ji28)
            replace p30 := eq_true p30
            replace q30 := eq_true q30
            go_wp2_with (first | (go_at_call 30; (with_reducible refine (spillwayref7_digit.calls (bt a0 (ji28)) t260 _ A31.out).mono ?_); rintro e w' ⟨rfl, ⟨nd, rfl⟩⟩))
            go_meet
            case rel => exact ⟨_, (t260), (by first | rfl | (simp; done) | (simp [*]; done)), H', ⟨by have := HJ1.out; have := HJ8.out; first | omega | exact Nat.le_refl _⟩, ⟨by (with_reducible repeat (first | refine blk_drewN ?_ _ | refine blk_drew ?_ | refine blk_alloc ?_ _)); exact BK257.out⟩, ⟨by repeat (first | (with_reducible first | exact HB.out | apply below_alloc | apply pw_below_drewN | apply below_drew1 | refine below_set ?_ GE257.out) | exact HB.out)⟩⟩
           ·rw [if_neg c29] at H
            exact absurd H (by simp)
          ·rw [if_neg c27] at H
           have c27b0 : ((bt a0 x4_1) == 46) = false := beq_eq_false_iff_ne.mpr c27
           have c27b1 : ((bt a0 x4_1) != 46) = true := bne_iff_ne.mpr c27
           have H' := Aside0.mk H
           clear H
           have p26 : 0 ≤ (x4_1 : Int) := of_decide_eq_true (by first | (with_reducible assumption) | assumption)
           have q26 : x4_1 < (a0.size : Int) := of_decide_eq_true (by first | (with_reducible assumption) | assumption)
           have hx26 := bt_at a0 x4_1
           replace p26 := eq_true p26
           replace q26 := eq_true q26
           go_wp2
           go_meet
           case rel => exact ⟨_, (false), (by first | rfl | (simp; done) | (simp [*]; done)), H', ⟨by have := HJ1.out; have := HJ8.out; first | omega | exact Nat.le_refl _⟩, ⟨by (with_reducible repeat (first | refine blk_drewN ?_ _ | refine blk_drew ?_ | refine blk_alloc ?_ _)); exact BK257.out⟩, ⟨by repeat (first | (with_reducible first | exact HB.out | apply below_alloc | apply pw_below_drewN | apply below_drew1 | refine below_set ?_ GE257.out) | exact HB.out)⟩⟩
         ·rw [if_neg c25] at H
          exact absurd H (by simp)
        ·rw [if_neg c24] at H
         exact absurd H (by simp)
       ·rw [if_neg c23] at H
        have c23b0 : decide ((wrap64 (x4_1 + 1)) < (a0.size : Int)) = false := decide_eq_false c23
        clear c23
        (first | rw [c23b0] | (simp only [i64_w, i32_w]; rw [c23b0]) | skip)
        have H' := Aside0.mk H
        clear H
        go_wp2
        go_meet
        case rel => exact ⟨_, (false), (by first | rfl | (simp; done) | (simp [*]; done)), H', ⟨by have := HJ1.out; have := HJ8.out; first | omega | exact Nat.le_refl _⟩, ⟨by (with_reducible repeat (first | refine blk_drewN ?_ _ | refine blk_drew ?_ | refine blk_alloc ?_ _)); exact BK257.out⟩, ⟨by repeat (first | (with_reducible first | exact HB.out | apply below_alloc | apply pw_below_drewN | apply below_drew1 | refine below_set ?_ GE257.out) | exact HB.out)⟩⟩
      case rest =>
       clear HC22
       try clear c1
       try clear p1
       try clear q1
       try clear hx1
       try clear c2
       try clear p2
       try clear q2
       try clear hx2
       try clear c3
       try clear p3
       try clear q3
       try clear hx3
       try clear c4
       try clear c4b0
       try clear c5
       try clear c5b0
       try clear p6
       try clear q6
       try clear hx6
       try clear c8
       try clear c10
       try clear c10b0
       try clear c11
       try clear c11b0
       try clear p12
       try clear q12
       try clear hx12
       try clear c13
       try clear c14
       try clear c14b0
       try clear c14b1
       try clear c15
       try clear c15b0
       try clear c15b1
       try clear c17
       try clear c17b0
       try clear c19
       try clear c19b0
       try clear c23
       try clear c23b0
       try clear c24
       try clear c24b0
       try clear c25
       try clear c25b0
       try clear p26
       try clear q26
       try clear hx26
       try clear c27
       try clear c27b0
       try clear c27b1
       try clear c29
       try clear c29b0
       try clear p30
       try clear q30
       try clear hx30
       try clear c31
       try clear hcz18_0
       try clear hcz18_1
       try clear hcz18_2
       try clear hcz18_3
       try clear hcz18_4
       try clear hcz18_5
       try clear hcz20_0
       try clear hcz20_1
       try clear hcz20_2
       try clear hcz20_3
       try clear hcz20_4
       try clear hcz20_5
       try clear hcz21_0
       try clear hcz21_1
       try clear hcz21_2
       try clear hcz21_3
       try clear hcz21_4
       try clear hcz21_5
       try clear hfz18_0
       try clear hfz18_1
       try clear hfz18_2
       try clear hfz18_3
       try clear hfz18_4
       try clear hfz18_5
       try clear hfz20_0
       try clear hfz20_1
       try clear hfz20_2
       try clear hfz20_3
       try clear hfz20_4
       try clear hfz20_5
       try clear hfz21_0
       try clear hfz21_1
       try clear hfz21_2
       try clear hfz21_3
       try clear hfz21_4
       try clear hfz21_5
       try clear p1
       try clear p12
       try clear p2
       try clear p26
       try clear p30
       try clear p6
       try clear q1
       try clear q12
       try clear q26
       try clear q30
       try clear q6
       obtain ⟨kq, x62_21, rfl, HA, HJ21, BK257, HB⟩ := hcut
       cases kq with
       | zero => exact absurd HA.out (by simp [spillwayref7_number.j3])
       | succ kj21 =>
        have H := HA.out
        clear HA
        simp only [spillwayref7_number.j3] at H
        by_cases c32 : x62_21 = true
        ·subst c32
         have H1 : (spillwayref7_number.l1 kj21 a0 (wrap64 (x4_1 + 1))) = some (r1, r2, r3, r4, r5, r6, r7) := by rw [if_pos rfl] at H; exact H
         clear H
         have H := H1
         clear H1
         have H' := Aside0.mk H
         clear H
         go_wp2
         go_loopg [4] kj21 (fun kq v4 w' => ∃ (x4_4 : Int), v4 = .int .i64 x4_4 ∧ Aside0 (spillwayref7_number.l1 kq a0 x4_4 = some (r1, r2, r3, r4, r5, r6, r7)) ∧ Aside0 (kq ≤ kj21) ∧ Aside0 (w'.heap[gb257]? = some (.cells #[.int .i64 0, .int .i64 0, .string (⟨#[]⟩ : ByteArray), .bool false, .int .i64 0, .int .i64 0] 36 (0, 0))) ∧ Aside0 (Below w.heap.size w w'))
         case atStart => exact ⟨(wrap64 (x4_1 + 1)), (by first | rfl | (simp; done) | (simp [*]; done)), H', ⟨Nat.le_refl _⟩, ⟨by (with_reducible repeat (first | refine blk_drewN ?_ _ | refine blk_drew ?_ | refine blk_alloc ?_ _)); exact BK257.out⟩, ⟨by repeat (first | (with_reducible first | exact HB.out | apply below_alloc | apply pw_below_drewN | apply below_drew1 | refine below_set ?_ GE257.out) | exact HB.out)⟩⟩
         case round =>
          clear H'
          try clear c1
          try clear p1
          try clear q1
          try clear hx1
          try clear c2
          try clear p2
          try clear q2
          try clear hx2
          try clear c3
          try clear p3
          try clear q3
          try clear hx3
          try clear c4
          try clear c4b0
          try clear c5
          try clear c5b0
          try clear p6
          try clear q6
          try clear hx6
          try clear c8
          try clear c10
          try clear c10b0
          try clear c11
          try clear c11b0
          try clear p12
          try clear q12
          try clear hx12
          try clear c13
          try clear c14
          try clear c14b0
          try clear c14b1
          try clear c15
          try clear c15b0
          try clear c15b1
          try clear c17
          try clear c17b0
          try clear c19
          try clear c19b0
          try clear c23
          try clear c23b0
          try clear c24
          try clear c24b0
          try clear c25
          try clear c25b0
          try clear p26
          try clear q26
          try clear hx26
          try clear c27
          try clear c27b0
          try clear c27b1
          try clear c29
          try clear c29b0
          try clear p30
          try clear q30
          try clear hx30
          try clear c31
          try clear c32
          try clear hcz18_0
          try clear hcz18_1
          try clear hcz18_2
          try clear hcz18_3
          try clear hcz18_4
          try clear hcz18_5
          try clear hcz20_0
          try clear hcz20_1
          try clear hcz20_2
          try clear hcz20_3
          try clear hcz20_4
          try clear hcz20_5
          try clear hcz21_0
          try clear hcz21_1
          try clear hcz21_2
          try clear hcz21_3
          try clear hcz21_4
          try clear hcz21_5
          try clear hfz18_0
          try clear hfz18_1
          try clear hfz18_2
          try clear hfz18_3
          try clear hfz18_4
          try clear hfz18_5
          try clear hfz20_0
          try clear hfz20_1
          try clear hfz20_2
          try clear hfz20_3
          try clear hfz20_4
          try clear hfz20_5
          try clear hfz21_0
          try clear hfz21_1
          try clear hfz21_2
          try clear hfz21_3
          try clear hfz21_4
          try clear hfz21_5
          try clear p1
          try clear p12
          try clear p2
          try clear p26
          try clear p3
          try clear p30
          try clear p6
          try clear q1
          try clear q12
          try clear q2
          try clear q26
          try clear q3
          try clear q30
          try clear q6
          obtain ⟨x4_4, rfl, HA, HK4, BK257, HB⟩ := hrel
          cases gk with
          | zero => exact absurd HA.out (by simp [spillwayref7_number.l1])
          | succ k4 =>
           have H := HA.out
           clear HA
           simp only [spillwayref7_number.l1] at H
           by_cases c33 : x4_4 < (a0.size : Int)
           ·rw [if_pos c33] at H
            have c33b0 : decide (x4_4 < (a0.size : Int)) = true := decide_eq_true c33
            clear c33
            by_cases c34 : 0 ≤ x4_4
            ·rw [if_pos c34] at H
             have c34b0 : decide (0 ≤ x4_4) = true := decide_eq_true c34
             clear c34
             replace H := Option.bind_eq_some_iff.mp H
             obtain ⟨t261, A360, H⟩ := H
             replace H : (if t261 = true then (spillwayref7_number.l1 k4 a0 (wrap64 (x4_4 + 1))) else (if x4_4 ≤ (a0.size : Int) then ((spillwayref2_Parse.f k4 (a0.extract 0 (x4_4 : Int).toNat)).bind fun bt262 => (if bt262.2.2 = true then (if bt262.1 = true then (some (0, 0, (⟨#[]⟩ : ByteArray), false, 0, 0, 0)) else (some (2, 0, (⟨#[]⟩ : ByteArray), bt262.1, bt262.2.1, 0, x4_4))) else (some (0, 0, (⟨#[]⟩ : ByteArray), false, 0, 0, 0)))) else (none))) = some (r1, r2, r3, r4, r5, r6, r7) := H
             have A36 := Aside0.mk A360
             clear A360
             by_cases c37 : t261 = true
             ·subst c37
              have H1 : (spillwayref7_number.l1 k4 a0 (wrap64 (x4_4 + 1))) = some (r1, r2, r3, r4, r5, r6, r7) := by rw [if_pos rfl] at H; exact H
              clear H
              have H := H1
              clear H1
              have H' := Aside0.mk H
              clear H
              have p35 : 0 ≤ (x4_4 : Int) := of_decide_eq_true (by first | (with_reducible assumption) | assumption)
              have q35 : x4_4 < (a0.size : Int) := of_decide_eq_true (by first | (with_reducible assumption) | assumption)
              have hx35 := bt_at a0 x4_4
              replace p35 := eq_true p35
              replace q35 := eq_true q35
              go_wp2_with (first | (go_at_call 30; (with_reducible refine (spillwayref7_digit.calls (bt a0 x4_4) true _ A36.out).mono ?_); rintro e w' ⟨rfl, ⟨nd, rfl⟩⟩))
              go_roundg k4
              case measure => have := HJ1.out; have := HJ8.out; have := HJ21.out; have := HK4.out; omega
              case rel => exact ⟨(wrap64 (x4_4 + 1)), (by first | rfl | (simp; done) | (simp [*]; done)), H', ⟨by have := HJ1.out; have := HJ8.out; have := HJ21.out; have := HK4.out; omega⟩, ⟨by (with_reducible repeat (first | refine blk_drewN ?_ _ | refine blk_drew ?_ | refine blk_alloc ?_ _)); exact BK257.out⟩, ⟨by repeat (first | (with_reducible first | exact HB.out | apply below_alloc | apply pw_below_drewN | apply below_drew1 | refine below_set ?_ GE257.out) | exact HB.out)⟩⟩
             ·replace c37 := Bool.eq_false_iff.mpr c37
              subst c37
              have H1 : (if x4_4 ≤ (a0.size : Int) then ((spillwayref2_Parse.f k4 (a0.extract 0 (x4_4 : Int).toNat)).bind fun bt262 => (if bt262.2.2 = true then (if bt262.1 = true then (some (0, 0, (⟨#[]⟩ : ByteArray), false, 0, 0, 0)) else (some (2, 0, (⟨#[]⟩ : ByteArray), bt262.1, bt262.2.1, 0, x4_4))) else (some (0, 0, (⟨#[]⟩ : ByteArray), false, 0, 0, 0)))) else (none)) = some (r1, r2, r3, r4, r5, r6, r7) := by rw [if_neg (show ¬ (false = true) by decide)] at H; exact H
              clear H
              have H := H1
              clear H1
              have c38b0 := eq_true (of_decide_eq_true (by first | (with_reducible assumption) | assumption) : 0 ≤ x4_4)
              by_cases c39 : x4_4 ≤ (a0.size : Int)
              ·rw [if_pos c39] at H
               have c39b0 := eq_true c39
               have c39b1 : decide (x4_4 ≤ (a0.size : Int)) = true := decide_eq_true c39
               clear c39
               replace H := Option.bind_eq_some_iff.mp H
               obtain ⟨⟨t262, t263, t264⟩, A400, H⟩ := H
               replace H : (if t264 = true then (if t262 = true then (some (0, 0, (⟨#[]⟩ : ByteArray), false, 0, 0, 0)) else (some (2, 0, (⟨#[]⟩ : ByteArray), t262, t263, 0, x4_4))) else (some (0, 0, (⟨#[]⟩ : ByteArray), false, 0, 0, 0))) = some (r1, r2, r3, r4, r5, r6, r7) := H
               have A40 := Aside0.mk A400
               clear A400
               by_cases c41 : t264 = true
               ·subst c41
                have H1 : (if t262 = true then (some (0, 0, (⟨#[]⟩ : ByteArray), false, 0, 0, 0)) else (some (2, 0, (⟨#[]⟩ : ByteArray), t262, t263, 0, x4_4))) = some (r1, r2, r3, r4, r5, r6, r7) := by rw [if_pos rfl] at H; exact H
                clear H
                have H := H1
                clear H1
                by_cases c42 : t262 = true
                ·subst c42
                 have H1 : (some (0, 0, (⟨#[]⟩ : ByteArray), false, 0, 0, 0)) = some (r1, r2, r3, r4, r5, r6, r7) := by rw [if_pos rfl] at H; exact H
                 clear H
                 have H := H1
                 clear H1
                 simp only [Option.some.injEq, Prod.mk.injEq] at H
                 obtain ⟨rfl, rfl, rfl, rfl, rfl, rfl, rfl⟩ := H
                 have p35 : 0 ≤ (x4_4 : Int) := of_decide_eq_true (by first | (with_reducible assumption) | assumption)
                 have q35 : x4_4 < (a0.size : Int) := of_decide_eq_true (by first | (with_reducible assumption) | assumption)
                 have hx35 := bt_at a0 x4_4
                 replace p35 := eq_true p35
                 replace q35 := eq_true q35
                 go_wp2_with (first | (go_at_call 30; (with_reducible refine (spillwayref7_digit.calls (bt a0 x4_4) false _ A36.out).mono ?_); rintro e w' ⟨rfl, ⟨nd, rfl⟩⟩; (try (rw [drewN_self wr]; generalize hq_ : World.drewN wr _ = wr; have n0_ : Aside0 (wr.heap[gb257]? = some (.cells #[.int .i64 0, .int .i64 0, .string (⟨#[]⟩ : ByteArray), .bool false, .int .i64 0, .int .i64 0] 36 (0, 0))) := ⟨by rw [← hq_]; exact (by (with_reducible repeat (first | refine blk_drewN ?_ _ | refine blk_drew ?_ | refine blk_alloc ?_ _)); exact BK257.out)⟩; have n1_ : Aside0 (Below w.heap.size w wr) := ⟨by rw [← hq_]; exact (by repeat (first | (with_reducible first | exact HB.out | apply below_alloc | apply pw_below_drewN | apply below_drew1 | refine below_set ?_ GE257.out) | exact HB.out))⟩; clear BK257 HB hq_; have BK257 := n0_; have HB := n1_; clear n0_ n1_))) | ((with_reducible refine gate_callee (f := 48) rfl ?_); refine goesL_ (some 81) rfl rfl Tryz.func48 (by kernel_rfl) rfl #[.string (a0.extract 0 (x4_4 : Int).toNat)] rfl (by (try simp only [List.map_toArray, List.map_cons, List.map_nil]); first | done | rfl | (simp only [List.length_drop, List.length_take]; rfl)) ?_; (with_reducible refine (spillwayref2_Parse.calls k4 (a0.extract 0 (x4_4 : Int).toNat) true t263 true _ A40.out).mono ?_); rintro e w43 ⟨rfl, hb⟩; refine ⟨_, rfl, ?_⟩; have n0_ := Aside0.mk (blk_below (g := gb257) (o := .cells #[.int .i64 0, .int .i64 0, .string (⟨#[]⟩ : ByteArray), .bool false, .int .i64 0, .int .i64 0] 36 (0, 0)) (by (with_reducible repeat (first | refine blk_drewN ?_ _ | refine blk_drew ?_ | refine blk_alloc ?_ _)); exact BK257.out) hb); have n1_ := Aside0.mk (below_step (by repeat (first | (with_reducible first | exact HB.out | apply below_alloc | apply pw_below_drewN | apply below_drew1 | refine below_set ?_ GE257.out) | exact HB.out)) hb); clear BK257; clear HB; have BK257 := n0_; have HB := n1_; clear n0_ n1_; (try clear hb); (try clear hb2); (try clear hk); (try clear hi)) | ((with_reducible refine gate_dst (N := 6) rfl ?_); refine box_event ?hg (N := 6) ?hd (cs := #[.bool false, .int .i64 0]) (t := 34) ?hr ?_; (case hd => rfl); (case hg => rfl); (case hr => first | (go_simp; done) | (go_simp; rfl)); intro gb265 hg w44 hbox hb; have n0_ := Aside0.mk (blk_below (g := gb257) (o := .cells #[.int .i64 0, .int .i64 0, .string (⟨#[]⟩ : ByteArray), .bool false, .int .i64 0, .int .i64 0] 36 (0, 0)) (by (with_reducible repeat (first | refine blk_drewN ?_ _ | refine blk_drew ?_ | refine blk_alloc ?_ _)); exact BK257.out) hb); have n1_ := Aside0.mk (below_step (by repeat (first | (with_reducible first | exact HB.out | apply below_alloc | apply pw_below_drewN | apply below_drew1 | refine below_set ?_ GE257.out) | exact HB.out)) hb); have n2_ := Aside0.mk (hbox); have n3_ := Aside0.mk ((by rw [hg]; exact (below_size (by repeat (first | (with_reducible first | exact HB.out | apply below_alloc | apply pw_below_drewN | apply below_drew1 | refine below_set ?_ GE257.out) | exact HB.out))) : w.heap.size ≤ gb265)); have n4_ := Aside0.mk ((by rw [hg]; exact (below_size (by repeat (first | (with_reducible first | exact HB.out | apply below_alloc | apply pw_below_drewN | apply below_drew1 | refine below_set ?_ GE257.out) | exact HB.out))) : w.heap.size ≤ gb265)); have n5_ := Aside0.mk ((by rw [hg]; exact Nat.ne_of_lt (blk_lt (g := gb257) (o := .cells #[.int .i64 0, .int .i64 0, .string (⟨#[]⟩ : ByteArray), .bool false, .int .i64 0, .int .i64 0] 36 (0, 0)) (by (with_reducible repeat (first | refine blk_drewN ?_ _ | refine blk_drew ?_ | refine blk_alloc ?_ _)); exact BK257.out)) : gb257 ≠ gb265)); have n6_ := Aside0.mk ((by rw [hg]; exact Nat.ne_of_gt (blk_lt (g := gb257) (o := .cells #[.int .i64 0, .int .i64 0, .string (⟨#[]⟩ : ByteArray), .bool false, .int .i64 0, .int .i64 0] 36 (0, 0)) (by (with_reducible repeat (first | refine blk_drewN ?_ _ | refine blk_drew ?_ | refine blk_alloc ?_ _)); exact BK257.out)) : gb265 ≠ gb257)); clear BK257; clear HB; have BK257 := n0_; have HB := n1_; have BK265 := n2_; have GW265 := n3_; have GE265 := n4_; have NB257_265 := n5_; have NB265_257 := n6_; clear n0_ n1_ n2_ n3_ n4_ n5_ n6_; clear hb hbox hg; have hnb45 := NB265_257.out; have hnc45 := NB257_265.out; have hcz46_0 : w44.cell? ⟨gb265, 0, none⟩ = some (.bool false) := (blk_cell BK265.out 0).trans rfl; have hcz46_1 : w44.cell? ⟨gb265, 1, none⟩ = some (.int .i64 0) := (blk_cell BK265.out 1).trans rfl; have hfz46_0 := blk_frozen BK265.out 0; have hfz46_1 := blk_frozen BK265.out 1; have hcz47_0 : w44.cell? ⟨gb257, 0, none⟩ = some (.int .i64 0) := (blk_cell BK257.out 0).trans rfl; have hcz47_1 : w44.cell? ⟨gb257, 1, none⟩ = some (.int .i64 0) := (blk_cell BK257.out 1).trans rfl; have hcz47_2 : w44.cell? ⟨gb257, 2, none⟩ = some (.string (⟨#[]⟩ : ByteArray)) := (blk_cell BK257.out 2).trans rfl; have hcz47_3 : w44.cell? ⟨gb257, 3, none⟩ = some (.bool false) := (blk_cell BK257.out 3).trans rfl; have hcz47_4 : w44.cell? ⟨gb257, 4, none⟩ = some (.int .i64 0) := (blk_cell BK257.out 4).trans rfl; have hcz47_5 : w44.cell? ⟨gb257, 5, none⟩ = some (.int .i64 0) := (blk_cell BK257.out 5).trans rfl; have hfz47_0 := blk_frozen BK257.out 0; have hfz47_1 := blk_frozen BK257.out 1; have hfz47_2 := blk_frozen BK257.out 2; have hfz47_3 := blk_frozen BK257.out 3; have hfz47_4 := blk_frozen BK257.out 4; have hfz47_5 := blk_frozen BK257.out 5))
                 refine bodyPost_ret (results_ct rfl _ _ gb257 36 #[.int .i64 0, .int .i64 0, .string (⟨#[]⟩ : ByteArray), .bool false, .int .i64 0, .int .i64 0] (0, 0) _ rfl (by (with_reducible repeat (first | refine blk_drewN ?_ _ | refine blk_drew ?_ | refine blk_alloc ?_ _)); refine blk_put (cs := #[.int .i64 0, .int .i64 0, .string (⟨#[]⟩ : ByteArray), .bool false, .int .i64 0, .int .i64 0]) ?_ 5 _ rfl; (with_reducible repeat (first | refine blk_drewN ?_ _ | refine blk_drew ?_ | refine blk_alloc ?_ _)); refine blk_put (cs := #[.int .i64 0, .int .i64 0, .string (⟨#[]⟩ : ByteArray), .bool false, .int .i64 0, .int .i64 0]) ?_ 4 _ rfl; (with_reducible repeat (first | refine blk_drewN ?_ _ | refine blk_drew ?_ | refine blk_alloc ?_ _)); refine blk_put (cs := #[.int .i64 0, .int .i64 0, .string (⟨#[]⟩ : ByteArray), .bool false, .int .i64 0, .int .i64 0]) ?_ 3 _ rfl; (with_reducible repeat (first | refine blk_drewN ?_ _ | refine blk_drew ?_ | refine blk_alloc ?_ _)); refine blk_put (cs := #[.int .i64 0, .int .i64 0, .string (⟨#[]⟩ : ByteArray), .bool false, .int .i64 0, .int .i64 0]) ?_ 2 _ rfl; (with_reducible repeat (first | refine blk_drewN ?_ _ | refine blk_drew ?_ | refine blk_alloc ?_ _)); refine blk_put (cs := #[.int .i64 0, .int .i64 0, .string (⟨#[]⟩ : ByteArray), .bool false, .int .i64 0, .int .i64 0]) ?_ 1 _ rfl; (with_reducible repeat (first | refine blk_drewN ?_ _ | refine blk_drew ?_ | refine blk_alloc ?_ _)); refine blk_put (cs := #[.int .i64 0, .int .i64 0, .string (⟨#[]⟩ : ByteArray), .bool false, .int .i64 0, .int .i64 0]) ?_ 0 _ rfl; (with_reducible repeat (first | refine blk_drewN ?_ _ | refine blk_drew ?_ | refine blk_alloc ?_ _)); refine blk_far ?_ NB257_265.out _; (with_reducible repeat (first | refine blk_drewN ?_ _ | refine blk_drew ?_ | refine blk_alloc ?_ _)); refine blk_far ?_ NB257_265.out _; (with_reducible repeat (first | refine blk_drewN ?_ _ | refine blk_drew ?_ | refine blk_alloc ?_ _)); exact BK257.out) Tryz.underlying36 rfl (by kernel_rfl)) rfl ?_
                 exact ⟨by first | rfl | (simp [errW_none, errW_some] <;> rfl) | (simp [*, errW_none, errW_some] <;> rfl), by repeat (first | (with_reducible first | exact HB.out | apply below_alloc | apply pw_below_drewN | apply below_drew1 | refine below_set ?_ GE257.out | refine below_set ?_ GE265.out) | exact HB.out)⟩
                ·replace c42 := Bool.eq_false_iff.mpr c42
                 subst c42
                 have H1 : (some (2, 0, (⟨#[]⟩ : ByteArray), false, t263, 0, x4_4)) = some (r1, r2, r3, r4, r5, r6, r7) := by rw [if_neg (show ¬ (false = true) by decide)] at H; exact H
                 clear H
                 have H := H1
                 clear H1
                 simp only [Option.some.injEq, Prod.mk.injEq] at H
                 obtain ⟨rfl, rfl, rfl, rfl, rfl, rfl, rfl⟩ := H
                 have p35 : 0 ≤ (x4_4 : Int) := of_decide_eq_true (by first | (with_reducible assumption) | assumption)
                 have q35 : x4_4 < (a0.size : Int) := of_decide_eq_true (by first | (with_reducible assumption) | assumption)
                 have hx35 := bt_at a0 x4_4
                 replace p35 := eq_true p35
                 replace q35 := eq_true q35
                 go_wp2_with (first | (go_at_call 30; (with_reducible refine (spillwayref7_digit.calls (bt a0 x4_4) false _ A36.out).mono ?_); rintro e w' ⟨rfl, ⟨nd, rfl⟩⟩; (try (rw [drewN_self wr]; generalize hq_ : World.drewN wr _ = wr; have n0_ : Aside0 (wr.heap[gb257]? = some (.cells #[.int .i64 0, .int .i64 0, .string (⟨#[]⟩ : ByteArray), .bool false, .int .i64 0, .int .i64 0] 36 (0, 0))) := ⟨by rw [← hq_]; exact (by (with_reducible repeat (first | refine blk_drewN ?_ _ | refine blk_drew ?_ | refine blk_alloc ?_ _)); exact BK257.out)⟩; have n1_ : Aside0 (Below w.heap.size w wr) := ⟨by rw [← hq_]; exact (by repeat (first | (with_reducible first | exact HB.out | apply below_alloc | apply pw_below_drewN | apply below_drew1 | refine below_set ?_ GE257.out) | exact HB.out))⟩; clear BK257 HB hq_; have BK257 := n0_; have HB := n1_; clear n0_ n1_))) | ((with_reducible refine gate_callee (f := 48) rfl ?_); refine goesL_ (some 81) rfl rfl Tryz.func48 (by kernel_rfl) rfl #[.string (a0.extract 0 (x4_4 : Int).toNat)] rfl (by (try simp only [List.map_toArray, List.map_cons, List.map_nil]); first | done | rfl | (simp only [List.length_drop, List.length_take]; rfl)) ?_; (with_reducible refine (spillwayref2_Parse.calls k4 (a0.extract 0 (x4_4 : Int).toNat) false t263 true _ A40.out).mono ?_); rintro e w48 ⟨rfl, hb⟩; refine ⟨_, rfl, ?_⟩; have n0_ := Aside0.mk (blk_below (g := gb257) (o := .cells #[.int .i64 0, .int .i64 0, .string (⟨#[]⟩ : ByteArray), .bool false, .int .i64 0, .int .i64 0] 36 (0, 0)) (by (with_reducible repeat (first | refine blk_drewN ?_ _ | refine blk_drew ?_ | refine blk_alloc ?_ _)); exact BK257.out) hb); have n1_ := Aside0.mk (below_step (by repeat (first | (with_reducible first | exact HB.out | apply below_alloc | apply pw_below_drewN | apply below_drew1 | refine below_set ?_ GE257.out) | exact HB.out)) hb); clear BK257; clear HB; have BK257 := n0_; have HB := n1_; clear n0_ n1_; (try clear hb); (try clear hb2); (try clear hk); (try clear hi)) | ((with_reducible refine gate_dst (N := 6) rfl ?_); refine box_event ?hg (N := 6) ?hd (cs := #[.bool false, .int .i64 0]) (t := 34) ?hr ?_; (case hd => rfl); (case hg => rfl); (case hr => first | (go_simp; done) | (go_simp; rfl)); intro gb265 hg w49 hbox hb; have n0_ := Aside0.mk (blk_below (g := gb257) (o := .cells #[.int .i64 0, .int .i64 0, .string (⟨#[]⟩ : ByteArray), .bool false, .int .i64 0, .int .i64 0] 36 (0, 0)) (by (with_reducible repeat (first | refine blk_drewN ?_ _ | refine blk_drew ?_ | refine blk_alloc ?_ _)); exact BK257.out) hb); have n1_ := Aside0.mk (below_step (by repeat (first | (with_reducible first | exact HB.out | apply below_alloc | apply pw_below_drewN | apply below_drew1 | refine below_set ?_ GE257.out) | exact HB.out)) hb); have n2_ := Aside0.mk (hbox); have n3_ := Aside0.mk ((by rw [hg]; exact (below_size (by repeat (first | (with_reducible first | exact HB.out | apply below_alloc | apply pw_below_drewN | apply below_drew1 | refine below_set ?_ GE257.out) | exact HB.out))) : w.heap.size ≤ gb265)); have n4_ := Aside0.mk ((by rw [hg]; exact (below_size (by repeat (first | (with_reducible first | exact HB.out | apply below_alloc | apply pw_below_drewN | apply below_drew1 | refine below_set ?_ GE257.out) | exact HB.out))) : w.heap.size ≤ gb265)); have n5_ := Aside0.mk ((by rw [hg]; exact Nat.ne_of_lt (blk_lt (g := gb257) (o := .cells #[.int .i64 0, .int .i64 0, .string (⟨#[]⟩ : ByteArray), .bool false, .int .i64 0, .int .i64 0] 36 (0, 0)) (by (with_reducible repeat (first | refine blk_drewN ?_ _ | refine blk_drew ?_ | refine blk_alloc ?_ _)); exact BK257.out)) : gb257 ≠ gb265)); have n6_ := Aside0.mk ((by rw [hg]; exact Nat.ne_of_gt (blk_lt (g := gb257) (o := .cells #[.int .i64 0, .int .i64 0, .string (⟨#[]⟩ : ByteArray), .bool false, .int .i64 0, .int .i64 0] 36 (0, 0)) (by (with_reducible repeat (first | refine blk_drewN ?_ _ | refine blk_drew ?_ | refine blk_alloc ?_ _)); exact BK257.out)) : gb265 ≠ gb257)); clear BK257; clear HB; have BK257 := n0_; have HB := n1_; have BK265 := n2_; have GW265 := n3_; have GE265 := n4_; have NB257_265 := n5_; have NB265_257 := n6_; clear n0_ n1_ n2_ n3_ n4_ n5_ n6_; clear hb hbox hg; have hnb50 := NB265_257.out; have hnc50 := NB257_265.out; have hcz51_0 : w49.cell? ⟨gb265, 0, none⟩ = some (.bool false) := (blk_cell BK265.out 0).trans rfl; have hcz51_1 : w49.cell? ⟨gb265, 1, none⟩ = some (.int .i64 0) := (blk_cell BK265.out 1).trans rfl; have hfz51_0 := blk_frozen BK265.out 0; have hfz51_1 := blk_frozen BK265.out 1; have hcz52_0 : w49.cell? ⟨gb257, 0, none⟩ = some (.int .i64 0) := (blk_cell BK257.out 0).trans rfl; have hcz52_1 : w49.cell? ⟨gb257, 1, none⟩ = some (.int .i64 0) := (blk_cell BK257.out 1).trans rfl; have hcz52_2 : w49.cell? ⟨gb257, 2, none⟩ = some (.string (⟨#[]⟩ : ByteArray)) := (blk_cell BK257.out 2).trans rfl; have hcz52_3 : w49.cell? ⟨gb257, 3, none⟩ = some (.bool false) := (blk_cell BK257.out 3).trans rfl; have hcz52_4 : w49.cell? ⟨gb257, 4, none⟩ = some (.int .i64 0) := (blk_cell BK257.out 4).trans rfl; have hcz52_5 : w49.cell? ⟨gb257, 5, none⟩ = some (.int .i64 0) := (blk_cell BK257.out 5).trans rfl; have hfz52_0 := blk_frozen BK257.out 0; have hfz52_1 := blk_frozen BK257.out 1; have hfz52_2 := blk_frozen BK257.out 2; have hfz52_3 := blk_frozen BK257.out 3; have hfz52_4 := blk_frozen BK257.out 4; have hfz52_5 := blk_frozen BK257.out 5))
                 refine bodyPost_ret (results_ct rfl _ _ gb257 36 #[.int .i64 2, .int .i64 0, .string (⟨#[]⟩ : ByteArray), .bool false, .int .i64 t263, .int .i64 0] (0, 0) _ rfl (by (with_reducible repeat (first | refine blk_drewN ?_ _ | refine blk_drew ?_ | refine blk_alloc ?_ _)); refine blk_put (cs := #[.int .i64 2, .int .i64 0, .string (⟨#[]⟩ : ByteArray), .bool false, .int .i64 t263, .int .i64 0]) ?_ 5 _ rfl; (with_reducible repeat (first | refine blk_drewN ?_ _ | refine blk_drew ?_ | refine blk_alloc ?_ _)); refine blk_put (cs := #[.int .i64 2, .int .i64 0, .string (⟨#[]⟩ : ByteArray), .bool false, .int .i64 0, .int .i64 0]) ?_ 4 _ rfl; (with_reducible repeat (first | refine blk_drewN ?_ _ | refine blk_drew ?_ | refine blk_alloc ?_ _)); refine blk_put (cs := #[.int .i64 2, .int .i64 0, .string (⟨#[]⟩ : ByteArray), .bool false, .int .i64 0, .int .i64 0]) ?_ 3 _ rfl; (with_reducible repeat (first | refine blk_drewN ?_ _ | refine blk_drew ?_ | refine blk_alloc ?_ _)); refine blk_put (cs := #[.int .i64 2, .int .i64 0, .string (⟨#[]⟩ : ByteArray), .bool false, .int .i64 0, .int .i64 0]) ?_ 2 _ rfl; (with_reducible repeat (first | refine blk_drewN ?_ _ | refine blk_drew ?_ | refine blk_alloc ?_ _)); refine blk_put (cs := #[.int .i64 2, .int .i64 0, .string (⟨#[]⟩ : ByteArray), .bool false, .int .i64 0, .int .i64 0]) ?_ 1 _ rfl; (with_reducible repeat (first | refine blk_drewN ?_ _ | refine blk_drew ?_ | refine blk_alloc ?_ _)); refine blk_put (cs := #[.int .i64 0, .int .i64 0, .string (⟨#[]⟩ : ByteArray), .bool false, .int .i64 0, .int .i64 0]) ?_ 0 _ rfl; (with_reducible repeat (first | refine blk_drewN ?_ _ | refine blk_drew ?_ | refine blk_alloc ?_ _)); refine blk_far ?_ NB257_265.out _; (with_reducible repeat (first | refine blk_drewN ?_ _ | refine blk_drew ?_ | refine blk_alloc ?_ _)); refine blk_far ?_ NB257_265.out _; (with_reducible repeat (first | refine blk_drewN ?_ _ | refine blk_drew ?_ | refine blk_alloc ?_ _)); exact BK257.out) Tryz.underlying36 rfl (by kernel_rfl)) rfl ?_
                 exact ⟨by first | rfl | (simp [errW_none, errW_some] <;> rfl) | (simp [*, errW_none, errW_some] <;> rfl), by repeat (first | (with_reducible first | exact HB.out | apply below_alloc | apply pw_below_drewN | apply below_drew1 | refine below_set ?_ GE257.out | refine below_set ?_ GE265.out) | exact HB.out)⟩
               ·replace c41 := Bool.eq_false_iff.mpr c41
                subst c41
                have H1 : (some (0, 0, (⟨#[]⟩ : ByteArray), false, 0, 0, 0)) = some (r1, r2, r3, r4, r5, r6, r7) := by rw [if_neg (show ¬ (false = true) by decide)] at H; exact H
                clear H
                have H := H1
                clear H1
                simp only [Option.some.injEq, Prod.mk.injEq] at H
                obtain ⟨rfl, rfl, rfl, rfl, rfl, rfl, rfl⟩ := H
                have p35 : 0 ≤ (x4_4 : Int) := of_decide_eq_true (by first | (with_reducible assumption) | assumption)
                have q35 : x4_4 < (a0.size : Int) := of_decide_eq_true (by first | (with_reducible assumption) | assumption)
                have hx35 := bt_at a0 x4_4
                replace p35 := eq_true p35
                replace q35 := eq_true q35
                go_wp2_with (first | (go_at_call 30; (with_reducible refine (spillwayref7_digit.calls (bt a0 x4_4) false _ A36.out).mono ?_); rintro e w' ⟨rfl, ⟨nd, rfl⟩⟩; (try (rw [drewN_self wr]; generalize hq_ : World.drewN wr _ = wr; have n0_ : Aside0 (wr.heap[gb257]? = some (.cells #[.int .i64 0, .int .i64 0, .string (⟨#[]⟩ : ByteArray), .bool false, .int .i64 0, .int .i64 0] 36 (0, 0))) := ⟨by rw [← hq_]; exact (by (with_reducible repeat (first | refine blk_drewN ?_ _ | refine blk_drew ?_ | refine blk_alloc ?_ _)); exact BK257.out)⟩; have n1_ : Aside0 (Below w.heap.size w wr) := ⟨by rw [← hq_]; exact (by repeat (first | (with_reducible first | exact HB.out | apply below_alloc | apply pw_below_drewN | apply below_drew1 | refine below_set ?_ GE257.out) | exact HB.out))⟩; clear BK257 HB hq_; have BK257 := n0_; have HB := n1_; clear n0_ n1_))) | ((with_reducible refine gate_callee (f := 48) rfl ?_); refine goesL_ (some 81) rfl rfl Tryz.func48 (by kernel_rfl) rfl #[.string (a0.extract 0 (x4_4 : Int).toNat)] rfl (by (try simp only [List.map_toArray, List.map_cons, List.map_nil]); first | done | rfl | (simp only [List.length_drop, List.length_take]; rfl)) ?_; (with_reducible refine (spillwayref2_Parse.calls k4 (a0.extract 0 (x4_4 : Int).toNat) t262 t263 false _ A40.out).mono ?_); rintro e w53 ⟨rfl, hb⟩; refine ⟨_, rfl, ?_⟩; have n0_ := Aside0.mk (blk_below (g := gb257) (o := .cells #[.int .i64 0, .int .i64 0, .string (⟨#[]⟩ : ByteArray), .bool false, .int .i64 0, .int .i64 0] 36 (0, 0)) (by (with_reducible repeat (first | refine blk_drewN ?_ _ | refine blk_drew ?_ | refine blk_alloc ?_ _)); exact BK257.out) hb); have n1_ := Aside0.mk (below_step (by repeat (first | (with_reducible first | exact HB.out | apply below_alloc | apply pw_below_drewN | apply below_drew1 | refine below_set ?_ GE257.out) | exact HB.out)) hb); clear BK257; clear HB; have BK257 := n0_; have HB := n1_; clear n0_ n1_; (try clear hb); (try clear hb2); (try clear hk); (try clear hi)) | ((with_reducible refine gate_dst (N := 6) rfl ?_); refine box_event ?hg (N := 6) ?hd (cs := #[.bool false, .int .i64 0]) (t := 34) ?hr ?_; (case hd => rfl); (case hg => rfl); (case hr => first | (go_simp; done) | (go_simp; rfl)); intro gb265 hg w54 hbox hb; have n0_ := Aside0.mk (blk_below (g := gb257) (o := .cells #[.int .i64 0, .int .i64 0, .string (⟨#[]⟩ : ByteArray), .bool false, .int .i64 0, .int .i64 0] 36 (0, 0)) (by (with_reducible repeat (first | refine blk_drewN ?_ _ | refine blk_drew ?_ | refine blk_alloc ?_ _)); exact BK257.out) hb); have n1_ := Aside0.mk (below_step (by repeat (first | (with_reducible first | exact HB.out | apply below_alloc | apply pw_below_drewN | apply below_drew1 | refine below_set ?_ GE257.out) | exact HB.out)) hb); have n2_ := Aside0.mk (hbox); have n3_ := Aside0.mk ((by rw [hg]; exact (below_size (by repeat (first | (with_reducible first | exact HB.out | apply below_alloc | apply pw_below_drewN | apply below_drew1 | refine below_set ?_ GE257.out) | exact HB.out))) : w.heap.size ≤ gb265)); have n4_ := Aside0.mk ((by rw [hg]; exact (below_size (by repeat (first | (with_reducible first | exact HB.out | apply below_alloc | apply pw_below_drewN | apply below_drew1 | refine below_set ?_ GE257.out) | exact HB.out))) : w.heap.size ≤ gb265)); have n5_ := Aside0.mk ((by rw [hg]; exact Nat.ne_of_lt (blk_lt (g := gb257) (o := .cells #[.int .i64 0, .int .i64 0, .string (⟨#[]⟩ : ByteArray), .bool false, .int .i64 0, .int .i64 0] 36 (0, 0)) (by (with_reducible repeat (first | refine blk_drewN ?_ _ | refine blk_drew ?_ | refine blk_alloc ?_ _)); exact BK257.out)) : gb257 ≠ gb265)); have n6_ := Aside0.mk ((by rw [hg]; exact Nat.ne_of_gt (blk_lt (g := gb257) (o := .cells #[.int .i64 0, .int .i64 0, .string (⟨#[]⟩ : ByteArray), .bool false, .int .i64 0, .int .i64 0] 36 (0, 0)) (by (with_reducible repeat (first | refine blk_drewN ?_ _ | refine blk_drew ?_ | refine blk_alloc ?_ _)); exact BK257.out)) : gb265 ≠ gb257)); clear BK257; clear HB; have BK257 := n0_; have HB := n1_; have BK265 := n2_; have GW265 := n3_; have GE265 := n4_; have NB257_265 := n5_; have NB265_257 := n6_; clear n0_ n1_ n2_ n3_ n4_ n5_ n6_; clear hb hbox hg; have hnb55 := NB265_257.out; have hnc55 := NB257_265.out; have hcz56_0 : w54.cell? ⟨gb265, 0, none⟩ = some (.bool false) := (blk_cell BK265.out 0).trans rfl; have hcz56_1 : w54.cell? ⟨gb265, 1, none⟩ = some (.int .i64 0) := (blk_cell BK265.out 1).trans rfl; have hfz56_0 := blk_frozen BK265.out 0; have hfz56_1 := blk_frozen BK265.out 1; have hcz57_0 : w54.cell? ⟨gb257, 0, none⟩ = some (.int .i64 0) := (blk_cell BK257.out 0).trans rfl; have hcz57_1 : w54.cell? ⟨gb257, 1, none⟩ = some (.int .i64 0) := (blk_cell BK257.out 1).trans rfl; have hcz57_2 : w54.cell? ⟨gb257, 2, none⟩ = some (.string (⟨#[]⟩ : ByteArray)) := (blk_cell BK257.out 2).trans rfl; have hcz57_3 : w54.cell? ⟨gb257, 3, none⟩ = some (.bool false) := (blk_cell BK257.out 3).trans rfl; have hcz57_4 : w54.cell? ⟨gb257, 4, none⟩ = some (.int .i64 0) := (blk_cell BK257.out 4).trans rfl; have hcz57_5 : w54.cell? ⟨gb257, 5, none⟩ = some (.int .i64 0) := (blk_cell BK257.out 5).trans rfl; have hfz57_0 := blk_frozen BK257.out 0; have hfz57_1 := blk_frozen BK257.out 1; have hfz57_2 := blk_frozen BK257.out 2; have hfz57_3 := blk_frozen BK257.out 3; have hfz57_4 := blk_frozen BK257.out 4; have hfz57_5 := blk_frozen BK257.out 5))
                refine bodyPost_ret (results_ct rfl _ _ gb257 36 #[.int .i64 0, .int .i64 0, .string (⟨#[]⟩ : ByteArray), .bool false, .int .i64 0, .int .i64 0] (0, 0) _ rfl (by (with_reducible repeat (first | refine blk_drewN ?_ _ | refine blk_drew ?_ | refine blk_alloc ?_ _)); refine blk_put (cs := #[.int .i64 0, .int .i64 0, .string (⟨#[]⟩ : ByteArray), .bool false, .int .i64 0, .int .i64 0]) ?_ 5 _ rfl; (with_reducible repeat (first | refine blk_drewN ?_ _ | refine blk_drew ?_ | refine blk_alloc ?_ _)); refine blk_put (cs := #[.int .i64 0, .int .i64 0, .string (⟨#[]⟩ : ByteArray), .bool false, .int .i64 0, .int .i64 0]) ?_ 4 _ rfl; (with_reducible repeat (first | refine blk_drewN ?_ _ | refine blk_drew ?_ | refine blk_alloc ?_ _)); refine blk_put (cs := #[.int .i64 0, .int .i64 0, .string (⟨#[]⟩ : ByteArray), .bool false, .int .i64 0, .int .i64 0]) ?_ 3 _ rfl; (with_reducible repeat (first | refine blk_drewN ?_ _ | refine blk_drew ?_ | refine blk_alloc ?_ _)); refine blk_put (cs := #[.int .i64 0, .int .i64 0, .string (⟨#[]⟩ : ByteArray), .bool false, .int .i64 0, .int .i64 0]) ?_ 2 _ rfl; (with_reducible repeat (first | refine blk_drewN ?_ _ | refine blk_drew ?_ | refine blk_alloc ?_ _)); refine blk_put (cs := #[.int .i64 0, .int .i64 0, .string (⟨#[]⟩ : ByteArray), .bool false, .int .i64 0, .int .i64 0]) ?_ 1 _ rfl; (with_reducible repeat (first | refine blk_drewN ?_ _ | refine blk_drew ?_ | refine blk_alloc ?_ _)); refine blk_put (cs := #[.int .i64 0, .int .i64 0, .string (⟨#[]⟩ : ByteArray), .bool false, .int .i64 0, .int .i64 0]) ?_ 0 _ rfl; (with_reducible repeat (first | refine blk_drewN ?_ _ | refine blk_drew ?_ | refine blk_alloc ?_ _)); refine blk_far ?_ NB257_265.out _; (with_reducible repeat (first | refine blk_drewN ?_ _ | refine blk_drew ?_ | refine blk_alloc ?_ _)); refine blk_far ?_ NB257_265.out _; (with_reducible repeat (first | refine blk_drewN ?_ _ | refine blk_drew ?_ | refine blk_alloc ?_ _)); exact BK257.out) Tryz.underlying36 rfl (by kernel_rfl)) rfl ?_
                exact ⟨by first | rfl | (simp [errW_none, errW_some] <;> rfl) | (simp [*, errW_none, errW_some] <;> rfl), by repeat (first | (with_reducible first | exact HB.out | apply below_alloc | apply pw_below_drewN | apply below_drew1 | refine below_set ?_ GE257.out | refine below_set ?_ GE265.out) | exact HB.out)⟩
              ·rw [if_neg c39] at H
               exact absurd H (by simp)
            ·rw [if_neg c34] at H
             exact absurd H (by simp)
           ·rw [if_neg c33] at H
            have c33b0 : decide (x4_4 < (a0.size : Int)) = false := decide_eq_false c33
            clear c33
            by_cases c58 : 0 ≤ x4_4
            ·rw [if_pos c58] at H
             have c58b0 := eq_true c58
             have c58b1 : decide (0 ≤ x4_4) = true := decide_eq_true c58
             clear c58
             by_cases c59 : x4_4 ≤ (a0.size : Int)
             ·rw [if_pos c59] at H
              have c59b0 := eq_true c59
              have c59b1 : decide (x4_4 ≤ (a0.size : Int)) = true := decide_eq_true c59
              clear c59
              replace H := Option.bind_eq_some_iff.mp H
              obtain ⟨⟨t266, t267, t268⟩, A600, H⟩ := H
              replace H : (if t268 = true then (if t266 = true then (some (0, 0, (⟨#[]⟩ : ByteArray), false, 0, 0, 0)) else (some (2, 0, (⟨#[]⟩ : ByteArray), t266, t267, 0, x4_4))) else (some (0, 0, (⟨#[]⟩ : ByteArray), false, 0, 0, 0))) = some (r1, r2, r3, r4, r5, r6, r7) := H
              have A60 := Aside0.mk A600
              clear A600
              by_cases c61 : t268 = true
              ·subst c61
               have H1 : (if t266 = true then (some (0, 0, (⟨#[]⟩ : ByteArray), false, 0, 0, 0)) else (some (2, 0, (⟨#[]⟩ : ByteArray), t266, t267, 0, x4_4))) = some (r1, r2, r3, r4, r5, r6, r7) := by rw [if_pos rfl] at H; exact H
               clear H
               have H := H1
               clear H1
               by_cases c62 : t266 = true
               ·subst c62
                have H1 : (some (0, 0, (⟨#[]⟩ : ByteArray), false, 0, 0, 0)) = some (r1, r2, r3, r4, r5, r6, r7) := by rw [if_pos rfl] at H; exact H
                clear H
                have H := H1
                clear H1
                simp only [Option.some.injEq, Prod.mk.injEq] at H
                obtain ⟨rfl, rfl, rfl, rfl, rfl, rfl, rfl⟩ := H
                go_wp2_with (first | ((with_reducible refine gate_callee (f := 48) rfl ?_); refine goesL_ (some 81) rfl rfl Tryz.func48 (by kernel_rfl) rfl #[.string (a0.extract 0 (x4_4 : Int).toNat)] rfl (by (try simp only [List.map_toArray, List.map_cons, List.map_nil]); first | done | rfl | (simp only [List.length_drop, List.length_take]; rfl)) ?_; (with_reducible refine (spillwayref2_Parse.calls k4 (a0.extract 0 (x4_4 : Int).toNat) true t267 true _ A60.out).mono ?_); rintro e w63 ⟨rfl, hb⟩; refine ⟨_, rfl, ?_⟩; have n0_ := Aside0.mk (blk_below (g := gb257) (o := .cells #[.int .i64 0, .int .i64 0, .string (⟨#[]⟩ : ByteArray), .bool false, .int .i64 0, .int .i64 0] 36 (0, 0)) (by (with_reducible repeat (first | refine blk_drewN ?_ _ | refine blk_drew ?_ | refine blk_alloc ?_ _)); exact BK257.out) hb); have n1_ := Aside0.mk (below_step (by repeat (first | (with_reducible first | exact HB.out | apply below_alloc | apply pw_below_drewN | apply below_drew1 | refine below_set ?_ GE257.out) | exact HB.out)) hb); clear BK257; clear HB; have BK257 := n0_; have HB := n1_; clear n0_ n1_; (try clear hb); (try clear hb2); (try clear hk); (try clear hi)) | ((with_reducible refine gate_dst (N := 6) rfl ?_); refine box_event ?hg (N := 6) ?hd (cs := #[.bool false, .int .i64 0]) (t := 34) ?hr ?_; (case hd => rfl); (case hg => rfl); (case hr => first | (go_simp; done) | (go_simp; rfl)); intro gb269 hg w64 hbox hb; have n0_ := Aside0.mk (blk_below (g := gb257) (o := .cells #[.int .i64 0, .int .i64 0, .string (⟨#[]⟩ : ByteArray), .bool false, .int .i64 0, .int .i64 0] 36 (0, 0)) (by (with_reducible repeat (first | refine blk_drewN ?_ _ | refine blk_drew ?_ | refine blk_alloc ?_ _)); exact BK257.out) hb); have n1_ := Aside0.mk (below_step (by repeat (first | (with_reducible first | exact HB.out | apply below_alloc | apply pw_below_drewN | apply below_drew1 | refine below_set ?_ GE257.out) | exact HB.out)) hb); have n2_ := Aside0.mk (hbox); have n3_ := Aside0.mk ((by rw [hg]; exact (below_size (by repeat (first | (with_reducible first | exact HB.out | apply below_alloc | apply pw_below_drewN | apply below_drew1 | refine below_set ?_ GE257.out) | exact HB.out))) : w.heap.size ≤ gb269)); have n4_ := Aside0.mk ((by rw [hg]; exact (below_size (by repeat (first | (with_reducible first | exact HB.out | apply below_alloc | apply pw_below_drewN | apply below_drew1 | refine below_set ?_ GE257.out) | exact HB.out))) : w.heap.size ≤ gb269)); have n5_ := Aside0.mk ((by rw [hg]; exact Nat.ne_of_lt (blk_lt (g := gb257) (o := .cells #[.int .i64 0, .int .i64 0, .string (⟨#[]⟩ : ByteArray), .bool false, .int .i64 0, .int .i64 0] 36 (0, 0)) (by (with_reducible repeat (first | refine blk_drewN ?_ _ | refine blk_drew ?_ | refine blk_alloc ?_ _)); exact BK257.out)) : gb257 ≠ gb269)); have n6_ := Aside0.mk ((by rw [hg]; exact Nat.ne_of_gt (blk_lt (g := gb257) (o := .cells #[.int .i64 0, .int .i64 0, .string (⟨#[]⟩ : ByteArray), .bool false, .int .i64 0, .int .i64 0] 36 (0, 0)) (by (with_reducible repeat (first | refine blk_drewN ?_ _ | refine blk_drew ?_ | refine blk_alloc ?_ _)); exact BK257.out)) : gb269 ≠ gb257)); clear BK257; clear HB; have BK257 := n0_; have HB := n1_; have BK269 := n2_; have GW269 := n3_; have GE269 := n4_; have NB257_269 := n5_; have NB269_257 := n6_; clear n0_ n1_ n2_ n3_ n4_ n5_ n6_; clear hb hbox hg; have hnb65 := NB269_257.out; have hnc65 := NB257_269.out; have hcz66_0 : w64.cell? ⟨gb269, 0, none⟩ = some (.bool false) := (blk_cell BK269.out 0).trans rfl; have hcz66_1 : w64.cell? ⟨gb269, 1, none⟩ = some (.int .i64 0) := (blk_cell BK269.out 1).trans rfl; have hfz66_0 := blk_frozen BK269.out 0; have hfz66_1 := blk_frozen BK269.out 1; have hcz67_0 : w64.cell? ⟨gb257, 0, none⟩ = some (.int .i64 0) := (blk_cell BK257.out 0).trans rfl; have hcz67_1 : w64.cell? ⟨gb257, 1, none⟩ = some (.int .i64 0) := (blk_cell BK257.out 1).trans rfl; have hcz67_2 : w64.cell? ⟨gb257, 2, none⟩ = some (.string (⟨#[]⟩ : ByteArray)) := (blk_cell BK257.out 2).trans rfl; have hcz67_3 : w64.cell? ⟨gb257, 3, none⟩ = some (.bool false) := (blk_cell BK257.out 3).trans rfl; have hcz67_4 : w64.cell? ⟨gb257, 4, none⟩ = some (.int .i64 0) := (blk_cell BK257.out 4).trans rfl; have hcz67_5 : w64.cell? ⟨gb257, 5, none⟩ = some (.int .i64 0) := (blk_cell BK257.out 5).trans rfl; have hfz67_0 := blk_frozen BK257.out 0; have hfz67_1 := blk_frozen BK257.out 1; have hfz67_2 := blk_frozen BK257.out 2; have hfz67_3 := blk_frozen BK257.out 3; have hfz67_4 := blk_frozen BK257.out 4; have hfz67_5 := blk_frozen BK257.out 5))
                refine bodyPost_ret (results_ct rfl _ _ gb257 36 #[.int .i64 0, .int .i64 0, .string (⟨#[]⟩ : ByteArray), .bool false, .int .i64 0, .int .i64 0] (0, 0) _ rfl (by (with_reducible repeat (first | refine blk_drewN ?_ _ | refine blk_drew ?_ | refine blk_alloc ?_ _)); refine blk_put (cs := #[.int .i64 0, .int .i64 0, .string (⟨#[]⟩ : ByteArray), .bool false, .int .i64 0, .int .i64 0]) ?_ 5 _ rfl; (with_reducible repeat (first | refine blk_drewN ?_ _ | refine blk_drew ?_ | refine blk_alloc ?_ _)); refine blk_put (cs := #[.int .i64 0, .int .i64 0, .string (⟨#[]⟩ : ByteArray), .bool false, .int .i64 0, .int .i64 0]) ?_ 4 _ rfl; (with_reducible repeat (first | refine blk_drewN ?_ _ | refine blk_drew ?_ | refine blk_alloc ?_ _)); refine blk_put (cs := #[.int .i64 0, .int .i64 0, .string (⟨#[]⟩ : ByteArray), .bool false, .int .i64 0, .int .i64 0]) ?_ 3 _ rfl; (with_reducible repeat (first | refine blk_drewN ?_ _ | refine blk_drew ?_ | refine blk_alloc ?_ _)); refine blk_put (cs := #[.int .i64 0, .int .i64 0, .string (⟨#[]⟩ : ByteArray), .bool false, .int .i64 0, .int .i64 0]) ?_ 2 _ rfl; (with_reducible repeat (first | refine blk_drewN ?_ _ | refine blk_drew ?_ | refine blk_alloc ?_ _)); refine blk_put (cs := #[.int .i64 0, .int .i64 0, .string (⟨#[]⟩ : ByteArray), .bool false, .int .i64 0, .int .i64 0]) ?_ 1 _ rfl; (with_reducible repeat (first | refine blk_drewN ?_ _ | refine blk_drew ?_ | refine blk_alloc ?_ _)); refine blk_put (cs := #[.int .i64 0, .int .i64 0, .string (⟨#[]⟩ : ByteArray), .bool false, .int .i64 0, .int .i64 0]) ?_ 0 _ rfl; (with_reducible repeat (first | refine blk_drewN ?_ _ | refine blk_drew ?_ | refine blk_alloc ?_ _)); refine blk_far ?_ NB257_269.out _; (with_reducible repeat (first | refine blk_drewN ?_ _ | refine blk_drew ?_ | refine blk_alloc ?_ _)); refine blk_far ?_ NB257_269.out _; (with_reducible repeat (first | refine blk_drewN ?_ _ | refine blk_drew ?_ | refine blk_alloc ?_ _)); exact BK257.out) Tryz.underlying36 rfl (by kernel_rfl)) rfl ?_
                exact ⟨by first | rfl | (simp [errW_none, errW_some] <;> rfl) | (simp [*, errW_none, errW_some] <;> rfl), by repeat (first | (with_reducible first | exact HB.out | apply below_alloc | apply pw_below_drewN | apply below_drew1 | refine below_set ?_ GE257.out | refine below_set ?_ GE269.out) | exact HB.out)⟩
               ·replace c62 := Bool.eq_false_iff.mpr c62
                subst c62
                have H1 : (some (2, 0, (⟨#[]⟩ : ByteArray), false, t267, 0, x4_4)) = some (r1, r2, r3, r4, r5, r6, r7) := by rw [if_neg (show ¬ (false = true) by decide)] at H; exact H
                clear H
                have H := H1
                clear H1
                simp only [Option.some.injEq, Prod.mk.injEq] at H
                obtain ⟨rfl, rfl, rfl, rfl, rfl, rfl, rfl⟩ := H
                go_wp2_with (first | ((with_reducible refine gate_callee (f := 48) rfl ?_); refine goesL_ (some 81) rfl rfl Tryz.func48 (by kernel_rfl) rfl #[.string (a0.extract 0 (x4_4 : Int).toNat)] rfl (by (try simp only [List.map_toArray, List.map_cons, List.map_nil]); first | done | rfl | (simp only [List.length_drop, List.length_take]; rfl)) ?_; (with_reducible refine (spillwayref2_Parse.calls k4 (a0.extract 0 (x4_4 : Int).toNat) false t267 true _ A60.out).mono ?_); rintro e w68 ⟨rfl, hb⟩; refine ⟨_, rfl, ?_⟩; have n0_ := Aside0.mk (blk_below (g := gb257) (o := .cells #[.int .i64 0, .int .i64 0, .string (⟨#[]⟩ : ByteArray), .bool false, .int .i64 0, .int .i64 0] 36 (0, 0)) (by (with_reducible repeat (first | refine blk_drewN ?_ _ | refine blk_drew ?_ | refine blk_alloc ?_ _)); exact BK257.out) hb); have n1_ := Aside0.mk (below_step (by repeat (first | (with_reducible first | exact HB.out | apply below_alloc | apply pw_below_drewN | apply below_drew1 | refine below_set ?_ GE257.out) | exact HB.out)) hb); clear BK257; clear HB; have BK257 := n0_; have HB := n1_; clear n0_ n1_; (try clear hb); (try clear hb2); (try clear hk); (try clear hi)) | ((with_reducible refine gate_dst (N := 6) rfl ?_); refine box_event ?hg (N := 6) ?hd (cs := #[.bool false, .int .i64 0]) (t := 34) ?hr ?_; (case hd => rfl); (case hg => rfl); (case hr => first | (go_simp; done) | (go_simp; rfl)); intro gb269 hg w69 hbox hb; have n0_ := Aside0.mk (blk_below (g := gb257) (o := .cells #[.int .i64 0, .int .i64 0, .string (⟨#[]⟩ : ByteArray), .bool false, .int .i64 0, .int .i64 0] 36 (0, 0)) (by (with_reducible repeat (first | refine blk_drewN ?_ _ | refine blk_drew ?_ | refine blk_alloc ?_ _)); exact BK257.out) hb); have n1_ := Aside0.mk (below_step (by repeat (first | (with_reducible first | exact HB.out | apply below_alloc | apply pw_below_drewN | apply below_drew1 | refine below_set ?_ GE257.out) | exact HB.out)) hb); have n2_ := Aside0.mk (hbox); have n3_ := Aside0.mk ((by rw [hg]; exact (below_size (by repeat (first | (with_reducible first | exact HB.out | apply below_alloc | apply pw_below_drewN | apply below_drew1 | refine below_set ?_ GE257.out) | exact HB.out))) : w.heap.size ≤ gb269)); have n4_ := Aside0.mk ((by rw [hg]; exact (below_size (by repeat (first | (with_reducible first | exact HB.out | apply below_alloc | apply pw_below_drewN | apply below_drew1 | refine below_set ?_ GE257.out) | exact HB.out))) : w.heap.size ≤ gb269)); have n5_ := Aside0.mk ((by rw [hg]; exact Nat.ne_of_lt (blk_lt (g := gb257) (o := .cells #[.int .i64 0, .int .i64 0, .string (⟨#[]⟩ : ByteArray), .bool false, .int .i64 0, .int .i64 0] 36 (0, 0)) (by (with_reducible repeat (first | refine blk_drewN ?_ _ | refine blk_drew ?_ | refine blk_alloc ?_ _)); exact BK257.out)) : gb257 ≠ gb269)); have n6_ := Aside0.mk ((by rw [hg]; exact Nat.ne_of_gt (blk_lt (g := gb257) (o := .cells #[.int .i64 0, .int .i64 0, .string (⟨#[]⟩ : ByteArray), .bool false, .int .i64 0, .int .i64 0] 36 (0, 0)) (by (with_reducible repeat (first | refine blk_drewN ?_ _ | refine blk_drew ?_ | refine blk_alloc ?_ _)); exact BK257.out)) : gb269 ≠ gb257)); clear BK257; clear HB; have BK257 := n0_; have HB := n1_; have BK269 := n2_; have GW269 := n3_; have GE269 := n4_; have NB257_269 := n5_; have NB269_257 := n6_; clear n0_ n1_ n2_ n3_ n4_ n5_ n6_; clear hb hbox hg; have hnb70 := NB269_257.out; have hnc70 := NB257_269.out; have hcz71_0 : w69.cell? ⟨gb269, 0, none⟩ = some (.bool false) := (blk_cell BK269.out 0).trans rfl; have hcz71_1 : w69.cell? ⟨gb269, 1, none⟩ = some (.int .i64 0) := (blk_cell BK269.out 1).trans rfl; have hfz71_0 := blk_frozen BK269.out 0; have hfz71_1 := blk_frozen BK269.out 1; have hcz72_0 : w69.cell? ⟨gb257, 0, none⟩ = some (.int .i64 0) := (blk_cell BK257.out 0).trans rfl; have hcz72_1 : w69.cell? ⟨gb257, 1, none⟩ = some (.int .i64 0) := (blk_cell BK257.out 1).trans rfl; have hcz72_2 : w69.cell? ⟨gb257, 2, none⟩ = some (.string (⟨#[]⟩ : ByteArray)) := (blk_cell BK257.out 2).trans rfl; have hcz72_3 : w69.cell? ⟨gb257, 3, none⟩ = some (.bool false) := (blk_cell BK257.out 3).trans rfl; have hcz72_4 : w69.cell? ⟨gb257, 4, none⟩ = some (.int .i64 0) := (blk_cell BK257.out 4).trans rfl; have hcz72_5 : w69.cell? ⟨gb257, 5, none⟩ = some (.int .i64 0) := (blk_cell BK257.out 5).trans rfl; have hfz72_0 := blk_frozen BK257.out 0; have hfz72_1 := blk_frozen BK257.out 1; have hfz72_2 := blk_frozen BK257.out 2; have hfz72_3 := blk_frozen BK257.out 3; have hfz72_4 := blk_frozen BK257.out 4; have hfz72_5 := blk_frozen BK257.out 5))
                refine bodyPost_ret (results_ct rfl _ _ gb257 36 #[.int .i64 2, .int .i64 0, .string (⟨#[]⟩ : ByteArray), .bool false, .int .i64 t267, .int .i64 0] (0, 0) _ rfl (by (with_reducible repeat (first | refine blk_drewN ?_ _ | refine blk_drew ?_ | refine blk_alloc ?_ _)); refine blk_put (cs := #[.int .i64 2, .int .i64 0, .string (⟨#[]⟩ : ByteArray), .bool false, .int .i64 t267, .int .i64 0]) ?_ 5 _ rfl; (with_reducible repeat (first | refine blk_drewN ?_ _ | refine blk_drew ?_ | refine blk_alloc ?_ _)); refine blk_put (cs := #[.int .i64 2, .int .i64 0, .string (⟨#[]⟩ : ByteArray), .bool false, .int .i64 0, .int .i64 0]) ?_ 4 _ rfl; (with_reducible repeat (first | refine blk_drewN ?_ _ | refine blk_drew ?_ | refine blk_alloc ?_ _)); refine blk_put (cs := #[.int .i64 2, .int .i64 0, .string (⟨#[]⟩ : ByteArray), .bool false, .int .i64 0, .int .i64 0]) ?_ 3 _ rfl; (with_reducible repeat (first | refine blk_drewN ?_ _ | refine blk_drew ?_ | refine blk_alloc ?_ _)); refine blk_put (cs := #[.int .i64 2, .int .i64 0, .string (⟨#[]⟩ : ByteArray), .bool false, .int .i64 0, .int .i64 0]) ?_ 2 _ rfl; (with_reducible repeat (first | refine blk_drewN ?_ _ | refine blk_drew ?_ | refine blk_alloc ?_ _)); refine blk_put (cs := #[.int .i64 2, .int .i64 0, .string (⟨#[]⟩ : ByteArray), .bool false, .int .i64 0, .int .i64 0]) ?_ 1 _ rfl; (with_reducible repeat (first | refine blk_drewN ?_ _ | refine blk_drew ?_ | refine blk_alloc ?_ _)); refine blk_put (cs := #[.int .i64 0, .int .i64 0, .string (⟨#[]⟩ : ByteArray), .bool false, .int .i64 0, .int .i64 0]) ?_ 0 _ rfl; (with_reducible repeat (first | refine blk_drewN ?_ _ | refine blk_drew ?_ | refine blk_alloc ?_ _)); refine blk_far ?_ NB257_269.out _; (with_reducible repeat (first | refine blk_drewN ?_ _ | refine blk_drew ?_ | refine blk_alloc ?_ _)); refine blk_far ?_ NB257_269.out _; (with_reducible repeat (first | refine blk_drewN ?_ _ | refine blk_drew ?_ | refine blk_alloc ?_ _)); exact BK257.out) Tryz.underlying36 rfl (by kernel_rfl)) rfl ?_
                exact ⟨by first | rfl | (simp [errW_none, errW_some] <;> rfl) | (simp [*, errW_none, errW_some] <;> rfl), by repeat (first | (with_reducible first | exact HB.out | apply below_alloc | apply pw_below_drewN | apply below_drew1 | refine below_set ?_ GE257.out | refine below_set ?_ GE269.out) | exact HB.out)⟩
              ·replace c61 := Bool.eq_false_iff.mpr c61
               subst c61
               have H1 : (some (0, 0, (⟨#[]⟩ : ByteArray), false, 0, 0, 0)) = some (r1, r2, r3, r4, r5, r6, r7) := by rw [if_neg (show ¬ (false = true) by decide)] at H; exact H
               clear H
               have H := H1
               clear H1
               simp only [Option.some.injEq, Prod.mk.injEq] at H
               obtain ⟨rfl, rfl, rfl, rfl, rfl, rfl, rfl⟩ := H
               go_wp2_with (first | ((with_reducible refine gate_callee (f := 48) rfl ?_); refine goesL_ (some 81) rfl rfl Tryz.func48 (by kernel_rfl) rfl #[.string (a0.extract 0 (x4_4 : Int).toNat)] rfl (by (try simp only [List.map_toArray, List.map_cons, List.map_nil]); first | done | rfl | (simp only [List.length_drop, List.length_take]; rfl)) ?_; (with_reducible refine (spillwayref2_Parse.calls k4 (a0.extract 0 (x4_4 : Int).toNat) t266 t267 false _ A60.out).mono ?_); rintro e w73 ⟨rfl, hb⟩; refine ⟨_, rfl, ?_⟩; have n0_ := Aside0.mk (blk_below (g := gb257) (o := .cells #[.int .i64 0, .int .i64 0, .string (⟨#[]⟩ : ByteArray), .bool false, .int .i64 0, .int .i64 0] 36 (0, 0)) (by (with_reducible repeat (first | refine blk_drewN ?_ _ | refine blk_drew ?_ | refine blk_alloc ?_ _)); exact BK257.out) hb); have n1_ := Aside0.mk (below_step (by repeat (first | (with_reducible first | exact HB.out | apply below_alloc | apply pw_below_drewN | apply below_drew1 | refine below_set ?_ GE257.out) | exact HB.out)) hb); clear BK257; clear HB; have BK257 := n0_; have HB := n1_; clear n0_ n1_; (try clear hb); (try clear hb2); (try clear hk); (try clear hi)) | ((with_reducible refine gate_dst (N := 6) rfl ?_); refine box_event ?hg (N := 6) ?hd (cs := #[.bool false, .int .i64 0]) (t := 34) ?hr ?_; (case hd => rfl); (case hg => rfl); (case hr => first | (go_simp; done) | (go_simp; rfl)); intro gb269 hg w74 hbox hb; have n0_ := Aside0.mk (blk_below (g := gb257) (o := .cells #[.int .i64 0, .int .i64 0, .string (⟨#[]⟩ : ByteArray), .bool false, .int .i64 0, .int .i64 0] 36 (0, 0)) (by (with_reducible repeat (first | refine blk_drewN ?_ _ | refine blk_drew ?_ | refine blk_alloc ?_ _)); exact BK257.out) hb); have n1_ := Aside0.mk (below_step (by repeat (first | (with_reducible first | exact HB.out | apply below_alloc | apply pw_below_drewN | apply below_drew1 | refine below_set ?_ GE257.out) | exact HB.out)) hb); have n2_ := Aside0.mk (hbox); have n3_ := Aside0.mk ((by rw [hg]; exact (below_size (by repeat (first | (with_reducible first | exact HB.out | apply below_alloc | apply pw_below_drewN | apply below_drew1 | refine below_set ?_ GE257.out) | exact HB.out))) : w.heap.size ≤ gb269)); have n4_ := Aside0.mk ((by rw [hg]; exact (below_size (by repeat (first | (with_reducible first | exact HB.out | apply below_alloc | apply pw_below_drewN | apply below_drew1 | refine below_set ?_ GE257.out) | exact HB.out))) : w.heap.size ≤ gb269)); have n5_ := Aside0.mk ((by rw [hg]; exact Nat.ne_of_lt (blk_lt (g := gb257) (o := .cells #[.int .i64 0, .int .i64 0, .string (⟨#[]⟩ : ByteArray), .bool false, .int .i64 0, .int .i64 0] 36 (0, 0)) (by (with_reducible repeat (first | refine blk_drewN ?_ _ | refine blk_drew ?_ | refine blk_alloc ?_ _)); exact BK257.out)) : gb257 ≠ gb269)); have n6_ := Aside0.mk ((by rw [hg]; exact Nat.ne_of_gt (blk_lt (g := gb257) (o := .cells #[.int .i64 0, .int .i64 0, .string (⟨#[]⟩ : ByteArray), .bool false, .int .i64 0, .int .i64 0] 36 (0, 0)) (by (with_reducible repeat (first | refine blk_drewN ?_ _ | refine blk_drew ?_ | refine blk_alloc ?_ _)); exact BK257.out)) : gb269 ≠ gb257)); clear BK257; clear HB; have BK257 := n0_; have HB := n1_; have BK269 := n2_; have GW269 := n3_; have GE269 := n4_; have NB257_269 := n5_; have NB269_257 := n6_; clear n0_ n1_ n2_ n3_ n4_ n5_ n6_; clear hb hbox hg; have hnb75 := NB269_257.out; have hnc75 := NB257_269.out; have hcz76_0 : w74.cell? ⟨gb269, 0, none⟩ = some (.bool false) := (blk_cell BK269.out 0).trans rfl; have hcz76_1 : w74.cell? ⟨gb269, 1, none⟩ = some (.int .i64 0) := (blk_cell BK269.out 1).trans rfl; have hfz76_0 := blk_frozen BK269.out 0; have hfz76_1 := blk_frozen BK269.out 1; have hcz77_0 : w74.cell? ⟨gb257, 0, none⟩ = some (.int .i64 0) := (blk_cell BK257.out 0).trans rfl; have hcz77_1 : w74.cell? ⟨gb257, 1, none⟩ = some (.int .i64 0) := (blk_cell BK257.out 1).trans rfl; have hcz77_2 : w74.cell? ⟨gb257, 2, none⟩ = some (.string (⟨#[]⟩ : ByteArray)) := (blk_cell BK257.out 2).trans rfl; have hcz77_3 : w74.cell? ⟨gb257, 3, none⟩ = some (.bool false) := (blk_cell BK257.out 3).trans rfl; have hcz77_4 : w74.cell? ⟨gb257, 4, none⟩ = some (.int .i64 0) := (blk_cell BK257.out 4).trans rfl; have hcz77_5 : w74.cell? ⟨gb257, 5, none⟩ = some (.int .i64 0) := (blk_cell BK257.out 5).trans rfl; have hfz77_0 := blk_frozen BK257.out 0; have hfz77_1 := blk_frozen BK257.out 1; have hfz77_2 := blk_frozen BK257.out 2; have hfz77_3 := blk_frozen BK257.out 3; have hfz77_4 := blk_frozen BK257.out 4; have hfz77_5 := blk_frozen BK257.out 5))
               refine bodyPost_ret (results_ct rfl _ _ gb257 36 #[.int .i64 0, .int .i64 0, .string (⟨#[]⟩ : ByteArray), .bool false, .int .i64 0, .int .i64 0] (0, 0) _ rfl (by (with_reducible repeat (first | refine blk_drewN ?_ _ | refine blk_drew ?_ | refine blk_alloc ?_ _)); refine blk_put (cs := #[.int .i64 0, .int .i64 0, .string (⟨#[]⟩ : ByteArray), .bool false, .int .i64 0, .int .i64 0]) ?_ 5 _ rfl; (with_reducible repeat (first | refine blk_drewN ?_ _ | refine blk_drew ?_ | refine blk_alloc ?_ _)); refine blk_put (cs := #[.int .i64 0, .int .i64 0, .string (⟨#[]⟩ : ByteArray), .bool false, .int .i64 0, .int .i64 0]) ?_ 4 _ rfl; (with_reducible repeat (first | refine blk_drewN ?_ _ | refine blk_drew ?_ | refine blk_alloc ?_ _)); refine blk_put (cs := #[.int .i64 0, .int .i64 0, .string (⟨#[]⟩ : ByteArray), .bool false, .int .i64 0, .int .i64 0]) ?_ 3 _ rfl; (with_reducible repeat (first | refine blk_drewN ?_ _ | refine blk_drew ?_ | refine blk_alloc ?_ _)); refine blk_put (cs := #[.int .i64 0, .int .i64 0, .string (⟨#[]⟩ : ByteArray), .bool false, .int .i64 0, .int .i64 0]) ?_ 2 _ rfl; (with_reducible repeat (first | refine blk_drewN ?_ _ | refine blk_drew ?_ | refine blk_alloc ?_ _)); refine blk_put (cs := #[.int .i64 0, .int .i64 0, .string (⟨#[]⟩ : ByteArray), .bool false, .int .i64 0, .int .i64 0]) ?_ 1 _ rfl; (with_reducible repeat (first | refine blk_drewN ?_ _ | refine blk_drew ?_ | refine blk_alloc ?_ _)); refine blk_put (cs := #[.int .i64 0, .int .i64 0, .string (⟨#[]⟩ : ByteArray), .bool false, .int .i64 0, .int .i64 0]) ?_ 0 _ rfl; (with_reducible repeat (first | refine blk_drewN ?_ _ | refine blk_drew ?_ | refine blk_alloc ?_ _)); refine blk_far ?_ NB257_269.out _; (with_reducible repeat (first | refine blk_drewN ?_ _ | refine blk_drew ?_ | refine blk_alloc ?_ _)); refine blk_far ?_ NB257_269.out _; (with_reducible repeat (first | refine blk_drewN ?_ _ | refine blk_drew ?_ | refine blk_alloc ?_ _)); exact BK257.out) Tryz.underlying36 rfl (by kernel_rfl)) rfl ?_
               exact ⟨by first | rfl | (simp [errW_none, errW_some] <;> rfl) | (simp [*, errW_none, errW_some] <;> rfl), by repeat (first | (with_reducible first | exact HB.out | apply below_alloc | apply pw_below_drewN | apply below_drew1 | refine below_set ?_ GE257.out | refine below_set ?_ GE269.out) | exact HB.out)⟩
             ·rw [if_neg c59] at H
              exact absurd H (by simp)
            ·rw [if_neg c58] at H
             exact absurd H (by simp)
        ·replace c32 := Bool.eq_false_iff.mpr c32
         subst c32
         have H1 : (if 0 ≤ x4_1 then (if x4_1 ≤ (a0.size : Int) then ((spillwayref2_Parse.f kj21 (a0.extract 0 (x4_1 : Int).toNat)).bind fun bt270 => (if bt270.2.2 = true then (if bt270.1 = true then (some (0, 0, (⟨#[]⟩ : ByteArray), false, 0, 0, 0)) else (some (2, 0, (⟨#[]⟩ : ByteArray), bt270.1, bt270.2.1, 0, x4_1))) else (some (0, 0, (⟨#[]⟩ : ByteArray), false, 0, 0, 0)))) else (none)) else (none)) = some (r1, r2, r3, r4, r5, r6, r7) := by rw [if_neg (show ¬ (false = true) by decide)] at H; exact H
         clear H
         have H := H1
         clear H1
         by_cases c78 : 0 ≤ x4_1
         ·rw [if_pos c78] at H
          have c78b0 := eq_true c78
          have c78b1 : decide (0 ≤ x4_1) = true := decide_eq_true c78
          clear c78
          by_cases c79 : x4_1 ≤ (a0.size : Int)
          ·rw [if_pos c79] at H
           have c79b0 := eq_true c79
           have c79b1 : decide (x4_1 ≤ (a0.size : Int)) = true := decide_eq_true c79
           clear c79
           replace H := Option.bind_eq_some_iff.mp H
           obtain ⟨⟨t270, t271, t272⟩, A800, H⟩ := H
           replace H : (if t272 = true then (if t270 = true then (some (0, 0, (⟨#[]⟩ : ByteArray), false, 0, 0, 0)) else (some (2, 0, (⟨#[]⟩ : ByteArray), t270, t271, 0, x4_1))) else (some (0, 0, (⟨#[]⟩ : ByteArray), false, 0, 0, 0))) = some (r1, r2, r3, r4, r5, r6, r7) := H
           have A80 := Aside0.mk A800
           clear A800
           by_cases c81 : t272 = true
           ·subst c81
            have H1 : (if t270 = true then (some (0, 0, (⟨#[]⟩ : ByteArray), false, 0, 0, 0)) else (some (2, 0, (⟨#[]⟩ : ByteArray), t270, t271, 0, x4_1))) = some (r1, r2, r3, r4, r5, r6, r7) := by rw [if_pos rfl] at H; exact H
            clear H
            have H := H1
            clear H1
            by_cases c82 : t270 = true
            ·subst c82
             have H1 : (some (0, 0, (⟨#[]⟩ : ByteArray), false, 0, 0, 0)) = some (r1, r2, r3, r4, r5, r6, r7) := by rw [if_pos rfl] at H; exact H
             clear H
             have H := H1
             clear H1
             simp only [Option.some.injEq, Prod.mk.injEq] at H
             obtain ⟨rfl, rfl, rfl, rfl, rfl, rfl, rfl⟩ := H
             go_wp2_with (first | ((with_reducible refine gate_callee (f := 48) rfl ?_); refine goesL_ (some 81) rfl rfl Tryz.func48 (by kernel_rfl) rfl #[.string (a0.extract 0 (x4_1 : Int).toNat)] rfl (by (try simp only [List.map_toArray, List.map_cons, List.map_nil]); first | done | rfl | (simp only [List.length_drop, List.length_take]; rfl)) ?_; (with_reducible refine (spillwayref2_Parse.calls kj21 (a0.extract 0 (x4_1 : Int).toNat) true t271 true _ A80.out).mono ?_); rintro e w83 ⟨rfl, hb⟩; refine ⟨_, rfl, ?_⟩; have n0_ := Aside0.mk (blk_below (g := gb257) (o := .cells #[.int .i64 0, .int .i64 0, .string (⟨#[]⟩ : ByteArray), .bool false, .int .i64 0, .int .i64 0] 36 (0, 0)) (by (with_reducible repeat (first | refine blk_drewN ?_ _ | refine blk_drew ?_ | refine blk_alloc ?_ _)); exact BK257.out) hb); have n1_ := Aside0.mk (below_step (by repeat (first | (with_reducible first | exact HB.out | apply below_alloc | apply pw_below_drewN | apply below_drew1 | refine below_set ?_ GE257.out) | exact HB.out)) hb); clear BK257; clear HB; have BK257 := n0_; have HB := n1_; clear n0_ n1_; (try clear hb); (try clear hb2); (try clear hk); (try clear hi)) | ((with_reducible refine gate_dst (N := 6) rfl ?_); refine box_event ?hg (N := 6) ?hd (cs := #[.bool false, .int .i64 0]) (t := 34) ?hr ?_; (case hd => rfl); (case hg => rfl); (case hr => first | (go_simp; done) | (go_simp; rfl)); intro gb273 hg w84 hbox hb; have n0_ := Aside0.mk (blk_below (g := gb257) (o := .cells #[.int .i64 0, .int .i64 0, .string (⟨#[]⟩ : ByteArray), .bool false, .int .i64 0, .int .i64 0] 36 (0, 0)) (by (with_reducible repeat (first | refine blk_drewN ?_ _ | refine blk_drew ?_ | refine blk_alloc ?_ _)); exact BK257.out) hb); have n1_ := Aside0.mk (below_step (by repeat (first | (with_reducible first | exact HB.out | apply below_alloc | apply pw_below_drewN | apply below_drew1 | refine below_set ?_ GE257.out) | exact HB.out)) hb); have n2_ := Aside0.mk (hbox); have n3_ := Aside0.mk ((by rw [hg]; exact (below_size (by repeat (first | (with_reducible first | exact HB.out | apply below_alloc | apply pw_below_drewN | apply below_drew1 | refine below_set ?_ GE257.out) | exact HB.out))) : w.heap.size ≤ gb273)); have n4_ := Aside0.mk ((by rw [hg]; exact (below_size (by repeat (first | (with_reducible first | exact HB.out | apply below_alloc | apply pw_below_drewN | apply below_drew1 | refine below_set ?_ GE257.out) | exact HB.out))) : w.heap.size ≤ gb273)); have n5_ := Aside0.mk ((by rw [hg]; exact Nat.ne_of_lt (blk_lt (g := gb257) (o := .cells #[.int .i64 0, .int .i64 0, .string (⟨#[]⟩ : ByteArray), .bool false, .int .i64 0, .int .i64 0] 36 (0, 0)) (by (with_reducible repeat (first | refine blk_drewN ?_ _ | refine blk_drew ?_ | refine blk_alloc ?_ _)); exact BK257.out)) : gb257 ≠ gb273)); have n6_ := Aside0.mk ((by rw [hg]; exact Nat.ne_of_gt (blk_lt (g := gb257) (o := .cells #[.int .i64 0, .int .i64 0, .string (⟨#[]⟩ : ByteArray), .bool false, .int .i64 0, .int .i64 0] 36 (0, 0)) (by (with_reducible repeat (first | refine blk_drewN ?_ _ | refine blk_drew ?_ | refine blk_alloc ?_ _)); exact BK257.out)) : gb273 ≠ gb257)); clear BK257; clear HB; have BK257 := n0_; have HB := n1_; have BK273 := n2_; have GW273 := n3_; have GE273 := n4_; have NB257_273 := n5_; have NB273_257 := n6_; clear n0_ n1_ n2_ n3_ n4_ n5_ n6_; clear hb hbox hg; have hnb85 := NB273_257.out; have hnc85 := NB257_273.out; have hcz86_0 : w84.cell? ⟨gb273, 0, none⟩ = some (.bool false) := (blk_cell BK273.out 0).trans rfl; have hcz86_1 : w84.cell? ⟨gb273, 1, none⟩ = some (.int .i64 0) := (blk_cell BK273.out 1).trans rfl; have hfz86_0 := blk_frozen BK273.out 0; have hfz86_1 := blk_frozen BK273.out 1; have hcz87_0 : w84.cell? ⟨gb257, 0, none⟩ = some (.int .i64 0) := (blk_cell BK257.out 0).trans rfl; have hcz87_1 : w84.cell? ⟨gb257, 1, none⟩ = some (.int .i64 0) := (blk_cell BK257.out 1).trans rfl; have hcz87_2 : w84.cell? ⟨gb257, 2, none⟩ = some (.string (⟨#[]⟩ : ByteArray)) := (blk_cell BK257.out 2).trans rfl; have hcz87_3 : w84.cell? ⟨gb257, 3, none⟩ = some (.bool false) := (blk_cell BK257.out 3).trans rfl; have hcz87_4 : w84.cell? ⟨gb257, 4, none⟩ = some (.int .i64 0) := (blk_cell BK257.out 4).trans rfl; have hcz87_5 : w84.cell? ⟨gb257, 5, none⟩ = some (.int .i64 0) := (blk_cell BK257.out 5).trans rfl; have hfz87_0 := blk_frozen BK257.out 0; have hfz87_1 := blk_frozen BK257.out 1; have hfz87_2 := blk_frozen BK257.out 2; have hfz87_3 := blk_frozen BK257.out 3; have hfz87_4 := blk_frozen BK257.out 4; have hfz87_5 := blk_frozen BK257.out 5))
             refine bodyPost_ret (results_ct rfl _ _ gb257 36 #[.int .i64 0, .int .i64 0, .string (⟨#[]⟩ : ByteArray), .bool false, .int .i64 0, .int .i64 0] (0, 0) _ rfl (by (with_reducible repeat (first | refine blk_drewN ?_ _ | refine blk_drew ?_ | refine blk_alloc ?_ _)); refine blk_put (cs := #[.int .i64 0, .int .i64 0, .string (⟨#[]⟩ : ByteArray), .bool false, .int .i64 0, .int .i64 0]) ?_ 5 _ rfl; (with_reducible repeat (first | refine blk_drewN ?_ _ | refine blk_drew ?_ | refine blk_alloc ?_ _)); refine blk_put (cs := #[.int .i64 0, .int .i64 0, .string (⟨#[]⟩ : ByteArray), .bool false, .int .i64 0, .int .i64 0]) ?_ 4 _ rfl; (with_reducible repeat (first | refine blk_drewN ?_ _ | refine blk_drew ?_ | refine blk_alloc ?_ _)); refine blk_put (cs := #[.int .i64 0, .int .i64 0, .string (⟨#[]⟩ : ByteArray), .bool false, .int .i64 0, .int .i64 0]) ?_ 3 _ rfl; (with_reducible repeat (first | refine blk_drewN ?_ _ | refine blk_drew ?_ | refine blk_alloc ?_ _)); refine blk_put (cs := #[.int .i64 0, .int .i64 0, .string (⟨#[]⟩ : ByteArray), .bool false, .int .i64 0, .int .i64 0]) ?_ 2 _ rfl; (with_reducible repeat (first | refine blk_drewN ?_ _ | refine blk_drew ?_ | refine blk_alloc ?_ _)); refine blk_put (cs := #[.int .i64 0, .int .i64 0, .string (⟨#[]⟩ : ByteArray), .bool false, .int .i64 0, .int .i64 0]) ?_ 1 _ rfl; (with_reducible repeat (first | refine blk_drewN ?_ _ | refine blk_drew ?_ | refine blk_alloc ?_ _)); refine blk_put (cs := #[.int .i64 0, .int .i64 0, .string (⟨#[]⟩ : ByteArray), .bool false, .int .i64 0, .int .i64 0]) ?_ 0 _ rfl; (with_reducible repeat (first | refine blk_drewN ?_ _ | refine blk_drew ?_ | refine blk_alloc ?_ _)); refine blk_far ?_ NB257_273.out _; (with_reducible repeat (first | refine blk_drewN ?_ _ | refine blk_drew ?_ | refine blk_alloc ?_ _)); refine blk_far ?_ NB257_273.out _; (with_reducible repeat (first | refine blk_drewN ?_ _ | refine blk_drew ?_ | refine blk_alloc ?_ _)); exact BK257.out) Tryz.underlying36 rfl (by kernel_rfl)) rfl ?_
             exact ⟨by first | rfl | (simp [errW_none, errW_some] <;> rfl) | (simp [*, errW_none, errW_some] <;> rfl), by repeat (first | (with_reducible first | exact HB.out | apply below_alloc | apply pw_below_drewN | apply below_drew1 | refine below_set ?_ GE257.out | refine below_set ?_ GE273.out) | exact HB.out)⟩
            ·replace c82 := Bool.eq_false_iff.mpr c82
             subst c82
             have H1 : (some (2, 0, (⟨#[]⟩ : ByteArray), false, t271, 0, x4_1)) = some (r1, r2, r3, r4, r5, r6, r7) := by rw [if_neg (show ¬ (false = true) by decide)] at H; exact H
             clear H
             have H := H1
             clear H1
             simp only [Option.some.injEq, Prod.mk.injEq] at H
             obtain ⟨rfl, rfl, rfl, rfl, rfl, rfl, rfl⟩ := H
             go_wp2_with (first | ((with_reducible refine gate_callee (f := 48) rfl ?_); refine goesL_ (some 81) rfl rfl Tryz.func48 (by kernel_rfl) rfl #[.string (a0.extract 0 (x4_1 : Int).toNat)] rfl (by (try simp only [List.map_toArray, List.map_cons, List.map_nil]); first | done | rfl | (simp only [List.length_drop, List.length_take]; rfl)) ?_; (with_reducible refine (spillwayref2_Parse.calls kj21 (a0.extract 0 (x4_1 : Int).toNat) false t271 true _ A80.out).mono ?_); rintro e w88 ⟨rfl, hb⟩; refine ⟨_, rfl, ?_⟩; have n0_ := Aside0.mk (blk_below (g := gb257) (o := .cells #[.int .i64 0, .int .i64 0, .string (⟨#[]⟩ : ByteArray), .bool false, .int .i64 0, .int .i64 0] 36 (0, 0)) (by (with_reducible repeat (first | refine blk_drewN ?_ _ | refine blk_drew ?_ | refine blk_alloc ?_ _)); exact BK257.out) hb); have n1_ := Aside0.mk (below_step (by repeat (first | (with_reducible first | exact HB.out | apply below_alloc | apply pw_below_drewN | apply below_drew1 | refine below_set ?_ GE257.out) | exact HB.out)) hb); clear BK257; clear HB; have BK257 := n0_; have HB := n1_; clear n0_ n1_; (try clear hb); (try clear hb2); (try clear hk); (try clear hi)) | ((with_reducible refine gate_dst (N := 6) rfl ?_); refine box_event ?hg (N := 6) ?hd (cs := #[.bool false, .int .i64 0]) (t := 34) ?hr ?_; (case hd => rfl); (case hg => rfl); (case hr => first | (go_simp; done) | (go_simp; rfl)); intro gb273 hg w89 hbox hb; have n0_ := Aside0.mk (blk_below (g := gb257) (o := .cells #[.int .i64 0, .int .i64 0, .string (⟨#[]⟩ : ByteArray), .bool false, .int .i64 0, .int .i64 0] 36 (0, 0)) (by (with_reducible repeat (first | refine blk_drewN ?_ _ | refine blk_drew ?_ | refine blk_alloc ?_ _)); exact BK257.out) hb); have n1_ := Aside0.mk (below_step (by repeat (first | (with_reducible first | exact HB.out | apply below_alloc | apply pw_below_drewN | apply below_drew1 | refine below_set ?_ GE257.out) | exact HB.out)) hb); have n2_ := Aside0.mk (hbox); have n3_ := Aside0.mk ((by rw [hg]; exact (below_size (by repeat (first | (with_reducible first | exact HB.out | apply below_alloc | apply pw_below_drewN | apply below_drew1 | refine below_set ?_ GE257.out) | exact HB.out))) : w.heap.size ≤ gb273)); have n4_ := Aside0.mk ((by rw [hg]; exact (below_size (by repeat (first | (with_reducible first | exact HB.out | apply below_alloc | apply pw_below_drewN | apply below_drew1 | refine below_set ?_ GE257.out) | exact HB.out))) : w.heap.size ≤ gb273)); have n5_ := Aside0.mk ((by rw [hg]; exact Nat.ne_of_lt (blk_lt (g := gb257) (o := .cells #[.int .i64 0, .int .i64 0, .string (⟨#[]⟩ : ByteArray), .bool false, .int .i64 0, .int .i64 0] 36 (0, 0)) (by (with_reducible repeat (first | refine blk_drewN ?_ _ | refine blk_drew ?_ | refine blk_alloc ?_ _)); exact BK257.out)) : gb257 ≠ gb273)); have n6_ := Aside0.mk ((by rw [hg]; exact Nat.ne_of_gt (blk_lt (g := gb257) (o := .cells #[.int .i64 0, .int .i64 0, .string (⟨#[]⟩ : ByteArray), .bool false, .int .i64 0, .int .i64 0] 36 (0, 0)) (by (with_reducible repeat (first | refine blk_drewN ?_ _ | refine blk_drew ?_ | refine blk_alloc ?_ _)); exact BK257.out)) : gb273 ≠ gb257)); clear BK257; clear HB; have BK257 := n0_; have HB := n1_; have BK273 := n2_; have GW273 := n3_; have GE273 := n4_; have NB257_273 := n5_; have NB273_257 := n6_; clear n0_ n1_ n2_ n3_ n4_ n5_ n6_; clear hb hbox hg; have hnb90 := NB273_257.out; have hnc90 := NB257_273.out; have hcz91_0 : w89.cell? ⟨gb273, 0, none⟩ = some (.bool false) := (blk_cell BK273.out 0).trans rfl; have hcz91_1 : w89.cell? ⟨gb273, 1, none⟩ = some (.int .i64 0) := (blk_cell BK273.out 1).trans rfl; have hfz91_0 := blk_frozen BK273.out 0; have hfz91_1 := blk_frozen BK273.out 1; have hcz92_0 : w89.cell? ⟨gb257, 0, none⟩ = some (.int .i64 0) := (blk_cell BK257.out 0).trans rfl; have hcz92_1 : w89.cell? ⟨gb257, 1, none⟩ = some (.int .i64 0) := (blk_cell BK257.out 1).trans rfl; have hcz92_2 : w89.cell? ⟨gb257, 2, none⟩ = some (.string (⟨#[]⟩ : ByteArray)) := (blk_cell BK257.out 2).trans rfl; have hcz92_3 : w89.cell? ⟨gb257, 3, none⟩ = some (.bool false) := (blk_cell BK257.out 3).trans rfl; have hcz92_4 : w89.cell? ⟨gb257, 4, none⟩ = some (.int .i64 0) := (blk_cell BK257.out 4).trans rfl; have hcz92_5 : w89.cell? ⟨gb257, 5, none⟩ = some (.int .i64 0) := (blk_cell BK257.out 5).trans rfl; have hfz92_0 := blk_frozen BK257.out 0; have hfz92_1 := blk_frozen BK257.out 1; have hfz92_2 := blk_frozen BK257.out 2; have hfz92_3 := blk_frozen BK257.out 3; have hfz92_4 := blk_frozen BK257.out 4; have hfz92_5 := blk_frozen BK257.out 5))
             refine bodyPost_ret (results_ct rfl _ _ gb257 36 #[.int .i64 2, .int .i64 0, .string (⟨#[]⟩ : ByteArray), .bool false, .int .i64 t271, .int .i64 0] (0, 0) _ rfl (by (with_reducible repeat (first | refine blk_drewN ?_ _ | refine blk_drew ?_ | refine blk_alloc ?_ _)); refine blk_put (cs := #[.int .i64 2, .int .i64 0, .string (⟨#[]⟩ : ByteArray), .bool false, .int .i64 t271, .int .i64 0]) ?_ 5 _ rfl; (with_reducible repeat (first | refine blk_drewN ?_ _ | refine blk_drew ?_ | refine blk_alloc ?_ _)); refine blk_put (cs := #[.int .i64 2, .int .i64 0, .string (⟨#[]⟩ : ByteArray), .bool false, .int .i64 0, .int .i64 0]) ?_ 4 _ rfl; (with_reducible repeat (first | refine blk_drewN ?_ _ | refine blk_drew ?_ | refine blk_alloc ?_ _)); refine blk_put (cs := #[.int .i64 2, .int .i64 0, .string (⟨#[]⟩ : ByteArray), .bool false, .int .i64 0, .int .i64 0]) ?_ 3 _ rfl; (with_reducible repeat (first | refine blk_drewN ?_ _ | refine blk_drew ?_ | refine blk_alloc ?_ _)); refine blk_put (cs := #[.int .i64 2, .int .i64 0, .string (⟨#[]⟩ : ByteArray), .bool false, .int .i64 0, .int .i64 0]) ?_ 2 _ rfl; (with_reducible repeat (first | refine blk_drewN ?_ _ | refine blk_drew ?_ | refine blk_alloc ?_ _)); refine blk_put (cs := #[.int .i64 2, .int .i64 0, .string (⟨#[]⟩ : ByteArray), .bool false, .int .i64 0, .int .i64 0]) ?_ 1 _ rfl; (with_reducible repeat (first | refine blk_drewN ?_ _ | refine blk_drew ?_ | refine blk_alloc ?_ _)); refine blk_put (cs := #[.int .i64 0, .int .i64 0, .string (⟨#[]⟩ : ByteArray), .bool false, .int .i64 0, .int .i64 0]) ?_ 0 _ rfl; (with_reducible repeat (first | refine blk_drewN ?_ _ | refine blk_drew ?_ | refine blk_alloc ?_ _)); refine blk_far ?_ NB257_273.out _; (with_reducible repeat (first | refine blk_drewN ?_ _ | refine blk_drew ?_ | refine blk_alloc ?_ _)); refine blk_far ?_ NB257_273.out _; (with_reducible repeat (first | refine blk_drewN ?_ _ | refine blk_drew ?_ | refine blk_alloc ?_ _)); exact BK257.out) Tryz.underlying36 rfl (by kernel_rfl)) rfl ?_
             exact ⟨by first | rfl | (simp [errW_none, errW_some] <;> rfl) | (simp [*, errW_none, errW_some] <;> rfl), by repeat (first | (with_reducible first | exact HB.out | apply below_alloc | apply pw_below_drewN | apply below_drew1 | refine below_set ?_ GE257.out | refine below_set ?_ GE273.out) | exact HB.out)⟩
           ·replace c81 := Bool.eq_false_iff.mpr c81
            subst c81
            have H1 : (some (0, 0, (⟨#[]⟩ : ByteArray), false, 0, 0, 0)) = some (r1, r2, r3, r4, r5, r6, r7) := by rw [if_neg (show ¬ (false = true) by decide)] at H; exact H
            clear H
            have H := H1
            clear H1
            simp only [Option.some.injEq, Prod.mk.injEq] at H
            obtain ⟨rfl, rfl, rfl, rfl, rfl, rfl, rfl⟩ := H
            go_wp2_with (first | ((with_reducible refine gate_callee (f := 48) rfl ?_); refine goesL_ (some 81) rfl rfl Tryz.func48 (by kernel_rfl) rfl #[.string (a0.extract 0 (x4_1 : Int).toNat)] rfl (by (try simp only [List.map_toArray, List.map_cons, List.map_nil]); first | done | rfl | (simp only [List.length_drop, List.length_take]; rfl)) ?_; (with_reducible refine (spillwayref2_Parse.calls kj21 (a0.extract 0 (x4_1 : Int).toNat) t270 t271 false _ A80.out).mono ?_); rintro e w93 ⟨rfl, hb⟩; refine ⟨_, rfl, ?_⟩; have n0_ := Aside0.mk (blk_below (g := gb257) (o := .cells #[.int .i64 0, .int .i64 0, .string (⟨#[]⟩ : ByteArray), .bool false, .int .i64 0, .int .i64 0] 36 (0, 0)) (by (with_reducible repeat (first | refine blk_drewN ?_ _ | refine blk_drew ?_ | refine blk_alloc ?_ _)); exact BK257.out) hb); have n1_ := Aside0.mk (below_step (by repeat (first | (with_reducible first | exact HB.out | apply below_alloc | apply pw_below_drewN | apply below_drew1 | refine below_set ?_ GE257.out) | exact HB.out)) hb); clear BK257; clear HB; have BK257 := n0_; have HB := n1_; clear n0_ n1_; (try clear hb); (try clear hb2); (try clear hk); (try clear hi)) | ((with_reducible refine gate_dst (N := 6) rfl ?_); refine box_event ?hg (N := 6) ?hd (cs := #[.bool false, .int .i64 0]) (t := 34) ?hr ?_; (case hd => rfl); (case hg => rfl); (case hr => first | (go_simp; done) | (go_simp; rfl)); intro gb273 hg w94 hbox hb; have n0_ := Aside0.mk (blk_below (g := gb257) (o := .cells #[.int .i64 0, .int .i64 0, .string (⟨#[]⟩ : ByteArray), .bool false, .int .i64 0, .int .i64 0] 36 (0, 0)) (by (with_reducible repeat (first | refine blk_drewN ?_ _ | refine blk_drew ?_ | refine blk_alloc ?_ _)); exact BK257.out) hb); have n1_ := Aside0.mk (below_step (by repeat (first | (with_reducible first | exact HB.out | apply below_alloc | apply pw_below_drewN | apply below_drew1 | refine below_set ?_ GE257.out) | exact HB.out)) hb); have n2_ := Aside0.mk (hbox); have n3_ := Aside0.mk ((by rw [hg]; exact (below_size (by repeat (first | (with_reducible first | exact HB.out | apply below_alloc | apply pw_below_drewN | apply below_drew1 | refine below_set ?_ GE257.out) | exact HB.out))) : w.heap.size ≤ gb273)); have n4_ := Aside0.mk ((by rw [hg]; exact (below_size (by repeat (first | (with_reducible first | exact HB.out | apply below_alloc | apply pw_below_drewN | apply below_drew1 | refine below_set ?_ GE257.out) | exact HB.out))) : w.heap.size ≤ gb273)); have n5_ := Aside0.mk ((by rw [hg]; exact Nat.ne_of_lt (blk_lt (g := gb257) (o := .cells #[.int .i64 0, .int .i64 0, .string (⟨#[]⟩ : ByteArray), .bool false, .int .i64 0, .int .i64 0] 36 (0, 0)) (by (with_reducible repeat (first | refine blk_drewN ?_ _ | refine blk_drew ?_ | refine blk_alloc ?_ _)); exact BK257.out)) : gb257 ≠ gb273)); have n6_ := Aside0.mk ((by rw [hg]; exact Nat.ne_of_gt (blk_lt (g := gb257) (o := .cells #[.int .i64 0, .int .i64 0, .string (⟨#[]⟩ : ByteArray), .bool false, .int .i64 0, .int .i64 0] 36 (0, 0)) (by (with_reducible repeat (first | refine blk_drewN ?_ _ | refine blk_drew ?_ | refine blk_alloc ?_ _)); exact BK257.out)) : gb273 ≠ gb257)); clear BK257; clear HB; have BK257 := n0_; have HB := n1_; have BK273 := n2_; have GW273 := n3_; have GE273 := n4_; have NB257_273 := n5_; have NB273_257 := n6_; clear n0_ n1_ n2_ n3_ n4_ n5_ n6_; clear hb hbox hg; have hnb95 := NB273_257.out; have hnc95 := NB257_273.out; have hcz96_0 : w94.cell? ⟨gb273, 0, none⟩ = some (.bool false) := (blk_cell BK273.out 0).trans rfl; have hcz96_1 : w94.cell? ⟨gb273, 1, none⟩ = some (.int .i64 0) := (blk_cell BK273.out 1).trans rfl; have hfz96_0 := blk_frozen BK273.out 0; have hfz96_1 := blk_frozen BK273.out 1; have hcz97_0 : w94.cell? ⟨gb257, 0, none⟩ = some (.int .i64 0) := (blk_cell BK257.out 0).trans rfl; have hcz97_1 : w94.cell? ⟨gb257, 1, none⟩ = some (.int .i64 0) := (blk_cell BK257.out 1).trans rfl; have hcz97_2 : w94.cell? ⟨gb257, 2, none⟩ = some (.string (⟨#[]⟩ : ByteArray)) := (blk_cell BK257.out 2).trans rfl; have hcz97_3 : w94.cell? ⟨gb257, 3, none⟩ = some (.bool false) := (blk_cell BK257.out 3).trans rfl; have hcz97_4 : w94.cell? ⟨gb257, 4, none⟩ = some (.int .i64 0) := (blk_cell BK257.out 4).trans rfl; have hcz97_5 : w94.cell? ⟨gb257, 5, none⟩ = some (.int .i64 0) := (blk_cell BK257.out 5).trans rfl; have hfz97_0 := blk_frozen BK257.out 0; have hfz97_1 := blk_frozen BK257.out 1; have hfz97_2 := blk_frozen BK257.out 2; have hfz97_3 := blk_frozen BK257.out 3; have hfz97_4 := blk_frozen BK257.out 4; have hfz97_5 := blk_frozen BK257.out 5))
            refine bodyPost_ret (results_ct rfl _ _ gb257 36 #[.int .i64 0, .int .i64 0, .string (⟨#[]⟩ : ByteArray), .bool false, .int .i64 0, .int .i64 0] (0, 0) _ rfl (by (with_reducible repeat (first | refine blk_drewN ?_ _ | refine blk_drew ?_ | refine blk_alloc ?_ _)); refine blk_put (cs := #[.int .i64 0, .int .i64 0, .string (⟨#[]⟩ : ByteArray), .bool false, .int .i64 0, .int .i64 0]) ?_ 5 _ rfl; (with_reducible repeat (first | refine blk_drewN ?_ _ | refine blk_drew ?_ | refine blk_alloc ?_ _)); refine blk_put (cs := #[.int .i64 0, .int .i64 0, .string (⟨#[]⟩ : ByteArray), .bool false, .int .i64 0, .int .i64 0]) ?_ 4 _ rfl; (with_reducible repeat (first | refine blk_drewN ?_ _ | refine blk_drew ?_ | refine blk_alloc ?_ _)); refine blk_put (cs := #[.int .i64 0, .int .i64 0, .string (⟨#[]⟩ : ByteArray), .bool false, .int .i64 0, .int .i64 0]) ?_ 3 _ rfl; (with_reducible repeat (first | refine blk_drewN ?_ _ | refine blk_drew ?_ | refine blk_alloc ?_ _)); refine blk_put (cs := #[.int .i64 0, .int .i64 0, .string (⟨#[]⟩ : ByteArray), .bool false, .int .i64 0, .int .i64 0]) ?_ 2 _ rfl; (with_reducible repeat (first | refine blk_drewN ?_ _ | refine blk_drew ?_ | refine blk_alloc ?_ _)); refine blk_put (cs := #[.int .i64 0, .int .i64 0, .string (⟨#[]⟩ : ByteArray), .bool false, .int .i64 0, .int .i64 0]) ?_ 1 _ rfl; (with_reducible repeat (first | refine blk_drewN ?_ _ | refine blk_drew ?_ | refine blk_alloc ?_ _)); refine blk_put (cs := #[.int .i64 0, .int .i64 0, .string (⟨#[]⟩ : ByteArray), .bool false, .int .i64 0, .int .i64 0]) ?_ 0 _ rfl; (with_reducible repeat (first | refine blk_drewN ?_ _ | refine blk_drew ?_ | refine blk_alloc ?_ _)); refine blk_far ?_ NB257_273.out _; (with_reducible repeat (first | refine blk_drewN ?_ _ | refine blk_drew ?_ | refine blk_alloc ?_ _)); refine blk_far ?_ NB257_273.out _; (with_reducible repeat (first | refine blk_drewN ?_ _ | refine blk_drew ?_ | refine blk_alloc ?_ _)); exact BK257.out) Tryz.underlying36 rfl (by kernel_rfl)) rfl ?_
            exact ⟨by first | rfl | (simp [errW_none, errW_some] <;> rfl) | (simp [*, errW_none, errW_some] <;> rfl), by repeat (first | (with_reducible first | exact HB.out | apply below_alloc | apply pw_below_drewN | apply below_drew1 | refine below_set ?_ GE257.out | refine below_set ?_ GE273.out) | exact HB.out)⟩
          ·rw [if_neg c79] at H
           exact absurd H (by simp)
         ·rw [if_neg c78] at H
          exact absurd H (by simp)

end Go.Proofs.YtnjobjogddjelaaGreatDoor.Print
end

section
namespace Go.Proofs.YtnjobjogddjelaaGreatDoor.Print
open Go.RowKit Go.Proofs.YtnjobjogddjelaaGreatDoorX Go.Proofs.YtnjobjogddjelaaGreatDoorW.PrintWords Go.Proofs.YtnjobjogddjelaaGreatDoorW.PrintLast Go.Proofs.YtnjobjogddjelaaGreatDoorW.PrintMore
attribute [local go_sem] max2_int min2_int max_two min_two max_three min_three max_four min_four

/-! ### spillwayref3_Quoted: function 32 -/
mutual
def spillwayref3_Quoted.j0 : Nat → ByteArray → Bool → Option (ByteArray × Int)
 | 0, _, _ => none
 | k + 1, x0, x12 => if x12 = true then (some ((⟨#[]⟩ : ByteArray), 0)) else (spillwayref3_Quoted.l0 k x0 ([] : List Int) 1)
def spillwayref3_Quoted.l0 : Nat → ByteArray → List Int → Int → Option (ByteArray × Int)
 | 0, _, _, _ => none
 | k + 1, x0, x4, x5 => if x5 < (x0.size : Int) then (if 0 ≤ x5 then (if (bt x0 x5) = 34 then (some (strOfNums x4, wrap64 (x5 + 1))) else (if (bt x0 x5) = 92 then (if (wrap64 (x5 + 1)) ≥ (x0.size : Int) then (some ((⟨#[]⟩ : ByteArray), 0)) else (if 0 ≤ (wrap64 (x5 + 1)) then (if (wrap64 (x5 + 1)) < (x0.size : Int) then (if (bt x0 (wrap64 (x5 + 1))) = 34 then (if x4.length < 140737488355328 then (spillwayref3_Quoted.l0 k x0 (x4 ++ [bt x0 (wrap64 (x5 + 1))]) (wrap64 ((wrap64 (x5 + 1)) + 1))) else (none)) else (if (bt x0 (wrap64 (x5 + 1))) = 92 then (if x4.length < 140737488355328 then (spillwayref3_Quoted.l0 k x0 (x4 ++ [bt x0 (wrap64 (x5 + 1))]) (wrap64 ((wrap64 (x5 + 1)) + 1))) else (none)) else (some ((⟨#[]⟩ : ByteArray), 0)))) else (none)) else (none))) else (if (bt x0 x5) = 10 then (some ((⟨#[]⟩ : ByteArray), 0)) else (if x4.length < 140737488355328 then (spillwayref3_Quoted.l0 k x0 (x4 ++ [bt x0 x5]) (wrap64 (x5 + 1))) else (none))))) else (none)) else (some ((⟨#[]⟩ : ByteArray), 0))
end
def spillwayref3_Quoted.f (k : Nat) (a0 : ByteArray) : Option (ByteArray × Int) := if a0.toList = ([] : List UInt8) then (spillwayref3_Quoted.j0 k a0 true) else (if 0 < (a0.size : Int) then (spillwayref3_Quoted.j0 k a0 ((bt a0 0) != 34)) else (none))
theorem spillwayref3_Quoted.mono_l : ∀ k, (∀ y0 y1, LeO (spillwayref3_Quoted.j0 k y0 y1) (spillwayref3_Quoted.j0 (k + 1) y0 y1)) ∧ (∀ y0 y1 y2, LeO (spillwayref3_Quoted.l0 k y0 y1 y2) (spillwayref3_Quoted.l0 (k + 1) y0 y1 y2))
 | 0 => ⟨fun _ _ r h => by simp [spillwayref3_Quoted.j0] at h, fun _ _ _ r h => by simp [spillwayref3_Quoted.l0] at h⟩
 | k + 1 => by
  obtain ⟨ih0, ih1⟩ := spillwayref3_Quoted.mono_l k
  refine ⟨?_, ?_⟩
  ·intro y0 y1
   unfold spillwayref3_Quoted.j0
   repeat' first
   | (with_reducible exact ih0 _ _)
   | (with_reducible exact ih1 _ _ _)
   | (with_reducible exact LeO.refl _)
   | (with_reducible exact LeO.none _)
   | (with_reducible refine LeO.ite ?_ ?_)
   | (with_reducible refine LeO.bind ?_ (fun _ => ?_))
   | exact ih0 _ _
   | exact ih1 _ _ _
   | exact LeO.none _
   | refine LeO.ite ?_ ?_
   | refine LeO.bind ?_ (fun _ => ?_)
  ·intro y0 y1 y2
   unfold spillwayref3_Quoted.l0
   repeat' first
   | (with_reducible exact ih0 _ _)
   | (with_reducible exact ih1 _ _ _)
   | (with_reducible exact LeO.refl _)
   | (with_reducible exact LeO.none _)
   | (with_reducible refine LeO.ite ?_ ?_)
   | (with_reducible refine LeO.bind ?_ (fun _ => ?_))
   | exact ih0 _ _
   | exact ih1 _ _ _
   | exact LeO.none _
   | refine LeO.ite ?_ ?_
   | refine LeO.bind ?_ (fun _ => ?_)
theorem spillwayref3_Quoted.mono : ∀ a0 k, LeO (spillwayref3_Quoted.f k a0) (spillwayref3_Quoted.f (k + 1) a0) := by
 intro a0 k
 obtain ⟨ih0, ih1⟩ := spillwayref3_Quoted.mono_l k
 unfold spillwayref3_Quoted.f
 repeat' first
   | (with_reducible exact ih0 _ _)
   | (with_reducible exact ih1 _ _ _)
   | (with_reducible exact LeO.refl _)
   | (with_reducible exact LeO.none _)
   | (with_reducible refine LeO.ite ?_ ?_)
   | (with_reducible refine LeO.bind ?_ (fun _ => ?_))
   | exact ih0 _ _
   | exact ih1 _ _ _
   | exact LeO.none _
   | refine LeO.ite ?_ ?_
   | refine LeO.bind ?_ (fun _ => ?_)
set_option maxHeartbeats 8000000 in
set_option maxRecDepth 100000 in
theorem spillwayref3_Quoted.calls (k : Nat) (a0 : ByteArray) (r1 : ByteArray) (r2 : Int) (w : World) (h : spillwayref3_Quoted.f k a0 = some (r1, r2)) :
  Calls Tryz.prog 32 #[.string a0] w fun e w' => e = .returned (.tuple #[.string r1, .int .i64 r2]) ∧ Below w.heap.size w w' := by
 have HB := Aside0.mk (Below.refl w.heap.size w)
 have H : (if a0.toList = ([] : List UInt8) then (spillwayref3_Quoted.j0 k a0 true) else (if 0 < (a0.size : Int) then (spillwayref3_Quoted.j0 k a0 ((bt a0 0) != 34)) else (none))) = some (r1, r2) := h
 clear h
 have HC2 := Aside0.mk H
 clear H
 go_enter Tryz.func32, Tryz.ntmps32
 go_upto_region 1 with (fail)
 go_cut [12] (fun v12 wc => ∃ (kq : Nat) (x12_1 : Bool), v12 = .bool x12_1 ∧ Aside0 (spillwayref3_Quoted.j0 kq a0 x12_1 = some (r1, r2)) ∧ Aside0 (kq ≤ k) ∧ Aside0 (Below w.heap.size w wc))
 case first =>
  have H := HC2.out
  clear HC2
  by_cases c3 : a0.toList = ([] : List UInt8)
  ·rw [if_pos c3] at H
   have c3b0 : (a0.toList == ([] : List UInt8)) = true := beq_iff_eq.mpr c3
   have c3b1 : (a0.toList != ([] : List UInt8)) = false := bne_eq_false_iff_eq.mpr c3
   clear c3
   (first | rw [c3b0] | (simp only [i64_w, i32_w]; rw [c3b0]) | skip)
   have H' := Aside0.mk H
   clear H
   go_wp2
   go_meet
   case rel => exact ⟨_, (true), (by first | rfl | (simp; done) | (simp [*]; done)), H', ⟨by first | omega | exact Nat.le_refl _⟩, ⟨by repeat (first | (with_reducible first | exact HB.out | apply below_alloc | apply pw_below_drewN | apply below_drew1) | exact HB.out)⟩⟩
  ·rw [if_neg c3] at H
   have c3b0 : (a0.toList == ([] : List UInt8)) = false := beq_eq_false_iff_ne.mpr c3
   have c3b1 : (a0.toList != ([] : List UInt8)) = true := bne_iff_ne.mpr c3
   (first | rw [c3b0] | (simp only [i64_w, i32_w]; rw [c3b0]) | skip)
   by_cases c4 : 0 < (a0.size : Int)
   ·rw [if_pos c4] at H
    have c4b0 : decide (0 < (a0.size : Int)) = true := decide_eq_true c4
    have c4b1 : decide (0 < a0.size) = true := decide_eq_true (by omega)
    clear c4
    have H' := Aside0.mk H
    clear H
    have p5 : 0 ≤ (0 : Int) := (by omega)
    have q5 : 0 < a0.size := (by have : (0 : Int) < (a0.size : Int) := of_decide_eq_true (by first | (with_reducible assumption) | assumption); omega)
    have hx5 : ∀ h : 0 < a0.size, ((a0[0]'h).toNat : Int) = bt a0 0 := bt_at a0 0
    clear p5
    have qi5 : (0 < (a0.size : Int)) = True := eq_true (of_decide_eq_true (by first | (with_reducible assumption) | assumption))
    replace q5 := eq_true q5
    go_wp2
    go_meet
    case rel => exact ⟨_, (((bt a0 0) != 34)), (by first | rfl | (simp; done) | (simp [*]; done)), H', ⟨by first | omega | exact Nat.le_refl _⟩, ⟨by repeat (first | (with_reducible first | exact HB.out | apply below_alloc | apply pw_below_drewN | apply below_drew1) | exact HB.out)⟩⟩
   ·rw [if_neg c4] at H
    exact absurd H (by simp)
 case rest =>
  clear HC2
  try clear p2
  try clear c3
  try clear c3b0
  try clear c3b1
  try clear c4
  try clear c4b0
  try clear c4b1
  try clear p5
  try clear q5
  try clear hx5
  try clear qi5
  try clear p5
  try clear q5
  obtain ⟨kq, x12_1, rfl, HA, HJ1, HB⟩ := hcut
  cases kq with
  | zero => exact absurd HA.out (by simp [spillwayref3_Quoted.j0])
  | succ kj1 =>
   have H := HA.out
   clear HA
   simp only [spillwayref3_Quoted.j0] at H
   by_cases c6 : x12_1 = true
   ·subst c6
    have H1 : (some ((⟨#[]⟩ : ByteArray), 0)) = some (r1, r2) := by rw [if_pos rfl] at H; exact H
    clear H
    have H := H1
    clear H1
    simp only [Option.some.injEq, Prod.mk.injEq] at H
    obtain ⟨rfl, rfl⟩ := H
    go_wp2
    go_ret2
    exact ⟨by first | rfl | (simp [errW_none, errW_some] <;> rfl) | (simp [*, errW_none, errW_some] <;> rfl), by repeat (first | (with_reducible first | exact HB.out | apply below_alloc | apply pw_below_drewN | apply below_drew1) | exact HB.out)⟩
   ·replace c6 := Bool.eq_false_iff.mpr c6
    subst c6
    have H1 : (spillwayref3_Quoted.l0 kj1 a0 ([] : List Int) 1) = some (r1, r2) := by rw [if_neg (show ¬ (false = true) by decide)] at H; exact H
    clear H
    have H := H1
    clear H1
    have H' := Aside0.mk H
    clear H
    go_wp2
    go_loopg [4, 5] kj1 (fun kq v4 v5 w' => ∃ (x4_2 : List Int) (x5_2 : Int), v5 = .int .i64 x5_2 ∧ Aside0 (spillwayref3_Quoted.l0 kq a0 x4_2 x5_2 = some (r1, r2)) ∧ Aside0 (kq ≤ kj1) ∧ Aside0 (Kd.R (Kd.int .u8) 5 w' w.heap.size (fun _ => True) v4 x4_2) ∧ Aside0 (Below w.heap.size w w'))
    case atStart => exact ⟨(([] : List Int)), (1), (by first | rfl | (simp; done) | (simp [*]; done)), H', ⟨Nat.le_refl _⟩, ⟨by first | exact Kd.R_nil _ _ _ _ _ | exact Kd.N_nil _ _ _ _ _ | exact Kd.V_nil _ _ _ _ _ | exact Kd.Q_nil _ _ _ _ _ | exact Kd.S_nil _ _ _ _ _⟩, ⟨by repeat (first | (with_reducible first | exact HB.out | apply below_alloc | apply pw_below_drewN | apply below_drew1) | exact HB.out)⟩⟩
    case round =>
     clear H'
     try clear p2
     try clear c3
     try clear c3b0
     try clear c3b1
     try clear c4
     try clear c4b0
     try clear c4b1
     try clear p5
     try clear q5
     try clear hx5
     try clear qi5
     try clear c6
     try clear p2
     try clear p5
     try clear q5
     obtain ⟨x4_2, x5_2, rfl, HA, HK2, HO_4, HB⟩ := hrel
     cases gk with
     | zero => exact absurd HA.out (by simp [spillwayref3_Quoted.l0])
     | succ k2 =>
      have H := HA.out
      clear HA
      simp only [spillwayref3_Quoted.l0] at H
      by_cases c7 : x5_2 < (a0.size : Int)
      ·rw [if_pos c7] at H
       have c7b0 : decide (x5_2 < (a0.size : Int)) = true := decide_eq_true c7
       clear c7
       by_cases c8 : 0 ≤ x5_2
       ·rw [if_pos c8] at H
        have c8b0 : decide (0 ≤ x5_2) = true := decide_eq_true c8
        clear c8
        by_cases c10 : (bt a0 x5_2) = 34
        ·rw [if_pos c10] at H
         have c10b0 : ((bt a0 x5_2) == 34) = true := beq_iff_eq.mpr c10
         have c10b1 : ((bt a0 x5_2) != 34) = false := bne_eq_false_iff_eq.mpr c10
         clear c10
         simp only [Option.some.injEq, Prod.mk.injEq] at H
         obtain ⟨rfl, rfl⟩ := H
         have p9 : 0 ≤ (x5_2 : Int) := of_decide_eq_true (by first | (with_reducible assumption) | assumption)
         have q9 : x5_2 < (a0.size : Int) := of_decide_eq_true (by first | (with_reducible assumption) | assumption)
         have hx9 := bt_at a0 x5_2
         replace p9 := eq_true p9
         replace q9 := eq_true q9
         have hcv11 := own_string (P := Tryz.prog) Tryz.underlying44 Tryz.underlying5 Tryz.underlying9 (Kd.own_of_R HO_4.out)
         go_wp2
         go_ret2
         exact ⟨by first | rfl | (simp [errW_none, errW_some] <;> rfl) | (simp [*, errW_none, errW_some] <;> rfl), by repeat (first | (with_reducible first | exact HB.out | apply below_alloc | apply pw_below_drewN | apply below_drew1) | exact HB.out)⟩
        ·rw [if_neg c10] at H
         have c10b0 : ((bt a0 x5_2) == 34) = false := beq_eq_false_iff_ne.mpr c10
         have c10b1 : ((bt a0 x5_2) != 34) = true := bne_iff_ne.mpr c10
         by_cases c12 : (bt a0 x5_2) = 92
         ·rw [if_pos c12] at H
          have c12b0 : ((bt a0 x5_2) == 92) = true := beq_iff_eq.mpr c12
          have c12b1 : ((bt a0 x5_2) != 92) = false := bne_eq_false_iff_eq.mpr c12
          clear c12
          by_cases c13 : (wrap64 (x5_2 + 1)) ≥ (a0.size : Int)
          ·rw [if_pos c13] at H
           have c13b0 : decide ((a0.size : Int) ≤ (wrap64 (x5_2 + 1))) = true := decide_eq_true c13
           clear c13
           simp only [Option.some.injEq, Prod.mk.injEq] at H
           obtain ⟨rfl, rfl⟩ := H
           have p9 : 0 ≤ (x5_2 : Int) := of_decide_eq_true (by first | (with_reducible assumption) | assumption)
           have q9 : x5_2 < (a0.size : Int) := of_decide_eq_true (by first | (with_reducible assumption) | assumption)
           have hx9 := bt_at a0 x5_2
           replace p9 := eq_true p9
           replace q9 := eq_true q9
           go_wp2
           go_ret2
           exact ⟨by first | rfl | (simp [errW_none, errW_some] <;> rfl) | (simp [*, errW_none, errW_some] <;> rfl), by repeat (first | (with_reducible first | exact HB.out | apply below_alloc | apply pw_below_drewN | apply below_drew1) | exact HB.out)⟩
          ·rw [if_neg c13] at H
           have c13b0 : decide ((a0.size : Int) ≤ (wrap64 (x5_2 + 1))) = false := decide_eq_false c13
           clear c13
           obtain ⟨ji14, hji14⟩ : ∃ j_ : Int, (wrap64 (x5_2 + 1)) = j_ := ⟨_, rfl⟩
           replace H : (if 0 ≤ (ji14) then (if (ji14) < (a0.size : Int) then (if (bt a0 (ji14)) = 34 then (if x4_2.length < 140737488355328 then (spillwayref3_Quoted.l0 k2 a0 (x4_2 ++ [bt a0 (ji14)]) (wrap64 ((ji14) + 1))) else (none)) else (if (bt a0 (ji14)) = 92 then (if x4_2.length < 140737488355328 then (spillwayref3_Quoted.l0 k2 a0 (x4_2 ++ [bt a0 (ji14)]) (wrap64 ((ji14) + 1))) else (none)) else (some ((⟨#[]⟩ : ByteArray), 0)))) else (none)) else (none)) = some (r1, r2) := by first | (rw [hji14] at H; exact H) | (simp only [hji14] at H ⊢; exact H)
           (try rw [hji14] at c13b0)
           have hji14w : (IntKind.i64.wrap (x5_2 + 1)) = ji14 := (i64_w _).trans hji14
           by_cases c15 : 0 ≤ (ji14)
           ·rw [if_pos c15] at H
            have c15b0 : decide (0 ≤ (ji14)) = true := decide_eq_true c15
            clear c15
            by_cases c16 : (ji14) < (a0.size : Int)
            ·rw [if_pos c16] at H
             have c16b0 : decide ((ji14) < (a0.size : Int)) = true := decide_eq_true c16
             clear c16
             by_cases c18 : (bt a0 (ji14)) = 34
             ·rw [if_pos c18] at H
              have c18b0 : ((bt a0 (ji14)) == 34) = true := beq_iff_eq.mpr c18
              have c18b1 : ((bt a0 (ji14)) != 34) = false := bne_eq_false_iff_eq.mpr c18
              clear c18
              by_cases c20 : x4_2.length < 140737488355328
              ·rw [if_pos c20] at H
               have LMc20 := Aside0.mk c20
               clear c20
               obtain ⟨y274, hy274⟩ : ∃ y_ : List Int, y_ = (x4_2 ++ [bt a0 (ji14)]) := ⟨_, rfl⟩
               replace H : (spillwayref3_Quoted.l0 k2 a0 y274 (wrap64 ((ji14) + 1))) = some (r1, r2) := by first | (rw [hy274]; with_reducible exact H) | (have H2_ := (Option.bind_some _ _).symm.trans H; rw [hy274]; with_reducible exact H2_) | (have H2_ := (Option.bind_some _ _).symm.trans H; with_reducible exact H2_) | with_reducible exact H | (rw [hy274]; exact H) | exact H
               have Ny274 := Aside0.mk hy274
               clear hy274
               have H' := Aside0.mk H
               clear H
               have p9 : 0 ≤ (x5_2 : Int) := of_decide_eq_true (by first | (with_reducible assumption) | assumption)
               have q9 : x5_2 < (a0.size : Int) := of_decide_eq_true (by first | (with_reducible assumption) | assumption)
               have hx9 := bt_at a0 x5_2
               replace p9 := eq_true p9
               replace q9 := eq_true q9
               have p17 : 0 ≤ ((ji14) : Int) := of_decide_eq_true (by first | (with_reducible assumption) | assumption)
               have q17 : (ji14) < (a0.size : Int) := of_decide_eq_true (by first | (with_reducible assumption) | assumption)
               have hx17 := bt_at a0 (ji14)
               replace p17 := eq_true p17
               replace q17 := eq_true q17
               have p19 : 0 ≤ ((ji14) : Int) := of_decide_eq_true (by first | (with_reducible assumption) | assumption)
               have q19 : (ji14) < (a0.size : Int) := of_decide_eq_true (by first | (with_reducible assumption) | assumption)
               have hx19 := bt_at a0 (ji14)
               replace p19 := eq_true p19
               replace q19 := eq_true q19
               go_wp2_with (first | ((with_reducible refine gate_builtin (b := .append) (xs := #[.tmp 53, .tmp 57]) rfl ?_); at_builtin; refine Kd.R_append (Kd.int .u8) (w0 := w) w.heap.size rfl (.tmp 53) (.tmp 57) 44 5 (.int .u8 0) 1 rfl Tryz.underlying44 info5 rfl (by decide) (by omega) u4 x4_2 (bt a0 (ji14)) [.int .u8 (bt a0 (ji14))] (fun _ => True) (fun _ => False) rfl rfl ?aP (fun _ hk => hk.elim) ?aF ?aO ?aB ?aS ?aL ?_; (case aP => exact rfl); (case aB => exact (by repeat (first | (with_reducible first | exact HB.out | apply below_alloc | apply pw_below_drewN | apply below_drew1) | exact HB.out))); (case aF => exact (fun _ _ => trivial)); (case aO => exact (by (with_reducible repeat (first | apply Kd.R_alloc | apply Kd.R_drewN | apply Kd.R_drew)); exact HO_4.out)); (case aS => exact (below_size (by repeat (first | (with_reducible first | exact HB.out | apply below_alloc | apply pw_below_drewN | apply below_drew1) | exact HB.out)))); (case aL => have := LMc20.out; omega); intro v275 w21 ho hb hg hat; rw [← Ny274.out] at ho; have n0_ := Aside0.mk (hb); have n1_ := Aside0.mk (ho); clear HB; clear HO_4; have HB := n0_; have HO276 := n1_; clear n0_ n1_; clear ho hb hg hat))
               go_roundg k2
               case measure => have := HJ1.out; have := HK2.out; omega
               case rel => exact ⟨(y274), (wrap64 ((ji14) + 1)), (by first | rfl | (simp; done) | (simp only [← hji14] <;> (first | rfl | simp)) | (simp [*]; done)), H', ⟨by have := HJ1.out; have := HK2.out; omega⟩, ⟨by (with_reducible repeat (first | apply Kd.R_alloc | apply Kd.R_drewN | apply Kd.R_drew)); exact HO276.out⟩, ⟨by repeat (first | (with_reducible first | exact HB.out | apply below_alloc | apply pw_below_drewN | apply below_drew1) | exact HB.out)⟩⟩
              ·rw [if_neg c20] at H
               exact absurd H (by simp)
             ·rw [if_neg c18] at H
              have c18b0 : ((bt a0 (ji14)) == 34) = false := beq_eq_false_iff_ne.mpr c18
              have c18b1 : ((bt a0 (ji14)) != 34) = true := bne_iff_ne.mpr c18
              by_cases c23 : (bt a0 (ji14)) = 92
              ·rw [if_pos c23] at H
               have c23b0 : ((bt a0 (ji14)) == 92) = true := beq_iff_eq.mpr c23
               have c23b1 : ((bt a0 (ji14)) != 92) = false := bne_eq_false_iff_eq.mpr c23
               clear c23
               by_cases c25 : x4_2.length < 140737488355328
               ·rw [if_pos c25] at H
                have LMc25 := Aside0.mk c25
                clear c25
                obtain ⟨y277, hy277⟩ : ∃ y_ : List Int, y_ = (x4_2 ++ [bt a0 (ji14)]) := ⟨_, rfl⟩
                replace H : (spillwayref3_Quoted.l0 k2 a0 y277 (wrap64 ((ji14) + 1))) = some (r1, r2) := by first | (rw [hy277]; with_reducible exact H) | (have H2_ := (Option.bind_some _ _).symm.trans H; rw [hy277]; with_reducible exact H2_) | (have H2_ := (Option.bind_some _ _).symm.trans H; with_reducible exact H2_) | with_reducible exact H | (rw [hy277]; exact H) | exact H
                have Ny277 := Aside0.mk hy277
                clear hy277
                have H' := Aside0.mk H
                clear H
                have p9 : 0 ≤ (x5_2 : Int) := of_decide_eq_true (by first | (with_reducible assumption) | assumption)
                have q9 : x5_2 < (a0.size : Int) := of_decide_eq_true (by first | (with_reducible assumption) | assumption)
                have hx9 := bt_at a0 x5_2
                replace p9 := eq_true p9
                replace q9 := eq_true q9
                have p17 : 0 ≤ ((ji14) : Int) := of_decide_eq_true (by first | (with_reducible assumption) | assumption)
                have q17 : (ji14) < (a0.size : Int) := of_decide_eq_true (by first | (with_reducible assumption) | assumption)
                have hx17 := bt_at a0 (ji14)
                replace p17 := eq_true p17
                replace q17 := eq_true q17
                have p22 : 0 ≤ ((ji14) : Int) := of_decide_eq_true (by first | (with_reducible assumption) | assumption)
                have q22 : (ji14) < (a0.size : Int) := of_decide_eq_true (by first | (with_reducible assumption) | assumption)
                have hx22 := bt_at a0 (ji14)
                replace p22 := eq_true p22
                replace q22 := eq_true q22
                have p24 : 0 ≤ ((ji14) : Int) := of_decide_eq_true (by first | (with_reducible assumption) | assumption)
                have q24 : (ji14) < (a0.size : Int) := of_decide_eq_true (by first | (with_reducible assumption) | assumption)
                have hx24 := bt_at a0 (ji14)
                replace p24 := eq_true p24
                replace q24 := eq_true q24
                go_wp2_with (first | ((with_reducible refine gate_builtin (b := .append) (xs := #[.tmp 53, .tmp 57]) rfl ?_); at_builtin; refine Kd.R_append (Kd.int .u8) (w0 := w) w.heap.size rfl (.tmp 53) (.tmp 57) 44 5 (.int .u8 0) 1 rfl Tryz.underlying44 info5 rfl (by decide) (by omega) u4 x4_2 (bt a0 (ji14)) [.int .u8 (bt a0 (ji14))] (fun _ => True) (fun _ => False) rfl rfl ?aP (fun _ hk => hk.elim) ?aF ?aO ?aB ?aS ?aL ?_; (case aP => exact rfl); (case aB => exact (by repeat (first | (with_reducible first | exact HB.out | apply below_alloc | apply pw_below_drewN | apply below_drew1) | exact HB.out))); (case aF => exact (fun _ _ => trivial)); (case aO => exact (by (with_reducible repeat (first | apply Kd.R_alloc | apply Kd.R_drewN | apply Kd.R_drew)); exact HO_4.out)); (case aS => exact (below_size (by repeat (first | (with_reducible first | exact HB.out | apply below_alloc | apply pw_below_drewN | apply below_drew1) | exact HB.out)))); (case aL => have := LMc25.out; omega); intro v278 w26 ho hb hg hat; rw [← Ny277.out] at ho; have n0_ := Aside0.mk (hb); have n1_ := Aside0.mk (ho); clear HB; clear HO_4; have HB := n0_; have HO279 := n1_; clear n0_ n1_; clear ho hb hg hat))
                go_roundg k2
                case measure => have := HJ1.out; have := HK2.out; omega
                case rel => exact ⟨(y277), (wrap64 ((ji14) + 1)), (by first | rfl | (simp; done) | (simp only [← hji14] <;> (first | rfl | simp)) | (simp [*]; done)), H', ⟨by have := HJ1.out; have := HK2.out; omega⟩, ⟨by (with_reducible repeat (first | apply Kd.R_alloc | apply Kd.R_drewN | apply Kd.R_drew)); exact HO279.out⟩, ⟨by repeat (first | (with_reducible first | exact HB.out | apply below_alloc | apply pw_below_drewN | apply below_drew1) | exact HB.out)⟩⟩
               ·rw [if_neg c25] at H
                exact absurd H (by simp)
              ·rw [if_neg c23] at H
               have c23b0 : ((bt a0 (ji14)) == 92) = false := beq_eq_false_iff_ne.mpr c23
               have c23b1 : ((bt a0 (ji14)) != 92) = true := bne_iff_ne.mpr c23
               simp only [Option.some.injEq, Prod.mk.injEq] at H
               obtain ⟨rfl, rfl⟩ := H
               have p9 : 0 ≤ (x5_2 : Int) := of_decide_eq_true (by first | (with_reducible assumption) | assumption)
               have q9 : x5_2 < (a0.size : Int) := of_decide_eq_true (by first | (with_reducible assumption) | assumption)
               have hx9 := bt_at a0 x5_2
               replace p9 := eq_true p9
               replace q9 := eq_true q9
               have p17 : 0 ≤ ((ji14) : Int) := of_decide_eq_true (by first | (with_reducible assumption) | assumption)
               have q17 : (ji14) < (a0.size : Int) := of_decide_eq_true (by first | (with_reducible assumption) | assumption)
               have hx17 := bt_at a0 (ji14)
               replace p17 := eq_true p17
               replace q17 := eq_true q17
               have p22 : 0 ≤ ((ji14) : Int) := of_decide_eq_true (by first | (with_reducible assumption) | assumption)
               have q22 : (ji14) < (a0.size : Int) := of_decide_eq_true (by first | (with_reducible assumption) | assumption)
               have hx22 := bt_at a0 (ji14)
               replace p22 := eq_true p22
               replace q22 := eq_true q22
               go_wp2
               go_ret2
               exact ⟨by first | rfl | (simp [errW_none, errW_some] <;> rfl) | (simp only [← hji14]; first | rfl | (simp [errW_none, errW_some] <;> rfl)) | (simp [*, errW_none, errW_some] <;> rfl), by repeat (first | (with_reducible first | exact HB.out | apply below_alloc | apply pw_below_drewN | apply below_drew1) | exact HB.out)⟩
            ·rw [if_neg c16] at H
             exact absurd H (by simp)
           ·rw [if_neg c15] at H
            exact absurd H (by simp)
         ·rw [if_neg c12] at H
          have c12b0 : ((bt a0 x5_2) == 92) = false := beq_eq_false_iff_ne.mpr c12
          have c12b1 : ((bt a0 x5_2) != 92) = true := bne_iff_ne.mpr c12
          by_cases c27 : (bt a0 x5_2) = 10
          ·rw [if_pos c27] at H
           have c27b0 : ((bt a0 x5_2) == 10) = true := beq_iff_eq.mpr c27
           have c27b1 : ((bt a0 x5_2) != 10) = false := bne_eq_false_iff_eq.mpr c27
           clear c27
           simp only [Option.some.injEq, Prod.mk.injEq] at H
           obtain ⟨rfl, rfl⟩ := H
           have p9 : 0 ≤ (x5_2 : Int) := of_decide_eq_true (by first | (with_reducible assumption) | assumption)
           have q9 : x5_2 < (a0.size : Int) := of_decide_eq_true (by first | (with_reducible assumption) | assumption)
           have hx9 := bt_at a0 x5_2
           replace p9 := eq_true p9
           replace q9 := eq_true q9
           go_wp2
           go_ret2
           exact ⟨by first | rfl | (simp [errW_none, errW_some] <;> rfl) | (simp [*, errW_none, errW_some] <;> rfl), by repeat (first | (with_reducible first | exact HB.out | apply below_alloc | apply pw_below_drewN | apply below_drew1) | exact HB.out)⟩
          ·rw [if_neg c27] at H
           have c27b0 : ((bt a0 x5_2) == 10) = false := beq_eq_false_iff_ne.mpr c27
           have c27b1 : ((bt a0 x5_2) != 10) = true := bne_iff_ne.mpr c27
           by_cases c29 : x4_2.length < 140737488355328
           ·rw [if_pos c29] at H
            have LMc29 := Aside0.mk c29
            clear c29
            obtain ⟨y280, hy280⟩ : ∃ y_ : List Int, y_ = (x4_2 ++ [bt a0 x5_2]) := ⟨_, rfl⟩
            replace H : (spillwayref3_Quoted.l0 k2 a0 y280 (wrap64 (x5_2 + 1))) = some (r1, r2) := by first | (rw [hy280]; with_reducible exact H) | (have H2_ := (Option.bind_some _ _).symm.trans H; rw [hy280]; with_reducible exact H2_) | (have H2_ := (Option.bind_some _ _).symm.trans H; with_reducible exact H2_) | with_reducible exact H | (rw [hy280]; exact H) | exact H
            have Ny280 := Aside0.mk hy280
            clear hy280
            have H' := Aside0.mk H
            clear H
            have p9 : 0 ≤ (x5_2 : Int) := of_decide_eq_true (by first | (with_reducible assumption) | assumption)
            have q9 : x5_2 < (a0.size : Int) := of_decide_eq_true (by first | (with_reducible assumption) | assumption)
            have hx9 := bt_at a0 x5_2
            replace p9 := eq_true p9
            replace q9 := eq_true q9
            have p28 : 0 ≤ (x5_2 : Int) := of_decide_eq_true (by first | (with_reducible assumption) | assumption)
            have q28 : x5_2 < (a0.size : Int) := of_decide_eq_true (by first | (with_reducible assumption) | assumption)
            have hx28 := bt_at a0 x5_2
            replace p28 := eq_true p28
            replace q28 := eq_true q28
            go_wp2_with (first | ((with_reducible refine gate_builtin (b := .append) (xs := #[.tmp 53, .tmp 57]) rfl ?_); at_builtin; refine Kd.R_append (Kd.int .u8) (w0 := w) w.heap.size rfl (.tmp 53) (.tmp 57) 44 5 (.int .u8 0) 1 rfl Tryz.underlying44 info5 rfl (by decide) (by omega) u4 x4_2 (bt a0 x5_2) [.int .u8 (bt a0 x5_2)] (fun _ => True) (fun _ => False) rfl rfl ?aP (fun _ hk => hk.elim) ?aF ?aO ?aB ?aS ?aL ?_; (case aP => exact rfl); (case aB => exact (by repeat (first | (with_reducible first | exact HB.out | apply below_alloc | apply pw_below_drewN | apply below_drew1) | exact HB.out))); (case aF => exact (fun _ _ => trivial)); (case aO => exact (by (with_reducible repeat (first | apply Kd.R_alloc | apply Kd.R_drewN | apply Kd.R_drew)); exact HO_4.out)); (case aS => exact (below_size (by repeat (first | (with_reducible first | exact HB.out | apply below_alloc | apply pw_below_drewN | apply below_drew1) | exact HB.out)))); (case aL => have := LMc29.out; omega); intro v281 w30 ho hb hg hat; rw [← Ny280.out] at ho; have n0_ := Aside0.mk (hb); have n1_ := Aside0.mk (ho); clear HB; clear HO_4; have HB := n0_; have HO282 := n1_; clear n0_ n1_; clear ho hb hg hat))
            go_roundg k2
            case measure => have := HJ1.out; have := HK2.out; omega
            case rel => exact ⟨(y280), (wrap64 (x5_2 + 1)), (by first | rfl | (simp; done) | (simp [*]; done)), H', ⟨by have := HJ1.out; have := HK2.out; omega⟩, ⟨by (with_reducible repeat (first | apply Kd.R_alloc | apply Kd.R_drewN | apply Kd.R_drew)); exact HO282.out⟩, ⟨by repeat (first | (with_reducible first | exact HB.out | apply below_alloc | apply pw_below_drewN | apply below_drew1) | exact HB.out)⟩⟩
           ·rw [if_neg c29] at H
            exact absurd H (by simp)
       ·rw [if_neg c8] at H
        exact absurd H (by simp)
      ·rw [if_neg c7] at H
       have c7b0 : decide (x5_2 < (a0.size : Int)) = false := decide_eq_false c7
       clear c7
       simp only [Option.some.injEq, Prod.mk.injEq] at H
       obtain ⟨rfl, rfl⟩ := H
       go_wp2
       go_ret2
       exact ⟨by first | rfl | (simp [errW_none, errW_some] <;> rfl) | (simp [*, errW_none, errW_some] <;> rfl), by repeat (first | (with_reducible first | exact HB.out | apply below_alloc | apply pw_below_drewN | apply below_drew1) | exact HB.out)⟩

end Go.Proofs.YtnjobjogddjelaaGreatDoor.Print
end
