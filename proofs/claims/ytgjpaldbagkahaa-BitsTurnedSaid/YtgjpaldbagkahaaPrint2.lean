-- PRINTED by print.py (a twelfth state) out of the translation. Not trusted: Lean checks it.
import Derived.Test.YtgjpaldbagkahaaPrint0
import Derived.Test.YtgjpaldbagkahaaPrint1
namespace Go.Proofs.Ytgjpaldbagkahaa.Print
open Go.RowKit Go.Proofs.YtgjpaldbagkahaaX Go.Proofs.YtgjpaldbagkahaaW.PrintWords Go.Proofs.YtgjpaldbagkahaaW.PrintLast Go.Proofs.YtgjpaldbagkahaaW.PrintMore
attribute [local go_sem] max2_int min2_int max_two min_two max_three min_three max_four min_four   -- for this text's walks alone
set_option linter.unusedVariables false
set_option linter.unusedSimpArgs false

/-! ### bits_Get: function 10 -/
def bits_Get.l0 : Nat → List Int → Int → Int → List Int → Int → Int → Option (Int × List Int × Int)
  | 0, _, _, _, _, _, _ => none
  | k + 1, x0, x7, x8, x20, x21, x22 => if x22 < x21 then (if 0 ≤ x22 then (if x22 < (x20.length : Int) then (if 0 ≤ (wrap64 (8 * x22)) then (bits_Get.l0 k x0 x7 (Go.bits .or .u64 x8 (shl .u64 (IntKind.u64.wrap (rd x20 x22)) (wrap64 (8 * x22)))) x20 x21 (wrap64 (x22 + 1))) else (none)) else (none)) else (none)) else (if 0 ≤ x7 then (if x7 ≤ (x0.length : Int) then (some (x8, (x0.drop (x7 : Int).toNat), 0)) else (none)) else (none))
def bits_Get.f (k : Nat) (l0 : List Int) (a1 : Int) : Option (Int × List Int × Int) := (bits_width.f a1).bind fun t101 => (if (l0.length : Int) < t101 then (some (0, l0, 10)) else (if 0 ≤ t101 then (if t101 ≤ (l0.length : Int) then ((some (l0.take (t101 : Int).toNat : List Int)).bind fun y102 => (bits_Get.l0 k l0 t101 0 y102 (y102.length : Int) 0)) else (none)) else (none)))
theorem bits_Get.mono_l : ∀ k, (∀ y0 y1 y2 y3 y4 y5, LeO (bits_Get.l0 k y0 y1 y2 y3 y4 y5) (bits_Get.l0 (k + 1) y0 y1 y2 y3 y4 y5))
  | 0 => fun _ _ _ _ _ _ r h => by simp [bits_Get.l0] at h
  | k + 1 => by
    have ih0 := bits_Get.mono_l k
    · intro y0 y1 y2 y3 y4 y5
      unfold bits_Get.l0
      repeat' first
      | (with_reducible exact ih0 _ _ _ _ _ _)
      | (with_reducible exact LeO.refl _)
      | (with_reducible exact LeO.none _)
      | (with_reducible refine LeO.ite ?_ ?_)
      | (with_reducible refine LeO.bind ?_ (fun _ => ?_))
      | exact ih0 _ _ _ _ _ _
      | exact LeO.none _
      | refine LeO.ite ?_ ?_
      | refine LeO.bind ?_ (fun _ => ?_)
theorem bits_Get.mono : ∀ a0 a1 k, LeO (bits_Get.f k a0 a1) (bits_Get.f (k + 1) a0 a1) := by
  intro a0 a1 k
  have ih0 := bits_Get.mono_l k
  unfold bits_Get.f
  repeat' first
      | (with_reducible exact ih0 _ _ _ _ _ _)
      | (with_reducible exact LeO.refl _)
      | (with_reducible exact LeO.none _)
      | (with_reducible refine LeO.ite ?_ ?_)
      | (with_reducible refine LeO.bind ?_ (fun _ => ?_))
      | exact ih0 _ _ _ _ _ _
      | exact LeO.none _
      | refine LeO.ite ?_ ?_
      | refine LeO.bind ?_ (fun _ => ?_)
set_option maxHeartbeats 8000000 in
set_option maxRecDepth 100000 in
theorem bits_Get.calls (k : Nat) (P0_ : Nat → Prop) (A0 : Option Addr) (c0 : Nat) (l0 : List Int) (a1 : Int) (r1 : Int) (r2 : List Int) (r3 : Int) (w : World) (hs0 : Kd.V (Kd.int .u8) 5 w w.heap.size (fun k_ => P0_ k_) (.slice A0 l0.length c0) l0) (h : bits_Get.f k l0 a1 = some (r1, r2, r3)) :
    Calls Try.prog 10 #[.slice A0 l0.length c0, .int .i64 a1] w fun e w' => ∃ v1_ : Value, e = .returned (.tuple #[.int .u64 r1, v1_, .int .i64 r3]) ∧ Kd.V (Kd.int .u8) 5 w' w.heap.size (fun k_ => (P0_ k_ ∨ w.heap.size ≤ k_)) v1_ r2 ∧ Below w.heap.size w w' := by
  have HO0 := Aside0.mk (show Kd.V (Kd.int .u8) 5 w w.heap.size (fun k_ => (P0_ k_ ∨ w.heap.size ≤ k_)) (.slice A0 l0.length c0) l0 from Kd.V_mono hs0 (fun k_ hk => .inl hk))
  have HB := Aside0.mk (Below.refl w.heap.size w)
  have H : ((bits_width.f a1).bind fun t101 => (if (l0.length : Int) < t101 then (some (0, l0, 10)) else (if 0 ≤ t101 then (if t101 ≤ (l0.length : Int) then ((some (l0.take (t101 : Int).toNat : List Int)).bind fun y102 => (bits_Get.l0 k l0 t101 0 y102 (y102.length : Int) 0)) else (none)) else (none)))) = some (r1, r2, r3) := h
  clear h
  replace H := Option.bind_eq_some_iff.mp H
  obtain ⟨t101, A30, H⟩ := H
  replace H : (if (l0.length : Int) < t101 then (some (0, l0, 10)) else (if 0 ≤ t101 then (if t101 ≤ (l0.length : Int) then ((some (l0.take (t101 : Int).toNat : List Int)).bind fun y102 => (bits_Get.l0 k l0 t101 0 y102 (y102.length : Int) 0)) else (none)) else (none))) = some (r1, r2, r3) := H
  have A3 := Aside0.mk A30
  clear A30
  by_cases c4 : (l0.length : Int) < t101
  · rw [if_pos c4] at H
    have c4b0 : decide ((l0.length : Int) < t101) = true := decide_eq_true c4
    clear c4
    simp only [Option.some.injEq, Prod.mk.injEq] at H
    obtain ⟨rfl, rfl, rfl⟩ := H
    go_enter Try.func10, Try.ntmps10
    go_wp2_with (first | (go_at_call 21; (with_reducible refine (bits_width.calls a1 t101 _ A3.out).mono ?_); rintro e w5 ⟨rfl, hb⟩; have n0_ := Aside0.mk (Kd.V_below (by (with_reducible repeat (first | apply Kd.V_alloc | apply Kd.V_drewN | apply Kd.V_drew)); exact HO0.out) hb); have n1_ := Aside0.mk (below_step (by repeat (first | (with_reducible first | exact HB.out | apply below_alloc | apply pw_below_drewN | apply below_drew1) | exact HB.out)) hb); clear HO0; clear HB; have HO0 := n0_; have HB := n1_; clear n0_ n1_; (try clear hb); (try clear hb2); (try clear hk); (try clear hi)))
    repeat (go_quiet (first | (go_at_call 21; (with_reducible refine (bits_width.calls a1 t101 _ A3.out).mono ?_); rintro e w5 ⟨rfl, hb⟩; have n0_ := Aside0.mk (Kd.V_below (by (with_reducible repeat (first | apply Kd.V_alloc | apply Kd.V_drewN | apply Kd.V_drew)); exact HO0.out) hb); have n1_ := Aside0.mk (below_step (by repeat (first | (with_reducible first | exact HB.out | apply below_alloc | apply pw_below_drewN | apply below_drew1) | exact HB.out)) hb); clear HO0; clear HB; have HO0 := n0_; have HB := n1_; clear n0_ n1_; (try clear hb); (try clear hb2); (try clear hk); (try clear hi))); try go_wp2_with (first | (go_at_call 21; (with_reducible refine (bits_width.calls a1 t101 _ A3.out).mono ?_); rintro e w5 ⟨rfl, hb⟩; have n0_ := Aside0.mk (Kd.V_below (by (with_reducible repeat (first | apply Kd.V_alloc | apply Kd.V_drewN | apply Kd.V_drew)); exact HO0.out) hb); have n1_ := Aside0.mk (below_step (by repeat (first | (with_reducible first | exact HB.out | apply below_alloc | apply pw_below_drewN | apply below_drew1) | exact HB.out)) hb); clear HO0; clear HB; have HO0 := n0_; have HB := n1_; clear n0_ n1_; (try clear hb); (try clear hb2); (try clear hk); (try clear hi))))
    go_ret3
    exact ⟨_, by first | rfl | (simp [errW_none, errW_some] <;> rfl) | (simp [*, errW_none, errW_some] <;> rfl), by (with_reducible repeat (first | apply Kd.V_alloc | apply Kd.V_drewN | apply Kd.V_drew)); exact HO0.out, by repeat (first | (with_reducible first | exact HB.out | apply below_alloc | apply pw_below_drewN | apply below_drew1) | exact HB.out)⟩
  · rw [if_neg c4] at H
    have c4b0 : decide ((l0.length : Int) < t101) = false := decide_eq_false c4
    clear c4
    by_cases c6 : 0 ≤ t101
    · rw [if_pos c6] at H
      have c6b0 := eq_true c6
      have c6b1 : decide (0 ≤ t101) = true := decide_eq_true c6
      clear c6
      by_cases c7 : t101 ≤ (l0.length : Int)
      · rw [if_pos c7] at H
        have c7b0 := eq_true c7
        have c7b1 : decide (t101 ≤ (l0.length : Int)) = true := decide_eq_true c7
        clear c7
        obtain ⟨y102, hy102⟩ : ∃ y_ : List Int, y_ = (l0.take (t101 : Int).toNat) := ⟨_, rfl⟩
        replace H : (bits_Get.l0 k l0 t101 0 y102 (y102.length : Int) 0) = some (r1, r2, r3) := by first | (rw [hy102]; with_reducible exact H) | (have H2_ := (Option.bind_some _ _).symm.trans H; rw [hy102]; with_reducible exact H2_) | (have H2_ := (Option.bind_some _ _).symm.trans H; with_reducible exact H2_) | with_reducible exact H | (rw [hy102]; exact H) | exact H
        have Ny102 := Aside0.mk hy102
        clear hy102
        have H' := Aside0.mk H
        clear H
        go_enter Try.func10, Try.ntmps10
        go_wp2_with (first | (go_at_call 21; (with_reducible refine (bits_width.calls a1 t101 _ A3.out).mono ?_); rintro e w8 ⟨rfl, hb⟩; have n0_ := Aside0.mk (Kd.V_below (by (with_reducible repeat (first | apply Kd.V_alloc | apply Kd.V_drewN | apply Kd.V_drew)); exact HO0.out) hb); have n1_ := Aside0.mk (below_step (by repeat (first | (with_reducible first | exact HB.out | apply below_alloc | apply pw_below_drewN | apply below_drew1) | exact HB.out)) hb); clear HO0; clear HB; have HO0 := n0_; have HB := n1_; clear n0_ n1_; (try clear hb); (try clear hb2); (try clear hk); (try clear hi); have q9 : (t101 : Int) ≤ ((l0.length : Int) : Int) := of_decide_eq_true (by first | (with_reducible assumption) | assumption); obtain ⟨i09, hi09, _, hsz9, _⟩ := info_parts info5; have hroom9 : l0.length ≤ c0 := (Kd.V_reads' HO0.out).2.1; have hC9 : Kd.F (Kd.int .u8) _ _ A0 l0.length l0 := (Kd.V_at (base := w.heap.size) HO0.out).2.2; have hcut9 := cut_to (P := Try.prog) 22 5 .i64 Try.underlying22 hi09 A0 l0.length c0 t101 (of_decide_eq_true (by first | (with_reducible assumption) | assumption)) q9 hroom9; have hr9 := Kd.F_take (m := (t101 : Int).toNat) hC9 (by omega); have hy9 : y102.length = (t101 : Int).toNat := (by rw [Ny102.out, List.length_take]; omega); rw [← Ny102.out] at hr9; rw [← hy9] at hcut9; have HO106 := Aside0.mk (show Kd.V (Kd.int .u8) 5 _ w.heap.size _ (.slice A0 y102.length c0) y102 from Kd.V_mk (by omega) hr9); have HC106 := Aside0.mk (show y102.length ≤ c0 from by omega); clear hr9 hC9 hroom9 hi09 hsz9; have KY9 := Aside0.mk hy9; clear hy9; replace q9 := eq_true q9))
        repeat (go_quiet (first | (go_at_call 21; (with_reducible refine (bits_width.calls a1 t101 _ A3.out).mono ?_); rintro e w8 ⟨rfl, hb⟩; have n0_ := Aside0.mk (Kd.V_below (by (with_reducible repeat (first | apply Kd.V_alloc | apply Kd.V_drewN | apply Kd.V_drew)); exact HO0.out) hb); have n1_ := Aside0.mk (below_step (by repeat (first | (with_reducible first | exact HB.out | apply below_alloc | apply pw_below_drewN | apply below_drew1) | exact HB.out)) hb); clear HO0; clear HB; have HO0 := n0_; have HB := n1_; clear n0_ n1_; (try clear hb); (try clear hb2); (try clear hk); (try clear hi); have q9 : (t101 : Int) ≤ ((l0.length : Int) : Int) := of_decide_eq_true (by first | (with_reducible assumption) | assumption); obtain ⟨i09, hi09, _, hsz9, _⟩ := info_parts info5; have hroom9 : l0.length ≤ c0 := (Kd.V_reads' HO0.out).2.1; have hC9 : Kd.F (Kd.int .u8) _ _ A0 l0.length l0 := (Kd.V_at (base := w.heap.size) HO0.out).2.2; have hcut9 := cut_to (P := Try.prog) 22 5 .i64 Try.underlying22 hi09 A0 l0.length c0 t101 (of_decide_eq_true (by first | (with_reducible assumption) | assumption)) q9 hroom9; have hr9 := Kd.F_take (m := (t101 : Int).toNat) hC9 (by omega); have hy9 : y102.length = (t101 : Int).toNat := (by rw [Ny102.out, List.length_take]; omega); rw [← Ny102.out] at hr9; rw [← hy9] at hcut9; have HO106 := Aside0.mk (show Kd.V (Kd.int .u8) 5 _ w.heap.size _ (.slice A0 y102.length c0) y102 from Kd.V_mk (by omega) hr9); have HC106 := Aside0.mk (show y102.length ≤ c0 from by omega); clear hr9 hC9 hroom9 hi09 hsz9; have KY9 := Aside0.mk hy9; clear hy9; replace q9 := eq_true q9)); try go_wp2_with (first | (go_at_call 21; (with_reducible refine (bits_width.calls a1 t101 _ A3.out).mono ?_); rintro e w8 ⟨rfl, hb⟩; have n0_ := Aside0.mk (Kd.V_below (by (with_reducible repeat (first | apply Kd.V_alloc | apply Kd.V_drewN | apply Kd.V_drew)); exact HO0.out) hb); have n1_ := Aside0.mk (below_step (by repeat (first | (with_reducible first | exact HB.out | apply below_alloc | apply pw_below_drewN | apply below_drew1) | exact HB.out)) hb); clear HO0; clear HB; have HO0 := n0_; have HB := n1_; clear n0_ n1_; (try clear hb); (try clear hb2); (try clear hk); (try clear hi); have q9 : (t101 : Int) ≤ ((l0.length : Int) : Int) := of_decide_eq_true (by first | (with_reducible assumption) | assumption); obtain ⟨i09, hi09, _, hsz9, _⟩ := info_parts info5; have hroom9 : l0.length ≤ c0 := (Kd.V_reads' HO0.out).2.1; have hC9 : Kd.F (Kd.int .u8) _ _ A0 l0.length l0 := (Kd.V_at (base := w.heap.size) HO0.out).2.2; have hcut9 := cut_to (P := Try.prog) 22 5 .i64 Try.underlying22 hi09 A0 l0.length c0 t101 (of_decide_eq_true (by first | (with_reducible assumption) | assumption)) q9 hroom9; have hr9 := Kd.F_take (m := (t101 : Int).toNat) hC9 (by omega); have hy9 : y102.length = (t101 : Int).toNat := (by rw [Ny102.out, List.length_take]; omega); rw [← Ny102.out] at hr9; rw [← hy9] at hcut9; have HO106 := Aside0.mk (show Kd.V (Kd.int .u8) 5 _ w.heap.size _ (.slice A0 y102.length c0) y102 from Kd.V_mk (by omega) hr9); have HC106 := Aside0.mk (show y102.length ≤ c0 from by omega); clear hr9 hC9 hroom9 hi09 hsz9; have KY9 := Aside0.mk hy9; clear hy9; replace q9 := eq_true q9)))
        go_loopg [8, 22] k (fun kq v8 v22 w' => ∃ (x8_1 : Int) (x22_1 : Int), v8 = .int .u64 x8_1 ∧ v22 = .int .i64 x22_1 ∧ Aside0 (bits_Get.l0 kq l0 t101 x8_1 y102 (y102.length : Int) x22_1 = some (r1, r2, r3)) ∧ Aside0 (kq ≤ k) ∧ Aside0 (Kd.V (Kd.int .u8) 5 w' w.heap.size (fun k_ => (P0_ k_ ∨ w.heap.size ≤ k_)) (.slice A0 l0.length c0) l0) ∧ Aside0 (Kd.V (Kd.int .u8) 5 w' w.heap.size (fun k_ => (P0_ k_ ∨ w.heap.size ≤ k_)) (.slice A0 y102.length c0) y102) ∧ Aside0 (Below w.heap.size w w'))
        case atStart => exact ⟨(0), (0), (by first | rfl | (simp; done) | (simp [*]; done)), (by first | rfl | (simp; done) | (simp [*]; done)), H', ⟨Nat.le_refl _⟩, ⟨by (with_reducible repeat (first | apply Kd.V_alloc | apply Kd.V_drewN | apply Kd.V_drew)); exact HO0.out⟩, ⟨by (with_reducible repeat (first | apply Kd.V_alloc | apply Kd.V_drewN | apply Kd.V_drew)); exact HO106.out⟩, ⟨by repeat (first | (with_reducible first | exact HB.out | apply below_alloc | apply pw_below_drewN | apply below_drew1) | exact HB.out)⟩⟩
        case round =>
          clear H'
          try clear c1
          try clear p2
          try clear c4
          try clear c4b0
          try clear c6
          try clear c6b0
          try clear c6b1
          try clear c7
          try clear c7b0
          try clear c7b1
          try clear q9
          try clear q9
          obtain ⟨x8_1, x22_1, rfl, rfl, HA, HK1, HO_0, HO_20, HB⟩ := hrel
          cases gk with
          | zero => exact absurd HA.out (by simp [bits_Get.l0])
          | succ k1 =>
            have H := HA.out
            clear HA
            simp only [bits_Get.l0] at H
            by_cases c10 : x22_1 < (y102.length : Int)
            · rw [if_pos c10] at H
              have c10b0 : decide (x22_1 < (y102.length : Int)) = true := decide_eq_true c10
              clear c10
              by_cases c11 : 0 ≤ x22_1
              · rw [if_pos c11] at H
                have c11b0 : decide (0 ≤ x22_1) = true := decide_eq_true c11
                clear c11
                by_cases c12 : x22_1 < (y102.length : Int)
                · rw [if_pos c12] at H
                  have c12b0 : decide (x22_1 < (y102.length : Int)) = true := decide_eq_true c12
                  clear c12
                  obtain ⟨ji13, hji13⟩ : ∃ j_ : Int, (wrap64 (8 * x22_1)) = j_ := ⟨_, rfl⟩
                  replace H : (if 0 ≤ (ji13) then (bits_Get.l0 k1 l0 t101 (Go.bits .or .u64 x8_1 (shl .u64 (IntKind.u64.wrap (rd y102 x22_1)) (ji13))) y102 (y102.length : Int) (wrap64 (x22_1 + 1))) else (none)) = some (r1, r2, r3) := by first | (rw [hji13] at H; exact H) | (simp only [hji13] at H ⊢; exact H)
                  have hji13w : (IntKind.i64.wrap (8 * x22_1)) = ji13 := (i64_w _).trans hji13
                  by_cases c14 : 0 ≤ (ji13)
                  · rw [if_pos c14] at H
                    have c14b0 := eq_true c14
                    have c14b1 : decide (0 ≤ (ji13)) = true := decide_eq_true c14
                    clear c14
                    obtain ⟨ji15, hji15⟩ : ∃ j_ : Int, (shl .u64 (IntKind.u64.wrap (rd y102 x22_1)) (ji13)) = j_ := ⟨_, rfl⟩
                    replace H : (bits_Get.l0 k1 l0 t101 (Go.bits .or .u64 x8_1 (ji15)) y102 (y102.length : Int) (wrap64 (x22_1 + 1))) = some (r1, r2, r3) := by first | (rw [hji15] at H; exact H) | (simp only [hji15] at H ⊢; exact H)
                    have hji15_ : (IntKind.u64.wrap ((IntKind.u64.wrap (rd y102 x22_1)) * 2 ^ min (ji13).toNat 64)) = ji15 := hji15
                    have hji15z : (ji13) ≤ 64 → (IntKind.u64.wrap ((IntKind.u64.wrap (rd y102 x22_1)) * 2 ^ (ji13).toNat)) = ji15 := shl_small hji15
                    have H' := Aside0.mk H
                    clear H
                    have p107 : 0 ≤ (x22_1 : Int) := of_decide_eq_true (by first | (with_reducible assumption) | assumption)
                    have q107 : x22_1 < (y102.length : Int) := of_decide_eq_true (by first | (with_reducible assumption) | assumption)
                    obtain ⟨ad107, e107, hx107_0⟩ := Kd.at_int (Kd.V_reads' HO_20.out).2.2 x22_1 p107 q107
                    cases e107
                    replace p107 := eq_true p107
                    replace q107 := eq_true q107
                    go_wp2
                    repeat (go_quiet (fail); try go_wp2)
                    go_roundg k1
                    case measure => have := HK1.out; omega
                    case rel => exact ⟨(Go.bits .or .u64 x8_1 (ji15)), (wrap64 (x22_1 + 1)), (by first | rfl | (simp; done) | (simp only [← hji15] <;> (first | rfl | simp)) | (simp [*]; done)), (by first | rfl | (simp; done) | (simp [*]; done)), H', ⟨by have := HK1.out; omega⟩, ⟨by (with_reducible repeat (first | apply Kd.V_alloc | apply Kd.V_drewN | apply Kd.V_drew)); exact HO_0.out⟩, ⟨by (with_reducible repeat (first | apply Kd.V_alloc | apply Kd.V_drewN | apply Kd.V_drew)); exact HO_20.out⟩, ⟨by repeat (first | (with_reducible first | exact HB.out | apply below_alloc | apply pw_below_drewN | apply below_drew1) | exact HB.out)⟩⟩
                  · rw [if_neg c14] at H
                    exact absurd H (by simp)
                · rw [if_neg c12] at H
                  exact absurd H (by simp)
              · rw [if_neg c11] at H
                exact absurd H (by simp)
            · rw [if_neg c10] at H
              have c10b0 : decide (x22_1 < (y102.length : Int)) = false := decide_eq_false c10
              clear c10
              by_cases c16 : 0 ≤ t101
              · rw [if_pos c16] at H
                have c16b0 := eq_true c16
                have c16b1 : decide (0 ≤ t101) = true := decide_eq_true c16
                clear c16
                by_cases c17 : t101 ≤ (l0.length : Int)
                · rw [if_pos c17] at H
                  have c17b0 := eq_true c17
                  have c17b1 : decide (t101 ≤ (l0.length : Int)) = true := decide_eq_true c17
                  clear c17
                  obtain ⟨y108, hy108⟩ : ∃ y_ : List Int, y_ = (l0.drop (t101 : Int).toNat) := ⟨_, rfl⟩
                  replace H : (some (x8_1, y108, 0)) = some (r1, r2, r3) := by first | (rw [hy108]; with_reducible exact H) | (have H2_ := (Option.bind_some _ _).symm.trans H; rw [hy108]; with_reducible exact H2_) | (have H2_ := (Option.bind_some _ _).symm.trans H; with_reducible exact H2_) | with_reducible exact H | (rw [hy108]; exact H) | exact H
                  have Ny108 := Aside0.mk hy108
                  clear hy108
                  simp only [Option.some.injEq, Prod.mk.injEq] at H
                  obtain ⟨rfl, rfl, rfl⟩ := H
                  have q18 : (t101 : Int) ≤ ((l0.length : Int) : Int) := of_decide_eq_true (by first | (with_reducible assumption) | assumption)
                  obtain ⟨i018, hi018, _, hsz18, _⟩ := info_parts info5
                  have hroom18 : l0.length ≤ c0 := (Kd.V_reads' HO_0.out).2.1
                  have hC18 : Kd.F (Kd.int .u8) _ _ A0 l0.length l0 := (Kd.V_at (base := w.heap.size) HO_0.out).2.2
                  have q018 : (0 : Int) ≤ (t101 : Int) := of_decide_eq_true (by first | (with_reducible assumption) | assumption)
                  have hcut18 := cut_from (P := Try.prog) 22 5 .i64 Try.underlying22 hi018 1 hsz18 A0 l0.length c0 t101 q018 q18
                  have hr18 := Kd.F_cut (m := (t101 : Int).toNat) (c := c0) hC18 (by omega) hroom18
                  obtain ⟨A18, hA18⟩ : ∃ A1, A1 = (if c0 = (t101 : Int).toNat then A0 else (A0 : Option Addr).map (·.add ((t101 : Int).toNat * 1))) := ⟨_, rfl⟩
                  obtain ⟨c18, hc18⟩ : ∃ c1, c1 = c0 - (t101 : Int).toNat := ⟨_, rfl⟩
                  have hy18 : y108.length = l0.length - (t101 : Int).toNat := (by rw [Ny108.out, List.length_drop] <;> omega)
                  rw [show (l0).drop (t101 : Int).toNat = y108 from Ny108.out.symm] at hr18
                  replace hr18 : Kd.F (Kd.int .u8) _ _ A18 y108.length y108 := (by rw [hA18]; exact hr18)
                  rw [← hy18, ← hA18, ← hc18] at hcut18
                  have HO112 := Aside0.mk (show Kd.V (Kd.int .u8) 5 _ w.heap.size _ (.slice A18 y108.length c18) y108 from Kd.V_mk (by rw [hy18, hc18]; exact Nat.sub_le_sub_right hroom18 _) hr18)
                  have HC112 := Aside0.mk (show y108.length ≤ c18 from by rw [hy18, hc18]; exact Nat.sub_le_sub_right hroom18 _)
                  clear hr18 hC18 hroom18 hi018 hsz18 hc18
                  have KY18 := Aside0.mk hy18
                  have KA18 := Aside0.mk hA18
                  clear hy18 hA18
                  replace q18 := eq_true q18
                  go_wp2
                  repeat (go_quiet (fail); try go_wp2)
                  go_ret3
                  exact ⟨_, by first | rfl | (simp [errW_none, errW_some] <;> rfl) | (simp [*, errW_none, errW_some] <;> rfl), by (with_reducible repeat (first | apply Kd.V_alloc | apply Kd.V_drewN | apply Kd.V_drew)); exact HO112.out, by repeat (first | (with_reducible first | exact HB.out | apply below_alloc | apply pw_below_drewN | apply below_drew1) | exact HB.out)⟩
                · rw [if_neg c17] at H
                  exact absurd H (by simp)
              · rw [if_neg c16] at H
                exact absurd H (by simp)
      · rw [if_neg c7] at H
        exact absurd H (by simp)
    · rw [if_neg c6] at H
      exact absurd H (by simp)

end Go.Proofs.Ytgjpaldbagkahaa.Print
