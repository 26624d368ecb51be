-- PRINTED by print.py (a twelfth state) out of the translation. Not trusted: Lean checks it.
import Derived.Test.YtgjpaldbagkahaaPrint0
namespace Go.Proofs.Ytgjpaldbagkahaa.Print
open Go.RowKit Go.Proofs.YtgjpaldbagkahaaX Go.Proofs.YtgjpaldbagkahaaW.PrintWords Go.Proofs.YtgjpaldbagkahaaW.PrintLast Go.Proofs.YtgjpaldbagkahaaW.PrintMore
attribute [local go_sem] max2_int min2_int max_two min_two max_three min_three max_four min_four   -- for this text's walks alone
set_option linter.unusedVariables false
set_option linter.unusedSimpArgs false

/-! ### spillwayref1_Get: function 11 -/
def spillwayref1_Get.l0 : Nat → List Int → Int → Int → Int → Option (Int × List Int × Bool)
  | 0, _, _, _, _ => none
  | k + 1, x0, x7, x8, x9 => if x9 < x7 then (if 0 ≤ x9 then (if x9 < (x0.length : Int) then (if 0 ≤ (IntKind.u64.wrap (8 * (IntKind.u64.wrap (x9)))) then (spillwayref1_Get.l0 k x0 x7 (Go.bits .or .u64 x8 (shl .u64 (IntKind.u64.wrap (rd x0 x9)) (IntKind.u64.wrap (8 * (IntKind.u64.wrap (x9)))))) (wrap64 (x9 + 1))) else (none)) else (none)) else (none)) else (if 0 ≤ x7 then (if x7 ≤ (x0.length : Int) then (some (x8, (x0.drop (x7 : Int).toNat), true)) else (none)) else (none))
def spillwayref1_Get.f (k : Nat) (l0 : List Int) (a1 : Int) : Option (Int × List Int × Bool) := if (l0.length : Int) < (mx 0 (mn a1 8)) then (some (0, l0, false)) else (spillwayref1_Get.l0 k l0 (mx 0 (mn a1 8)) 0 0)
theorem spillwayref1_Get.mono_l : ∀ k, (∀ y0 y1 y2 y3, LeO (spillwayref1_Get.l0 k y0 y1 y2 y3) (spillwayref1_Get.l0 (k + 1) y0 y1 y2 y3))
  | 0 => fun _ _ _ _ r h => by simp [spillwayref1_Get.l0] at h
  | k + 1 => by
    have ih0 := spillwayref1_Get.mono_l k
    · intro y0 y1 y2 y3
      unfold spillwayref1_Get.l0
      repeat' first
      | (with_reducible exact ih0 _ _ _ _)
      | (with_reducible exact LeO.refl _)
      | (with_reducible exact LeO.none _)
      | (with_reducible refine LeO.ite ?_ ?_)
      | (with_reducible refine LeO.bind ?_ (fun _ => ?_))
      | exact ih0 _ _ _ _
      | exact LeO.none _
      | refine LeO.ite ?_ ?_
      | refine LeO.bind ?_ (fun _ => ?_)
theorem spillwayref1_Get.mono : ∀ a0 a1 k, LeO (spillwayref1_Get.f k a0 a1) (spillwayref1_Get.f (k + 1) a0 a1) := by
  intro a0 a1 k
  have ih0 := spillwayref1_Get.mono_l k
  unfold spillwayref1_Get.f
  repeat' first
      | (with_reducible exact ih0 _ _ _ _)
      | (with_reducible exact LeO.refl _)
      | (with_reducible exact LeO.none _)
      | (with_reducible refine LeO.ite ?_ ?_)
      | (with_reducible refine LeO.bind ?_ (fun _ => ?_))
      | exact ih0 _ _ _ _
      | exact LeO.none _
      | refine LeO.ite ?_ ?_
      | refine LeO.bind ?_ (fun _ => ?_)
set_option maxHeartbeats 8000000 in
set_option maxRecDepth 100000 in
theorem spillwayref1_Get.calls (k : Nat) (P0_ : Nat → Prop) (A0 : Option Addr) (c0 : Nat) (l0 : List Int) (a1 : Int) (r1 : Int) (r2 : List Int) (r3 : Bool) (w : World) (hs0 : Kd.V (Kd.int .u8) 5 w w.heap.size (fun k_ => P0_ k_) (.slice A0 l0.length c0) l0) (h : spillwayref1_Get.f k l0 a1 = some (r1, r2, r3)) :
    Calls Try.prog 11 #[.slice A0 l0.length c0, .int .i64 a1] w fun e w' => ∃ v1_ : Value, e = .returned (.tuple #[.int .u64 r1, v1_, .bool r3]) ∧ Kd.V (Kd.int .u8) 5 w' w.heap.size (fun k_ => (P0_ k_ ∨ w.heap.size ≤ k_)) v1_ r2 ∧ Below w.heap.size w w' := by
  have HO0 := Aside0.mk (show Kd.V (Kd.int .u8) 5 w w.heap.size (fun k_ => (P0_ k_ ∨ w.heap.size ≤ k_)) (.slice A0 l0.length c0) l0 from Kd.V_mono hs0 (fun k_ hk => .inl hk))
  have HB := Aside0.mk (Below.refl w.heap.size w)
  have H : (if (l0.length : Int) < (mx 0 (mn a1 8)) then (some (0, l0, false)) else (spillwayref1_Get.l0 k l0 (mx 0 (mn a1 8)) 0 0)) = some (r1, r2, r3) := h
  clear h
  obtain ⟨ji3, hji3⟩ : ∃ j_ : Int, (mn a1 8) = j_ := ⟨_, rfl⟩
  replace H : (if (l0.length : Int) < (mx 0 (ji3)) then (some (0, l0, false)) else (spillwayref1_Get.l0 k l0 (mx 0 (ji3)) 0 0)) = some (r1, r2, r3) := by first | (rw [hji3] at H; exact H) | (simp only [hji3] at H ⊢; exact H)
  (try (have hji3h : ji3 ≤ 8 := by (rw [← hji3]; unfold mn; (repeat' split) <;> omega)))
  (try (have hji3g : ji3 ≤ 64 := by omega))
  have hji3_ : (if 8 < a1 then 8 else a1) = ji3 := hji3
  obtain ⟨ji4, hji4⟩ : ∃ j_ : Int, (mx 0 (ji3)) = j_ := ⟨_, rfl⟩
  replace H : (if (l0.length : Int) < (ji4) then (some (0, l0, false)) else (spillwayref1_Get.l0 k l0 ji4 0 0)) = some (r1, r2, r3) := by first | (rw [hji4] at H; exact H) | (simp only [hji4] at H ⊢; exact H)
  have hji4_ : (if 0 < (ji3) then (ji3) else 0) = ji4 := hji4
  by_cases c5 : (l0.length : Int) < (ji4)
  · rw [if_pos c5] at H
    have c5b0 : decide ((l0.length : Int) < (ji4)) = true := decide_eq_true c5
    clear c5
    simp only [Option.some.injEq, Prod.mk.injEq] at H
    obtain ⟨rfl, rfl, rfl⟩ := H
    go_enter Try.func11, Try.ntmps11
    go_wp2
    repeat (go_quiet (fail); try go_wp2)
    go_ret3
    exact ⟨_, by first | rfl | (simp [errW_none, errW_some] <;> rfl) | (simp only [← hji3, ← hji4]; first | rfl | (simp [errW_none, errW_some] <;> rfl)) | (simp [*, errW_none, errW_some] <;> rfl), by (with_reducible repeat (first | apply Kd.V_alloc | apply Kd.V_drewN | apply Kd.V_drew)); exact HO0.out, by repeat (first | (with_reducible first | exact HB.out | apply below_alloc | apply pw_below_drewN | apply below_drew1) | exact HB.out)⟩
  · rw [if_neg c5] at H
    have c5b0 : decide ((l0.length : Int) < (ji4)) = false := decide_eq_false c5
    clear c5
    have H' := Aside0.mk H
    clear H
    go_enter Try.func11, Try.ntmps11
    go_wp2
    repeat (go_quiet (fail); try go_wp2)
    go_loopg [8, 9] k (fun kq v8 v9 w' => ∃ (x8_1 : Int) (x9_1 : Int), v8 = .int .u64 x8_1 ∧ v9 = .int .i64 x9_1 ∧ Aside0 (spillwayref1_Get.l0 kq l0 ji4 x8_1 x9_1 = some (r1, r2, r3)) ∧ Aside0 (kq ≤ k) ∧ Aside0 (Kd.V (Kd.int .u8) 5 w' w.heap.size (fun k_ => (P0_ k_ ∨ w.heap.size ≤ k_)) (.slice A0 l0.length c0) l0) ∧ Aside0 (Below w.heap.size w w'))
    case atStart => exact ⟨(0), (0), (by first | rfl | (simp; done) | (simp [*]; done)), (by first | rfl | (simp; done) | (simp [*]; done)), H', ⟨Nat.le_refl _⟩, ⟨by (with_reducible repeat (first | apply Kd.V_alloc | apply Kd.V_drewN | apply Kd.V_drew)); exact HO0.out⟩, ⟨by repeat (first | (with_reducible first | exact HB.out | apply below_alloc | apply pw_below_drewN | apply below_drew1) | exact HB.out)⟩⟩
    case round =>
      clear H'
      try clear c1
      try clear p2
      try clear c5
      try clear c5b0
      obtain ⟨x8_1, x9_1, rfl, rfl, HA, HK1, HO_0, HB⟩ := hrel
      cases gk with
      | zero => exact absurd HA.out (by simp [spillwayref1_Get.l0])
      | succ k1 =>
        have H := HA.out
        clear HA
        simp only [spillwayref1_Get.l0] at H
        by_cases c6 : x9_1 < ji4
        · rw [if_pos c6] at H
          have c6b0 : decide (x9_1 < ji4) = true := decide_eq_true c6
          clear c6
          by_cases c7 : 0 ≤ x9_1
          · rw [if_pos c7] at H
            have c7b0 : decide (0 ≤ x9_1) = true := decide_eq_true c7
            clear c7
            by_cases c8 : x9_1 < (l0.length : Int)
            · rw [if_pos c8] at H
              have c8b0 : decide (x9_1 < (l0.length : Int)) = true := decide_eq_true c8
              clear c8
              obtain ⟨ji9, hji9⟩ : ∃ j_ : Int, (IntKind.u64.wrap (8 * (IntKind.u64.wrap (x9_1)))) = j_ := ⟨_, rfl⟩
              replace H : (if 0 ≤ (ji9) then (spillwayref1_Get.l0 k1 l0 ji4 (Go.bits .or .u64 x8_1 (shl .u64 (IntKind.u64.wrap (rd l0 x9_1)) (ji9))) (wrap64 (x9_1 + 1))) else (none)) = some (r1, r2, r3) := by first | (rw [hji9] at H; exact H) | (simp only [hji9] at H ⊢; exact H)
              by_cases c10 : 0 ≤ (ji9)
              · rw [if_pos c10] at H
                have c10b0 := eq_true c10
                have c10b1 : decide (0 ≤ (ji9)) = true := decide_eq_true c10
                clear c10
                obtain ⟨ji11, hji11⟩ : ∃ j_ : Int, (shl .u64 (IntKind.u64.wrap (rd l0 x9_1)) (ji9)) = j_ := ⟨_, rfl⟩
                replace H : (spillwayref1_Get.l0 k1 l0 ji4 (Go.bits .or .u64 x8_1 (ji11)) (wrap64 (x9_1 + 1))) = some (r1, r2, r3) := by first | (rw [hji11] at H; exact H) | (simp only [hji11] at H ⊢; exact H)
                have hji11_ : (IntKind.u64.wrap ((IntKind.u64.wrap (rd l0 x9_1)) * 2 ^ min (ji9).toNat 64)) = ji11 := hji11
                have hji11z : (ji9) ≤ 64 → (IntKind.u64.wrap ((IntKind.u64.wrap (rd l0 x9_1)) * 2 ^ (ji9).toNat)) = ji11 := shl_small hji11
                have H' := Aside0.mk H
                clear H
                have p113 : 0 ≤ (x9_1 : Int) := of_decide_eq_true (by first | (with_reducible assumption) | assumption)
                have q113 : x9_1 < (l0.length : Int) := of_decide_eq_true (by first | (with_reducible assumption) | assumption)
                obtain ⟨ad113, e113, hx113_0⟩ := Kd.at_int (Kd.V_reads' HO_0.out).2.2 x9_1 p113 q113
                cases e113
                replace p113 := eq_true p113
                replace q113 := eq_true q113
                go_wp2
                repeat (go_quiet (fail); try go_wp2)
                go_roundg k1
                case measure => have := HK1.out; omega
                case rel => exact ⟨(Go.bits .or .u64 x8_1 (ji11)), (wrap64 (x9_1 + 1)), (by first | rfl | (simp; done) | (simp only [← hji11] <;> (first | rfl | simp)) | (simp [*]; done)), (by first | rfl | (simp; done) | (simp [*]; done)), H', ⟨by have := HK1.out; omega⟩, ⟨by (with_reducible repeat (first | apply Kd.V_alloc | apply Kd.V_drewN | apply Kd.V_drew)); exact HO_0.out⟩, ⟨by repeat (first | (with_reducible first | exact HB.out | apply below_alloc | apply pw_below_drewN | apply below_drew1) | exact HB.out)⟩⟩
              · rw [if_neg c10] at H
                exact absurd H (by simp)
            · rw [if_neg c8] at H
              exact absurd H (by simp)
          · rw [if_neg c7] at H
            exact absurd H (by simp)
        · rw [if_neg c6] at H
          have c6b0 : decide (x9_1 < ji4) = false := decide_eq_false c6
          clear c6
          by_cases c12 : 0 ≤ ji4
          · rw [if_pos c12] at H
            have c12b0 := eq_true c12
            have c12b1 : decide (0 ≤ ji4) = true := decide_eq_true c12
            clear c12
            by_cases c13 : ji4 ≤ (l0.length : Int)
            · rw [if_pos c13] at H
              have c13b0 := eq_true c13
              have c13b1 : decide (ji4 ≤ (l0.length : Int)) = true := decide_eq_true c13
              clear c13
              obtain ⟨y114, hy114⟩ : ∃ y_ : List Int, y_ = (l0.drop (ji4 : Int).toNat) := ⟨_, rfl⟩
              replace H : (some (x8_1, y114, true)) = some (r1, r2, r3) := by first | (rw [hy114]; with_reducible exact H) | (have H2_ := (Option.bind_some _ _).symm.trans H; rw [hy114]; with_reducible exact H2_) | (have H2_ := (Option.bind_some _ _).symm.trans H; with_reducible exact H2_) | with_reducible exact H | (rw [hy114]; exact H) | exact H
              have Ny114 := Aside0.mk hy114
              clear hy114
              simp only [Option.some.injEq, Prod.mk.injEq] at H
              obtain ⟨rfl, rfl, rfl⟩ := H
              have q14 : (ji4 : Int) ≤ ((l0.length : Int) : Int) := of_decide_eq_true (by first | (with_reducible assumption) | assumption)
              obtain ⟨i014, hi014, _, hsz14, _⟩ := info_parts info5
              have hroom14 : l0.length ≤ c0 := (Kd.V_reads' HO_0.out).2.1
              have hC14 : Kd.F (Kd.int .u8) _ _ A0 l0.length l0 := (Kd.V_at (base := w.heap.size) HO_0.out).2.2
              have q014 : (0 : Int) ≤ (ji4 : Int) := of_decide_eq_true (by first | (with_reducible assumption) | assumption)
              have hcut14 := cut_from (P := Try.prog) 22 5 .i64 Try.underlying22 hi014 1 hsz14 A0 l0.length c0 ji4 q014 q14
              have hr14 := Kd.F_cut (m := (ji4 : Int).toNat) (c := c0) hC14 (by omega) hroom14
              obtain ⟨A14, hA14⟩ : ∃ A1, A1 = (if c0 = (ji4 : Int).toNat then A0 else (A0 : Option Addr).map (·.add ((ji4 : Int).toNat * 1))) := ⟨_, rfl⟩
              obtain ⟨c14, hc14⟩ : ∃ c1, c1 = c0 - (ji4 : Int).toNat := ⟨_, rfl⟩
              have hy14 : y114.length = l0.length - (ji4 : Int).toNat := (by rw [Ny114.out, List.length_drop] <;> omega)
              rw [show (l0).drop (ji4 : Int).toNat = y114 from Ny114.out.symm] at hr14
              replace hr14 : Kd.F (Kd.int .u8) _ _ A14 y114.length y114 := (by rw [hA14]; exact hr14)
              rw [← hy14, ← hA14, ← hc14] at hcut14
              have HO118 := Aside0.mk (show Kd.V (Kd.int .u8) 5 _ w.heap.size _ (.slice A14 y114.length c14) y114 from Kd.V_mk (by rw [hy14, hc14]; exact Nat.sub_le_sub_right hroom14 _) hr14)
              have HC118 := Aside0.mk (show y114.length ≤ c14 from by rw [hy14, hc14]; exact Nat.sub_le_sub_right hroom14 _)
              clear hr14 hC14 hroom14 hi014 hsz14 hc14
              have KY14 := Aside0.mk hy14
              have KA14 := Aside0.mk hA14
              clear hy14 hA14
              replace q14 := eq_true q14
              go_wp2
              repeat (go_quiet (fail); try go_wp2)
              go_ret3
              exact ⟨_, by first | rfl | (simp [errW_none, errW_some] <;> rfl) | (simp only [← hji3, ← hji4]; first | rfl | (simp [errW_none, errW_some] <;> rfl)) | (simp [*, errW_none, errW_some] <;> rfl), by (with_reducible repeat (first | apply Kd.V_alloc | apply Kd.V_drewN | apply Kd.V_drew)); exact HO118.out, by repeat (first | (with_reducible first | exact HB.out | apply below_alloc | apply pw_below_drewN | apply below_drew1) | exact HB.out)⟩
            · rw [if_neg c13] at H
              exact absurd H (by simp)
          · rw [if_neg c12] at H
            exact absurd H (by simp)

end Go.Proofs.Ytgjpaldbagkahaa.Print
