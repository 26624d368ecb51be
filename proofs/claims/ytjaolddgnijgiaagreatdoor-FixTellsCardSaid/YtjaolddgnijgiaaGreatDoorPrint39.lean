-- PRINTED by print.py (a twelfth state) out of the translation. Not trusted: Lean checks it.
import Derived.Test.YtjaolddgnijgiaaGreatDoorPrint0
import Derived.Test.YtjaolddgnijgiaaGreatDoorPrint21
import Derived.Test.YtjaolddgnijgiaaGreatDoorPrint26
import Derived.Test.YtjaolddgnijgiaaGreatDoorPrint38
namespace Go.Proofs.YtjaolddgnijgiaaGreatDoor.Print
open Go.RowKit Go.Proofs.YtjaolddgnijgiaaGreatDoorX Go.Proofs.YtjaolddgnijgiaaGreatDoorW.PrintWords Go.Proofs.YtjaolddgnijgiaaGreatDoorW.PrintLast Go.Proofs.YtjaolddgnijgiaaGreatDoorW.PrintMore
attribute [local go_sem] max2_int min2_int max_two min_two max_three min_three max_four min_four   -- for this text's walks alone
set_option linter.unusedVariables false
set_option linter.unusedSimpArgs false

/-! ### spillwayref2_Print: function 22 -/
mutual
def spillwayref2_Print.j0 : Nat → Bool → Bool → Int → Option (ByteArray)
 | 0, _, _, _ => none
 | k + 1, x12, x337000, x337001 => if x12 = true then (some (⟨#[111, 118, 102]⟩ : ByteArray)) else ((spillwayref2_size.f x337001).bind fun t338 => ((spillwayref2_Digits.f k (IntKind.u64.wrap (Int.tdiv t338 1000000))).bind fun t339 => ((spillwayref2_Digits.f k (IntKind.u64.wrap ((Int.tmod t338 1000000) + 1000000))).bind fun t340 => (if 1 ≤ (t340.size : Int) then (spillwayref2_Print.l0 k t339 (t340.extract 1 t340.size) x337000 x337001) else (none)))))
def spillwayref2_Print.j2 : Nat → ByteArray → ByteArray → Bool → Int → Option (ByteArray)
 | 0, _, _, _, _ => none
 | k + 1, x4, x5, x337000, x337001 => if x5.toList = ([] : List UInt8) then (if x337001 < 0 then (if 1 + x4.size ≤ 9223372036854775807 then (some ((⟨#[45]⟩ : ByteArray) ++ x4)) else (none)) else (some x4)) else (if x4.size + 1 ≤ 9223372036854775807 then (if (x4 ++ (⟨#[46]⟩ : ByteArray)).size + x5.size ≤ 9223372036854775807 then (if x337001 < 0 then (if 1 + ((x4 ++ (⟨#[46]⟩ : ByteArray)) ++ x5).size ≤ 9223372036854775807 then (some ((⟨#[45]⟩ : ByteArray) ++ ((x4 ++ (⟨#[46]⟩ : ByteArray)) ++ x5))) else (none)) else (some ((x4 ++ (⟨#[46]⟩ : ByteArray)) ++ x5))) else (none)) else (none))
def spillwayref2_Print.l0 : Nat → ByteArray → ByteArray → Bool → Int → Option (ByteArray)
 | 0, _, _, _, _ => none
 | k + 1, x4, x5, x337000, x337001 => if (x5.size : Int) > 0 then (if 0 ≤ (wrap64 ((x5.size : Int) - 1)) then (if (wrap64 ((x5.size : Int) - 1)) < (x5.size : Int) then (if (bt x5 (wrap64 ((x5.size : Int) - 1))) = 48 then (if (wrap64 ((x5.size : Int) - 1)) ≤ (x5.size : Int) then (spillwayref2_Print.l0 k x4 (x5.extract 0 ((wrap64 ((x5.size : Int) - 1)) : Int).toNat) x337000 x337001) else (none)) else (spillwayref2_Print.j2 k x4 x5 x337000 x337001)) else (none)) else (none)) else (spillwayref2_Print.j2 k x4 x5 x337000 x337001)
end
def spillwayref2_Print.f (k : Nat) (a0_0 : Bool) (a0_1 : Int) : Option (ByteArray) := if a0_0 = true then (spillwayref2_Print.j0 k true a0_0 a0_1) else ((spillwayref2_Is.f a0_0 a0_1).bind fun t337 => (spillwayref2_Print.j0 k (!t337) a0_0 a0_1))
theorem spillwayref2_Print.mono_l : ∀ k, (∀ y0 y1 y2, LeO (spillwayref2_Print.j0 k y0 y1 y2) (spillwayref2_Print.j0 (k + 1) y0 y1 y2)) ∧ (∀ y0 y1 y2 y3, LeO (spillwayref2_Print.j2 k y0 y1 y2 y3) (spillwayref2_Print.j2 (k + 1) y0 y1 y2 y3)) ∧ (∀ y0 y1 y2 y3, LeO (spillwayref2_Print.l0 k y0 y1 y2 y3) (spillwayref2_Print.l0 (k + 1) y0 y1 y2 y3))
 | 0 => ⟨fun _ _ _ r h => by simp [spillwayref2_Print.j0] at h, fun _ _ _ _ r h => by simp [spillwayref2_Print.j2] at h, fun _ _ _ _ r h => by simp [spillwayref2_Print.l0] at h⟩
 | k + 1 => by
  obtain ⟨ih0, ih1, ih2⟩ := spillwayref2_Print.mono_l k
  refine ⟨?_, ?_, ?_⟩
  ·intro y0 y1 y2
   unfold spillwayref2_Print.j0
   repeat' first
   | (with_reducible exact ih0 _ _ _)
   | (with_reducible exact ih1 _ _ _ _)
   | (with_reducible exact ih2 _ _ _ _)
   | (with_reducible exact spillwayref2_Digits.mono _ _)
   | (with_reducible exact LeO.refl _)
   | (with_reducible exact LeO.none _)
   | (with_reducible refine LeO.ite ?_ ?_)
   | (with_reducible refine LeO.bind ?_ (fun _ => ?_))
   | exact ih0 _ _ _
   | exact ih1 _ _ _ _
   | exact ih2 _ _ _ _
   | exact spillwayref2_Digits.mono _ _
   | exact LeO.none _
   | refine LeO.ite ?_ ?_
   | refine LeO.bind ?_ (fun _ => ?_)
  ·intro y0 y1 y2 y3
   unfold spillwayref2_Print.j2
   repeat' first
   | (with_reducible exact ih0 _ _ _)
   | (with_reducible exact ih1 _ _ _ _)
   | (with_reducible exact ih2 _ _ _ _)
   | (with_reducible exact spillwayref2_Digits.mono _ _)
   | (with_reducible exact LeO.refl _)
   | (with_reducible exact LeO.none _)
   | (with_reducible refine LeO.ite ?_ ?_)
   | (with_reducible refine LeO.bind ?_ (fun _ => ?_))
   | exact ih0 _ _ _
   | exact ih1 _ _ _ _
   | exact ih2 _ _ _ _
   | exact spillwayref2_Digits.mono _ _
   | exact LeO.none _
   | refine LeO.ite ?_ ?_
   | refine LeO.bind ?_ (fun _ => ?_)
  ·intro y0 y1 y2 y3
   unfold spillwayref2_Print.l0
   repeat' first
   | (with_reducible exact ih0 _ _ _)
   | (with_reducible exact ih1 _ _ _ _)
   | (with_reducible exact ih2 _ _ _ _)
   | (with_reducible exact spillwayref2_Digits.mono _ _)
   | (with_reducible exact LeO.refl _)
   | (with_reducible exact LeO.none _)
   | (with_reducible refine LeO.ite ?_ ?_)
   | (with_reducible refine LeO.bind ?_ (fun _ => ?_))
   | exact ih0 _ _ _
   | exact ih1 _ _ _ _
   | exact ih2 _ _ _ _
   | exact spillwayref2_Digits.mono _ _
   | exact LeO.none _
   | refine LeO.ite ?_ ?_
   | refine LeO.bind ?_ (fun _ => ?_)
theorem spillwayref2_Print.mono : ∀ a0 a1 k, LeO (spillwayref2_Print.f k a0 a1) (spillwayref2_Print.f (k + 1) a0 a1) := by
 intro a0 a1 k
 obtain ⟨ih0, ih1, ih2⟩ := spillwayref2_Print.mono_l k
 unfold spillwayref2_Print.f
 repeat' first
   | (with_reducible exact ih0 _ _ _)
   | (with_reducible exact ih1 _ _ _ _)
   | (with_reducible exact ih2 _ _ _ _)
   | (with_reducible exact spillwayref2_Digits.mono _ _)
   | (with_reducible exact LeO.refl _)
   | (with_reducible exact LeO.none _)
   | (with_reducible refine LeO.ite ?_ ?_)
   | (with_reducible refine LeO.bind ?_ (fun _ => ?_))
   | exact ih0 _ _ _
   | exact ih1 _ _ _ _
   | exact ih2 _ _ _ _
   | exact spillwayref2_Digits.mono _ _
   | exact LeO.none _
   | refine LeO.ite ?_ ?_
   | refine LeO.bind ?_ (fun _ => ?_)
set_option maxHeartbeats 8000000 in
set_option maxRecDepth 100000 in
theorem spillwayref2_Print.calls (k : Nat) (a0_0 : Bool) (a0_1 : Int) (r : ByteArray) (w : World) (h : spillwayref2_Print.f k a0_0 a0_1 = some r) :
  Calls Tryz.prog 22 #[.agg #[.bool a0_0, .int .i64 a0_1]] w fun e w' => e = .returned (.string r) ∧ Below w.heap.size w w' := by
 have hu23 := Tryz.underlying23
 have HB := Aside0.mk (Below.refl w.heap.size w)
 have H : (if a0_0 = true then (spillwayref2_Print.j0 k true a0_0 a0_1) else ((spillwayref2_Is.f a0_0 a0_1).bind fun t337 => (spillwayref2_Print.j0 k (!t337) a0_0 a0_1))) = some r := h
 clear h
 have HC2 := Aside0.mk H
 clear H
 go_enter Tryz.func22, Tryz.ntmps22
 go_upto_region 1 with (first | ((with_reducible refine gate_dst (N := 1) rfl ?_); (try (refine gate_guard (by rfl) ?_; dsimp only)); refine box_event ?hg (N := 1) ?hd (cs := #[.bool a0_0, .int .i64 a0_1]) (t := 23) ?hr ?_; (case hd => rfl); (case hg => rfl); (case hr => first | (go_simp; done) | (go_simp; rfl)); intro gb336 hg w3 hbox hb; have n0_ := Aside0.mk (below_step (by repeat (first | (with_reducible first | exact HB.out | apply below_alloc | apply pw_below_drewN | apply below_drew1) | exact HB.out)) hb); have n1_ := Aside0.mk (hbox); have n2_ := Aside0.mk ((by rw [hg]; exact (below_size (by repeat (first | (with_reducible first | exact HB.out | apply below_alloc | apply pw_below_drewN | apply below_drew1) | exact HB.out))) : w.heap.size ≤ gb336)); have n3_ := Aside0.mk ((by rw [hg]; exact (below_size (by repeat (first | (with_reducible first | exact HB.out | apply below_alloc | apply pw_below_drewN | apply below_drew1) | exact HB.out))) : w.heap.size ≤ gb336)); clear HB; have HB := n0_; have BK336 := n1_; have GW336 := n2_; have GE336 := n3_; clear n0_ n1_ n2_ n3_; clear hb hbox hg))
 (try simp only [Act.put, List.setIfInBounds_toArray, List.set_cons_zero, List.set_cons_succ])
 go_cut [12] (fun v12 wc => ∃ (kq : Nat) (x12_1 : Bool), v12 = .bool x12_1 ∧ Aside0 (spillwayref2_Print.j0 kq x12_1 a0_0 a0_1 = some r) ∧ Aside0 (kq ≤ k) ∧ Aside0 (wc.heap[gb336]? = some (.cells #[.bool a0_0, .int .i64 a0_1] 23 (0, 0))) ∧ Aside0 (Below w.heap.size w wc))
 case first =>
  have H := HC2.out
  clear HC2
  by_cases c4 : a0_0 = true
  ·subst c4
   have H1 : (spillwayref2_Print.j0 k true true a0_1) = some r := by rw [if_pos rfl] at H; exact H
   clear H
   have H := H1
   clear H1
   have H' := Aside0.mk H
   clear H
   have hcz5_0 : w3.cell? ⟨gb336, 0, none⟩ = some (.bool true) := (blk_cell BK336.out 0).trans rfl
   have hcz5_1 : w3.cell? ⟨gb336, 1, none⟩ = some (.int .i64 a0_1) := (blk_cell BK336.out 1).trans rfl
   have hfz5_0 := blk_frozen BK336.out 0
   have hfz5_1 := blk_frozen BK336.out 1
   go_wp2
   go_meet
   case rel => exact ⟨_, (true), (by first | rfl | (simp; done) | (simp [*]; done)), H', ⟨by first | omega | exact Nat.le_refl _⟩, ⟨by (with_reducible repeat (first | refine blk_drewN ?_ _ | refine blk_drew ?_ | refine blk_alloc ?_ _)); exact BK336.out⟩, ⟨by repeat (first | (with_reducible first | exact HB.out | apply below_alloc | apply pw_below_drewN | apply below_drew1 | refine below_set ?_ GE336.out) | exact HB.out)⟩⟩
  ·replace c4 := Bool.eq_false_iff.mpr c4
   subst c4
   have H1 : ((spillwayref2_Is.f false a0_1).bind fun t337 => (spillwayref2_Print.j0 k (!t337) false a0_1)) = some r := by rw [if_neg (show ¬ (false = true) by decide)] at H; exact H
   clear H
   have H := H1
   clear H1
   replace H := Option.bind_eq_some_iff.mp H
   obtain ⟨t337, A60, H⟩ := H
   replace H : (spillwayref2_Print.j0 k (!t337) false a0_1) = some r := H
   have A6 := Aside0.mk A60
   clear A60
   have H' := Aside0.mk H
   clear H
   have hcz7_0 : w3.cell? ⟨gb336, 0, none⟩ = some (.bool false) := (blk_cell BK336.out 0).trans rfl
   have hcz7_1 : w3.cell? ⟨gb336, 1, none⟩ = some (.int .i64 a0_1) := (blk_cell BK336.out 1).trans rfl
   have hfz7_0 := blk_frozen BK336.out 0
   have hfz7_1 := blk_frozen BK336.out 1
   go_wp2_with (first | (go_at_call 6; (with_reducible refine (spillwayref2_Is.calls false a0_1 t337 _ A6.out).mono ?_); rintro e w8 ⟨rfl, hb⟩; have n0_ := Aside0.mk (blk_below (g := gb336) (o := .cells #[.bool false, .int .i64 a0_1] 23 (0, 0)) (by (with_reducible repeat (first | refine blk_drewN ?_ _ | refine blk_drew ?_ | refine blk_alloc ?_ _)); exact BK336.out) hb); have n1_ := Aside0.mk (below_step (by repeat (first | (with_reducible first | exact HB.out | apply below_alloc | apply pw_below_drewN | apply below_drew1 | refine below_set ?_ GE336.out) | exact HB.out)) hb); clear BK336; clear HB; have BK336 := n0_; have HB := n1_; clear n0_ n1_; (try clear hb); (try clear hb2); (try clear hk); (try clear hi)))
   go_meet
   case rel => exact ⟨_, (!t337), (by first | rfl | (simp; done) | (simp [*]; done)), H', ⟨by first | omega | exact Nat.le_refl _⟩, ⟨by (with_reducible repeat (first | refine blk_drewN ?_ _ | refine blk_drew ?_ | refine blk_alloc ?_ _)); exact BK336.out⟩, ⟨by repeat (first | (with_reducible first | exact HB.out | apply below_alloc | apply pw_below_drewN | apply below_drew1 | refine below_set ?_ GE336.out) | exact HB.out)⟩⟩
 case rest =>
  clear HC2
  try clear c2
  try clear p2
  try clear c4
  try clear hcz5_0
  try clear hcz5_1
  try clear hcz7_0
  try clear hcz7_1
  try clear hfz5_0
  try clear hfz5_1
  try clear hfz7_0
  try clear hfz7_1
  obtain ⟨kq, x12_1, rfl, HA, HJ1, BK336, HB⟩ := hcut
  cases kq with
  | zero => exact absurd HA.out (by simp [spillwayref2_Print.j0])
  | succ kj1 =>
   have H := HA.out
   clear HA
   simp only [spillwayref2_Print.j0] at H
   by_cases c9 : x12_1 = true
   ·subst c9
    have H1 : (some (⟨#[111, 118, 102]⟩ : ByteArray)) = some r := by rw [if_pos rfl] at H; exact H
    clear H
    have H := H1
    clear H1
    obtain rfl := Option.some.inj H
    go_wp2
    go_ret
    exact ⟨by first | rfl | (simp [errW_none, errW_some] <;> rfl) | (simp [*, errW_none, errW_some] <;> rfl), by repeat (first | (with_reducible first | exact HB.out | apply below_alloc | apply pw_below_drewN | apply below_drew1 | refine below_set ?_ GE336.out) | exact HB.out)⟩
   ·replace c9 := Bool.eq_false_iff.mpr c9
    subst c9
    have H1 : ((spillwayref2_size.f a0_1).bind fun t338 => ((spillwayref2_Digits.f kj1 (IntKind.u64.wrap (Int.tdiv t338 1000000))).bind fun t339 => ((spillwayref2_Digits.f kj1 (IntKind.u64.wrap ((Int.tmod t338 1000000) + 1000000))).bind fun t340 => (if 1 ≤ (t340.size : Int) then (spillwayref2_Print.l0 kj1 t339 (t340.extract 1 t340.size) a0_0 a0_1) else (none))))) = some r := by rw [if_neg (show ¬ (false = true) by decide)] at H; exact H
    clear H
    have H := H1
    clear H1
    replace H := Option.bind_eq_some_iff.mp H
    obtain ⟨t338, A100, H⟩ := H
    replace H : ((spillwayref2_Digits.f kj1 (IntKind.u64.wrap (Int.tdiv t338 1000000))).bind fun t339 => ((spillwayref2_Digits.f kj1 (IntKind.u64.wrap ((Int.tmod t338 1000000) + 1000000))).bind fun t340 => (if 1 ≤ (t340.size : Int) then (spillwayref2_Print.l0 kj1 t339 (t340.extract 1 t340.size) a0_0 a0_1) else (none)))) = some r := H
    have A10 := Aside0.mk A100
    clear A100
    replace H := Option.bind_eq_some_iff.mp H
    obtain ⟨t339, A110, H⟩ := H
    replace H : ((spillwayref2_Digits.f kj1 (IntKind.u64.wrap ((Int.tmod t338 1000000) + 1000000))).bind fun t340 => (if 1 ≤ (t340.size : Int) then (spillwayref2_Print.l0 kj1 t339 (t340.extract 1 t340.size) a0_0 a0_1) else (none))) = some r := H
    have A11 := Aside0.mk A110
    clear A110
    replace H := Option.bind_eq_some_iff.mp H
    obtain ⟨t340, A120, H⟩ := H
    replace H : (if 1 ≤ (t340.size : Int) then (spillwayref2_Print.l0 kj1 t339 (t340.extract 1 t340.size) a0_0 a0_1) else (none)) = some r := H
    have A12 := Aside0.mk A120
    clear A120
    by_cases c13 : 1 ≤ (t340.size : Int)
    ·rw [if_pos c13] at H
     have c13b0 := eq_true c13
     have c13b1 : decide (1 ≤ (t340.size : Int)) = true := decide_eq_true c13
     clear c13
     have HC14 := Aside0.mk H
     clear H
     have hcz15_0 : wc.cell? ⟨gb336, 0, none⟩ = some (.bool a0_0) := (blk_cell BK336.out 0).trans rfl
     have hcz15_1 : wc.cell? ⟨gb336, 1, none⟩ = some (.int .i64 a0_1) := (blk_cell BK336.out 1).trans rfl
     have hfz15_0 := blk_frozen BK336.out 0
     have hfz15_1 := blk_frozen BK336.out 1
     go_upto_block 0 with (first | ((with_reducible refine gate_callee (f := 32) rfl ?_); refine goesL_ (some 15) rfl rfl Tryz.func32 (by kernel_rfl) rfl #[.int .i64 a0_1] rfl (by (try simp only [List.map_toArray, List.map_cons, List.map_nil]); first | done | rfl | (simp only [List.length_drop, List.length_take]; rfl)) ?_; (with_reducible refine (spillwayref2_size.calls a0_1 t338 _ A10.out).mono ?_); rintro e w' ⟨rfl, ⟨nd, rfl⟩⟩; refine ⟨_, rfl, ?_⟩) | ((with_reducible refine gate_callee (f := 36) rfl ?_); refine goesL_ (some 18) rfl rfl Tryz.func36 (by kernel_rfl) rfl #[.int .u64 (IntKind.u64.wrap (Int.tdiv t338 1000000))] rfl (by (try simp only [List.map_toArray, List.map_cons, List.map_nil]); first | done | rfl | (simp only [List.length_drop, List.length_take]; rfl)) ?_; (with_reducible refine (spillwayref2_Digits.calls kj1 (IntKind.u64.wrap (Int.tdiv t338 1000000)) t339 _ A11.out).mono ?_); rintro e w16 ⟨rfl, hb⟩; refine ⟨_, rfl, ?_⟩; have n0_ := Aside0.mk (blk_below (g := gb336) (o := .cells #[.bool a0_0, .int .i64 a0_1] 23 (0, 0)) (by (with_reducible repeat (first | refine blk_drewN ?_ _ | refine blk_drew ?_ | refine blk_alloc ?_ _)); exact BK336.out) hb); have n1_ := Aside0.mk (below_step (by repeat (first | (with_reducible first | exact HB.out | apply below_alloc | apply pw_below_drewN | apply below_drew1 | refine below_set ?_ GE336.out) | exact HB.out)) hb); clear BK336; clear HB; have BK336 := n0_; have HB := n1_; clear n0_ n1_; (try clear hb); (try clear hb2); (try clear hk); (try clear hi)) | ((with_reducible refine gate_callee (f := 36) rfl ?_); refine goesL_ (some 22) rfl rfl Tryz.func36 (by kernel_rfl) rfl #[.int .u64 (IntKind.u64.wrap ((Int.tmod t338 1000000) + 1000000))] rfl (by (try simp only [List.map_toArray, List.map_cons, List.map_nil]); first | done | rfl | (simp only [List.length_drop, List.length_take]; rfl)) ?_; (with_reducible refine (spillwayref2_Digits.calls kj1 (IntKind.u64.wrap ((Int.tmod t338 1000000) + 1000000)) t340 _ A12.out).mono ?_); rintro e w17 ⟨rfl, hb⟩; refine ⟨_, rfl, ?_⟩; have n0_ := Aside0.mk (blk_below (g := gb336) (o := .cells #[.bool a0_0, .int .i64 a0_1] 23 (0, 0)) (by (with_reducible repeat (first | refine blk_drewN ?_ _ | refine blk_drew ?_ | refine blk_alloc ?_ _)); exact BK336.out) hb); have n1_ := Aside0.mk (below_step (by repeat (first | (with_reducible first | exact HB.out | apply below_alloc | apply pw_below_drewN | apply below_drew1 | refine below_set ?_ GE336.out) | exact HB.out)) hb); clear BK336; clear HB; have BK336 := n0_; have HB := n1_; clear n0_ n1_; (try clear hb); (try clear hb2); (try clear hk); (try clear hi)))
     (try simp only [Act.put, List.setIfInBounds_toArray, List.set_cons_zero, List.set_cons_succ])
     go_cut [5] (fun v5 wc => ∃ (kq : Nat) (x5_13 : ByteArray), v5 = .string x5_13 ∧ Aside0 (spillwayref2_Print.j2 kq t339 x5_13 a0_0 a0_1 = some r) ∧ Aside0 (kq ≤ kj1) ∧ Aside0 (wc.heap[gb336]? = some (.cells #[.bool a0_0, .int .i64 a0_1] 23 (0, 0))) ∧ Aside0 (Below w.heap.size w wc))
     case first =>
      have H := HC14.out
      clear HC14
      have H' := Aside0.mk H
      clear H
      go_wp2
      go_loopg [5] kj1 (fun kq v5 w' => ∃ (x5_2 : ByteArray), v5 = .string x5_2 ∧ Aside0 (spillwayref2_Print.l0 kq t339 x5_2 a0_0 a0_1 = some r) ∧ Aside0 (kq ≤ kj1) ∧ Aside0 (w'.heap[gb336]? = some (.cells #[.bool a0_0, .int .i64 a0_1] 23 (0, 0))) ∧ Aside0 (Below w.heap.size w w'))
      case atStart => exact ⟨(t340.extract 1 t340.size), (by first | rfl | (simp; done) | (simp [*]; done)), H', ⟨Nat.le_refl _⟩, ⟨by (with_reducible repeat (first | refine blk_drewN ?_ _ | refine blk_drew ?_ | refine blk_alloc ?_ _)); exact BK336.out⟩, ⟨by repeat (first | (with_reducible first | exact HB.out | apply below_alloc | apply pw_below_drewN | apply below_drew1 | refine below_set ?_ GE336.out) | exact HB.out)⟩⟩
      case round =>
       clear H'
       try clear c1
       try clear c2
       try clear p2
       try clear c3
       try clear c4
       try clear c9
       try clear c13
       try clear c13b0
       try clear c13b1
       try clear hcz15_0
       try clear hcz15_1
       try clear hcz5_0
       try clear hcz5_1
       try clear hcz7_0
       try clear hcz7_1
       try clear hfz15_0
       try clear hfz15_1
       try clear hfz5_0
       try clear hfz5_1
       try clear hfz7_0
       try clear hfz7_1
       try clear p2
       obtain ⟨x5_2, rfl, HA, HK2, BK336, HB⟩ := hrel
       cases gk with
       | zero => exact absurd HA.out (by simp [spillwayref2_Print.l0])
       | succ k2 =>
        have H := HA.out
        clear HA
        simp only [spillwayref2_Print.l0] at H
        by_cases c18 : (x5_2.size : Int) > 0
        ·rw [if_pos c18] at H
         have c18b0 : decide (0 < (x5_2.size : Int)) = true := decide_eq_true c18
         have c18b1 : decide (0 < x5_2.size) = true := decide_eq_true (by omega)
         clear c18
         (first | rw [c18b0] | (simp only [i64_w, i32_w]; rw [c18b0]) | skip)
         obtain ⟨ji19, hji19⟩ : ∃ j_ : Int, (wrap64 ((x5_2.size : Int) - 1)) = j_ := ⟨_, rfl⟩
         replace H : (if 0 ≤ (ji19) then (if (ji19) < (x5_2.size : Int) then (if (bt x5_2 (ji19)) = 48 then (if (ji19) ≤ (x5_2.size : Int) then (spillwayref2_Print.l0 k2 t339 (x5_2.extract 0 ((ji19) : Int).toNat) a0_0 a0_1) else (none)) else (spillwayref2_Print.j2 k2 t339 x5_2 a0_0 a0_1)) else (none)) else (none)) = some r := by first | (rw [hji19] at H; exact H) | (simp only [hji19] at H ⊢; exact H)
         have hji19w : (IntKind.i64.wrap ((x5_2.size : Int) - 1)) = ji19 := (i64_w _).trans hji19
         by_cases c20 : 0 ≤ (ji19)
         ·rw [if_pos c20] at H
          have c20b0 : decide (0 ≤ (ji19)) = true := decide_eq_true c20
          clear c20
          by_cases c21 : (ji19) < (x5_2.size : Int)
          ·rw [if_pos c21] at H
           have c21b0 : decide ((ji19) < (x5_2.size : Int)) = true := decide_eq_true c21
           clear c21
           by_cases c23 : (bt x5_2 (ji19)) = 48
           ·rw [if_pos c23] at H
            have c23b0 : ((bt x5_2 (ji19)) == 48) = true := beq_iff_eq.mpr c23
            have c23b1 : ((bt x5_2 (ji19)) != 48) = false := bne_eq_false_iff_eq.mpr c23
            clear c23
            have c24b0 := eq_true (of_decide_eq_true (by first | (with_reducible assumption) | assumption) : 0 ≤ (ji19))
            by_cases c25 : (ji19) ≤ (x5_2.size : Int)
            ·rw [if_pos c25] at H
             have c25b0 := eq_true c25
             have c25b1 : decide ((ji19) ≤ (x5_2.size : Int)) = true := decide_eq_true c25
             clear c25
             have H' := Aside0.mk H
             clear H
             have p22 : 0 ≤ ((ji19) : Int) := of_decide_eq_true (by first | (with_reducible assumption) | assumption)
             have q22 : (ji19) < (x5_2.size : Int) := of_decide_eq_true (by first | (with_reducible assumption) | assumption)
             have hx22 := bt_at x5_2 (ji19)
             replace p22 := eq_true p22
             replace q22 := eq_true q22
             go_wp2
             go_roundg k2
             case measure => have := HJ1.out; have := HK2.out; omega
             case rel => exact ⟨(x5_2.extract 0 ((ji19) : Int).toNat), (by first | rfl | (simp; done) | (simp only [← hji19] <;> (first | rfl | simp)) | (simp [*]; done)), H', ⟨by have := HJ1.out; have := HK2.out; omega⟩, ⟨by (with_reducible repeat (first | refine blk_drewN ?_ _ | refine blk_drew ?_ | refine blk_alloc ?_ _)); exact BK336.out⟩, ⟨by repeat (first | (with_reducible first | exact HB.out | apply below_alloc | apply pw_below_drewN | apply below_drew1 | refine below_set ?_ GE336.out) | exact HB.out)⟩⟩
            ·rw [if_neg c25] at H
             exact absurd H (by simp)
           ·rw [if_neg c23] at H
            have c23b0 : ((bt x5_2 (ji19)) == 48) = false := beq_eq_false_iff_ne.mpr c23
            have c23b1 : ((bt x5_2 (ji19)) != 48) = true := bne_iff_ne.mpr c23
            have H' := Aside0.mk H
            clear H
            have p22 : 0 ≤ ((ji19) : Int) := of_decide_eq_true (by first | (with_reducible assumption) | assumption)
            have q22 : (ji19) < (x5_2.size : Int) := of_decide_eq_true (by first | (with_reducible assumption) | assumption)
            have hx22 := bt_at x5_2 (ji19)
            replace p22 := eq_true p22
            replace q22 := eq_true q22
            go_wp2
            go_meet
            case rel => exact ⟨_, (x5_2), (by first | rfl | (simp; done) | (simp [*]; done)), H', ⟨by have := HJ1.out; have := HK2.out; first | omega | exact Nat.le_refl _⟩, ⟨by (with_reducible repeat (first | refine blk_drewN ?_ _ | refine blk_drew ?_ | refine blk_alloc ?_ _)); exact BK336.out⟩, ⟨by repeat (first | (with_reducible first | exact HB.out | apply below_alloc | apply pw_below_drewN | apply below_drew1 | refine below_set ?_ GE336.out) | exact HB.out)⟩⟩
          ·rw [if_neg c21] at H
           exact absurd H (by simp)
         ·rw [if_neg c20] at H
          exact absurd H (by simp)
        ·rw [if_neg c18] at H
         have c18b0 : decide (0 < (x5_2.size : Int)) = false := decide_eq_false c18
         have c18b1 : decide (0 < x5_2.size) = false := decide_eq_false (by omega)
         clear c18
         (first | rw [c18b0] | (simp only [i64_w, i32_w]; rw [c18b0]) | skip)
         have H' := Aside0.mk H
         clear H
         go_wp2
         go_meet
         case rel => exact ⟨_, (x5_2), (by first | rfl | (simp; done) | (simp [*]; done)), H', ⟨by have := HJ1.out; have := HK2.out; first | omega | exact Nat.le_refl _⟩, ⟨by (with_reducible repeat (first | refine blk_drewN ?_ _ | refine blk_drew ?_ | refine blk_alloc ?_ _)); exact BK336.out⟩, ⟨by repeat (first | (with_reducible first | exact HB.out | apply below_alloc | apply pw_below_drewN | apply below_drew1 | refine below_set ?_ GE336.out) | exact HB.out)⟩⟩
     case rest =>
      clear HC14
      try clear c1
      try clear c2
      try clear p2
      try clear q2
      try clear hx2
      try clear c3
      try clear c4
      try clear p6
      try clear c9
      try clear c13
      try clear c13b0
      try clear c13b1
      try clear c18
      try clear c18b0
      try clear c18b1
      try clear c20
      try clear c20b0
      try clear c21
      try clear c21b0
      try clear c22
      try clear p22
      try clear q22
      try clear hx22
      try clear c23
      try clear c23b0
      try clear c23b1
      try clear c24
      try clear c24b0
      try clear c25
      try clear c25b0
      try clear c25b1
      try clear hcz15_0
      try clear hcz15_1
      try clear hcz5_0
      try clear hcz5_1
      try clear hcz7_0
      try clear hcz7_1
      try clear hfz15_0
      try clear hfz15_1
      try clear hfz5_0
      try clear hfz5_1
      try clear hfz7_0
      try clear hfz7_1
      try clear p2
      try clear p22
      try clear q22
      obtain ⟨kq, x5_13, rfl, HA, HJ13, BK336, HB⟩ := hcut
      cases kq with
      | zero => exact absurd HA.out (by simp [spillwayref2_Print.j2])
      | succ kj13 =>
       have H := HA.out
       clear HA
       simp only [spillwayref2_Print.j2] at H
       by_cases c26 : x5_13.toList = ([] : List UInt8)
       ·rw [if_pos c26] at H
        have c26b0 : (x5_13.toList == ([] : List UInt8)) = true := beq_iff_eq.mpr c26
        have c26b1 : (x5_13.toList != ([] : List UInt8)) = false := bne_eq_false_iff_eq.mpr c26
        clear c26
        by_cases c27 : a0_1 < 0
        ·rw [if_pos c27] at H
         have c27b0 : decide (a0_1 < 0) = true := decide_eq_true c27
         clear c27
         by_cases c28 : 1 + t339.size ≤ 9223372036854775807
         ·rw [if_pos c28] at H
          have c28b0 := eq_true c28
          have c28b1 : decide (1 + t339.size ≤ 9223372036854775807) = true := decide_eq_true c28
          try have c28b2 : (9223372036854775807 < 1 + t339.size) = False := eq_false (Nat.not_lt.2 c28)
          obtain rfl := Option.some.inj H
          have hcz29_0 : wc.cell? ⟨gb336, 0, none⟩ = some (.bool a0_0) := (blk_cell BK336.out 0).trans rfl
          have hcz29_1 : wc.cell? ⟨gb336, 1, none⟩ = some (.int .i64 a0_1) := (blk_cell BK336.out 1).trans rfl
          have hfz29_0 := blk_frozen BK336.out 0
          have hfz29_1 := blk_frozen BK336.out 1
          go_wp2
          go_ret
          exact ⟨by first | rfl | (simp [errW_none, errW_some] <;> rfl) | (simp [*, errW_none, errW_some] <;> rfl), by repeat (first | (with_reducible first | exact HB.out | apply below_alloc | apply pw_below_drewN | apply below_drew1 | refine below_set ?_ GE336.out) | exact HB.out)⟩
         ·rw [if_neg c28] at H
          exact absurd H (by simp)
        ·rw [if_neg c27] at H
         have c27b0 : decide (a0_1 < 0) = false := decide_eq_false c27
         clear c27
         obtain rfl := Option.some.inj H
         have hcz30_0 : wc.cell? ⟨gb336, 0, none⟩ = some (.bool a0_0) := (blk_cell BK336.out 0).trans rfl
         have hcz30_1 : wc.cell? ⟨gb336, 1, none⟩ = some (.int .i64 a0_1) := (blk_cell BK336.out 1).trans rfl
         have hfz30_0 := blk_frozen BK336.out 0
         have hfz30_1 := blk_frozen BK336.out 1
         go_wp2
         go_ret
         exact ⟨by first | rfl | (simp [errW_none, errW_some] <;> rfl) | (simp [*, errW_none, errW_some] <;> rfl), by repeat (first | (with_reducible first | exact HB.out | apply below_alloc | apply pw_below_drewN | apply below_drew1 | refine below_set ?_ GE336.out) | exact HB.out)⟩
       ·rw [if_neg c26] at H
        have c26b0 : (x5_13.toList == ([] : List UInt8)) = false := beq_eq_false_iff_ne.mpr c26
        have c26b1 : (x5_13.toList != ([] : List UInt8)) = true := bne_iff_ne.mpr c26
        by_cases c31 : t339.size + 1 ≤ 9223372036854775807
        ·rw [if_pos c31] at H
         have c31b0 := eq_true c31
         have c31b1 : decide (t339.size + 1 ≤ 9223372036854775807) = true := decide_eq_true c31
         try have c31b2 : (9223372036854775807 < t339.size + 1) = False := eq_false (Nat.not_lt.2 c31)
         by_cases c32 : (t339 ++ (⟨#[46]⟩ : ByteArray)).size + x5_13.size ≤ 9223372036854775807
         ·rw [if_pos c32] at H
          have c32b0 := eq_true c32
          have c32b1 : decide ((t339 ++ (⟨#[46]⟩ : ByteArray)).size + x5_13.size ≤ 9223372036854775807) = true := decide_eq_true c32
          try have c32b2 : (9223372036854775807 < (t339 ++ (⟨#[46]⟩ : ByteArray)).size + x5_13.size) = False := eq_false (Nat.not_lt.2 c32)
          try (have c32b3 := c32; simp only [ByteArray.size_append, sz_one] at c32b3; have c32b4 := eq_false (Nat.not_lt.2 c32b3); clear c32b3)
          by_cases c33 : a0_1 < 0
          ·rw [if_pos c33] at H
           have c33b0 : decide (a0_1 < 0) = true := decide_eq_true c33
           clear c33
           by_cases c34 : 1 + ((t339 ++ (⟨#[46]⟩ : ByteArray)) ++ x5_13).size ≤ 9223372036854775807
           ·rw [if_pos c34] at H
            have c34b0 := eq_true c34
            have c34b1 : decide (1 + ((t339 ++ (⟨#[46]⟩ : ByteArray)) ++ x5_13).size ≤ 9223372036854775807) = true := decide_eq_true c34
            try have c34b2 : (9223372036854775807 < 1 + ((t339 ++ (⟨#[46]⟩ : ByteArray)) ++ x5_13).size) = False := eq_false (Nat.not_lt.2 c34)
            try (have c34b3 := c34; simp only [ByteArray.size_append, sz_one] at c34b3; have c34b4 := eq_false (Nat.not_lt.2 c34b3); clear c34b3)
            obtain rfl := Option.some.inj H
            have hcz35_0 : wc.cell? ⟨gb336, 0, none⟩ = some (.bool a0_0) := (blk_cell BK336.out 0).trans rfl
            have hcz35_1 : wc.cell? ⟨gb336, 1, none⟩ = some (.int .i64 a0_1) := (blk_cell BK336.out 1).trans rfl
            have hfz35_0 := blk_frozen BK336.out 0
            have hfz35_1 := blk_frozen BK336.out 1
            go_wp2
            go_ret
            exact ⟨by first | rfl | (simp [errW_none, errW_some] <;> rfl) | (simp [*, errW_none, errW_some] <;> rfl), by repeat (first | (with_reducible first | exact HB.out | apply below_alloc | apply pw_below_drewN | apply below_drew1 | refine below_set ?_ GE336.out) | exact HB.out)⟩
           ·rw [if_neg c34] at H
            exact absurd H (by simp)
          ·rw [if_neg c33] at H
           have c33b0 : decide (a0_1 < 0) = false := decide_eq_false c33
           clear c33
           obtain rfl := Option.some.inj H
           have hcz36_0 : wc.cell? ⟨gb336, 0, none⟩ = some (.bool a0_0) := (blk_cell BK336.out 0).trans rfl
           have hcz36_1 : wc.cell? ⟨gb336, 1, none⟩ = some (.int .i64 a0_1) := (blk_cell BK336.out 1).trans rfl
           have hfz36_0 := blk_frozen BK336.out 0
           have hfz36_1 := blk_frozen BK336.out 1
           go_wp2
           go_ret
           exact ⟨by first | rfl | (simp [errW_none, errW_some] <;> rfl) | (simp [*, errW_none, errW_some] <;> rfl), by repeat (first | (with_reducible first | exact HB.out | apply below_alloc | apply pw_below_drewN | apply below_drew1 | refine below_set ?_ GE336.out) | exact HB.out)⟩
         ·rw [if_neg c32] at H
          exact absurd H (by simp)
        ·rw [if_neg c31] at H
         exact absurd H (by simp)
    ·rw [if_neg c13] at H
     exact absurd H (by simp)

end Go.Proofs.YtjaolddgnijgiaaGreatDoor.Print
