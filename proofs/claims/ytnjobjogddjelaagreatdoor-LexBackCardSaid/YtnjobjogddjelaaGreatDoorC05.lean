/- A part of the proof of LexBack: what the functions that the law reaches come to. -/
import Derived.Test.YtnjobjogddjelaaGreatDoorC01
import Derived.Test.YtnjobjogddjelaaGreatDoorC04
import Derived.Test.YtnjobjogddjelaaGreatDoorC02
import Derived.Test.YtnjobjogddjelaaGreatDoorC03
set_option linter.unusedVariables false
set_option linter.unusedSimpArgs false
section
namespace Go.Proofs.YtnjobjogddjelaaGreatDoor.Print
open Go.RowKit Go.Proofs.YtnjobjogddjelaaGreatDoorX Go.Proofs.YtnjobjogddjelaaGreatDoorW.PrintWords Go.Proofs.YtnjobjogddjelaaGreatDoorW.PrintLast Go.Proofs.YtnjobjogddjelaaGreatDoorW.PrintMore
attribute [local go_sem] max2_int min2_int max_two min_two max_three min_three max_four min_four

/-! ### spillwayref2_Print: function 22 -/
mutual
def spillwayref2_Print.j0 : Nat → Bool → Bool → Int → Option (ByteArray)
 | 0, _, _, _ => none
 | k + 1, x12, x339000, x339001 => if x12 = true then (some (⟨#[111, 118, 102]⟩ : ByteArray)) else ((spillwayref2_size.f x339001).bind fun t340 => ((spillwayref2_Digits.f k (IntKind.u64.wrap (Int.tdiv t340 1000000))).bind fun t341 => ((spillwayref2_Digits.f k (IntKind.u64.wrap ((Int.tmod t340 1000000) + 1000000))).bind fun t342 => (if 1 ≤ (t342.size : Int) then (spillwayref2_Print.l0 k t341 (t342.extract 1 t342.size) x339000 x339001) else (none)))))
def spillwayref2_Print.j2 : Nat → ByteArray → ByteArray → Bool → Int → Option (ByteArray)
 | 0, _, _, _, _ => none
 | k + 1, x4, x5, x339000, x339001 => if x5.toList = ([] : List UInt8) then (if x339001 < 0 then (if 1 + x4.size ≤ 9223372036854775807 then (some ((⟨#[45]⟩ : ByteArray) ++ x4)) else (none)) else (some x4)) else (if x4.size + 1 ≤ 9223372036854775807 then (if (x4 ++ (⟨#[46]⟩ : ByteArray)).size + x5.size ≤ 9223372036854775807 then (if x339001 < 0 then (if 1 + ((x4 ++ (⟨#[46]⟩ : ByteArray)) ++ x5).size ≤ 9223372036854775807 then (some ((⟨#[45]⟩ : ByteArray) ++ ((x4 ++ (⟨#[46]⟩ : ByteArray)) ++ x5))) else (none)) else (some ((x4 ++ (⟨#[46]⟩ : ByteArray)) ++ x5))) else (none)) else (none))
def spillwayref2_Print.l0 : Nat → ByteArray → ByteArray → Bool → Int → Option (ByteArray)
 | 0, _, _, _, _ => none
 | k + 1, x4, x5, x339000, x339001 => if (x5.size : Int) > 0 then (if 0 ≤ (wrap64 ((x5.size : Int) - 1)) then (if (wrap64 ((x5.size : Int) - 1)) < (x5.size : Int) then (if (bt x5 (wrap64 ((x5.size : Int) - 1))) = 48 then (if (wrap64 ((x5.size : Int) - 1)) ≤ (x5.size : Int) then (spillwayref2_Print.l0 k x4 (x5.extract 0 ((wrap64 ((x5.size : Int) - 1)) : Int).toNat) x339000 x339001) else (none)) else (spillwayref2_Print.j2 k x4 x5 x339000 x339001)) else (none)) else (none)) else (spillwayref2_Print.j2 k x4 x5 x339000 x339001)
end
def spillwayref2_Print.f (k : Nat) (a0_0 : Bool) (a0_1 : Int) : Option (ByteArray) := if a0_0 = true then (spillwayref2_Print.j0 k true a0_0 a0_1) else ((spillwayref2_Is.f a0_0 a0_1).bind fun t339 => (spillwayref2_Print.j0 k (!t339) a0_0 a0_1))
theorem spillwayref2_Print.mono_l : ∀ k, (∀ y0 y1 y2, LeO (spillwayref2_Print.j0 k y0 y1 y2) (spillwayref2_Print.j0 (k + 1) y0 y1 y2)) ∧ (∀ y0 y1 y2 y3, LeO (spillwayref2_Print.j2 k y0 y1 y2 y3) (spillwayref2_Print.j2 (k + 1) y0 y1 y2 y3)) ∧ (∀ y0 y1 y2 y3, LeO (spillwayref2_Print.l0 k y0 y1 y2 y3) (spillwayref2_Print.l0 (k + 1) y0 y1 y2 y3))
 | 0 => ⟨fun _ _ _ r h => by simp [spillwayref2_Print.j0] at h, fun _ _ _ _ r h => by simp [spillwayref2_Print.j2] at h, fun _ _ _ _ r h => by simp [spillwayref2_Print.l0] at h⟩
 | k + 1 => by
  obtain ⟨ih0, ih1, ih2⟩ := spillwayref2_Print.mono_l k
  refine ⟨?_, ?_, ?_⟩
  ·intro y0 y1 y2
   unfold spillwayref2_Print.j0
   repeat' first
   | (with_reducible exact ih0 _ _ _)
   | (with_reducible exact ih1 _ _ _ _)
   | (with_reducible exact ih2 _ _ _ _)
   | (with_reducible exact spillwayref2_Digits.mono _ _)
   | (with_reducible exact LeO.refl _)
   | (with_reducible exact LeO.none _)
   | (with_reducible refine LeO.ite ?_ ?_)
   | (with_reducible refine LeO.bind ?_ (fun _ => ?_))
   | exact ih0 _ _ _
   | exact ih1 _ _ _ _
   | exact ih2 _ _ _ _
   | exact spillwayref2_Digits.mono _ _
   | exact LeO.none _
   | refine LeO.ite ?_ ?_
   | refine LeO.bind ?_ (fun _ => ?_)
  ·intro y0 y1 y2 y3
   unfold spillwayref2_Print.j2
   repeat' first
   | (with_reducible exact ih0 _ _ _)
   | (with_reducible exact ih1 _ _ _ _)
   | (with_reducible exact ih2 _ _ _ _)
   | (with_reducible exact spillwayref2_Digits.mono _ _)
   | (with_reducible exact LeO.refl _)
   | (with_reducible exact LeO.none _)
   | (with_reducible refine LeO.ite ?_ ?_)
   | (with_reducible refine LeO.bind ?_ (fun _ => ?_))
   | exact ih0 _ _ _
   | exact ih1 _ _ _ _
   | exact ih2 _ _ _ _
   | exact spillwayref2_Digits.mono _ _
   | exact LeO.none _
   | refine LeO.ite ?_ ?_
   | refine LeO.bind ?_ (fun _ => ?_)
  ·intro y0 y1 y2 y3
   unfold spillwayref2_Print.l0
   repeat' first
   | (with_reducible exact ih0 _ _ _)
   | (with_reducible exact ih1 _ _ _ _)
   | (with_reducible exact ih2 _ _ _ _)
   | (with_reducible exact spillwayref2_Digits.mono _ _)
   | (with_reducible exact LeO.refl _)
   | (with_reducible exact LeO.none _)
   | (with_reducible refine LeO.ite ?_ ?_)
   | (with_reducible refine LeO.bind ?_ (fun _ => ?_))
   | exact ih0 _ _ _
   | exact ih1 _ _ _ _
   | exact ih2 _ _ _ _
   | exact spillwayref2_Digits.mono _ _
   | exact LeO.none _
   | refine LeO.ite ?_ ?_
   | refine LeO.bind ?_ (fun _ => ?_)
theorem spillwayref2_Print.mono : ∀ a0 a1 k, LeO (spillwayref2_Print.f k a0 a1) (spillwayref2_Print.f (k + 1) a0 a1) := by
 intro a0 a1 k
 obtain ⟨ih0, ih1, ih2⟩ := spillwayref2_Print.mono_l k
 unfold spillwayref2_Print.f
 repeat' first
   | (with_reducible exact ih0 _ _ _)
   | (with_reducible exact ih1 _ _ _ _)
   | (with_reducible exact ih2 _ _ _ _)
   | (with_reducible exact spillwayref2_Digits.mono _ _)
   | (with_reducible exact LeO.refl _)
   | (with_reducible exact LeO.none _)
   | (with_reducible refine LeO.ite ?_ ?_)
   | (with_reducible refine LeO.bind ?_ (fun _ => ?_))
   | exact ih0 _ _ _
   | exact ih1 _ _ _ _
   | exact ih2 _ _ _ _
   | exact spillwayref2_Digits.mono _ _
   | exact LeO.none _
   | refine LeO.ite ?_ ?_
   | refine LeO.bind ?_ (fun _ => ?_)
set_option maxHeartbeats 8000000 in
set_option maxRecDepth 100000 in
theorem spillwayref2_Print.calls (k : Nat) (a0_0 : Bool) (a0_1 : Int) (r : ByteArray) (w : World) (h : spillwayref2_Print.f k a0_0 a0_1 = some r) :
  Calls Tryz.prog 22 #[.agg #[.bool a0_0, .int .i64 a0_1]] w fun e w' => e = .returned (.string r) ∧ Below w.heap.size w w' := by
 have hu34 := Tryz.underlying34
 have HB := Aside0.mk (Below.refl w.heap.size w)
 have H : (if a0_0 = true then (spillwayref2_Print.j0 k true a0_0 a0_1) else ((spillwayref2_Is.f a0_0 a0_1).bind fun t339 => (spillwayref2_Print.j0 k (!t339) a0_0 a0_1))) = some r := h
 clear h
 have HC2 := Aside0.mk H
 clear H
 go_enter Tryz.func22, Tryz.ntmps22
 go_upto_region 1 with (first | ((with_reducible refine gate_dst (N := 1) rfl ?_); (try (refine gate_guard (by rfl) ?_; dsimp only)); refine box_event ?hg (N := 1) ?hd (cs := #[.bool a0_0, .int .i64 a0_1]) (t := 34) ?hr ?_; (case hd => rfl); (case hg => rfl); (case hr => first | (go_simp; done) | (go_simp; rfl)); intro gb338 hg w3 hbox hb; have n0_ := Aside0.mk (below_step (by repeat (first | (with_reducible first | exact HB.out | apply below_alloc | apply pw_below_drewN | apply below_drew1) | exact HB.out)) hb); have n1_ := Aside0.mk (hbox); have n2_ := Aside0.mk ((by rw [hg]; exact (below_size (by repeat (first | (with_reducible first | exact HB.out | apply below_alloc | apply pw_below_drewN | apply below_drew1) | exact HB.out))) : w.heap.size ≤ gb338)); have n3_ := Aside0.mk ((by rw [hg]; exact (below_size (by repeat (first | (with_reducible first | exact HB.out | apply below_alloc | apply pw_below_drewN | apply below_drew1) | exact HB.out))) : w.heap.size ≤ gb338)); clear HB; have HB := n0_; have BK338 := n1_; have GW338 := n2_; have GE338 := n3_; clear n0_ n1_ n2_ n3_; clear hb hbox hg))
 (try simp only [Act.put, List.setIfInBounds_toArray, List.set_cons_zero, List.set_cons_succ])
 go_cut [12] (fun v12 wc => ∃ (kq : Nat) (x12_1 : Bool), v12 = .bool x12_1 ∧ Aside0 (spillwayref2_Print.j0 kq x12_1 a0_0 a0_1 = some r) ∧ Aside0 (kq ≤ k) ∧ Aside0 (wc.heap[gb338]? = some (.cells #[.bool a0_0, .int .i64 a0_1] 34 (0, 0))) ∧ Aside0 (Below w.heap.size w wc))
 case first =>
  have H := HC2.out
  clear HC2
  by_cases c4 : a0_0 = true
  ·subst c4
   have H1 : (spillwayref2_Print.j0 k true true a0_1) = some r := by rw [if_pos rfl] at H; exact H
   clear H
   have H := H1
   clear H1
   have H' := Aside0.mk H
   clear H
   have hcz5_0 : w3.cell? ⟨gb338, 0, none⟩ = some (.bool true) := (blk_cell BK338.out 0).trans rfl
   have hcz5_1 : w3.cell? ⟨gb338, 1, none⟩ = some (.int .i64 a0_1) := (blk_cell BK338.out 1).trans rfl
   have hfz5_0 := blk_frozen BK338.out 0
   have hfz5_1 := blk_frozen BK338.out 1
   go_wp2
   go_meet
   case rel => exact ⟨_, (true), (by first | rfl | (simp; done) | (simp [*]; done)), H', ⟨by first | omega | exact Nat.le_refl _⟩, ⟨by (with_reducible repeat (first | refine blk_drewN ?_ _ | refine blk_drew ?_ | refine blk_alloc ?_ _)); exact BK338.out⟩, ⟨by repeat (first | (with_reducible first | exact HB.out | apply below_alloc | apply pw_below_drewN | apply below_drew1 | refine below_set ?_ GE338.out) | exact HB.out)⟩⟩
  ·replace c4 := Bool.eq_false_iff.mpr c4
   subst c4
   have H1 : ((spillwayref2_Is.f false a0_1).bind fun t339 => (spillwayref2_Print.j0 k (!t339) false a0_1)) = some r := by rw [if_neg (show ¬ (false = true) by decide)] at H; exact H
   clear H
   have H := H1
   clear H1
   replace H := Option.bind_eq_some_iff.mp H
   obtain ⟨t339, A60, H⟩ := H
   replace H : (spillwayref2_Print.j0 k (!t339) false a0_1) = some r := H
   have A6 := Aside0.mk A60
   clear A60
   have H' := Aside0.mk H
   clear H
   have hcz7_0 : w3.cell? ⟨gb338, 0, none⟩ = some (.bool false) := (blk_cell BK338.out 0).trans rfl
   have hcz7_1 : w3.cell? ⟨gb338, 1, none⟩ = some (.int .i64 a0_1) := (blk_cell BK338.out 1).trans rfl
   have hfz7_0 := blk_frozen BK338.out 0
   have hfz7_1 := blk_frozen BK338.out 1
   go_wp2_with (first | (go_at_call 39; (with_reducible refine (spillwayref2_Is.calls false a0_1 t339 _ A6.out).mono ?_); rintro e w8 ⟨rfl, hb⟩; have n0_ := Aside0.mk (blk_below (g := gb338) (o := .cells #[.bool false, .int .i64 a0_1] 34 (0, 0)) (by (with_reducible repeat (first | refine blk_drewN ?_ _ | refine blk_drew ?_ | refine blk_alloc ?_ _)); exact BK338.out) hb); have n1_ := Aside0.mk (below_step (by repeat (first | (with_reducible first | exact HB.out | apply below_alloc | apply pw_below_drewN | apply below_drew1 | refine below_set ?_ GE338.out) | exact HB.out)) hb); clear BK338; clear HB; have BK338 := n0_; have HB := n1_; clear n0_ n1_; (try clear hb); (try clear hb2); (try clear hk); (try clear hi)))
   go_meet
   case rel => exact ⟨_, (!t339), (by first | rfl | (simp; done) | (simp [*]; done)), H', ⟨by first | omega | exact Nat.le_refl _⟩, ⟨by (with_reducible repeat (first | refine blk_drewN ?_ _ | refine blk_drew ?_ | refine blk_alloc ?_ _)); exact BK338.out⟩, ⟨by repeat (first | (with_reducible first | exact HB.out | apply below_alloc | apply pw_below_drewN | apply below_drew1 | refine below_set ?_ GE338.out) | exact HB.out)⟩⟩
 case rest =>
  clear HC2
  try clear c2
  try clear p2
  try clear c4
  try clear hcz5_0
  try clear hcz5_1
  try clear hcz7_0
  try clear hcz7_1
  try clear hfz5_0
  try clear hfz5_1
  try clear hfz7_0
  try clear hfz7_1
  obtain ⟨kq, x12_1, rfl, HA, HJ1, BK338, HB⟩ := hcut
  cases kq with
  | zero => exact absurd HA.out (by simp [spillwayref2_Print.j0])
  | succ kj1 =>
   have H := HA.out
   clear HA
   simp only [spillwayref2_Print.j0] at H
   by_cases c9 : x12_1 = true
   ·subst c9
    have H1 : (some (⟨#[111, 118, 102]⟩ : ByteArray)) = some r := by rw [if_pos rfl] at H; exact H
    clear H
    have H := H1
    clear H1
    obtain rfl := Option.some.inj H
    go_wp2
    go_ret
    exact ⟨by first | rfl | (simp [errW_none, errW_some] <;> rfl) | (simp [*, errW_none, errW_some] <;> rfl), by repeat (first | (with_reducible first | exact HB.out | apply below_alloc | apply pw_below_drewN | apply below_drew1 | refine below_set ?_ GE338.out) | exact HB.out)⟩
   ·replace c9 := Bool.eq_false_iff.mpr c9
    subst c9
    have H1 : ((spillwayref2_size.f a0_1).bind fun t340 => ((spillwayref2_Digits.f kj1 (IntKind.u64.wrap (Int.tdiv t340 1000000))).bind fun t341 => ((spillwayref2_Digits.f kj1 (IntKind.u64.wrap ((Int.tmod t340 1000000) + 1000000))).bind fun t342 => (if 1 ≤ (t342.size : Int) then (spillwayref2_Print.l0 kj1 t341 (t342.extract 1 t342.size) a0_0 a0_1) else (none))))) = some r := by rw [if_neg (show ¬ (false = true) by decide)] at H; exact H
    clear H
    have H := H1
    clear H1
    replace H := Option.bind_eq_some_iff.mp H
    obtain ⟨t340, A100, H⟩ := H
    replace H : ((spillwayref2_Digits.f kj1 (IntKind.u64.wrap (Int.tdiv t340 1000000))).bind fun t341 => ((spillwayref2_Digits.f kj1 (IntKind.u64.wrap ((Int.tmod t340 1000000) + 1000000))).bind fun t342 => (if 1 ≤ (t342.size : Int) then (spillwayref2_Print.l0 kj1 t341 (t342.extract 1 t342.size) a0_0 a0_1) else (none)))) = some r := H
    have A10 := Aside0.mk A100
    clear A100
    replace H := Option.bind_eq_some_iff.mp H
    obtain ⟨t341, A110, H⟩ := H
    replace H : ((spillwayref2_Digits.f kj1 (IntKind.u64.wrap ((Int.tmod t340 1000000) + 1000000))).bind fun t342 => (if 1 ≤ (t342.size : Int) then (spillwayref2_Print.l0 kj1 t341 (t342.extract 1 t342.size) a0_0 a0_1) else (none))) = some r := H
    have A11 := Aside0.mk A110
    clear A110
    replace H := Option.bind_eq_some_iff.mp H
    obtain ⟨t342, A120, H⟩ := H
    replace H : (if 1 ≤ (t342.size : Int) then (spillwayref2_Print.l0 kj1 t341 (t342.extract 1 t342.size) a0_0 a0_1) else (none)) = some r := H
    have A12 := Aside0.mk A120
    clear A120
    by_cases c13 : 1 ≤ (t342.size : Int)
    ·rw [if_pos c13] at H
     have c13b0 := eq_true c13
     have c13b1 : decide (1 ≤ (t342.size : Int)) = true := decide_eq_true c13
     clear c13
     have HC14 := Aside0.mk H
     clear H
     have hcz15_0 : wc.cell? ⟨gb338, 0, none⟩ = some (.bool a0_0) := (blk_cell BK338.out 0).trans rfl
     have hcz15_1 : wc.cell? ⟨gb338, 1, none⟩ = some (.int .i64 a0_1) := (blk_cell BK338.out 1).trans rfl
     have hfz15_0 := blk_frozen BK338.out 0
     have hfz15_1 := blk_frozen BK338.out 1
     go_upto_block 0 with (first | ((with_reducible refine gate_callee (f := 40) rfl ?_); refine goesL_ (some 15) rfl rfl Tryz.func40 (by kernel_rfl) rfl #[.int .i64 a0_1] rfl (by (try simp only [List.map_toArray, List.map_cons, List.map_nil]); first | done | rfl | (simp only [List.length_drop, List.length_take]; rfl)) ?_; (with_reducible refine (spillwayref2_size.calls a0_1 t340 _ A10.out).mono ?_); rintro e w' ⟨rfl, ⟨nd, rfl⟩⟩; refine ⟨_, rfl, ?_⟩) | ((with_reducible refine gate_callee (f := 15) rfl ?_); refine goesL_ (some 18) rfl rfl Tryz.func15 (by kernel_rfl) rfl #[.int .u64 (IntKind.u64.wrap (Int.tdiv t340 1000000))] rfl (by (try simp only [List.map_toArray, List.map_cons, List.map_nil]); first | done | rfl | (simp only [List.length_drop, List.length_take]; rfl)) ?_; (with_reducible refine (spillwayref2_Digits.calls kj1 (IntKind.u64.wrap (Int.tdiv t340 1000000)) t341 _ A11.out).mono ?_); rintro e w16 ⟨rfl, hb⟩; refine ⟨_, rfl, ?_⟩; have n0_ := Aside0.mk (blk_below (g := gb338) (o := .cells #[.bool a0_0, .int .i64 a0_1] 34 (0, 0)) (by (with_reducible repeat (first | refine blk_drewN ?_ _ | refine blk_drew ?_ | refine blk_alloc ?_ _)); exact BK338.out) hb); have n1_ := Aside0.mk (below_step (by repeat (first | (with_reducible first | exact HB.out | apply below_alloc | apply pw_below_drewN | apply below_drew1 | refine below_set ?_ GE338.out) | exact HB.out)) hb); clear BK338; clear HB; have BK338 := n0_; have HB := n1_; clear n0_ n1_; (try clear hb); (try clear hb2); (try clear hk); (try clear hi)) | ((with_reducible refine gate_callee (f := 15) rfl ?_); refine goesL_ (some 22) rfl rfl Tryz.func15 (by kernel_rfl) rfl #[.int .u64 (IntKind.u64.wrap ((Int.tmod t340 1000000) + 1000000))] rfl (by (try simp only [List.map_toArray, List.map_cons, List.map_nil]); first | done | rfl | (simp only [List.length_drop, List.length_take]; rfl)) ?_; (with_reducible refine (spillwayref2_Digits.calls kj1 (IntKind.u64.wrap ((Int.tmod t340 1000000) + 1000000)) t342 _ A12.out).mono ?_); rintro e w17 ⟨rfl, hb⟩; refine ⟨_, rfl, ?_⟩; have n0_ := Aside0.mk (blk_below (g := gb338) (o := .cells #[.bool a0_0, .int .i64 a0_1] 34 (0, 0)) (by (with_reducible repeat (first | refine blk_drewN ?_ _ | refine blk_drew ?_ | refine blk_alloc ?_ _)); exact BK338.out) hb); have n1_ := Aside0.mk (below_step (by repeat (first | (with_reducible first | exact HB.out | apply below_alloc | apply pw_below_drewN | apply below_drew1 | refine below_set ?_ GE338.out) | exact HB.out)) hb); clear BK338; clear HB; have BK338 := n0_; have HB := n1_; clear n0_ n1_; (try clear hb); (try clear hb2); (try clear hk); (try clear hi)))
     (try simp only [Act.put, List.setIfInBounds_toArray, List.set_cons_zero, List.set_cons_succ])
     go_cut [5] (fun v5 wc => ∃ (kq : Nat) (x5_13 : ByteArray), v5 = .string x5_13 ∧ Aside0 (spillwayref2_Print.j2 kq t341 x5_13 a0_0 a0_1 = some r) ∧ Aside0 (kq ≤ kj1) ∧ Aside0 (wc.heap[gb338]? = some (.cells #[.bool a0_0, .int .i64 a0_1] 34 (0, 0))) ∧ Aside0 (Below w.heap.size w wc))
     case first =>
      have H := HC14.out
      clear HC14
      have H' := Aside0.mk H
      clear H
      go_wp2
      go_loopg [5] kj1 (fun kq v5 w' => ∃ (x5_2 : ByteArray), v5 = .string x5_2 ∧ Aside0 (spillwayref2_Print.l0 kq t341 x5_2 a0_0 a0_1 = some r) ∧ Aside0 (kq ≤ kj1) ∧ Aside0 (w'.heap[gb338]? = some (.cells #[.bool a0_0, .int .i64 a0_1] 34 (0, 0))) ∧ Aside0 (Below w.heap.size w w'))
      case atStart => exact ⟨(t342.extract 1 t342.size), (by first | rfl | (simp; done) | (simp [*]; done)), H', ⟨Nat.le_refl _⟩, ⟨by (with_reducible repeat (first | refine blk_drewN ?_ _ | refine blk_drew ?_ | refine blk_alloc ?_ _)); exact BK338.out⟩, ⟨by repeat (first | (with_reducible first | exact HB.out | apply below_alloc | apply pw_below_drewN | apply below_drew1 | refine below_set ?_ GE338.out) | exact HB.out)⟩⟩
      case round =>
       clear H'
       try clear c1
       try clear c2
       try clear p2
       try clear c4
       try clear c9
       try clear c13
       try clear c13b0
       try clear c13b1
       try clear c15
       try clear hcz15_0
       try clear hcz15_1
       try clear hcz5_0
       try clear hcz5_1
       try clear hcz7_0
       try clear hcz7_1
       try clear hfz15_0
       try clear hfz15_1
       try clear hfz5_0
       try clear hfz5_1
       try clear hfz7_0
       try clear hfz7_1
       try clear p2
       obtain ⟨x5_2, rfl, HA, HK2, BK338, HB⟩ := hrel
       cases gk with
       | zero => exact absurd HA.out (by simp [spillwayref2_Print.l0])
       | succ k2 =>
        have H := HA.out
        clear HA
        simp only [spillwayref2_Print.l0] at H
        by_cases c18 : (x5_2.size : Int) > 0
        ·rw [if_pos c18] at H
         have c18b0 : decide (0 < (x5_2.size : Int)) = true := decide_eq_true c18
         have c18b1 : decide (0 < x5_2.size) = true := decide_eq_true (by omega)
         clear c18
         (first | rw [c18b0] | (simp only [i64_w, i32_w]; rw [c18b0]) | skip)
         obtain ⟨ji19, hji19⟩ : ∃ j_ : Int, (wrap64 ((x5_2.size : Int) - 1)) = j_ := ⟨_, rfl⟩
         replace H : (if 0 ≤ (ji19) then (if (ji19) < (x5_2.size : Int) then (if (bt x5_2 (ji19)) = 48 then (if (ji19) ≤ (x5_2.size : Int) then (spillwayref2_Print.l0 k2 t341 (x5_2.extract 0 ((ji19) : Int).toNat) a0_0 a0_1) else (none)) else (spillwayref2_Print.j2 k2 t341 x5_2 a0_0 a0_1)) else (none)) else (none)) = some r := by first | (rw [hji19] at H; exact H) | (simp only [hji19] at H ⊢; exact H)
         have hji19w : (IntKind.i64.wrap ((x5_2.size : Int) - 1)) = ji19 := (i64_w _).trans hji19
         by_cases c20 : 0 ≤ (ji19)
         ·rw [if_pos c20] at H
          have c20b0 : decide (0 ≤ (ji19)) = true := decide_eq_true c20
          clear c20
          by_cases c21 : (ji19) < (x5_2.size : Int)
          ·rw [if_pos c21] at H
           have c21b0 : decide ((ji19) < (x5_2.size : Int)) = true := decide_eq_true c21
           clear c21
           by_cases c23 : (bt x5_2 (ji19)) = 48
           ·rw [if_pos c23] at H
            have c23b0 : ((bt x5_2 (ji19)) == 48) = true := beq_iff_eq.mpr c23
            have c23b1 : ((bt x5_2 (ji19)) != 48) = false := bne_eq_false_iff_eq.mpr c23
            clear c23
            have c24b0 := eq_true (of_decide_eq_true (by first | (with_reducible assumption) | assumption) : 0 ≤ (ji19))
            by_cases c25 : (ji19) ≤ (x5_2.size : Int)
            ·rw [if_pos c25] at H
             have c25b0 := eq_true c25
             have c25b1 : decide ((ji19) ≤ (x5_2.size : Int)) = true := decide_eq_true c25
             clear c25
             have H' := Aside0.mk H
             clear H
             have p22 : 0 ≤ ((ji19) : Int) := of_decide_eq_true (by first | (with_reducible assumption) | assumption)
             have q22 : (ji19) < (x5_2.size : Int) := of_decide_eq_true (by first | (with_reducible assumption) | assumption)
             have hx22 := bt_at x5_2 (ji19)
             replace p22 := eq_true p22
             replace q22 := eq_true q22
             go_wp2
             go_roundg k2
             case measure => have := HJ1.out; have := HK2.out; omega
             case rel => exact ⟨(x5_2.extract 0 ((ji19) : Int).toNat), (by first | rfl | (simp; done) | (simp only [← hji19] <;> (first | rfl | simp)) | (simp [*]; done)), H', ⟨by have := HJ1.out; have := HK2.out; omega⟩, ⟨by (with_reducible repeat (first | refine blk_drewN ?_ _ | refine blk_drew ?_ | refine blk_alloc ?_ _)); exact BK338.out⟩, ⟨by repeat (first | (with_reducible first | exact HB.out | apply below_alloc | apply pw_below_drewN | apply below_drew1 | refine below_set ?_ GE338.out) | exact HB.out)⟩⟩
            ·rw [if_neg c25] at H
             exact absurd H (by simp)
           ·rw [if_neg c23] at H
            have c23b0 : ((bt x5_2 (ji19)) == 48) = false := beq_eq_false_iff_ne.mpr c23
            have c23b1 : ((bt x5_2 (ji19)) != 48) = true := bne_iff_ne.mpr c23
            have H' := Aside0.mk H
            clear H
            have p22 : 0 ≤ ((ji19) : Int) := of_decide_eq_true (by first | (with_reducible assumption) | assumption)
            have q22 : (ji19) < (x5_2.size : Int) := of_decide_eq_true (by first | (with_reducible assumption) | assumption)
            have hx22 := bt_at x5_2 (ji19)
            replace p22 := eq_true p22
            replace q22 := eq_true q22
            go_wp2
            go_meet
            case rel => exact ⟨_, (x5_2), (by first | rfl | (simp; done) | (simp [*]; done)), H', ⟨by have := HJ1.out; have := HK2.out; first | omega | exact Nat.le_refl _⟩, ⟨by (with_reducible repeat (first | refine blk_drewN ?_ _ | refine blk_drew ?_ | refine blk_alloc ?_ _)); exact BK338.out⟩, ⟨by repeat (first | (with_reducible first | exact HB.out | apply below_alloc | apply pw_below_drewN | apply below_drew1 | refine below_set ?_ GE338.out) | exact HB.out)⟩⟩
          ·rw [if_neg c21] at H
           exact absurd H (by simp)
         ·rw [if_neg c20] at H
          exact absurd H (by simp)
        ·rw [if_neg c18] at H
         have c18b0 : decide (0 < (x5_2.size : Int)) = false := decide_eq_false c18
         have c18b1 : decide (0 < x5_2.size) = false := decide_eq_false (by omega)
         clear c18
         (first | rw [c18b0] | (simp only [i64_w, i32_w]; rw [c18b0]) | skip)
         have H' := Aside0.mk H
         clear H
         go_wp2
         go_meet
         case rel => exact ⟨_, (x5_2), (by first | rfl | (simp; done) | (simp [*]; done)), H', ⟨by have := HJ1.out; have := HK2.out; first | omega | exact Nat.le_refl _⟩, ⟨by (with_reducible repeat (first | refine blk_drewN ?_ _ | refine blk_drew ?_ | refine blk_alloc ?_ _)); exact BK338.out⟩, ⟨by repeat (first | (with_reducible first | exact HB.out | apply below_alloc | apply pw_below_drewN | apply below_drew1 | refine below_set ?_ GE338.out) | exact HB.out)⟩⟩
     case rest =>
      clear HC14
      try clear c1
      try clear c2
      try clear p2
      try clear q2
      try clear hx2
      try clear c4
      try clear p6
      try clear c9
      try clear c13
      try clear c13b0
      try clear c13b1
      try clear c15
      try clear c18
      try clear c18b0
      try clear c18b1
      try clear c20
      try clear c20b0
      try clear c21
      try clear c21b0
      try clear c22
      try clear p22
      try clear q22
      try clear hx22
      try clear c23
      try clear c23b0
      try clear c23b1
      try clear c24
      try clear c24b0
      try clear c25
      try clear c25b0
      try clear c25b1
      try clear hcz15_0
      try clear hcz15_1
      try clear hcz5_0
      try clear hcz5_1
      try clear hcz7_0
      try clear hcz7_1
      try clear hfz15_0
      try clear hfz15_1
      try clear hfz5_0
      try clear hfz5_1
      try clear hfz7_0
      try clear hfz7_1
      try clear p2
      try clear p22
      try clear q22
      obtain ⟨kq, x5_13, rfl, HA, HJ13, BK338, HB⟩ := hcut
      cases kq with
      | zero => exact absurd HA.out (by simp [spillwayref2_Print.j2])
      | succ kj13 =>
       have H := HA.out
       clear HA
       simp only [spillwayref2_Print.j2] at H
       by_cases c26 : x5_13.toList = ([] : List UInt8)
       ·rw [if_pos c26] at H
        have c26b0 : (x5_13.toList == ([] : List UInt8)) = true := beq_iff_eq.mpr c26
        have c26b1 : (x5_13.toList != ([] : List UInt8)) = false := bne_eq_false_iff_eq.mpr c26
        clear c26
        by_cases c27 : a0_1 < 0
        ·rw [if_pos c27] at H
         have c27b0 : decide (a0_1 < 0) = true := decide_eq_true c27
         clear c27
         by_cases c28 : 1 + t341.size ≤ 9223372036854775807
         ·rw [if_pos c28] at H
          have c28b0 := eq_true c28
          have c28b1 : decide (1 + t341.size ≤ 9223372036854775807) = true := decide_eq_true c28
          try have c28b2 : (9223372036854775807 < 1 + t341.size) = False := eq_false (Nat.not_lt.2 c28)
          obtain rfl := Option.some.inj H
          have hcz29_0 : wc.cell? ⟨gb338, 0, none⟩ = some (.bool a0_0) := (blk_cell BK338.out 0).trans rfl
          have hcz29_1 : wc.cell? ⟨gb338, 1, none⟩ = some (.int .i64 a0_1) := (blk_cell BK338.out 1).trans rfl
          have hfz29_0 := blk_frozen BK338.out 0
          have hfz29_1 := blk_frozen BK338.out 1
          go_wp2
          go_ret
          exact ⟨by first | rfl | (simp [errW_none, errW_some] <;> rfl) | (simp [*, errW_none, errW_some] <;> rfl), by repeat (first | (with_reducible first | exact HB.out | apply below_alloc | apply pw_below_drewN | apply below_drew1 | refine below_set ?_ GE338.out) | exact HB.out)⟩
         ·rw [if_neg c28] at H
          exact absurd H (by simp)
        ·rw [if_neg c27] at H
         have c27b0 : decide (a0_1 < 0) = false := decide_eq_false c27
         clear c27
         obtain rfl := Option.some.inj H
         have hcz30_0 : wc.cell? ⟨gb338, 0, none⟩ = some (.bool a0_0) := (blk_cell BK338.out 0).trans rfl
         have hcz30_1 : wc.cell? ⟨gb338, 1, none⟩ = some (.int .i64 a0_1) := (blk_cell BK338.out 1).trans rfl
         have hfz30_0 := blk_frozen BK338.out 0
         have hfz30_1 := blk_frozen BK338.out 1
         go_wp2
         go_ret
         exact ⟨by first | rfl | (simp [errW_none, errW_some] <;> rfl) | (simp [*, errW_none, errW_some] <;> rfl), by repeat (first | (with_reducible first | exact HB.out | apply below_alloc | apply pw_below_drewN | apply below_drew1 | refine below_set ?_ GE338.out) | exact HB.out)⟩
       ·rw [if_neg c26] at H
        have c26b0 : (x5_13.toList == ([] : List UInt8)) = false := beq_eq_false_iff_ne.mpr c26
        have c26b1 : (x5_13.toList != ([] : List UInt8)) = true := bne_iff_ne.mpr c26
        by_cases c31 : t341.size + 1 ≤ 9223372036854775807
        ·rw [if_pos c31] at H
         have c31b0 := eq_true c31
         have c31b1 : decide (t341.size + 1 ≤ 9223372036854775807) = true := decide_eq_true c31
         try have c31b2 : (9223372036854775807 < t341.size + 1) = False := eq_false (Nat.not_lt.2 c31)
         by_cases c32 : (t341 ++ (⟨#[46]⟩ : ByteArray)).size + x5_13.size ≤ 9223372036854775807
         ·rw [if_pos c32] at H
          have c32b0 := eq_true c32
          have c32b1 : decide ((t341 ++ (⟨#[46]⟩ : ByteArray)).size + x5_13.size ≤ 9223372036854775807) = true := decide_eq_true c32
          try have c32b2 : (9223372036854775807 < (t341 ++ (⟨#[46]⟩ : ByteArray)).size + x5_13.size) = False := eq_false (Nat.not_lt.2 c32)
          try (have c32b3 := c32; simp only [ByteArray.size_append, sz_one] at c32b3; have c32b4 := eq_false (Nat.not_lt.2 c32b3); clear c32b3)
          by_cases c33 : a0_1 < 0
          ·rw [if_pos c33] at H
           have c33b0 : decide (a0_1 < 0) = true := decide_eq_true c33
           clear c33
           by_cases c34 : 1 + ((t341 ++ (⟨#[46]⟩ : ByteArray)) ++ x5_13).size ≤ 9223372036854775807
           ·rw [if_pos c34] at H
            have c34b0 := eq_true c34
            have c34b1 : decide (1 + ((t341 ++ (⟨#[46]⟩ : ByteArray)) ++ x5_13).size ≤ 9223372036854775807) = true := decide_eq_true c34
            try have c34b2 : (9223372036854775807 < 1 + ((t341 ++ (⟨#[46]⟩ : ByteArray)) ++ x5_13).size) = False := eq_false (Nat.not_lt.2 c34)
            try (have c34b3 := c34; simp only [ByteArray.size_append, sz_one] at c34b3; have c34b4 := eq_false (Nat.not_lt.2 c34b3); clear c34b3)
            obtain rfl := Option.some.inj H
            have hcz35_0 : wc.cell? ⟨gb338, 0, none⟩ = some (.bool a0_0) := (blk_cell BK338.out 0).trans rfl
            have hcz35_1 : wc.cell? ⟨gb338, 1, none⟩ = some (.int .i64 a0_1) := (blk_cell BK338.out 1).trans rfl
            have hfz35_0 := blk_frozen BK338.out 0
            have hfz35_1 := blk_frozen BK338.out 1
            go_wp2
            go_ret
            exact ⟨by first | rfl | (simp [errW_none, errW_some] <;> rfl) | (simp [*, errW_none, errW_some] <;> rfl), by repeat (first | (with_reducible first | exact HB.out | apply below_alloc | apply pw_below_drewN | apply below_drew1 | refine below_set ?_ GE338.out) | exact HB.out)⟩
           ·rw [if_neg c34] at H
            exact absurd H (by simp)
          ·rw [if_neg c33] at H
           have c33b0 : decide (a0_1 < 0) = false := decide_eq_false c33
           clear c33
           obtain rfl := Option.some.inj H
           have hcz36_0 : wc.cell? ⟨gb338, 0, none⟩ = some (.bool a0_0) := (blk_cell BK338.out 0).trans rfl
           have hcz36_1 : wc.cell? ⟨gb338, 1, none⟩ = some (.int .i64 a0_1) := (blk_cell BK338.out 1).trans rfl
           have hfz36_0 := blk_frozen BK338.out 0
           have hfz36_1 := blk_frozen BK338.out 1
           go_wp2
           go_ret
           exact ⟨by first | rfl | (simp [errW_none, errW_some] <;> rfl) | (simp [*, errW_none, errW_some] <;> rfl), by repeat (first | (with_reducible first | exact HB.out | apply below_alloc | apply pw_below_drewN | apply below_drew1 | refine below_set ?_ GE338.out) | exact HB.out)⟩
         ·rw [if_neg c32] at H
          exact absurd H (by simp)
        ·rw [if_neg c31] at H
         exact absurd H (by simp)
    ·rw [if_neg c13] at H
     exact absurd H (by simp)

end Go.Proofs.YtnjobjogddjelaaGreatDoor.Print
end

section
namespace Go.Proofs.YtnjobjogddjelaaGreatDoor.PureN
open Go.RowKit Go.Proofs.YtnjobjogddjelaaGreatDoor.Print Go.Proofs.YtnjobjogddjelaaGreatDoor.Pure Go.Proofs.YtnjobjogddjelaaGreatDoorW.PrintWords Go.Proofs.YtnjobjogddjelaaGreatDoorW.PrintLast Go.Proofs.YtnjobjogddjelaaGreatDoorW.PrintMore

/-! The document's numbers come to the same. -/
theorem ris_false (n : Int) : spillwayref2_Is.f false n = some (!over false n) := by
 unfold spillwayref2_Is.f over isOver
 by_cases c : n = -9223372036854775808
 ·simp [c]
 ·simp [c]
theorem rsize_eq (n : Int) (h : R n) : spillwayref2_size.f n = some (ab n) := by
 obtain ⟨h1, h2⟩ := h
 unfold spillwayref2_size.f ab
 simp only [u64_mod]
 by_cases c : n < 0
 ·rw [if_pos c, if_pos c]
  congr 1
  unfold wrap64
  omega
 ·rw [if_neg c, if_neg c]
  congr 1
  omega
theorem str_one (d : Nat) (h : d < 10) : strOfNums [(IntKind.u64.wrap (48 + (d : Int))) % 256] = ⟨[UInt8.ofNat (48 + d)].toArray⟩ := by
 unfold strOfNums
 have : (IntKind.u64.wrap (48 + (d : Int)) % 256).toNat = 48 + d := by
  rw [IntKind.wrap_u64]
  omega
 rw [List.map_cons, List.map_nil, this]
theorem digits_dec : ∀ (k n : Nat) (acc : List UInt8), 1 ≤ k → n < 10 ^ k → n < 18446744073709551616 → acc.length + k ≤ 1000 → spillwayref2_Digits.l0 k (n : Int) ⟨acc.toArray⟩ = some ⟨(Lib.decDigits n ++ acc).toArray⟩
 | 0, _, _, h, _, _, _ => absurd h (by omega)
 | k + 1, n, acc, _, hn, h64, hl => by
  simp only [spillwayref2_Digits.l0]
  have e1 : Int.tmod (n : Int) 10 = ((n % 10 : Nat) : Int) := by rw [Int.tmod_eq_emod_of_nonneg (by omega)]; omega
  have e2 : IntKind.u64.wrap (Int.tdiv (n : Int) 10) = ((n / 10 : Nat) : Int) := by rw [Int.tdiv_eq_ediv_of_nonneg (by omega), IntKind.wrap_u64]; omega
  rw [e1, e2, Option.bind_some, str_one _ (by omega), app_list, size_list, size_list, if_pos (by rw [List.length_singleton]; omega)]
  rw [Lib.decDigits]
  by_cases c : n < 10
  ·rw [if_pos (by omega), dif_pos c, show n % 10 = n by omega]
  ·rw [if_neg (by omega), dif_neg c]
   have hk : 1 ≤ k := by
    rcases Nat.eq_zero_or_pos k with rfl | h'
    ·simp at hn
     omega
    ·exact h'
   rw [Nat.pow_succ] at hn
   rw [digits_dec k (n / 10) _ hk (by omega) (by omega) (by simp; omega), List.append_assoc]
theorem rDigits_eq (k n : Nat) (hk : 25 < k) (hk2 : k ≤ 900) (h : n < 18446744073709551616) : spillwayref2_Digits.f k (n : Int) = some ⟨(Lib.decDigits n).toArray⟩ := by
 unfold spillwayref2_Digits.f
 have hp : 10 ^ 20 ≤ 10 ^ k := Nat.pow_le_pow_right (by omega) (by omega)
 have := digits_dec k n [] (by omega) (by omega) h (by simp; omega)
 rw [List.append_nil] at this
 exact this
theorem trim_snoc (Q : List UInt8) (c : UInt8) : Lib.trimRightB (Q ++ [c]) 48 = if c = 48 then Lib.trimRightB Q 48 else Q ++ [c] := by
 unfold Lib.trimRightB
 rw [List.reverse_append, List.reverse_singleton, List.singleton_append, List.dropWhile_cons]
 by_cases h : c = 48
 ·rw [if_pos h, if_pos (by simpa using h)]
 ·rw [if_neg h, if_neg (by simpa using h)]
  simp
theorem rprint_l0 (x4 : ByteArray) (a : Bool) (n : Int) : ∀ (d : Nat) (P : List UInt8) (k : Nat), P.length = d → d ≤ 100 → d < k → ∃ m, k ≤ m + d + 1 ∧ spillwayref2_Print.l0 k x4 ⟨P.toArray⟩ a n = spillwayref2_Print.j2 m x4 ⟨(Lib.trimRightB P 48).toArray⟩ a n := by
 intro d
 induction d with
 | zero =>
  intro P k hP hd hk
  obtain ⟨m, rfl⟩ : ∃ m, k = m + 1 := ⟨k - 1, by omega⟩
  obtain rfl := List.eq_nil_of_length_eq_zero hP
  refine ⟨m, by omega, ?_⟩
  simp only [spillwayref2_Print.l0]
  rw [size_list, if_neg (by simp)]
  rfl
 | succ d ih =>
  intro P k hP hd hk
  obtain ⟨m, rfl⟩ : ∃ m, k = m + 1 := ⟨k - 1, by omega⟩
  have hne : P ≠ [] := by rintro rfl; simp at hP
  obtain ⟨Q, c, rfl⟩ : ∃ Q c, P = Q ++ [c] := ⟨P.dropLast, P.getLast hne, (List.dropLast_concat_getLast hne).symm⟩
  have hQ : Q.length = d := by simpa using hP
  have e5 : wrap64 (((d + 1 : Nat) : Int) - 1) = (d : Int) := by rw [wrap_id (by omega) (by omega)]; omega
  simp only [spillwayref2_Print.l0]
  rw [size_list, hP, if_pos (by omega), e5, if_pos (by omega), if_pos (by omega), bt_list _ d (by omega), trim_snoc]
  have hc : (Q ++ [c])[d]'(by omega) = c := by
   rw [List.getElem_append_right (by omega)]
   simp
  rw [hc]
  by_cases g : c = 48
  ·subst g
   rw [if_pos (by rfl), if_pos rfl, if_pos (by omega)]
   have ex : (⟨(Q ++ [48]).toArray⟩ : ByteArray).extract 0 ((d : Int).toNat) = ⟨Q.toArray⟩ := by
    rw [ByteArray.extract_mk]
    congr 1
    apply Array.toList_inj.1
    simp only [List.extract_toArray, List.extract_eq_take_drop, Int.toNat_natCast, List.drop_zero, Nat.sub_zero]
    rw [← hQ, List.take_left]
   rw [ex]
   obtain ⟨m', h1, h2⟩ := ih Q m hQ (by omega) (by omega)
   exact ⟨m', by omega, h2⟩
  ·have : ¬ (c.toNat : Int) = 48 := by
    intro h
    apply g
    apply UInt8.toNat_inj.1
    have : (48 : UInt8).toNat = 48 := rfl
    omega
   rw [if_neg this, if_neg g]
   exact ⟨m, by omega, rfl⟩
theorem frac_none (N : Nat) (h : N % 1000000 = 0) : Lib.trimRightB ((Lib.decDigits (N % 1000000 + 1000000)).drop 1) 48 = [] := by
 obtain ⟨P, e, hl, ha, hv⟩ := frac (N % 1000000) (by omega)
 rw [e, List.drop_one, List.tail_cons]
 have ht := trim_app P 48
 have hlast := trim_last P 48
 obtain ⟨p, hp⟩ : ∃ p, Lib.trimRightB P 48 = p := ⟨_, rfl⟩
 rw [hp] at ht hlast ⊢
 by_cases hne : p = []
 ·exact hne
 ·exfalso
  obtain ⟨q, c, rfl⟩ : ∃ q c, p = q ++ [c] := ⟨p.dropLast, p.getLast hne, (List.dropLast_concat_getLast hne).symm⟩
  have hc : c ≠ 48 := hlast c (by simp)
  have hcd : isD c = true := by
   have := List.all_eq_true.1 ha c (by rw [ht]; simp)
   exact this
  have h1 : 48 ≤ c.toNat ∧ c.toNat ≤ 57 := by
   unfold isD at hcd
   simpa using hcd
  have h2 : c.toNat ≠ 48 := fun h => hc (UInt8.toNat_inj.1 h)
  have hv2 : valN P = valN (q ++ [c]) * 10 ^ (P.length - (q ++ [c]).length) := by
   conv => lhs; rw [ht]
   rw [valN_append, valN_zeros, List.length_replicate, Nat.add_zero]
  rw [hv, h, valN_append, val_one] at hv2
  have hp10 : 0 < 10 ^ (P.length - (q ++ [c]).length) := Nat.pow_pos (by omega)
  have h3 : 0 < valN q * 10 ^ [c].length + (c.toNat - 48) := by omega
  have := Nat.mul_pos h3 hp10
  omega
theorem rprint_eq (a : Bool) (n : Int) (hn : R n) : spillwayref2_Print.f 300 a n = some ⟨(printS a n).toArray⟩ := by
 have hj : ∀ b, spillwayref2_Print.j0 300 true b n = some ⟨[111, 118, 102].toArray⟩ := fun b => rfl
 unfold spillwayref2_Print.f printS
 cases a
 ·rw [if_neg (by simp), ris_false, Option.bind_some, Bool.not_not]
  cases h : over false n
  ·have hr := ab_R hn
   obtain ⟨N, hN⟩ : ∃ N : Nat, ab n = N := ⟨(ab n).toNat, by omega⟩
   obtain ⟨J, hJ⟩ : ∃ J : Nat, J = 299 := ⟨_, rfl⟩
   rw [show (300 : Nat) = J + 1 by omega]
   simp only [spillwayref2_Print.j0, Bool.false_eq_true, if_false]
   rw [rsize_eq n hn, Option.bind_some, hN, Int.toNat_natCast]
   rw [hN] at hr
   have e1 : IntKind.u64.wrap (Int.tdiv (N : Int) 1000000) = ((N / 1000000 : Nat) : Int) := by
    rw [Int.tdiv_eq_ediv_of_nonneg (by omega), IntKind.wrap_u64]
    omega
   have e0 : Int.tmod (N : Int) 1000000 = ((N % 1000000 : Nat) : Int) := by
    rw [Int.tmod_eq_emod_of_nonneg (by omega)]
    omega
   have e2 : IntKind.u64.wrap (((N % 1000000 : Nat) : Int) + 1000000) = ((N % 1000000 + 1000000 : Nat) : Int) := by
    rw [IntKind.wrap_u64]
    omega
   rw [e1, e0, e2, rDigits_eq J _ (by omega) (by omega) (by omega), Option.bind_some, rDigits_eq J _ (by omega) (by omega) (by omega), Option.bind_some]
   have l1 := dec_len (N / 1000000) 20 (by omega) (by omega)
   have l2 := dec_pos (N % 1000000 + 1000000)
   have l3 := dec_len (N % 1000000 + 1000000) 20 (by omega) (by omega)
   rw [size_list, if_pos (by omega), extract_list]
   obtain ⟨m, hm, e⟩ := rprint_l0 ⟨(Lib.decDigits (N / 1000000)).toArray⟩ false n _ ((Lib.decDigits (N % 1000000 + 1000000)).drop 1) J rfl (by rw [List.length_drop]; omega) (by rw [List.length_drop]; omega)
   rw [e]
   rw [List.length_drop] at hm
   obtain ⟨m, rfl⟩ : ∃ x, m = x + 1 := ⟨m - 1, by omega⟩
   simp only [spillwayref2_Print.j2]
   rw [toList_list]
   unfold bodyS
   by_cases c : 0 < N % 1000000
   ·obtain ⟨p, ep, hp, hv, _, hpl, hpne⟩ := frac_trim (N % 1000000) (by omega) c
    rw [ep, if_neg hpne, if_pos c, size_list, if_pos (by omega), show (⟨(Lib.decDigits (N / 1000000)).toArray⟩ ++ (⟨#[46]⟩ : ByteArray)) = ⟨(Lib.decDigits (N / 1000000) ++ [46]).toArray⟩ from app_list _ [46], size_list, size_list, List.length_append, List.length_singleton, if_pos (by omega), app_list, List.append_assoc, List.singleton_append]
    by_cases s : n < 0
    ·rw [if_pos s, if_pos s, size_list, List.length_append, List.length_cons, if_pos (by omega)]
     exact congrArg some (app_list [45] _)
    ·rw [if_neg s, if_neg s]
   ·rw [frac_none N (by omega), if_pos rfl, if_neg c, List.append_nil]
    by_cases s : n < 0
    ·rw [if_pos s, if_pos s, size_list, if_pos (by omega)]
     exact congrArg some (app_list [45] _)
    ·rw [if_neg s, if_neg s]
  ·exact hj false
 ·rw [if_pos rfl]
  exact hj true
end Go.Proofs.YtnjobjogddjelaaGreatDoor.PureN
end

section
namespace Go.Proofs.YtnjobjogddjelaaGreatDoor.Print
open Go.RowKit Go.Proofs.YtnjobjogddjelaaGreatDoorX Go.Proofs.YtnjobjogddjelaaGreatDoorW.PrintWords Go.Proofs.YtnjobjogddjelaaGreatDoorW.PrintLast Go.Proofs.YtnjobjogddjelaaGreatDoorW.PrintMore
attribute [local go_sem] max2_int min2_int max_two min_two max_three min_three max_four min_four

/-! ### spillwayref3_Quote: function 16 -/
def spillwayref3_Quote.l0 : Nat → ByteArray → ByteArray → Int → Option (ByteArray)
 | 0, _, _, _ => none
 | k + 1, x0, x3, x4 => if x4 < (x0.size : Int) then (if 0 ≤ x4 then (if (bt x0 x4) = 34 then (if x3.size + 1 ≤ 9223372036854775807 then (if x4 ≤ (wrap64 (x4 + 1)) then (if (wrap64 (x4 + 1)) ≤ (x0.size : Int) then (if (x3 ++ (⟨#[92]⟩ : ByteArray)).size + (x0.extract (x4 : Int).toNat ((wrap64 (x4 + 1)) : Int).toNat).size ≤ 9223372036854775807 then (spillwayref3_Quote.l0 k x0 ((x3 ++ (⟨#[92]⟩ : ByteArray)) ++ (x0.extract (x4 : Int).toNat ((wrap64 (x4 + 1)) : Int).toNat)) (wrap64 (x4 + 1))) else (none)) else (none)) else (none)) else (none)) else (if (bt x0 x4) = 92 then (if x3.size + 1 ≤ 9223372036854775807 then (if x4 ≤ (wrap64 (x4 + 1)) then (if (wrap64 (x4 + 1)) ≤ (x0.size : Int) then (if (x3 ++ (⟨#[92]⟩ : ByteArray)).size + (x0.extract (x4 : Int).toNat ((wrap64 (x4 + 1)) : Int).toNat).size ≤ 9223372036854775807 then (spillwayref3_Quote.l0 k x0 ((x3 ++ (⟨#[92]⟩ : ByteArray)) ++ (x0.extract (x4 : Int).toNat ((wrap64 (x4 + 1)) : Int).toNat)) (wrap64 (x4 + 1))) else (none)) else (none)) else (none)) else (none)) else (if x4 ≤ (wrap64 (x4 + 1)) then (if (wrap64 (x4 + 1)) ≤ (x0.size : Int) then (if x3.size + (x0.extract (x4 : Int).toNat ((wrap64 (x4 + 1)) : Int).toNat).size ≤ 9223372036854775807 then (spillwayref3_Quote.l0 k x0 (x3 ++ (x0.extract (x4 : Int).toNat ((wrap64 (x4 + 1)) : Int).toNat)) (wrap64 (x4 + 1))) else (none)) else (none)) else (none)))) else (none)) else (if x3.size + 1 ≤ 9223372036854775807 then (some (x3 ++ (⟨#[34]⟩ : ByteArray))) else (none))
def spillwayref3_Quote.f (k : Nat) (a0 : ByteArray) : Option (ByteArray) := spillwayref3_Quote.l0 k a0 (⟨#[34]⟩ : ByteArray) 0
theorem spillwayref3_Quote.mono_l : ∀ k, (∀ y0 y1 y2, LeO (spillwayref3_Quote.l0 k y0 y1 y2) (spillwayref3_Quote.l0 (k + 1) y0 y1 y2))
 | 0 => fun _ _ _ r h => by simp [spillwayref3_Quote.l0] at h
 | k + 1 => by
  have ih0 := spillwayref3_Quote.mono_l k
  ·intro y0 y1 y2
   unfold spillwayref3_Quote.l0
   repeat' first
   | (with_reducible exact ih0 _ _ _)
   | (with_reducible exact LeO.refl _)
   | (with_reducible exact LeO.none _)
   | (with_reducible refine LeO.ite ?_ ?_)
   | (with_reducible refine LeO.bind ?_ (fun _ => ?_))
   | exact ih0 _ _ _
   | exact LeO.none _
   | refine LeO.ite ?_ ?_
   | refine LeO.bind ?_ (fun _ => ?_)
theorem spillwayref3_Quote.mono : ∀ a0 k, LeO (spillwayref3_Quote.f k a0) (spillwayref3_Quote.f (k + 1) a0) := by
 intro a0 k
 have ih0 := spillwayref3_Quote.mono_l k
 unfold spillwayref3_Quote.f
 repeat' first
   | (with_reducible exact ih0 _ _ _)
   | (with_reducible exact LeO.refl _)
   | (with_reducible exact LeO.none _)
   | (with_reducible refine LeO.ite ?_ ?_)
   | (with_reducible refine LeO.bind ?_ (fun _ => ?_))
   | exact ih0 _ _ _
   | exact LeO.none _
   | refine LeO.ite ?_ ?_
   | refine LeO.bind ?_ (fun _ => ?_)
set_option maxHeartbeats 8000000 in
set_option maxRecDepth 100000 in
theorem spillwayref3_Quote.calls (k : Nat) (a0 : ByteArray) (r : ByteArray) (w : World) (h : spillwayref3_Quote.f k a0 = some r) :
  Calls Tryz.prog 16 #[.string a0] w fun e w' => e = .returned (.string r) ∧ Drawn0 w w' := by
 have H : (spillwayref3_Quote.l0 k a0 (⟨#[34]⟩ : ByteArray) 0) = some r := h
 clear h
 have H' := Aside0.mk H
 clear H
 go_enter Tryz.func16, Tryz.ntmps16
 go_wp2
 go_loopg [3, 4] k (fun kq v3 v4 w' => ∃ (x3_1 : ByteArray) (x4_1 : Int), v3 = .string x3_1 ∧ v4 = .int .i64 x4_1 ∧ Aside0 (spillwayref3_Quote.l0 kq a0 x3_1 x4_1 = some r) ∧ Aside0 (kq ≤ k) ∧ Drawn0 w w')
 case atStart => exact ⟨((⟨#[34]⟩ : ByteArray)), (0), (by first | rfl | (simp; done) | (simp [*]; done)), (by first | rfl | (simp; done) | (simp [*]; done)), H', ⟨Nat.le_refl _⟩, by repeat (first | exact Drawn0.refl _ | apply Drawn0.step)⟩
 case round =>
  clear H'
  try clear c1
  obtain ⟨x3_1, x4_1, rfl, rfl, HA, HK1, ⟨m1, rfl⟩⟩ := hrel
  cases gk with
  | zero => exact absurd HA.out (by simp [spillwayref3_Quote.l0])
  | succ k1 =>
   have H := HA.out
   clear HA
   simp only [spillwayref3_Quote.l0] at H
   by_cases c2 : x4_1 < (a0.size : Int)
   ·rw [if_pos c2] at H
    have c2b0 : decide (x4_1 < (a0.size : Int)) = true := decide_eq_true c2
    clear c2
    by_cases c3 : 0 ≤ x4_1
    ·rw [if_pos c3] at H
     have c3b0 : decide (0 ≤ x4_1) = true := decide_eq_true c3
     clear c3
     by_cases c5 : (bt a0 x4_1) = 34
     ·rw [if_pos c5] at H
      have c5b0 : ((bt a0 x4_1) == 34) = true := beq_iff_eq.mpr c5
      have c5b1 : ((bt a0 x4_1) != 34) = false := bne_eq_false_iff_eq.mpr c5
      clear c5
      by_cases c6 : x3_1.size + 1 ≤ 9223372036854775807
      ·rw [if_pos c6] at H
       have c6b0 := eq_true c6
       have c6b1 : decide (x3_1.size + 1 ≤ 9223372036854775807) = true := decide_eq_true c6
       try have c6b2 : (9223372036854775807 < x3_1.size + 1) = False := eq_false (Nat.not_lt.2 c6)
       have c7b0 := eq_true (of_decide_eq_true (by first | (with_reducible assumption) | assumption) : 0 ≤ x4_1)
       by_cases c8 : x4_1 ≤ (wrap64 (x4_1 + 1))
       ·rw [if_pos c8] at H
        have c8b0 := eq_true c8
        have c8b1 : decide (x4_1 ≤ (wrap64 (x4_1 + 1))) = true := decide_eq_true c8
        by_cases c9 : (wrap64 (x4_1 + 1)) ≤ (a0.size : Int)
        ·rw [if_pos c9] at H
         have c9b0 := eq_true c9
         have c9b1 : decide ((wrap64 (x4_1 + 1)) ≤ (a0.size : Int)) = true := decide_eq_true c9
         by_cases c10 : (x3_1 ++ (⟨#[92]⟩ : ByteArray)).size + (a0.extract (x4_1 : Int).toNat ((wrap64 (x4_1 + 1)) : Int).toNat).size ≤ 9223372036854775807
         ·rw [if_pos c10] at H
          have c10b0 := eq_true c10
          have c10b1 : decide ((x3_1 ++ (⟨#[92]⟩ : ByteArray)).size + (a0.extract (x4_1 : Int).toNat ((wrap64 (x4_1 + 1)) : Int).toNat).size ≤ 9223372036854775807) = true := decide_eq_true c10
          try have c10b2 : (9223372036854775807 < (x3_1 ++ (⟨#[92]⟩ : ByteArray)).size + (a0.extract (x4_1 : Int).toNat ((wrap64 (x4_1 + 1)) : Int).toNat).size) = False := eq_false (Nat.not_lt.2 c10)
          try (have c10b3 := c10; simp only [ByteArray.size_append, sz_one] at c10b3; have c10b4 := eq_false (Nat.not_lt.2 c10b3); clear c10b3)
          have H' := Aside0.mk H
          clear H
          have p4 : 0 ≤ (x4_1 : Int) := of_decide_eq_true (by first | (with_reducible assumption) | assumption)
          have q4 : x4_1 < (a0.size : Int) := of_decide_eq_true (by first | (with_reducible assumption) | assumption)
          have hx4 := bt_at a0 x4_1
          replace p4 := eq_true p4
          replace q4 := eq_true q4
          go_wp2
          go_roundg k1
          case measure => have := HK1.out; omega
          case rel => exact ⟨((x3_1 ++ (⟨#[92]⟩ : ByteArray)) ++ (a0.extract (x4_1 : Int).toNat ((wrap64 (x4_1 + 1)) : Int).toNat)), (wrap64 (x4_1 + 1)), (by first | rfl | (simp; done) | (simp [*]; done)), (by first | rfl | (simp; done) | (simp [*]; done)), H', ⟨by have := HK1.out; omega⟩, by repeat (first | exact Drawn0.refl _ | apply Drawn0.step)⟩
         ·rw [if_neg c10] at H
          exact absurd H (by simp)
        ·rw [if_neg c9] at H
         exact absurd H (by simp)
       ·rw [if_neg c8] at H
        exact absurd H (by simp)
      ·rw [if_neg c6] at H
       exact absurd H (by simp)
     ·rw [if_neg c5] at H
      have c5b0 : ((bt a0 x4_1) == 34) = false := beq_eq_false_iff_ne.mpr c5
      have c5b1 : ((bt a0 x4_1) != 34) = true := bne_iff_ne.mpr c5
      by_cases c12 : (bt a0 x4_1) = 92
      ·rw [if_pos c12] at H
       have c12b0 : ((bt a0 x4_1) == 92) = true := beq_iff_eq.mpr c12
       have c12b1 : ((bt a0 x4_1) != 92) = false := bne_eq_false_iff_eq.mpr c12
       clear c12
       by_cases c13 : x3_1.size + 1 ≤ 9223372036854775807
       ·rw [if_pos c13] at H
        have c13b0 := eq_true c13
        have c13b1 : decide (x3_1.size + 1 ≤ 9223372036854775807) = true := decide_eq_true c13
        try have c13b2 : (9223372036854775807 < x3_1.size + 1) = False := eq_false (Nat.not_lt.2 c13)
        have c14b0 := eq_true (of_decide_eq_true (by first | (with_reducible assumption) | assumption) : 0 ≤ x4_1)
        by_cases c15 : x4_1 ≤ (wrap64 (x4_1 + 1))
        ·rw [if_pos c15] at H
         have c15b0 := eq_true c15
         have c15b1 : decide (x4_1 ≤ (wrap64 (x4_1 + 1))) = true := decide_eq_true c15
         by_cases c16 : (wrap64 (x4_1 + 1)) ≤ (a0.size : Int)
         ·rw [if_pos c16] at H
          have c16b0 := eq_true c16
          have c16b1 : decide ((wrap64 (x4_1 + 1)) ≤ (a0.size : Int)) = true := decide_eq_true c16
          by_cases c17 : (x3_1 ++ (⟨#[92]⟩ : ByteArray)).size + (a0.extract (x4_1 : Int).toNat ((wrap64 (x4_1 + 1)) : Int).toNat).size ≤ 9223372036854775807
          ·rw [if_pos c17] at H
           have c17b0 := eq_true c17
           have c17b1 : decide ((x3_1 ++ (⟨#[92]⟩ : ByteArray)).size + (a0.extract (x4_1 : Int).toNat ((wrap64 (x4_1 + 1)) : Int).toNat).size ≤ 9223372036854775807) = true := decide_eq_true c17
           try have c17b2 : (9223372036854775807 < (x3_1 ++ (⟨#[92]⟩ : ByteArray)).size + (a0.extract (x4_1 : Int).toNat ((wrap64 (x4_1 + 1)) : Int).toNat).size) = False := eq_false (Nat.not_lt.2 c17)
           try (have c17b3 := c17; simp only [ByteArray.size_append, sz_one] at c17b3; have c17b4 := eq_false (Nat.not_lt.2 c17b3); clear c17b3)
           have H' := Aside0.mk H
           clear H
           have p4 : 0 ≤ (x4_1 : Int) := of_decide_eq_true (by first | (with_reducible assumption) | assumption)
           have q4 : x4_1 < (a0.size : Int) := of_decide_eq_true (by first | (with_reducible assumption) | assumption)
           have hx4 := bt_at a0 x4_1
           replace p4 := eq_true p4
           replace q4 := eq_true q4
           have p11 : 0 ≤ (x4_1 : Int) := of_decide_eq_true (by first | (with_reducible assumption) | assumption)
           have q11 : x4_1 < (a0.size : Int) := of_decide_eq_true (by first | (with_reducible assumption) | assumption)
           have hx11 := bt_at a0 x4_1
           replace p11 := eq_true p11
           replace q11 := eq_true q11
           go_wp2
           go_roundg k1
           case measure => have := HK1.out; omega
           case rel => exact ⟨((x3_1 ++ (⟨#[92]⟩ : ByteArray)) ++ (a0.extract (x4_1 : Int).toNat ((wrap64 (x4_1 + 1)) : Int).toNat)), (wrap64 (x4_1 + 1)), (by first | rfl | (simp; done) | (simp [*]; done)), (by first | rfl | (simp; done) | (simp [*]; done)), H', ⟨by have := HK1.out; omega⟩, by repeat (first | exact Drawn0.refl _ | apply Drawn0.step)⟩
          ·rw [if_neg c17] at H
           exact absurd H (by simp)
         ·rw [if_neg c16] at H
          exact absurd H (by simp)
        ·rw [if_neg c15] at H
         exact absurd H (by simp)
       ·rw [if_neg c13] at H
        exact absurd H (by simp)
      ·rw [if_neg c12] at H
       have c12b0 : ((bt a0 x4_1) == 92) = false := beq_eq_false_iff_ne.mpr c12
       have c12b1 : ((bt a0 x4_1) != 92) = true := bne_iff_ne.mpr c12
       have c18b0 := eq_true (of_decide_eq_true (by first | (with_reducible assumption) | assumption) : 0 ≤ x4_1)
       by_cases c19 : x4_1 ≤ (wrap64 (x4_1 + 1))
       ·rw [if_pos c19] at H
        have c19b0 := eq_true c19
        have c19b1 : decide (x4_1 ≤ (wrap64 (x4_1 + 1))) = true := decide_eq_true c19
        by_cases c20 : (wrap64 (x4_1 + 1)) ≤ (a0.size : Int)
        ·rw [if_pos c20] at H
         have c20b0 := eq_true c20
         have c20b1 : decide ((wrap64 (x4_1 + 1)) ≤ (a0.size : Int)) = true := decide_eq_true c20
         by_cases c21 : x3_1.size + (a0.extract (x4_1 : Int).toNat ((wrap64 (x4_1 + 1)) : Int).toNat).size ≤ 9223372036854775807
         ·rw [if_pos c21] at H
          have c21b0 := eq_true c21
          have c21b1 : decide (x3_1.size + (a0.extract (x4_1 : Int).toNat ((wrap64 (x4_1 + 1)) : Int).toNat).size ≤ 9223372036854775807) = true := decide_eq_true c21
          try have c21b2 : (9223372036854775807 < x3_1.size + (a0.extract (x4_1 : Int).toNat ((wrap64 (x4_1 + 1)) : Int).toNat).size) = False := eq_false (Nat.not_lt.2 c21)
          have H' := Aside0.mk H
          clear H
          have p4 : 0 ≤ (x4_1 : Int) := of_decide_eq_true (by first | (with_reducible assumption) | assumption)
          have q4 : x4_1 < (a0.size : Int) := of_decide_eq_true (by first | (with_reducible assumption) | assumption)
          have hx4 := bt_at a0 x4_1
          replace p4 := eq_true p4
          replace q4 := eq_true q4
          have p11 : 0 ≤ (x4_1 : Int) := of_decide_eq_true (by first | (with_reducible assumption) | assumption)
          have q11 : x4_1 < (a0.size : Int) := of_decide_eq_true (by first | (with_reducible assumption) | assumption)
          have hx11 := bt_at a0 x4_1
          replace p11 := eq_true p11
          replace q11 := eq_true q11
          go_wp2
          go_roundg k1
          case measure => have := HK1.out; omega
          case rel => exact ⟨(x3_1 ++ (a0.extract (x4_1 : Int).toNat ((wrap64 (x4_1 + 1)) : Int).toNat)), (wrap64 (x4_1 + 1)), (by first | rfl | (simp; done) | (simp [*]; done)), (by first | rfl | (simp; done) | (simp [*]; done)), H', ⟨by have := HK1.out; omega⟩, by repeat (first | exact Drawn0.refl _ | apply Drawn0.step)⟩
         ·rw [if_neg c21] at H
          exact absurd H (by simp)
        ·rw [if_neg c20] at H
         exact absurd H (by simp)
       ·rw [if_neg c19] at H
        exact absurd H (by simp)
    ·rw [if_neg c3] at H
     exact absurd H (by simp)
   ·rw [if_neg c2] at H
    have c2b0 : decide (x4_1 < (a0.size : Int)) = false := decide_eq_false c2
    clear c2
    by_cases c22 : x3_1.size + 1 ≤ 9223372036854775807
    ·rw [if_pos c22] at H
     have c22b0 := eq_true c22
     have c22b1 : decide (x3_1.size + 1 ≤ 9223372036854775807) = true := decide_eq_true c22
     try have c22b2 : (9223372036854775807 < x3_1.size + 1) = False := eq_false (Nat.not_lt.2 c22)
     obtain rfl := Option.some.inj H
     go_wp2
     go_ret
     exact ⟨by first | rfl | (simp; done) | (simp [*]; done), by repeat (first | exact Drawn0.refl _ | apply Drawn0.step)⟩
    ·rw [if_neg c22] at H
     exact absurd H (by simp)

end Go.Proofs.YtnjobjogddjelaaGreatDoor.Print
end

section
namespace Go.Proofs.YtnjobjogddjelaaGreatDoor.Print
open Go.RowKit Go.Proofs.YtnjobjogddjelaaGreatDoorX Go.Proofs.YtnjobjogddjelaaGreatDoorW.PrintWords Go.Proofs.YtnjobjogddjelaaGreatDoorW.PrintLast Go.Proofs.YtnjobjogddjelaaGreatDoorW.PrintMore
attribute [local go_sem] max2_int min2_int max_two min_two max_three min_three max_four min_four

/-! ### spillwayref7_PrintTokens: function 13 -/
mutual
def spillwayref7_PrintTokens.l0 : Nat → List (S36) → ByteArray → Int → Option (ByteArray)
 | 0, _, _, _ => none
 | k + 1, x0, x3, x4 => if x4 < (x0.length : Int) then (if 0 ≤ x4 then (if ((rd_T36 x0 x4).f0) = 1 then (spillwayref7_PrintTokens.j1 k x0 x3 x4 (⟨#[]⟩ : ByteArray) ((rd_T36 x0 x4).f0) (((rd_T36 x0 x4).f0) == 1)) else (spillwayref7_PrintTokens.j1 k x0 x3 x4 (⟨#[]⟩ : ByteArray) ((rd_T36 x0 x4).f0) (((rd_T36 x0 x4).f0) == 5))) else (none)) else (some x3)
def spillwayref7_PrintTokens.j1 : Nat → List (S36) → ByteArray → Int → ByteArray → Int → Bool → Option (ByteArray)
 | 0, _, _, _, _, _, _ => none
 | k + 1, x0, x3, x4, x5, x16, x17 => if x17 = true then (if 0 ≤ x4 then (if x4 < (x0.length : Int) then (if x3.toList = ([] : List UInt8) then (if x3.size + ((rd_T36 x0 x4).f2).size ≤ 9223372036854775807 then (spillwayref7_PrintTokens.l0 k x0 (x3 ++ ((rd_T36 x0 x4).f2)) (wrap64 (x4 + 1))) else (none)) else (if ((rd_T36 x0 x4).f2).toList = ([] : List UInt8) then (if x3.size + ((rd_T36 x0 x4).f2).size ≤ 9223372036854775807 then (spillwayref7_PrintTokens.l0 k x0 (x3 ++ ((rd_T36 x0 x4).f2)) (wrap64 (x4 + 1))) else (none)) else (if x3.size + 1 ≤ 9223372036854775807 then (if (x3 ++ (⟨#[32]⟩ : ByteArray)).size + ((rd_T36 x0 x4).f2).size ≤ 9223372036854775807 then (spillwayref7_PrintTokens.l0 k x0 ((x3 ++ (⟨#[32]⟩ : ByteArray)) ++ ((rd_T36 x0 x4).f2)) (wrap64 (x4 + 1))) else (none)) else (none)))) else (none)) else (none)) else (if x16 = 2 then (if 0 ≤ x4 then (if x4 < (x0.length : Int) then ((spillwayref2_Print.f k ((rd_T36 x0 x4).f3.f0) ((rd_T36 x0 x4).f3.f1)).bind fun t346 => (if x3.toList = ([] : List UInt8) then (if x3.size + t346.size ≤ 9223372036854775807 then (spillwayref7_PrintTokens.l0 k x0 (x3 ++ t346) (wrap64 (x4 + 1))) else (none)) else (if t346.toList = ([] : List UInt8) then (if x3.size + t346.size ≤ 9223372036854775807 then (spillwayref7_PrintTokens.l0 k x0 (x3 ++ t346) (wrap64 (x4 + 1))) else (none)) else (if x3.size + 1 ≤ 9223372036854775807 then (if (x3 ++ (⟨#[32]⟩ : ByteArray)).size + t346.size ≤ 9223372036854775807 then (spillwayref7_PrintTokens.l0 k x0 ((x3 ++ (⟨#[32]⟩ : ByteArray)) ++ t346) (wrap64 (x4 + 1))) else (none)) else (none))))) else (none)) else (none)) else (if x16 = 3 then (if 0 ≤ x4 then (if x4 < (x0.length : Int) then ((spillwayref2_Digits.f k (IntKind.u64.wrap (mx 0 ((rd_T36 x0 x4).f4)))).bind fun t348 => (if t348.size + 1 ≤ 9223372036854775807 then (if x3.toList = ([] : List UInt8) then (if x3.size + (t348 ++ (⟨#[116]⟩ : ByteArray)).size ≤ 9223372036854775807 then (spillwayref7_PrintTokens.l0 k x0 (x3 ++ (t348 ++ (⟨#[116]⟩ : ByteArray))) (wrap64 (x4 + 1))) else (none)) else (if (t348 ++ (⟨#[116]⟩ : ByteArray)).toList = ([] : List UInt8) then (if x3.size + (t348 ++ (⟨#[116]⟩ : ByteArray)).size ≤ 9223372036854775807 then (spillwayref7_PrintTokens.l0 k x0 (x3 ++ (t348 ++ (⟨#[116]⟩ : ByteArray))) (wrap64 (x4 + 1))) else (none)) else (if x3.size + 1 ≤ 9223372036854775807 then (if (x3 ++ (⟨#[32]⟩ : ByteArray)).size + (t348 ++ (⟨#[116]⟩ : ByteArray)).size ≤ 9223372036854775807 then (spillwayref7_PrintTokens.l0 k x0 ((x3 ++ (⟨#[32]⟩ : ByteArray)) ++ (t348 ++ (⟨#[116]⟩ : ByteArray))) (wrap64 (x4 + 1))) else (none)) else (none)))) else (none))) else (none)) else (none)) else (if x16 = 4 then (if 0 ≤ x4 then (if x4 < (x0.length : Int) then ((spillwayref3_Quote.f k ((rd_T36 x0 x4).f2)).bind fun t350 => (if x3.toList = ([] : List UInt8) then (if x3.size + t350.size ≤ 9223372036854775807 then (spillwayref7_PrintTokens.l0 k x0 (x3 ++ t350) (wrap64 (x4 + 1))) else (none)) else (if t350.toList = ([] : List UInt8) then (if x3.size + t350.size ≤ 9223372036854775807 then (spillwayref7_PrintTokens.l0 k x0 (x3 ++ t350) (wrap64 (x4 + 1))) else (none)) else (if x3.size + 1 ≤ 9223372036854775807 then (if (x3 ++ (⟨#[32]⟩ : ByteArray)).size + t350.size ≤ 9223372036854775807 then (spillwayref7_PrintTokens.l0 k x0 ((x3 ++ (⟨#[32]⟩ : ByteArray)) ++ t350) (wrap64 (x4 + 1))) else (none)) else (none))))) else (none)) else (none)) else (if x3.toList = ([] : List UInt8) then (if x3.size + x5.size ≤ 9223372036854775807 then (spillwayref7_PrintTokens.l0 k x0 (x3 ++ x5) (wrap64 (x4 + 1))) else (none)) else (if x5.toList = ([] : List UInt8) then (if x3.size + x5.size ≤ 9223372036854775807 then (spillwayref7_PrintTokens.l0 k x0 (x3 ++ x5) (wrap64 (x4 + 1))) else (none)) else (if x3.size + 1 ≤ 9223372036854775807 then (if (x3 ++ (⟨#[32]⟩ : ByteArray)).size + x5.size ≤ 9223372036854775807 then (spillwayref7_PrintTokens.l0 k x0 ((x3 ++ (⟨#[32]⟩ : ByteArray)) ++ x5) (wrap64 (x4 + 1))) else (none)) else (none)))))))
end
def spillwayref7_PrintTokens.f (k : Nat) (l0 : List (S36)) : Option (ByteArray) := spillwayref7_PrintTokens.l0 k l0 (⟨#[]⟩ : ByteArray) 0
theorem spillwayref7_PrintTokens.mono_l : ∀ k, (∀ y0 y1 y2, LeO (spillwayref7_PrintTokens.l0 k y0 y1 y2) (spillwayref7_PrintTokens.l0 (k + 1) y0 y1 y2)) ∧ (∀ y0 y1 y2 y3 y4 y5, LeO (spillwayref7_PrintTokens.j1 k y0 y1 y2 y3 y4 y5) (spillwayref7_PrintTokens.j1 (k + 1) y0 y1 y2 y3 y4 y5))
 | 0 => ⟨fun _ _ _ r h => by simp [spillwayref7_PrintTokens.l0] at h, fun _ _ _ _ _ _ r h => by simp [spillwayref7_PrintTokens.j1] at h⟩
 | k + 1 => by
  obtain ⟨ih0, ih1⟩ := spillwayref7_PrintTokens.mono_l k
  refine ⟨?_, ?_⟩
  ·intro y0 y1 y2
   unfold spillwayref7_PrintTokens.l0
   repeat' first
   | (with_reducible exact ih0 _ _ _)
   | (with_reducible exact ih1 _ _ _ _ _ _)
   | (with_reducible exact spillwayref2_Digits.mono _ _)
   | (with_reducible exact spillwayref2_Print.mono _ _ _)
   | (with_reducible exact spillwayref3_Quote.mono _ _)
   | (with_reducible exact LeO.refl _)
   | (with_reducible exact LeO.none _)
   | (with_reducible refine LeO.ite ?_ ?_)
   | (with_reducible refine LeO.bind ?_ (fun _ => ?_))
   | exact ih0 _ _ _
   | exact ih1 _ _ _ _ _ _
   | exact spillwayref2_Digits.mono _ _
   | exact spillwayref2_Print.mono _ _ _
   | exact spillwayref3_Quote.mono _ _
   | exact LeO.none _
   | refine LeO.ite ?_ ?_
   | refine LeO.bind ?_ (fun _ => ?_)
  ·intro y0 y1 y2 y3 y4 y5
   unfold spillwayref7_PrintTokens.j1
   repeat' first
   | (with_reducible exact ih0 _ _ _)
   | (with_reducible exact ih1 _ _ _ _ _ _)
   | (with_reducible exact spillwayref2_Digits.mono _ _)
   | (with_reducible exact spillwayref2_Print.mono _ _ _)
   | (with_reducible exact spillwayref3_Quote.mono _ _)
   | (with_reducible exact LeO.refl _)
   | (with_reducible exact LeO.none _)
   | (with_reducible refine LeO.ite ?_ ?_)
   | (with_reducible refine LeO.bind ?_ (fun _ => ?_))
   | exact ih0 _ _ _
   | exact ih1 _ _ _ _ _ _
   | exact spillwayref2_Digits.mono _ _
   | exact spillwayref2_Print.mono _ _ _
   | exact spillwayref3_Quote.mono _ _
   | exact LeO.none _
   | refine LeO.ite ?_ ?_
   | refine LeO.bind ?_ (fun _ => ?_)
theorem spillwayref7_PrintTokens.mono : ∀ a0 k, LeO (spillwayref7_PrintTokens.f k a0) (spillwayref7_PrintTokens.f (k + 1) a0) := by
 intro a0 k
 obtain ⟨ih0, ih1⟩ := spillwayref7_PrintTokens.mono_l k
 unfold spillwayref7_PrintTokens.f
 repeat' first
   | (with_reducible exact ih0 _ _ _)
   | (with_reducible exact ih1 _ _ _ _ _ _)
   | (with_reducible exact spillwayref2_Digits.mono _ _)
   | (with_reducible exact spillwayref2_Print.mono _ _ _)
   | (with_reducible exact spillwayref3_Quote.mono _ _)
   | (with_reducible exact LeO.refl _)
   | (with_reducible exact LeO.none _)
   | (with_reducible refine LeO.ite ?_ ?_)
   | (with_reducible refine LeO.bind ?_ (fun _ => ?_))
   | exact ih0 _ _ _
   | exact ih1 _ _ _ _ _ _
   | exact spillwayref2_Digits.mono _ _
   | exact spillwayref2_Print.mono _ _ _
   | exact spillwayref3_Quote.mono _ _
   | exact LeO.none _
   | refine LeO.ite ?_ ?_
   | refine LeO.bind ?_ (fun _ => ?_)
set_option maxHeartbeats 8000000 in
set_option maxRecDepth 100000 in
theorem spillwayref7_PrintTokens.calls (k : Nat) (A0 : Option Addr) (c0 : Nat) (l0 : List (S36)) (r : ByteArray) (w : World) (hr0 : Kd.C k36 w A0 l0.length l0) (hc0 : l0.length ≤ c0) (h : spillwayref7_PrintTokens.f k l0 = some r) :
  Calls Tryz.prog 13 #[.slice A0 l0.length c0] w fun e w' => e = .returned (.string r) ∧ Below w.heap.size w w' := by
 have hu34 := Tryz.underlying34
 have HR0 := Aside0.mk hr0
 have HC0 := Aside0.mk hc0
 clear hr0 hc0
 have HB := Aside0.mk (Below.refl w.heap.size w)
 have H : (spillwayref7_PrintTokens.l0 k l0 (⟨#[]⟩ : ByteArray) 0) = some r := h
 clear h
 have H' := Aside0.mk H
 clear H
 go_enter Tryz.func13, Tryz.ntmps13
 go_wp2
 go_loopg [3, 4] k (fun kq v3 v4 w' => ∃ (x3_1 : ByteArray) (x4_1 : Int), v3 = .string x3_1 ∧ v4 = .int .i64 x4_1 ∧ Aside0 (spillwayref7_PrintTokens.l0 kq l0 x3_1 x4_1 = some r) ∧ Aside0 (kq ≤ k) ∧ Aside0 (Below w.heap.size w w'))
 case atStart => exact ⟨((⟨#[]⟩ : ByteArray)), (0), (by first | rfl | (simp; done) | (simp [*]; done)), (by first | rfl | (simp; done) | (simp [*]; done)), H', ⟨Nat.le_refl _⟩, ⟨by repeat (first | (with_reducible first | exact HB.out | apply below_alloc | apply pw_below_drewN | apply below_drew1) | exact HB.out)⟩⟩
 case round =>
  clear H'
  try clear c1
  obtain ⟨x3_1, x4_1, rfl, rfl, HA, HK1, HB⟩ := hrel
  cases gk with
  | zero => exact absurd HA.out (by simp [spillwayref7_PrintTokens.l0])
  | succ k1 =>
   have H := HA.out
   clear HA
   simp only [spillwayref7_PrintTokens.l0] at H
   by_cases c2 : x4_1 < (l0.length : Int)
   ·rw [if_pos c2] at H
    have c2b0 : decide (x4_1 < (l0.length : Int)) = true := decide_eq_true c2
    clear c2
    by_cases c3 : 0 ≤ x4_1
    ·rw [if_pos c3] at H
     have c3b0 : decide (0 ≤ x4_1) = true := decide_eq_true c3
     clear c3
     have HC4 := Aside0.mk H
     clear H
     have p343 : 0 ≤ (x4_1 : Int) := of_decide_eq_true (by first | (with_reducible assumption) | assumption)
     have q343 : x4_1 < (l0.length : Int) := of_decide_eq_true (by first | (with_reducible assumption) | assumption)
     obtain ⟨ad343, e343, hx343_0, hx343_1, hx343_2, hx343_3, hx343_4, hx343_5⟩ := at_T36 HR0.out x4_1 p343 q343
     cases e343
     replace hx343_0 := (HB.out.cell (World.block_lt_of_cell? w _ hx343_0)).trans hx343_0
     replace hx343_1 := (HB.out.cell (World.block_lt_of_cell? w _ hx343_1)).trans hx343_1
     replace hx343_2 := (HB.out.cell (World.block_lt_of_cell? w _ hx343_2)).trans hx343_2
     replace hx343_3 := (HB.out.cell (World.block_lt_of_cell? w _ hx343_3)).trans hx343_3
     replace hx343_4 := (HB.out.cell (World.block_lt_of_cell? w _ hx343_4)).trans hx343_4
     replace hx343_5 := (HB.out.cell (World.block_lt_of_cell? w _ hx343_5)).trans hx343_5
     replace p343 := eq_true p343
     replace q343 := eq_true q343
     go_upto_if 17 with (fail)
     go_cut [17] (fun v17 wc => ∃ (kq : Nat) (x17_3 : Bool), v17 = .bool x17_3 ∧ Aside0 (spillwayref7_PrintTokens.j1 kq l0 x3_1 x4_1 (⟨#[]⟩ : ByteArray) ((rd_T36 l0 x4_1).f0) x17_3 = some r) ∧ Aside0 (kq ≤ k1) ∧ Aside0 (Below w.heap.size w wc))
     case first =>
      have H := HC4.out
      clear HC4
      by_cases c5 : ((rd_T36 l0 x4_1).f0) = 1
      ·rw [if_pos c5] at H
       have c5b0 : (((rd_T36 l0 x4_1).f0) == 1) = true := beq_iff_eq.mpr c5
       have c5b1 : (((rd_T36 l0 x4_1).f0) != 1) = false := bne_eq_false_iff_eq.mpr c5
       clear c5
       (first | rw [c5b0] | (simp only [i64_w, i32_w]; rw [c5b0]) | skip)
       have H' := Aside0.mk H
       clear H
       go_wp2
       go_meet
       case rel => exact ⟨_, ((((rd_T36 l0 x4_1).f0) == 1)), (by first | rfl | (simp; done) | (simp [*]; done)), H', ⟨by have := HK1.out; first | omega | exact Nat.le_refl _⟩, ⟨by repeat (first | (with_reducible first | exact HB.out | apply below_alloc | apply pw_below_drewN | apply below_drew1) | exact HB.out)⟩⟩
      ·rw [if_neg c5] at H
       have c5b0 : (((rd_T36 l0 x4_1).f0) == 1) = false := beq_eq_false_iff_ne.mpr c5
       have c5b1 : (((rd_T36 l0 x4_1).f0) != 1) = true := bne_iff_ne.mpr c5
       (first | rw [c5b0] | (simp only [i64_w, i32_w]; rw [c5b0]) | skip)
       have H' := Aside0.mk H
       clear H
       go_wp2
       go_meet
       case rel => exact ⟨_, ((((rd_T36 l0 x4_1).f0) == 5)), (by first | rfl | (simp; done) | (simp [*]; done)), H', ⟨by have := HK1.out; first | omega | exact Nat.le_refl _⟩, ⟨by repeat (first | (with_reducible first | exact HB.out | apply below_alloc | apply pw_below_drewN | apply below_drew1) | exact HB.out)⟩⟩
     case rest =>
      clear HC4
      try clear c1
      try clear c2
      try clear c2b0
      try clear p2
      try clear c3
      try clear c3b0
      try clear p3
      try clear q3
      try clear hx3
      try clear c5
      try clear c5b0
      try clear c5b1
      try clear hx343_0
      try clear hx343_1
      try clear hx343_2
      try clear hx343_3
      try clear hx343_4
      try clear hx343_5
      try clear p343
      try clear q343
      obtain ⟨kq, x17_3, rfl, HA, HJ3, HB⟩ := hcut
      cases kq with
      | zero => exact absurd HA.out (by simp [spillwayref7_PrintTokens.j1])
      | succ kj3 =>
       have H := HA.out
       clear HA
       simp only [spillwayref7_PrintTokens.j1] at H
       by_cases c6 : x17_3 = true
       ·subst c6
        have H1 : (if 0 ≤ x4_1 then (if x4_1 < (l0.length : Int) then (if x3_1.toList = ([] : List UInt8) then (if x3_1.size + ((rd_T36 l0 x4_1).f2).size ≤ 9223372036854775807 then (spillwayref7_PrintTokens.l0 kj3 l0 (x3_1 ++ ((rd_T36 l0 x4_1).f2)) (wrap64 (x4_1 + 1))) else (none)) else (if ((rd_T36 l0 x4_1).f2).toList = ([] : List UInt8) then (if x3_1.size + ((rd_T36 l0 x4_1).f2).size ≤ 9223372036854775807 then (spillwayref7_PrintTokens.l0 kj3 l0 (x3_1 ++ ((rd_T36 l0 x4_1).f2)) (wrap64 (x4_1 + 1))) else (none)) else (if x3_1.size + 1 ≤ 9223372036854775807 then (if (x3_1 ++ (⟨#[32]⟩ : ByteArray)).size + ((rd_T36 l0 x4_1).f2).size ≤ 9223372036854775807 then (spillwayref7_PrintTokens.l0 kj3 l0 ((x3_1 ++ (⟨#[32]⟩ : ByteArray)) ++ ((rd_T36 l0 x4_1).f2)) (wrap64 (x4_1 + 1))) else (none)) else (none)))) else (none)) else (none)) = some r := by rw [if_pos rfl] at H; exact H
        clear H
        have H := H1
        clear H1
        by_cases c7 : 0 ≤ x4_1
        ·rw [if_pos c7] at H
         have c7b0 : decide (0 ≤ x4_1) = true := decide_eq_true c7
         clear c7
         by_cases c8 : x4_1 < (l0.length : Int)
         ·rw [if_pos c8] at H
          have c8b0 : decide (x4_1 < (l0.length : Int)) = true := decide_eq_true c8
          clear c8
          by_cases c9 : x3_1.toList = ([] : List UInt8)
          ·rw [if_pos c9] at H
           have c9b0 : (x3_1.toList == ([] : List UInt8)) = true := beq_iff_eq.mpr c9
           have c9b1 : (x3_1.toList != ([] : List UInt8)) = false := bne_eq_false_iff_eq.mpr c9
           clear c9
           by_cases c10 : x3_1.size + ((rd_T36 l0 x4_1).f2).size ≤ 9223372036854775807
           ·rw [if_pos c10] at H
            have c10b0 := eq_true c10
            have c10b1 : decide (x3_1.size + ((rd_T36 l0 x4_1).f2).size ≤ 9223372036854775807) = true := decide_eq_true c10
            try have c10b2 : (9223372036854775807 < x3_1.size + ((rd_T36 l0 x4_1).f2).size) = False := eq_false (Nat.not_lt.2 c10)
            have H' := Aside0.mk H
            clear H
            have p344 : 0 ≤ (x4_1 : Int) := of_decide_eq_true (by first | (with_reducible assumption) | assumption)
            have q344 : x4_1 < (l0.length : Int) := of_decide_eq_true (by first | (with_reducible assumption) | assumption)
            obtain ⟨ad344, e344, hx344_0, hx344_1, hx344_2, hx344_3, hx344_4, hx344_5⟩ := at_T36 HR0.out x4_1 p344 q344
            obtain rfl : ad343 = ad344 := (by injection e344)
            replace hx344_0 := (HB.out.cell (World.block_lt_of_cell? w _ hx344_0)).trans hx344_0
            replace hx344_1 := (HB.out.cell (World.block_lt_of_cell? w _ hx344_1)).trans hx344_1
            replace hx344_2 := (HB.out.cell (World.block_lt_of_cell? w _ hx344_2)).trans hx344_2
            replace hx344_3 := (HB.out.cell (World.block_lt_of_cell? w _ hx344_3)).trans hx344_3
            replace hx344_4 := (HB.out.cell (World.block_lt_of_cell? w _ hx344_4)).trans hx344_4
            replace hx344_5 := (HB.out.cell (World.block_lt_of_cell? w _ hx344_5)).trans hx344_5
            replace p344 := eq_true p344
            replace q344 := eq_true q344
            go_wp2
            go_roundg kj3
            case measure => have := HK1.out; have := HJ3.out; omega
            case rel => exact ⟨(x3_1 ++ ((rd_T36 l0 x4_1).f2)), (wrap64 (x4_1 + 1)), (by first | rfl | (simp; done) | (simp [*]; done)), (by first | rfl | (simp; done) | (simp [*]; done)), H', ⟨by have := HK1.out; have := HJ3.out; omega⟩, ⟨by repeat (first | (with_reducible first | exact HB.out | apply below_alloc | apply pw_below_drewN | apply below_drew1) | exact HB.out)⟩⟩
           ·rw [if_neg c10] at H
            exact absurd H (by simp)
          ·rw [if_neg c9] at H
           have c9b0 : (x3_1.toList == ([] : List UInt8)) = false := beq_eq_false_iff_ne.mpr c9
           have c9b1 : (x3_1.toList != ([] : List UInt8)) = true := bne_iff_ne.mpr c9
           by_cases c11 : ((rd_T36 l0 x4_1).f2).toList = ([] : List UInt8)
           ·rw [if_pos c11] at H
            have c11b0 : (((rd_T36 l0 x4_1).f2).toList == ([] : List UInt8)) = true := beq_iff_eq.mpr c11
            have c11b1 : (((rd_T36 l0 x4_1).f2).toList != ([] : List UInt8)) = false := bne_eq_false_iff_eq.mpr c11
            clear c11
            by_cases c12 : x3_1.size + ((rd_T36 l0 x4_1).f2).size ≤ 9223372036854775807
            ·rw [if_pos c12] at H
             have c12b0 := eq_true c12
             have c12b1 : decide (x3_1.size + ((rd_T36 l0 x4_1).f2).size ≤ 9223372036854775807) = true := decide_eq_true c12
             try have c12b2 : (9223372036854775807 < x3_1.size + ((rd_T36 l0 x4_1).f2).size) = False := eq_false (Nat.not_lt.2 c12)
             have H' := Aside0.mk H
             clear H
             have p344 : 0 ≤ (x4_1 : Int) := of_decide_eq_true (by first | (with_reducible assumption) | assumption)
             have q344 : x4_1 < (l0.length : Int) := of_decide_eq_true (by first | (with_reducible assumption) | assumption)
             obtain ⟨ad344, e344, hx344_0, hx344_1, hx344_2, hx344_3, hx344_4, hx344_5⟩ := at_T36 HR0.out x4_1 p344 q344
             obtain rfl : ad343 = ad344 := (by injection e344)
             replace hx344_0 := (HB.out.cell (World.block_lt_of_cell? w _ hx344_0)).trans hx344_0
             replace hx344_1 := (HB.out.cell (World.block_lt_of_cell? w _ hx344_1)).trans hx344_1
             replace hx344_2 := (HB.out.cell (World.block_lt_of_cell? w _ hx344_2)).trans hx344_2
             replace hx344_3 := (HB.out.cell (World.block_lt_of_cell? w _ hx344_3)).trans hx344_3
             replace hx344_4 := (HB.out.cell (World.block_lt_of_cell? w _ hx344_4)).trans hx344_4
             replace hx344_5 := (HB.out.cell (World.block_lt_of_cell? w _ hx344_5)).trans hx344_5
             replace p344 := eq_true p344
             replace q344 := eq_true q344
             go_wp2
             go_roundg kj3
             case measure => have := HK1.out; have := HJ3.out; omega
             case rel => exact ⟨(x3_1 ++ ((rd_T36 l0 x4_1).f2)), (wrap64 (x4_1 + 1)), (by first | rfl | (simp; done) | (simp [*]; done)), (by first | rfl | (simp; done) | (simp [*]; done)), H', ⟨by have := HK1.out; have := HJ3.out; omega⟩, ⟨by repeat (first | (with_reducible first | exact HB.out | apply below_alloc | apply pw_below_drewN | apply below_drew1) | exact HB.out)⟩⟩
            ·rw [if_neg c12] at H
             exact absurd H (by simp)
           ·rw [if_neg c11] at H
            have c11b0 : (((rd_T36 l0 x4_1).f2).toList == ([] : List UInt8)) = false := beq_eq_false_iff_ne.mpr c11
            have c11b1 : (((rd_T36 l0 x4_1).f2).toList != ([] : List UInt8)) = true := bne_iff_ne.mpr c11
            by_cases c13 : x3_1.size + 1 ≤ 9223372036854775807
            ·rw [if_pos c13] at H
             have c13b0 := eq_true c13
             have c13b1 : decide (x3_1.size + 1 ≤ 9223372036854775807) = true := decide_eq_true c13
             try have c13b2 : (9223372036854775807 < x3_1.size + 1) = False := eq_false (Nat.not_lt.2 c13)
             by_cases c14 : (x3_1 ++ (⟨#[32]⟩ : ByteArray)).size + ((rd_T36 l0 x4_1).f2).size ≤ 9223372036854775807
             ·rw [if_pos c14] at H
              have c14b0 := eq_true c14
              have c14b1 : decide ((x3_1 ++ (⟨#[32]⟩ : ByteArray)).size + ((rd_T36 l0 x4_1).f2).size ≤ 9223372036854775807) = true := decide_eq_true c14
              try have c14b2 : (9223372036854775807 < (x3_1 ++ (⟨#[32]⟩ : ByteArray)).size + ((rd_T36 l0 x4_1).f2).size) = False := eq_false (Nat.not_lt.2 c14)
              try (have c14b3 := c14; simp only [ByteArray.size_append, sz_one] at c14b3; have c14b4 := eq_false (Nat.not_lt.2 c14b3); clear c14b3)
              have H' := Aside0.mk H
              clear H
              have p344 : 0 ≤ (x4_1 : Int) := of_decide_eq_true (by first | (with_reducible assumption) | assumption)
              have q344 : x4_1 < (l0.length : Int) := of_decide_eq_true (by first | (with_reducible assumption) | assumption)
              obtain ⟨ad344, e344, hx344_0, hx344_1, hx344_2, hx344_3, hx344_4, hx344_5⟩ := at_T36 HR0.out x4_1 p344 q344
              obtain rfl : ad343 = ad344 := (by injection e344)
              replace hx344_0 := (HB.out.cell (World.block_lt_of_cell? w _ hx344_0)).trans hx344_0
              replace hx344_1 := (HB.out.cell (World.block_lt_of_cell? w _ hx344_1)).trans hx344_1
              replace hx344_2 := (HB.out.cell (World.block_lt_of_cell? w _ hx344_2)).trans hx344_2
              replace hx344_3 := (HB.out.cell (World.block_lt_of_cell? w _ hx344_3)).trans hx344_3
              replace hx344_4 := (HB.out.cell (World.block_lt_of_cell? w _ hx344_4)).trans hx344_4
              replace hx344_5 := (HB.out.cell (World.block_lt_of_cell? w _ hx344_5)).trans hx344_5
              replace p344 := eq_true p344
              replace q344 := eq_true q344
              go_wp2
              go_roundg kj3
              case measure => have := HK1.out; have := HJ3.out; omega
              case rel => exact ⟨((x3_1 ++ (⟨#[32]⟩ : ByteArray)) ++ ((rd_T36 l0 x4_1).f2)), (wrap64 (x4_1 + 1)), (by first | rfl | (simp; done) | (simp [*]; done)), (by first | rfl | (simp; done) | (simp [*]; done)), H', ⟨by have := HK1.out; have := HJ3.out; omega⟩, ⟨by repeat (first | (with_reducible first | exact HB.out | apply below_alloc | apply pw_below_drewN | apply below_drew1) | exact HB.out)⟩⟩
             ·rw [if_neg c14] at H
              exact absurd H (by simp)
            ·rw [if_neg c13] at H
             exact absurd H (by simp)
         ·rw [if_neg c8] at H
          exact absurd H (by simp)
        ·rw [if_neg c7] at H
         exact absurd H (by simp)
       ·replace c6 := Bool.eq_false_iff.mpr c6
        subst c6
        have H1 : (if ((rd_T36 l0 x4_1).f0) = 2 then (if 0 ≤ x4_1 then (if x4_1 < (l0.length : Int) then ((spillwayref2_Print.f kj3 ((rd_T36 l0 x4_1).f3.f0) ((rd_T36 l0 x4_1).f3.f1)).bind fun t346 => (if x3_1.toList = ([] : List UInt8) then (if x3_1.size + t346.size ≤ 9223372036854775807 then (spillwayref7_PrintTokens.l0 kj3 l0 (x3_1 ++ t346) (wrap64 (x4_1 + 1))) else (none)) else (if t346.toList = ([] : List UInt8) then (if x3_1.size + t346.size ≤ 9223372036854775807 then (spillwayref7_PrintTokens.l0 kj3 l0 (x3_1 ++ t346) (wrap64 (x4_1 + 1))) else (none)) else (if x3_1.size + 1 ≤ 9223372036854775807 then (if (x3_1 ++ (⟨#[32]⟩ : ByteArray)).size + t346.size ≤ 9223372036854775807 then (spillwayref7_PrintTokens.l0 kj3 l0 ((x3_1 ++ (⟨#[32]⟩ : ByteArray)) ++ t346) (wrap64 (x4_1 + 1))) else (none)) else (none))))) else (none)) else (none)) else (if ((rd_T36 l0 x4_1).f0) = 3 then (if 0 ≤ x4_1 then (if x4_1 < (l0.length : Int) then ((spillwayref2_Digits.f kj3 (IntKind.u64.wrap (mx 0 ((rd_T36 l0 x4_1).f4)))).bind fun t348 => (if t348.size + 1 ≤ 9223372036854775807 then (if x3_1.toList = ([] : List UInt8) then (if x3_1.size + (t348 ++ (⟨#[116]⟩ : ByteArray)).size ≤ 9223372036854775807 then (spillwayref7_PrintTokens.l0 kj3 l0 (x3_1 ++ (t348 ++ (⟨#[116]⟩ : ByteArray))) (wrap64 (x4_1 + 1))) else (none)) else (if (t348 ++ (⟨#[116]⟩ : ByteArray)).toList = ([] : List UInt8) then (if x3_1.size + (t348 ++ (⟨#[116]⟩ : ByteArray)).size ≤ 9223372036854775807 then (spillwayref7_PrintTokens.l0 kj3 l0 (x3_1 ++ (t348 ++ (⟨#[116]⟩ : ByteArray))) (wrap64 (x4_1 + 1))) else (none)) else (if x3_1.size + 1 ≤ 9223372036854775807 then (if (x3_1 ++ (⟨#[32]⟩ : ByteArray)).size + (t348 ++ (⟨#[116]⟩ : ByteArray)).size ≤ 9223372036854775807 then (spillwayref7_PrintTokens.l0 kj3 l0 ((x3_1 ++ (⟨#[32]⟩ : ByteArray)) ++ (t348 ++ (⟨#[116]⟩ : ByteArray))) (wrap64 (x4_1 + 1))) else (none)) else (none)))) else (none))) else (none)) else (none)) else (if ((rd_T36 l0 x4_1).f0) = 4 then (if 0 ≤ x4_1 then (if x4_1 < (l0.length : Int) then ((spillwayref3_Quote.f kj3 ((rd_T36 l0 x4_1).f2)).bind fun t350 => (if x3_1.toList = ([] : List UInt8) then (if x3_1.size + t350.size ≤ 9223372036854775807 then (spillwayref7_PrintTokens.l0 kj3 l0 (x3_1 ++ t350) (wrap64 (x4_1 + 1))) else (none)) else (if t350.toList = ([] : List UInt8) then (if x3_1.size + t350.size ≤ 9223372036854775807 then (spillwayref7_PrintTokens.l0 kj3 l0 (x3_1 ++ t350) (wrap64 (x4_1 + 1))) else (none)) else (if x3_1.size + 1 ≤ 9223372036854775807 then (if (x3_1 ++ (⟨#[32]⟩ : ByteArray)).size + t350.size ≤ 9223372036854775807 then (spillwayref7_PrintTokens.l0 kj3 l0 ((x3_1 ++ (⟨#[32]⟩ : ByteArray)) ++ t350) (wrap64 (x4_1 + 1))) else (none)) else (none))))) else (none)) else (none)) else (if x3_1.toList = ([] : List UInt8) then (if x3_1.size + (⟨#[]⟩ : ByteArray).size ≤ 9223372036854775807 then (spillwayref7_PrintTokens.l0 kj3 l0 (x3_1 ++ (⟨#[]⟩ : ByteArray)) (wrap64 (x4_1 + 1))) else (none)) else (if (⟨#[]⟩ : ByteArray).toList = ([] : List UInt8) then (if x3_1.size + (⟨#[]⟩ : ByteArray).size ≤ 9223372036854775807 then (spillwayref7_PrintTokens.l0 kj3 l0 (x3_1 ++ (⟨#[]⟩ : ByteArray)) (wrap64 (x4_1 + 1))) else (none)) else (if x3_1.size + 1 ≤ 9223372036854775807 then (if (x3_1 ++ (⟨#[32]⟩ : ByteArray)).size + (⟨#[]⟩ : ByteArray).size ≤ 9223372036854775807 then (spillwayref7_PrintTokens.l0 kj3 l0 ((x3_1 ++ (⟨#[32]⟩ : ByteArray)) ++ (⟨#[]⟩ : ByteArray)) (wrap64 (x4_1 + 1))) else (none)) else (none))))))) = some r := by rw [if_neg (show ¬ (false = true) by decide)] at H; exact H
        clear H
        have H := H1
        clear H1
        by_cases c15 : ((rd_T36 l0 x4_1).f0) = 2
        ·rw [if_pos c15] at H
         have c15b0 : (((rd_T36 l0 x4_1).f0) == 2) = true := beq_iff_eq.mpr c15
         have c15b1 : (((rd_T36 l0 x4_1).f0) != 2) = false := bne_eq_false_iff_eq.mpr c15
         clear c15
         by_cases c16 : 0 ≤ x4_1
         ·rw [if_pos c16] at H
          have c16b0 : decide (0 ≤ x4_1) = true := decide_eq_true c16
          clear c16
          by_cases c17 : x4_1 < (l0.length : Int)
          ·rw [if_pos c17] at H
           have c17b0 : decide (x4_1 < (l0.length : Int)) = true := decide_eq_true c17
           clear c17
           replace H := Option.bind_eq_some_iff.mp H
           obtain ⟨t346, A180, H⟩ := H
           replace H : (if x3_1.toList = ([] : List UInt8) then (if x3_1.size + t346.size ≤ 9223372036854775807 then (spillwayref7_PrintTokens.l0 kj3 l0 (x3_1 ++ t346) (wrap64 (x4_1 + 1))) else (none)) else (if t346.toList = ([] : List UInt8) then (if x3_1.size + t346.size ≤ 9223372036854775807 then (spillwayref7_PrintTokens.l0 kj3 l0 (x3_1 ++ t346) (wrap64 (x4_1 + 1))) else (none)) else (if x3_1.size + 1 ≤ 9223372036854775807 then (if (x3_1 ++ (⟨#[32]⟩ : ByteArray)).size + t346.size ≤ 9223372036854775807 then (spillwayref7_PrintTokens.l0 kj3 l0 ((x3_1 ++ (⟨#[32]⟩ : ByteArray)) ++ t346) (wrap64 (x4_1 + 1))) else (none)) else (none)))) = some r := H
           have A18 := Aside0.mk A180
           clear A180
           by_cases c19 : x3_1.toList = ([] : List UInt8)
           ·rw [if_pos c19] at H
            have c19b0 : (x3_1.toList == ([] : List UInt8)) = true := beq_iff_eq.mpr c19
            have c19b1 : (x3_1.toList != ([] : List UInt8)) = false := bne_eq_false_iff_eq.mpr c19
            clear c19
            by_cases c20 : x3_1.size + t346.size ≤ 9223372036854775807
            ·rw [if_pos c20] at H
             have c20b0 := eq_true c20
             have c20b1 : decide (x3_1.size + t346.size ≤ 9223372036854775807) = true := decide_eq_true c20
             try have c20b2 : (9223372036854775807 < x3_1.size + t346.size) = False := eq_false (Nat.not_lt.2 c20)
             have H' := Aside0.mk H
             clear H
             have p345 : 0 ≤ (x4_1 : Int) := of_decide_eq_true (by first | (with_reducible assumption) | assumption)
             have q345 : x4_1 < (l0.length : Int) := of_decide_eq_true (by first | (with_reducible assumption) | assumption)
             obtain ⟨ad345, e345, hx345_0, hx345_1, hx345_2, hx345_3, hx345_4, hx345_5⟩ := at_T36 HR0.out x4_1 p345 q345
             obtain rfl : ad343 = ad345 := (by injection e345)
             replace hx345_0 := (HB.out.cell (World.block_lt_of_cell? w _ hx345_0)).trans hx345_0
             replace hx345_1 := (HB.out.cell (World.block_lt_of_cell? w _ hx345_1)).trans hx345_1
             replace hx345_2 := (HB.out.cell (World.block_lt_of_cell? w _ hx345_2)).trans hx345_2
             replace hx345_3 := (HB.out.cell (World.block_lt_of_cell? w _ hx345_3)).trans hx345_3
             replace hx345_4 := (HB.out.cell (World.block_lt_of_cell? w _ hx345_4)).trans hx345_4
             replace hx345_5 := (HB.out.cell (World.block_lt_of_cell? w _ hx345_5)).trans hx345_5
             replace p345 := eq_true p345
             replace q345 := eq_true q345
             go_wp2_with (first | ((with_reducible refine gate_callee (f := 22) rfl ?_); refine goesL_ (some 32) rfl rfl Tryz.func22 (by kernel_rfl) rfl #[.agg #[.bool ((rd_T36 l0 x4_1).f3.f0), .int .i64 ((rd_T36 l0 x4_1).f3.f1)]] rfl (by (try simp only [List.map_toArray, List.map_cons, List.map_nil]); first | done | rfl | (simp only [List.length_drop, List.length_take]; rfl)) ?_; (with_reducible refine (spillwayref2_Print.calls kj3 ((rd_T36 l0 x4_1).f3.f0) ((rd_T36 l0 x4_1).f3.f1) t346 _ A18.out).mono ?_); rintro e w21 ⟨rfl, hb⟩; refine ⟨_, rfl, ?_⟩; have n0_ := Aside0.mk (below_step (by repeat (first | (with_reducible first | exact HB.out | apply below_alloc | apply pw_below_drewN | apply below_drew1) | exact HB.out)) hb); clear HB; have HB := n0_; clear n0_; (try clear hb); (try clear hb2); (try clear hk); (try clear hi)))
             go_roundg kj3
             case measure => have := HK1.out; have := HJ3.out; omega
             case rel => exact ⟨(x3_1 ++ t346), (wrap64 (x4_1 + 1)), (by first | rfl | (simp; done) | (simp [*]; done)), (by first | rfl | (simp; done) | (simp [*]; done)), H', ⟨by have := HK1.out; have := HJ3.out; omega⟩, ⟨by repeat (first | (with_reducible first | exact HB.out | apply below_alloc | apply pw_below_drewN | apply below_drew1) | exact HB.out)⟩⟩
            ·rw [if_neg c20] at H
             exact absurd H (by simp)
           ·rw [if_neg c19] at H
            have c19b0 : (x3_1.toList == ([] : List UInt8)) = false := beq_eq_false_iff_ne.mpr c19
            have c19b1 : (x3_1.toList != ([] : List UInt8)) = true := bne_iff_ne.mpr c19
            by_cases c22 : t346.toList = ([] : List UInt8)
            ·rw [if_pos c22] at H
             have c22b0 : (t346.toList == ([] : List UInt8)) = true := beq_iff_eq.mpr c22
             have c22b1 : (t346.toList != ([] : List UInt8)) = false := bne_eq_false_iff_eq.mpr c22
             clear c22
             by_cases c23 : x3_1.size + t346.size ≤ 9223372036854775807
             ·rw [if_pos c23] at H
              have c23b0 := eq_true c23
              have c23b1 : decide (x3_1.size + t346.size ≤ 9223372036854775807) = true := decide_eq_true c23
              try have c23b2 : (9223372036854775807 < x3_1.size + t346.size) = False := eq_false (Nat.not_lt.2 c23)
              have H' := Aside0.mk H
              clear H
              have p345 : 0 ≤ (x4_1 : Int) := of_decide_eq_true (by first | (with_reducible assumption) | assumption)
              have q345 : x4_1 < (l0.length : Int) := of_decide_eq_true (by first | (with_reducible assumption) | assumption)
              obtain ⟨ad345, e345, hx345_0, hx345_1, hx345_2, hx345_3, hx345_4, hx345_5⟩ := at_T36 HR0.out x4_1 p345 q345
              obtain rfl : ad343 = ad345 := (by injection e345)
              replace hx345_0 := (HB.out.cell (World.block_lt_of_cell? w _ hx345_0)).trans hx345_0
              replace hx345_1 := (HB.out.cell (World.block_lt_of_cell? w _ hx345_1)).trans hx345_1
              replace hx345_2 := (HB.out.cell (World.block_lt_of_cell? w _ hx345_2)).trans hx345_2
              replace hx345_3 := (HB.out.cell (World.block_lt_of_cell? w _ hx345_3)).trans hx345_3
              replace hx345_4 := (HB.out.cell (World.block_lt_of_cell? w _ hx345_4)).trans hx345_4
              replace hx345_5 := (HB.out.cell (World.block_lt_of_cell? w _ hx345_5)).trans hx345_5
              replace p345 := eq_true p345
              replace q345 := eq_true q345
              go_wp2_with (first | ((with_reducible refine gate_callee (f := 22) rfl ?_); refine goesL_ (some 32) rfl rfl Tryz.func22 (by kernel_rfl) rfl #[.agg #[.bool ((rd_T36 l0 x4_1).f3.f0), .int .i64 ((rd_T36 l0 x4_1).f3.f1)]] rfl (by (try simp only [List.map_toArray, List.map_cons, List.map_nil]); first | done | rfl | (simp only [List.length_drop, List.length_take]; rfl)) ?_; (with_reducible refine (spillwayref2_Print.calls kj3 ((rd_T36 l0 x4_1).f3.f0) ((rd_T36 l0 x4_1).f3.f1) t346 _ A18.out).mono ?_); rintro e w24 ⟨rfl, hb⟩; refine ⟨_, rfl, ?_⟩; have n0_ := Aside0.mk (below_step (by repeat (first | (with_reducible first | exact HB.out | apply below_alloc | apply pw_below_drewN | apply below_drew1) | exact HB.out)) hb); clear HB; have HB := n0_; clear n0_; (try clear hb); (try clear hb2); (try clear hk); (try clear hi)))
              go_roundg kj3
              case measure => have := HK1.out; have := HJ3.out; omega
              case rel => exact ⟨(x3_1 ++ t346), (wrap64 (x4_1 + 1)), (by first | rfl | (simp; done) | (simp [*]; done)), (by first | rfl | (simp; done) | (simp [*]; done)), H', ⟨by have := HK1.out; have := HJ3.out; omega⟩, ⟨by repeat (first | (with_reducible first | exact HB.out | apply below_alloc | apply pw_below_drewN | apply below_drew1) | exact HB.out)⟩⟩
             ·rw [if_neg c23] at H
              exact absurd H (by simp)
            ·rw [if_neg c22] at H
             have c22b0 : (t346.toList == ([] : List UInt8)) = false := beq_eq_false_iff_ne.mpr c22
             have c22b1 : (t346.toList != ([] : List UInt8)) = true := bne_iff_ne.mpr c22
             by_cases c25 : x3_1.size + 1 ≤ 9223372036854775807
             ·rw [if_pos c25] at H
              have c25b0 := eq_true c25
              have c25b1 : decide (x3_1.size + 1 ≤ 9223372036854775807) = true := decide_eq_true c25
              try have c25b2 : (9223372036854775807 < x3_1.size + 1) = False := eq_false (Nat.not_lt.2 c25)
              by_cases c26 : (x3_1 ++ (⟨#[32]⟩ : ByteArray)).size + t346.size ≤ 9223372036854775807
              ·rw [if_pos c26] at H
               have c26b0 := eq_true c26
               have c26b1 : decide ((x3_1 ++ (⟨#[32]⟩ : ByteArray)).size + t346.size ≤ 9223372036854775807) = true := decide_eq_true c26
               try have c26b2 : (9223372036854775807 < (x3_1 ++ (⟨#[32]⟩ : ByteArray)).size + t346.size) = False := eq_false (Nat.not_lt.2 c26)
               try (have c26b3 := c26; simp only [ByteArray.size_append, sz_one] at c26b3; have c26b4 := eq_false (Nat.not_lt.2 c26b3); clear c26b3)
               have H' := Aside0.mk H
               clear H
               have p345 : 0 ≤ (x4_1 : Int) := of_decide_eq_true (by first | (with_reducible assumption) | assumption)
               have q345 : x4_1 < (l0.length : Int) := of_decide_eq_true (by first | (with_reducible assumption) | assumption)
               obtain ⟨ad345, e345, hx345_0, hx345_1, hx345_2, hx345_3, hx345_4, hx345_5⟩ := at_T36 HR0.out x4_1 p345 q345
               obtain rfl : ad343 = ad345 := (by injection e345)
               replace hx345_0 := (HB.out.cell (World.block_lt_of_cell? w _ hx345_0)).trans hx345_0
               replace hx345_1 := (HB.out.cell (World.block_lt_of_cell? w _ hx345_1)).trans hx345_1
               replace hx345_2 := (HB.out.cell (World.block_lt_of_cell? w _ hx345_2)).trans hx345_2
               replace hx345_3 := (HB.out.cell (World.block_lt_of_cell? w _ hx345_3)).trans hx345_3
               replace hx345_4 := (HB.out.cell (World.block_lt_of_cell? w _ hx345_4)).trans hx345_4
               replace hx345_5 := (HB.out.cell (World.block_lt_of_cell? w _ hx345_5)).trans hx345_5
               replace p345 := eq_true p345
               replace q345 := eq_true q345
               go_wp2_with (first | ((with_reducible refine gate_callee (f := 22) rfl ?_); refine goesL_ (some 32) rfl rfl Tryz.func22 (by kernel_rfl) rfl #[.agg #[.bool ((rd_T36 l0 x4_1).f3.f0), .int .i64 ((rd_T36 l0 x4_1).f3.f1)]] rfl (by (try simp only [List.map_toArray, List.map_cons, List.map_nil]); first | done | rfl | (simp only [List.length_drop, List.length_take]; rfl)) ?_; (with_reducible refine (spillwayref2_Print.calls kj3 ((rd_T36 l0 x4_1).f3.f0) ((rd_T36 l0 x4_1).f3.f1) t346 _ A18.out).mono ?_); rintro e w27 ⟨rfl, hb⟩; refine ⟨_, rfl, ?_⟩; have n0_ := Aside0.mk (below_step (by repeat (first | (with_reducible first | exact HB.out | apply below_alloc | apply pw_below_drewN | apply below_drew1) | exact HB.out)) hb); clear HB; have HB := n0_; clear n0_; (try clear hb); (try clear hb2); (try clear hk); (try clear hi)))
               go_roundg kj3
               case measure => have := HK1.out; have := HJ3.out; omega
               case rel => exact ⟨((x3_1 ++ (⟨#[32]⟩ : ByteArray)) ++ t346), (wrap64 (x4_1 + 1)), (by first | rfl | (simp; done) | (simp [*]; done)), (by first | rfl | (simp; done) | (simp [*]; done)), H', ⟨by have := HK1.out; have := HJ3.out; omega⟩, ⟨by repeat (first | (with_reducible first | exact HB.out | apply below_alloc | apply pw_below_drewN | apply below_drew1) | exact HB.out)⟩⟩
              ·rw [if_neg c26] at H
               exact absurd H (by simp)
             ·rw [if_neg c25] at H
              exact absurd H (by simp)
          ·rw [if_neg c17] at H
           exact absurd H (by simp)
         ·rw [if_neg c16] at H
          exact absurd H (by simp)
        ·rw [if_neg c15] at H
         have c15b0 : (((rd_T36 l0 x4_1).f0) == 2) = false := beq_eq_false_iff_ne.mpr c15
         have c15b1 : (((rd_T36 l0 x4_1).f0) != 2) = true := bne_iff_ne.mpr c15
         by_cases c28 : ((rd_T36 l0 x4_1).f0) = 3
         ·rw [if_pos c28] at H
          have c28b0 : (((rd_T36 l0 x4_1).f0) == 3) = true := beq_iff_eq.mpr c28
          have c28b1 : (((rd_T36 l0 x4_1).f0) != 3) = false := bne_eq_false_iff_eq.mpr c28
          clear c28
          by_cases c29 : 0 ≤ x4_1
          ·rw [if_pos c29] at H
           have c29b0 : decide (0 ≤ x4_1) = true := decide_eq_true c29
           clear c29
           by_cases c30 : x4_1 < (l0.length : Int)
           ·rw [if_pos c30] at H
            have c30b0 : decide (x4_1 < (l0.length : Int)) = true := decide_eq_true c30
            clear c30
            obtain ⟨ji31, hji31⟩ : ∃ j_ : Int, (mx 0 ((rd_T36 l0 x4_1).f4)) = j_ := ⟨_, rfl⟩
            replace H : ((spillwayref2_Digits.f kj3 (IntKind.u64.wrap (ji31))).bind fun t348 => (if t348.size + 1 ≤ 9223372036854775807 then (if x3_1.toList = ([] : List UInt8) then (if x3_1.size + (t348 ++ (⟨#[116]⟩ : ByteArray)).size ≤ 9223372036854775807 then (spillwayref7_PrintTokens.l0 kj3 l0 (x3_1 ++ (t348 ++ (⟨#[116]⟩ : ByteArray))) (wrap64 (x4_1 + 1))) else (none)) else (if (t348 ++ (⟨#[116]⟩ : ByteArray)).toList = ([] : List UInt8) then (if x3_1.size + (t348 ++ (⟨#[116]⟩ : ByteArray)).size ≤ 9223372036854775807 then (spillwayref7_PrintTokens.l0 kj3 l0 (x3_1 ++ (t348 ++ (⟨#[116]⟩ : ByteArray))) (wrap64 (x4_1 + 1))) else (none)) else (if x3_1.size + 1 ≤ 9223372036854775807 then (if (x3_1 ++ (⟨#[32]⟩ : ByteArray)).size + (t348 ++ (⟨#[116]⟩ : ByteArray)).size ≤ 9223372036854775807 then (spillwayref7_PrintTokens.l0 kj3 l0 ((x3_1 ++ (⟨#[32]⟩ : ByteArray)) ++ (t348 ++ (⟨#[116]⟩ : ByteArray))) (wrap64 (x4_1 + 1))) else (none)) else (none)))) else (none))) = some r := by first | (rw [hji31] at H; exact H) | (simp only [hji31] at H ⊢; exact H)
            have hji31_ : (if 0 < ((rd_T36 l0 x4_1).f4) then ((rd_T36 l0 x4_1).f4) else 0) = ji31 := hji31
            replace H := Option.bind_eq_some_iff.mp H
            obtain ⟨t348, A320, H⟩ := H
            replace H : (if t348.size + 1 ≤ 9223372036854775807 then (if x3_1.toList = ([] : List UInt8) then (if x3_1.size + (t348 ++ (⟨#[116]⟩ : ByteArray)).size ≤ 9223372036854775807 then (spillwayref7_PrintTokens.l0 kj3 l0 (x3_1 ++ (t348 ++ (⟨#[116]⟩ : ByteArray))) (wrap64 (x4_1 + 1))) else (none)) else (if (t348 ++ (⟨#[116]⟩ : ByteArray)).toList = ([] : List UInt8) then (if x3_1.size + (t348 ++ (⟨#[116]⟩ : ByteArray)).size ≤ 9223372036854775807 then (spillwayref7_PrintTokens.l0 kj3 l0 (x3_1 ++ (t348 ++ (⟨#[116]⟩ : ByteArray))) (wrap64 (x4_1 + 1))) else (none)) else (if x3_1.size + 1 ≤ 9223372036854775807 then (if (x3_1 ++ (⟨#[32]⟩ : ByteArray)).size + (t348 ++ (⟨#[116]⟩ : ByteArray)).size ≤ 9223372036854775807 then (spillwayref7_PrintTokens.l0 kj3 l0 ((x3_1 ++ (⟨#[32]⟩ : ByteArray)) ++ (t348 ++ (⟨#[116]⟩ : ByteArray))) (wrap64 (x4_1 + 1))) else (none)) else (none)))) else (none)) = some r := H
            have A32 := Aside0.mk A320
            clear A320
            by_cases c33 : t348.size + 1 ≤ 9223372036854775807
            ·rw [if_pos c33] at H
             have c33b0 := eq_true c33
             have c33b1 : decide (t348.size + 1 ≤ 9223372036854775807) = true := decide_eq_true c33
             try have c33b2 : (9223372036854775807 < t348.size + 1) = False := eq_false (Nat.not_lt.2 c33)
             by_cases c34 : x3_1.toList = ([] : List UInt8)
             ·rw [if_pos c34] at H
              have c34b0 : (x3_1.toList == ([] : List UInt8)) = true := beq_iff_eq.mpr c34
              have c34b1 : (x3_1.toList != ([] : List UInt8)) = false := bne_eq_false_iff_eq.mpr c34
              clear c34
              by_cases c35 : x3_1.size + (t348 ++ (⟨#[116]⟩ : ByteArray)).size ≤ 9223372036854775807
              ·rw [if_pos c35] at H
               have c35b0 := eq_true c35
               have c35b1 : decide (x3_1.size + (t348 ++ (⟨#[116]⟩ : ByteArray)).size ≤ 9223372036854775807) = true := decide_eq_true c35
               try have c35b2 : (9223372036854775807 < x3_1.size + (t348 ++ (⟨#[116]⟩ : ByteArray)).size) = False := eq_false (Nat.not_lt.2 c35)
               try (have c35b3 := c35; simp only [ByteArray.size_append, sz_one] at c35b3; have c35b4 := eq_false (Nat.not_lt.2 c35b3); clear c35b3)
               have H' := Aside0.mk H
               clear H
               have p347 : 0 ≤ (x4_1 : Int) := of_decide_eq_true (by first | (with_reducible assumption) | assumption)
               have q347 : x4_1 < (l0.length : Int) := of_decide_eq_true (by first | (with_reducible assumption) | assumption)
               obtain ⟨ad347, e347, hx347_0, hx347_1, hx347_2, hx347_3, hx347_4, hx347_5⟩ := at_T36 HR0.out x4_1 p347 q347
               obtain rfl : ad343 = ad347 := (by injection e347)
               replace hx347_0 := (HB.out.cell (World.block_lt_of_cell? w _ hx347_0)).trans hx347_0
               replace hx347_1 := (HB.out.cell (World.block_lt_of_cell? w _ hx347_1)).trans hx347_1
               replace hx347_2 := (HB.out.cell (World.block_lt_of_cell? w _ hx347_2)).trans hx347_2
               replace hx347_3 := (HB.out.cell (World.block_lt_of_cell? w _ hx347_3)).trans hx347_3
               replace hx347_4 := (HB.out.cell (World.block_lt_of_cell? w _ hx347_4)).trans hx347_4
               replace hx347_5 := (HB.out.cell (World.block_lt_of_cell? w _ hx347_5)).trans hx347_5
               replace p347 := eq_true p347
               replace q347 := eq_true q347
               go_wp2_with (first | ((with_reducible refine gate_callee (f := 15) rfl ?_); refine goesL_ (some 42) rfl rfl Tryz.func15 (by kernel_rfl) rfl #[.int .u64 (IntKind.u64.wrap (ji31))] rfl (by (try simp only [List.map_toArray, List.map_cons, List.map_nil]); first | done | (simp only [hji31]; rfl) | rfl | (simp only [List.length_drop, List.length_take]; rfl)) ?_; (with_reducible refine (spillwayref2_Digits.calls kj3 (IntKind.u64.wrap (ji31)) t348 _ A32.out).mono ?_); rintro e w36 ⟨rfl, hb⟩; refine ⟨_, rfl, ?_⟩; have n0_ := Aside0.mk (below_step (by repeat (first | (with_reducible first | exact HB.out | apply below_alloc | apply pw_below_drewN | apply below_drew1) | exact HB.out)) hb); clear HB; have HB := n0_; clear n0_; (try clear hb); (try clear hb2); (try clear hk); (try clear hi)))
               go_roundg kj3
               case measure => have := HK1.out; have := HJ3.out; omega
               case rel => exact ⟨(x3_1 ++ (t348 ++ (⟨#[116]⟩ : ByteArray))), (wrap64 (x4_1 + 1)), (by first | rfl | (simp; done) | (simp [*]; done)), (by first | rfl | (simp; done) | (simp [*]; done)), H', ⟨by have := HK1.out; have := HJ3.out; omega⟩, ⟨by repeat (first | (with_reducible first | exact HB.out | apply below_alloc | apply pw_below_drewN | apply below_drew1) | exact HB.out)⟩⟩
              ·rw [if_neg c35] at H
               exact absurd H (by simp)
             ·rw [if_neg c34] at H
              have c34b0 : (x3_1.toList == ([] : List UInt8)) = false := beq_eq_false_iff_ne.mpr c34
              have c34b1 : (x3_1.toList != ([] : List UInt8)) = true := bne_iff_ne.mpr c34
              by_cases c37 : (t348 ++ (⟨#[116]⟩ : ByteArray)).toList = ([] : List UInt8)
              ·rw [if_pos c37] at H
               have c37b0 : ((t348 ++ (⟨#[116]⟩ : ByteArray)).toList == ([] : List UInt8)) = true := beq_iff_eq.mpr c37
               have c37b1 : ((t348 ++ (⟨#[116]⟩ : ByteArray)).toList != ([] : List UInt8)) = false := bne_eq_false_iff_eq.mpr c37
               clear c37
               by_cases c38 : x3_1.size + (t348 ++ (⟨#[116]⟩ : ByteArray)).size ≤ 9223372036854775807
               ·rw [if_pos c38] at H
                have c38b0 := eq_true c38
                have c38b1 : decide (x3_1.size + (t348 ++ (⟨#[116]⟩ : ByteArray)).size ≤ 9223372036854775807) = true := decide_eq_true c38
                try have c38b2 : (9223372036854775807 < x3_1.size + (t348 ++ (⟨#[116]⟩ : ByteArray)).size) = False := eq_false (Nat.not_lt.2 c38)
                try (have c38b3 := c38; simp only [ByteArray.size_append, sz_one] at c38b3; have c38b4 := eq_false (Nat.not_lt.2 c38b3); clear c38b3)
                have H' := Aside0.mk H
                clear H
                have p347 : 0 ≤ (x4_1 : Int) := of_decide_eq_true (by first | (with_reducible assumption) | assumption)
                have q347 : x4_1 < (l0.length : Int) := of_decide_eq_true (by first | (with_reducible assumption) | assumption)
                obtain ⟨ad347, e347, hx347_0, hx347_1, hx347_2, hx347_3, hx347_4, hx347_5⟩ := at_T36 HR0.out x4_1 p347 q347
                obtain rfl : ad343 = ad347 := (by injection e347)
                replace hx347_0 := (HB.out.cell (World.block_lt_of_cell? w _ hx347_0)).trans hx347_0
                replace hx347_1 := (HB.out.cell (World.block_lt_of_cell? w _ hx347_1)).trans hx347_1
                replace hx347_2 := (HB.out.cell (World.block_lt_of_cell? w _ hx347_2)).trans hx347_2
                replace hx347_3 := (HB.out.cell (World.block_lt_of_cell? w _ hx347_3)).trans hx347_3
                replace hx347_4 := (HB.out.cell (World.block_lt_of_cell? w _ hx347_4)).trans hx347_4
                replace hx347_5 := (HB.out.cell (World.block_lt_of_cell? w _ hx347_5)).trans hx347_5
                replace p347 := eq_true p347
                replace q347 := eq_true q347
                go_wp2_with (first | ((with_reducible refine gate_callee (f := 15) rfl ?_); refine goesL_ (some 42) rfl rfl Tryz.func15 (by kernel_rfl) rfl #[.int .u64 (IntKind.u64.wrap (ji31))] rfl (by (try simp only [List.map_toArray, List.map_cons, List.map_nil]); first | done | (simp only [hji31]; rfl) | rfl | (simp only [List.length_drop, List.length_take]; rfl)) ?_; (with_reducible refine (spillwayref2_Digits.calls kj3 (IntKind.u64.wrap (ji31)) t348 _ A32.out).mono ?_); rintro e w39 ⟨rfl, hb⟩; refine ⟨_, rfl, ?_⟩; have n0_ := Aside0.mk (below_step (by repeat (first | (with_reducible first | exact HB.out | apply below_alloc | apply pw_below_drewN | apply below_drew1) | exact HB.out)) hb); clear HB; have HB := n0_; clear n0_; (try clear hb); (try clear hb2); (try clear hk); (try clear hi)))
                go_roundg kj3
                case measure => have := HK1.out; have := HJ3.out; omega
                case rel => exact ⟨(x3_1 ++ (t348 ++ (⟨#[116]⟩ : ByteArray))), (wrap64 (x4_1 + 1)), (by first | rfl | (simp; done) | (simp [*]; done)), (by first | rfl | (simp; done) | (simp [*]; done)), H', ⟨by have := HK1.out; have := HJ3.out; omega⟩, ⟨by repeat (first | (with_reducible first | exact HB.out | apply below_alloc | apply pw_below_drewN | apply below_drew1) | exact HB.out)⟩⟩
               ·rw [if_neg c38] at H
                exact absurd H (by simp)
              ·rw [if_neg c37] at H
               have c37b0 : ((t348 ++ (⟨#[116]⟩ : ByteArray)).toList == ([] : List UInt8)) = false := beq_eq_false_iff_ne.mpr c37
               have c37b1 : ((t348 ++ (⟨#[116]⟩ : ByteArray)).toList != ([] : List UInt8)) = true := bne_iff_ne.mpr c37
               by_cases c40 : x3_1.size + 1 ≤ 9223372036854775807
               ·rw [if_pos c40] at H
                have c40b0 := eq_true c40
                have c40b1 : decide (x3_1.size + 1 ≤ 9223372036854775807) = true := decide_eq_true c40
                try have c40b2 : (9223372036854775807 < x3_1.size + 1) = False := eq_false (Nat.not_lt.2 c40)
                by_cases c41 : (x3_1 ++ (⟨#[32]⟩ : ByteArray)).size + (t348 ++ (⟨#[116]⟩ : ByteArray)).size ≤ 9223372036854775807
                ·rw [if_pos c41] at H
                 have c41b0 := eq_true c41
                 have c41b1 : decide ((x3_1 ++ (⟨#[32]⟩ : ByteArray)).size + (t348 ++ (⟨#[116]⟩ : ByteArray)).size ≤ 9223372036854775807) = true := decide_eq_true c41
                 try have c41b2 : (9223372036854775807 < (x3_1 ++ (⟨#[32]⟩ : ByteArray)).size + (t348 ++ (⟨#[116]⟩ : ByteArray)).size) = False := eq_false (Nat.not_lt.2 c41)
                 try (have c41b3 := c41; simp only [ByteArray.size_append, sz_one] at c41b3; have c41b4 := eq_false (Nat.not_lt.2 c41b3); clear c41b3)
                 have H' := Aside0.mk H
                 clear H
                 have p347 : 0 ≤ (x4_1 : Int) := of_decide_eq_true (by first | (with_reducible assumption) | assumption)
                 have q347 : x4_1 < (l0.length : Int) := of_decide_eq_true (by first | (with_reducible assumption) | assumption)
                 obtain ⟨ad347, e347, hx347_0, hx347_1, hx347_2, hx347_3, hx347_4, hx347_5⟩ := at_T36 HR0.out x4_1 p347 q347
                 obtain rfl : ad343 = ad347 := (by injection e347)
                 replace hx347_0 := (HB.out.cell (World.block_lt_of_cell? w _ hx347_0)).trans hx347_0
                 replace hx347_1 := (HB.out.cell (World.block_lt_of_cell? w _ hx347_1)).trans hx347_1
                 replace hx347_2 := (HB.out.cell (World.block_lt_of_cell? w _ hx347_2)).trans hx347_2
                 replace hx347_3 := (HB.out.cell (World.block_lt_of_cell? w _ hx347_3)).trans hx347_3
                 replace hx347_4 := (HB.out.cell (World.block_lt_of_cell? w _ hx347_4)).trans hx347_4
                 replace hx347_5 := (HB.out.cell (World.block_lt_of_cell? w _ hx347_5)).trans hx347_5
                 replace p347 := eq_true p347
                 replace q347 := eq_true q347
                 go_wp2_with (first | ((with_reducible refine gate_callee (f := 15) rfl ?_); refine goesL_ (some 42) rfl rfl Tryz.func15 (by kernel_rfl) rfl #[.int .u64 (IntKind.u64.wrap (ji31))] rfl (by (try simp only [List.map_toArray, List.map_cons, List.map_nil]); first | done | (simp only [hji31]; rfl) | rfl | (simp only [List.length_drop, List.length_take]; rfl)) ?_; (with_reducible refine (spillwayref2_Digits.calls kj3 (IntKind.u64.wrap (ji31)) t348 _ A32.out).mono ?_); rintro e w42 ⟨rfl, hb⟩; refine ⟨_, rfl, ?_⟩; have n0_ := Aside0.mk (below_step (by repeat (first | (with_reducible first | exact HB.out | apply below_alloc | apply pw_below_drewN | apply below_drew1) | exact HB.out)) hb); clear HB; have HB := n0_; clear n0_; (try clear hb); (try clear hb2); (try clear hk); (try clear hi)))
                 go_roundg kj3
                 case measure => have := HK1.out; have := HJ3.out; omega
                 case rel => exact ⟨((x3_1 ++ (⟨#[32]⟩ : ByteArray)) ++ (t348 ++ (⟨#[116]⟩ : ByteArray))), (wrap64 (x4_1 + 1)), (by first | rfl | (simp; done) | (simp [*]; done)), (by first | rfl | (simp; done) | (simp [*]; done)), H', ⟨by have := HK1.out; have := HJ3.out; omega⟩, ⟨by repeat (first | (with_reducible first | exact HB.out | apply below_alloc | apply pw_below_drewN | apply below_drew1) | exact HB.out)⟩⟩
                ·rw [if_neg c41] at H
                 exact absurd H (by simp)
               ·rw [if_neg c40] at H
                exact absurd H (by simp)
            ·rw [if_neg c33] at H
             exact absurd H (by simp)
           ·rw [if_neg c30] at H
            exact absurd H (by simp)
          ·rw [if_neg c29] at H
           exact absurd H (by simp)
         ·rw [if_neg c28] at H
          have c28b0 : (((rd_T36 l0 x4_1).f0) == 3) = false := beq_eq_false_iff_ne.mpr c28
          have c28b1 : (((rd_T36 l0 x4_1).f0) != 3) = true := bne_iff_ne.mpr c28
          by_cases c43 : ((rd_T36 l0 x4_1).f0) = 4
          ·rw [if_pos c43] at H
           have c43b0 : (((rd_T36 l0 x4_1).f0) == 4) = true := beq_iff_eq.mpr c43
           have c43b1 : (((rd_T36 l0 x4_1).f0) != 4) = false := bne_eq_false_iff_eq.mpr c43
           clear c43
           by_cases c44 : 0 ≤ x4_1
           ·rw [if_pos c44] at H
            have c44b0 : decide (0 ≤ x4_1) = true := decide_eq_true c44
            clear c44
            by_cases c45 : x4_1 < (l0.length : Int)
            ·rw [if_pos c45] at H
             have c45b0 : decide (x4_1 < (l0.length : Int)) = true := decide_eq_true c45
             clear c45
             replace H := Option.bind_eq_some_iff.mp H
             obtain ⟨t350, A460, H⟩ := H
             replace H : (if x3_1.toList = ([] : List UInt8) then (if x3_1.size + t350.size ≤ 9223372036854775807 then (spillwayref7_PrintTokens.l0 kj3 l0 (x3_1 ++ t350) (wrap64 (x4_1 + 1))) else (none)) else (if t350.toList = ([] : List UInt8) then (if x3_1.size + t350.size ≤ 9223372036854775807 then (spillwayref7_PrintTokens.l0 kj3 l0 (x3_1 ++ t350) (wrap64 (x4_1 + 1))) else (none)) else (if x3_1.size + 1 ≤ 9223372036854775807 then (if (x3_1 ++ (⟨#[32]⟩ : ByteArray)).size + t350.size ≤ 9223372036854775807 then (spillwayref7_PrintTokens.l0 kj3 l0 ((x3_1 ++ (⟨#[32]⟩ : ByteArray)) ++ t350) (wrap64 (x4_1 + 1))) else (none)) else (none)))) = some r := H
             have A46 := Aside0.mk A460
             clear A460
             by_cases c47 : x3_1.toList = ([] : List UInt8)
             ·rw [if_pos c47] at H
              have c47b0 : (x3_1.toList == ([] : List UInt8)) = true := beq_iff_eq.mpr c47
              have c47b1 : (x3_1.toList != ([] : List UInt8)) = false := bne_eq_false_iff_eq.mpr c47
              clear c47
              by_cases c48 : x3_1.size + t350.size ≤ 9223372036854775807
              ·rw [if_pos c48] at H
               have c48b0 := eq_true c48
               have c48b1 : decide (x3_1.size + t350.size ≤ 9223372036854775807) = true := decide_eq_true c48
               try have c48b2 : (9223372036854775807 < x3_1.size + t350.size) = False := eq_false (Nat.not_lt.2 c48)
               have H' := Aside0.mk H
               clear H
               have p349 : 0 ≤ (x4_1 : Int) := of_decide_eq_true (by first | (with_reducible assumption) | assumption)
               have q349 : x4_1 < (l0.length : Int) := of_decide_eq_true (by first | (with_reducible assumption) | assumption)
               obtain ⟨ad349, e349, hx349_0, hx349_1, hx349_2, hx349_3, hx349_4, hx349_5⟩ := at_T36 HR0.out x4_1 p349 q349
               obtain rfl : ad343 = ad349 := (by injection e349)
               replace hx349_0 := (HB.out.cell (World.block_lt_of_cell? w _ hx349_0)).trans hx349_0
               replace hx349_1 := (HB.out.cell (World.block_lt_of_cell? w _ hx349_1)).trans hx349_1
               replace hx349_2 := (HB.out.cell (World.block_lt_of_cell? w _ hx349_2)).trans hx349_2
               replace hx349_3 := (HB.out.cell (World.block_lt_of_cell? w _ hx349_3)).trans hx349_3
               replace hx349_4 := (HB.out.cell (World.block_lt_of_cell? w _ hx349_4)).trans hx349_4
               replace hx349_5 := (HB.out.cell (World.block_lt_of_cell? w _ hx349_5)).trans hx349_5
               replace p349 := eq_true p349
               replace q349 := eq_true q349
               go_wp2_with (first | ((with_reducible refine gate_callee (f := 16) rfl ?_); refine goesL_ (some 51) rfl rfl Tryz.func16 (by kernel_rfl) rfl #[.string ((rd_T36 l0 x4_1).f2)] rfl (by (try simp only [List.map_toArray, List.map_cons, List.map_nil]); first | done | rfl | (simp only [List.length_drop, List.length_take]; rfl)) ?_; (with_reducible refine (spillwayref3_Quote.calls kj3 ((rd_T36 l0 x4_1).f2) t350 _ A46.out).mono ?_); rintro e w' ⟨rfl, ⟨nd, rfl⟩⟩; refine ⟨_, rfl, ?_⟩))
               go_roundg kj3
               case measure => have := HK1.out; have := HJ3.out; omega
               case rel => exact ⟨(x3_1 ++ t350), (wrap64 (x4_1 + 1)), (by first | rfl | (simp; done) | (simp [*]; done)), (by first | rfl | (simp; done) | (simp [*]; done)), H', ⟨by have := HK1.out; have := HJ3.out; omega⟩, ⟨by repeat (first | (with_reducible first | exact HB.out | apply below_alloc | apply pw_below_drewN | apply below_drew1) | exact HB.out)⟩⟩
              ·rw [if_neg c48] at H
               exact absurd H (by simp)
             ·rw [if_neg c47] at H
              have c47b0 : (x3_1.toList == ([] : List UInt8)) = false := beq_eq_false_iff_ne.mpr c47
              have c47b1 : (x3_1.toList != ([] : List UInt8)) = true := bne_iff_ne.mpr c47
              by_cases c49 : t350.toList = ([] : List UInt8)
              ·rw [if_pos c49] at H
               have c49b0 : (t350.toList == ([] : List UInt8)) = true := beq_iff_eq.mpr c49
               have c49b1 : (t350.toList != ([] : List UInt8)) = false := bne_eq_false_iff_eq.mpr c49
               clear c49
               by_cases c50 : x3_1.size + t350.size ≤ 9223372036854775807
               ·rw [if_pos c50] at H
                have c50b0 := eq_true c50
                have c50b1 : decide (x3_1.size + t350.size ≤ 9223372036854775807) = true := decide_eq_true c50
                try have c50b2 : (9223372036854775807 < x3_1.size + t350.size) = False := eq_false (Nat.not_lt.2 c50)
                have H' := Aside0.mk H
                clear H
                have p349 : 0 ≤ (x4_1 : Int) := of_decide_eq_true (by first | (with_reducible assumption) | assumption)
                have q349 : x4_1 < (l0.length : Int) := of_decide_eq_true (by first | (with_reducible assumption) | assumption)
                obtain ⟨ad349, e349, hx349_0, hx349_1, hx349_2, hx349_3, hx349_4, hx349_5⟩ := at_T36 HR0.out x4_1 p349 q349
                obtain rfl : ad343 = ad349 := (by injection e349)
                replace hx349_0 := (HB.out.cell (World.block_lt_of_cell? w _ hx349_0)).trans hx349_0
                replace hx349_1 := (HB.out.cell (World.block_lt_of_cell? w _ hx349_1)).trans hx349_1
                replace hx349_2 := (HB.out.cell (World.block_lt_of_cell? w _ hx349_2)).trans hx349_2
                replace hx349_3 := (HB.out.cell (World.block_lt_of_cell? w _ hx349_3)).trans hx349_3
                replace hx349_4 := (HB.out.cell (World.block_lt_of_cell? w _ hx349_4)).trans hx349_4
                replace hx349_5 := (HB.out.cell (World.block_lt_of_cell? w _ hx349_5)).trans hx349_5
                replace p349 := eq_true p349
                replace q349 := eq_true q349
                go_wp2_with (first | ((with_reducible refine gate_callee (f := 16) rfl ?_); refine goesL_ (some 51) rfl rfl Tryz.func16 (by kernel_rfl) rfl #[.string ((rd_T36 l0 x4_1).f2)] rfl (by (try simp only [List.map_toArray, List.map_cons, List.map_nil]); first | done | rfl | (simp only [List.length_drop, List.length_take]; rfl)) ?_; (with_reducible refine (spillwayref3_Quote.calls kj3 ((rd_T36 l0 x4_1).f2) t350 _ A46.out).mono ?_); rintro e w' ⟨rfl, ⟨nd, rfl⟩⟩; refine ⟨_, rfl, ?_⟩))
                go_roundg kj3
                case measure => have := HK1.out; have := HJ3.out; omega
                case rel => exact ⟨(x3_1 ++ t350), (wrap64 (x4_1 + 1)), (by first | rfl | (simp; done) | (simp [*]; done)), (by first | rfl | (simp; done) | (simp [*]; done)), H', ⟨by have := HK1.out; have := HJ3.out; omega⟩, ⟨by repeat (first | (with_reducible first | exact HB.out | apply below_alloc | apply pw_below_drewN | apply below_drew1) | exact HB.out)⟩⟩
               ·rw [if_neg c50] at H
                exact absurd H (by simp)
              ·rw [if_neg c49] at H
               have c49b0 : (t350.toList == ([] : List UInt8)) = false := beq_eq_false_iff_ne.mpr c49
               have c49b1 : (t350.toList != ([] : List UInt8)) = true := bne_iff_ne.mpr c49
               by_cases c51 : x3_1.size + 1 ≤ 9223372036854775807
               ·rw [if_pos c51] at H
                have c51b0 := eq_true c51
                have c51b1 : decide (x3_1.size + 1 ≤ 9223372036854775807) = true := decide_eq_true c51
                try have c51b2 : (9223372036854775807 < x3_1.size + 1) = False := eq_false (Nat.not_lt.2 c51)
                by_cases c52 : (x3_1 ++ (⟨#[32]⟩ : ByteArray)).size + t350.size ≤ 9223372036854775807
                ·rw [if_pos c52] at H
                 have c52b0 := eq_true c52
                 have c52b1 : decide ((x3_1 ++ (⟨#[32]⟩ : ByteArray)).size + t350.size ≤ 9223372036854775807) = true := decide_eq_true c52
                 try have c52b2 : (9223372036854775807 < (x3_1 ++ (⟨#[32]⟩ : ByteArray)).size + t350.size) = False := eq_false (Nat.not_lt.2 c52)
                 try (have c52b3 := c52; simp only [ByteArray.size_append, sz_one] at c52b3; have c52b4 := eq_false (Nat.not_lt.2 c52b3); clear c52b3)
                 have H' := Aside0.mk H
                 clear H
                 have p349 : 0 ≤ (x4_1 : Int) := of_decide_eq_true (by first | (with_reducible assumption) | assumption)
                 have q349 : x4_1 < (l0.length : Int) := of_decide_eq_true (by first | (with_reducible assumption) | assumption)
                 obtain ⟨ad349, e349, hx349_0, hx349_1, hx349_2, hx349_3, hx349_4, hx349_5⟩ := at_T36 HR0.out x4_1 p349 q349
                 obtain rfl : ad343 = ad349 := (by injection e349)
                 replace hx349_0 := (HB.out.cell (World.block_lt_of_cell? w _ hx349_0)).trans hx349_0
                 replace hx349_1 := (HB.out.cell (World.block_lt_of_cell? w _ hx349_1)).trans hx349_1
                 replace hx349_2 := (HB.out.cell (World.block_lt_of_cell? w _ hx349_2)).trans hx349_2
                 replace hx349_3 := (HB.out.cell (World.block_lt_of_cell? w _ hx349_3)).trans hx349_3
                 replace hx349_4 := (HB.out.cell (World.block_lt_of_cell? w _ hx349_4)).trans hx349_4
                 replace hx349_5 := (HB.out.cell (World.block_lt_of_cell? w _ hx349_5)).trans hx349_5
                 replace p349 := eq_true p349
                 replace q349 := eq_true q349
                 go_wp2_with (first | ((with_reducible refine gate_callee (f := 16) rfl ?_); refine goesL_ (some 51) rfl rfl Tryz.func16 (by kernel_rfl) rfl #[.string ((rd_T36 l0 x4_1).f2)] rfl (by (try simp only [List.map_toArray, List.map_cons, List.map_nil]); first | done | rfl | (simp only [List.length_drop, List.length_take]; rfl)) ?_; (with_reducible refine (spillwayref3_Quote.calls kj3 ((rd_T36 l0 x4_1).f2) t350 _ A46.out).mono ?_); rintro e w' ⟨rfl, ⟨nd, rfl⟩⟩; refine ⟨_, rfl, ?_⟩))
                 go_roundg kj3
                 case measure => have := HK1.out; have := HJ3.out; omega
                 case rel => exact ⟨((x3_1 ++ (⟨#[32]⟩ : ByteArray)) ++ t350), (wrap64 (x4_1 + 1)), (by first | rfl | (simp; done) | (simp [*]; done)), (by first | rfl | (simp; done) | (simp [*]; done)), H', ⟨by have := HK1.out; have := HJ3.out; omega⟩, ⟨by repeat (first | (with_reducible first | exact HB.out | apply below_alloc | apply pw_below_drewN | apply below_drew1) | exact HB.out)⟩⟩
                ·rw [if_neg c52] at H
                 exact absurd H (by simp)
               ·rw [if_neg c51] at H
                exact absurd H (by simp)
            ·rw [if_neg c45] at H
             exact absurd H (by simp)
           ·rw [if_neg c44] at H
            exact absurd H (by simp)
          ·rw [if_neg c43] at H
           have c43b0 : (((rd_T36 l0 x4_1).f0) == 4) = false := beq_eq_false_iff_ne.mpr c43
           have c43b1 : (((rd_T36 l0 x4_1).f0) != 4) = true := bne_iff_ne.mpr c43
           by_cases c53 : x3_1.toList = ([] : List UInt8)
           ·rw [if_pos c53] at H
            have c53b0 : (x3_1.toList == ([] : List UInt8)) = true := beq_iff_eq.mpr c53
            have c53b1 : (x3_1.toList != ([] : List UInt8)) = false := bne_eq_false_iff_eq.mpr c53
            clear c53
            by_cases c54 : x3_1.size + (⟨#[]⟩ : ByteArray).size ≤ 9223372036854775807
            ·rw [if_pos c54] at H
             have c54b0 := eq_true c54
             have c54b1 : decide (x3_1.size + (⟨#[]⟩ : ByteArray).size ≤ 9223372036854775807) = true := decide_eq_true c54
             try have c54b2 : (9223372036854775807 < x3_1.size + (⟨#[]⟩ : ByteArray).size) = False := eq_false (Nat.not_lt.2 c54)
             have H' := Aside0.mk H
             clear H
             go_wp2
             go_roundg kj3
             case measure => have := HK1.out; have := HJ3.out; omega
             case rel => exact ⟨(x3_1 ++ (⟨#[]⟩ : ByteArray)), (wrap64 (x4_1 + 1)), (by first | rfl | (simp; done) | (simp [*]; done)), (by first | rfl | (simp; done) | (simp [*]; done)), H', ⟨by have := HK1.out; have := HJ3.out; omega⟩, ⟨by repeat (first | (with_reducible first | exact HB.out | apply below_alloc | apply pw_below_drewN | apply below_drew1) | exact HB.out)⟩⟩
            ·rw [if_neg c54] at H
             exact absurd H (by simp)
           ·rw [if_neg c53] at H
            have c53b0 : (x3_1.toList == ([] : List UInt8)) = false := beq_eq_false_iff_ne.mpr c53
            have c53b1 : (x3_1.toList != ([] : List UInt8)) = true := bne_iff_ne.mpr c53
            by_cases c55 : (⟨#[]⟩ : ByteArray).toList = ([] : List UInt8)
            ·rw [if_pos c55] at H
             have c55b0 : ((⟨#[]⟩ : ByteArray).toList == ([] : List UInt8)) = true := beq_iff_eq.mpr c55
             have c55b1 : ((⟨#[]⟩ : ByteArray).toList != ([] : List UInt8)) = false := bne_eq_false_iff_eq.mpr c55
             clear c55
             by_cases c56 : x3_1.size + (⟨#[]⟩ : ByteArray).size ≤ 9223372036854775807
             ·rw [if_pos c56] at H
              have c56b0 := eq_true c56
              have c56b1 : decide (x3_1.size + (⟨#[]⟩ : ByteArray).size ≤ 9223372036854775807) = true := decide_eq_true c56
              try have c56b2 : (9223372036854775807 < x3_1.size + (⟨#[]⟩ : ByteArray).size) = False := eq_false (Nat.not_lt.2 c56)
              have H' := Aside0.mk H
              clear H
              go_wp2
              go_roundg kj3
              case measure => have := HK1.out; have := HJ3.out; omega
              case rel => exact ⟨(x3_1 ++ (⟨#[]⟩ : ByteArray)), (wrap64 (x4_1 + 1)), (by first | rfl | (simp; done) | (simp [*]; done)), (by first | rfl | (simp; done) | (simp [*]; done)), H', ⟨by have := HK1.out; have := HJ3.out; omega⟩, ⟨by repeat (first | (with_reducible first | exact HB.out | apply below_alloc | apply pw_below_drewN | apply below_drew1) | exact HB.out)⟩⟩
             ·rw [if_neg c56] at H
              exact absurd H (by simp)
            ·exact absurd (by first | rfl | decide | simp [ByteArray.toList_eq]) c55
    ·rw [if_neg c3] at H
     exact absurd H (by simp)
   ·rw [if_neg c2] at H
    have c2b0 : decide (x4_1 < (l0.length : Int)) = false := decide_eq_false c2
    clear c2
    obtain rfl := Option.some.inj H
    go_wp2
    go_ret
    exact ⟨by first | rfl | (simp [errW_none, errW_some] <;> rfl) | (simp [*, errW_none, errW_some] <;> rfl), by repeat (first | (with_reducible first | exact HB.out | apply below_alloc | apply pw_below_drewN | apply below_drew1) | exact HB.out)⟩

end Go.Proofs.YtnjobjogddjelaaGreatDoor.Print
end

section
namespace Go.Proofs.YtnjobjogddjelaaGreatDoor.Print
open Go.RowKit Go.Proofs.YtnjobjogddjelaaGreatDoorX Go.Proofs.YtnjobjogddjelaaGreatDoorW.PrintWords Go.Proofs.YtnjobjogddjelaaGreatDoorW.PrintLast Go.Proofs.YtnjobjogddjelaaGreatDoorW.PrintMore
attribute [local go_sem] max2_int min2_int max_two min_two max_three min_three max_four min_four

/-! ### spillwaylaw7_LexBack: function 4 -/
def spillwaylaw7_LexBack.f (k : Nat) (a0 : ByteArray) : Option (Bool) := (spillwaylaw7_known.f k).bind fun t351 => (if t351 = true then (if (a0.size : Int) > 250 then (some true) else ((lex_Scan.f k a0).bind fun bt352 => (if bt352.2.2 = 0 then ((lex_Print.f k bt352.1).bind fun t357 => ((lex_Scan.f k t357).bind fun bt358 => ((spillwayref7_PrintTokens.f k bt352.1).bind fun t363 => (if t357.toList = t363.toList then (if bt358.2.2 = 0 then ((spillwaylaw7_same.f k bt352.1 bt358.1 false).bind fun t364 => (if t364 = true then ((lex_Print.f k bt358.1).bind fun t365 => (some (t365.toList == t357.toList))) else (none))) else (none)) else (none))))) else (some ((bt352.1.length : Int) == 0))))) else (none))
theorem spillwaylaw7_LexBack.mono : ∀ a0 k, LeO (spillwaylaw7_LexBack.f k a0) (spillwaylaw7_LexBack.f (k + 1) a0) := by
 intro a0 k
 unfold spillwaylaw7_LexBack.f
 repeat' first
   | (with_reducible exact lex_Print.mono _ _)
   | (with_reducible exact lex_Scan.mono _ _)
   | (with_reducible exact spillwaylaw7_known.mono _)
   | (with_reducible exact spillwaylaw7_same.mono _ _ _ _)
   | (with_reducible exact spillwayref7_PrintTokens.mono _ _)
   | (with_reducible exact LeO.refl _)
   | (with_reducible exact LeO.none _)
   | (with_reducible refine LeO.ite ?_ ?_)
   | (with_reducible refine LeO.bind ?_ (fun _ => ?_))
   | exact lex_Print.mono _ _
   | exact lex_Scan.mono _ _
   | exact spillwaylaw7_known.mono _
   | exact spillwaylaw7_same.mono _ _ _ _
   | exact spillwayref7_PrintTokens.mono _ _
   | exact LeO.none _
   | refine LeO.ite ?_ ?_
   | refine LeO.bind ?_ (fun _ => ?_)
set_option maxHeartbeats 8000000 in
set_option maxRecDepth 100000 in
theorem spillwaylaw7_LexBack.calls (k : Nat) (a0 : ByteArray) (r : Bool) (w : World) (hg_ : LaidW w) (h : spillwaylaw7_LexBack.f k a0 = some r) (hr_ : r = true) :
  Calls Tryz.prog 4 #[.string a0] w fun e w' => e = .returned (.bool r) ∧ Below w.heap.size w w' := by
 have HRT := Aside0.mk hr_
 clear hr_
 have HLW := Aside0.mk hg_
 clear hg_
 have HB := Aside0.mk (Below.refl w.heap.size w)
 have H : ((spillwaylaw7_known.f k).bind fun t351 => (if t351 = true then (if (a0.size : Int) > 250 then (some true) else ((lex_Scan.f k a0).bind fun bt352 => (if bt352.2.2 = 0 then ((lex_Print.f k bt352.1).bind fun t357 => ((lex_Scan.f k t357).bind fun bt358 => ((spillwayref7_PrintTokens.f k bt352.1).bind fun t363 => (if t357.toList = t363.toList then (if bt358.2.2 = 0 then ((spillwaylaw7_same.f k bt352.1 bt358.1 false).bind fun t364 => (if t364 = true then ((lex_Print.f k bt358.1).bind fun t365 => (some (t365.toList == t357.toList))) else (none))) else (none)) else (none))))) else (some ((bt352.1.length : Int) == 0))))) else (none))) = some r := h
 clear h
 replace H := Option.bind_eq_some_iff.mp H
 obtain ⟨t351, A20, H⟩ := H
 replace H : (if t351 = true then (if (a0.size : Int) > 250 then (some true) else ((lex_Scan.f k a0).bind fun bt352 => (if bt352.2.2 = 0 then ((lex_Print.f k bt352.1).bind fun t357 => ((lex_Scan.f k t357).bind fun bt358 => ((spillwayref7_PrintTokens.f k bt352.1).bind fun t363 => (if t357.toList = t363.toList then (if bt358.2.2 = 0 then ((spillwaylaw7_same.f k bt352.1 bt358.1 false).bind fun t364 => (if t364 = true then ((lex_Print.f k bt358.1).bind fun t365 => (some (t365.toList == t357.toList))) else (none))) else (none)) else (none))))) else (some ((bt352.1.length : Int) == 0))))) else (none)) = some r := H
 have A2 := Aside0.mk A20
 clear A20
 by_cases c3 : t351 = true
 ·subst c3
  have H1 : (if (a0.size : Int) > 250 then (some true) else ((lex_Scan.f k a0).bind fun bt352 => (if bt352.2.2 = 0 then ((lex_Print.f k bt352.1).bind fun t357 => ((lex_Scan.f k t357).bind fun bt358 => ((spillwayref7_PrintTokens.f k bt352.1).bind fun t363 => (if t357.toList = t363.toList then (if bt358.2.2 = 0 then ((spillwaylaw7_same.f k bt352.1 bt358.1 false).bind fun t364 => (if t364 = true then ((lex_Print.f k bt358.1).bind fun t365 => (some (t365.toList == t357.toList))) else (none))) else (none)) else (none))))) else (some ((bt352.1.length : Int) == 0))))) = some r := by rw [if_pos rfl] at H; exact H
  clear H
  have H := H1
  clear H1
  by_cases c4 : (a0.size : Int) > 250
  ·rw [if_pos c4] at H
   have c4b0 : decide (250 < (a0.size : Int)) = true := decide_eq_true c4
   have c4b1 : decide (250 < a0.size) = true := decide_eq_true (by omega)
   clear c4
   obtain rfl := Option.some.inj H
   go_enter Tryz.func4, Tryz.ntmps4
   go_wp2_with (first | ((with_reducible refine gate_callee (f := 8) rfl ?_); refine goesL_ (some 10) rfl rfl Tryz.func8 (by kernel_rfl) rfl #[] rfl (by (try simp only [List.map_toArray, List.map_cons, List.map_nil]); first | done | rfl | (simp only [List.length_drop, List.length_take]; rfl)) ?_; (with_reducible refine (spillwaylaw7_known.calls k  true _ ?side1 A2.out).mono ?_); (case side1 => exact LaidW.below HLW.out (by repeat (first | (with_reducible first | exact HB.out | apply below_alloc | apply pw_below_drewN | apply below_drew1) | exact HB.out | (refine below_set ?_ (Aside0.out ?hge); (case hge => assumption))))); rintro e w5 ⟨rfl, hb⟩; refine ⟨_, rfl, ?_⟩; have n0_ := Aside0.mk (below_step (by repeat (first | (with_reducible first | exact HB.out | apply below_alloc | apply pw_below_drewN | apply below_drew1) | exact HB.out)) hb); clear HB; have HB := n0_; clear n0_; (try clear hb); (try clear hb2); (try clear hk); (try clear hi)))
   go_ret
   exact ⟨by first | rfl | (simp [errW_none, errW_some] <;> rfl) | (simp [*, errW_none, errW_some] <;> rfl), by repeat (first | (with_reducible first | exact HB.out | apply below_alloc | apply pw_below_drewN | apply below_drew1) | exact HB.out)⟩
  ·rw [if_neg c4] at H
   have c4b0 : decide (250 < (a0.size : Int)) = false := decide_eq_false c4
   have c4b1 : decide (250 < a0.size) = false := decide_eq_false (by omega)
   clear c4
   replace H := Option.bind_eq_some_iff.mp H
   obtain ⟨⟨t352, t353, t354⟩, A60, H⟩ := H
   replace H : (if t354 = 0 then ((lex_Print.f k t352).bind fun t357 => ((lex_Scan.f k t357).bind fun bt358 => ((spillwayref7_PrintTokens.f k t352).bind fun t363 => (if t357.toList = t363.toList then (if bt358.2.2 = 0 then ((spillwaylaw7_same.f k t352 bt358.1 false).bind fun t364 => (if t364 = true then ((lex_Print.f k bt358.1).bind fun t365 => (some (t365.toList == t357.toList))) else (none))) else (none)) else (none))))) else (some ((t352.length : Int) == 0))) = some r := H
   have A6 := Aside0.mk A60
   clear A60
   by_cases c7 : t354 = 0
   ·rw [if_pos c7] at H
    have c7b0 : (t354 == 0) = true := beq_iff_eq.mpr c7
    have c7b1 : (t354 != 0) = false := bne_eq_false_iff_eq.mpr c7
    clear c7
    replace H := Option.bind_eq_some_iff.mp H
    obtain ⟨t357, A80, H⟩ := H
    replace H : ((lex_Scan.f k t357).bind fun bt358 => ((spillwayref7_PrintTokens.f k t352).bind fun t363 => (if t357.toList = t363.toList then (if bt358.2.2 = 0 then ((spillwaylaw7_same.f k t352 bt358.1 false).bind fun t364 => (if t364 = true then ((lex_Print.f k bt358.1).bind fun t365 => (some (t365.toList == t357.toList))) else (none))) else (none)) else (none)))) = some r := H
    have A8 := Aside0.mk A80
    clear A80
    replace H := Option.bind_eq_some_iff.mp H
    obtain ⟨⟨t358, t359, t360⟩, A90, H⟩ := H
    replace H : ((spillwayref7_PrintTokens.f k t352).bind fun t363 => (if t357.toList = t363.toList then (if t360 = 0 then ((spillwaylaw7_same.f k t352 t358 false).bind fun t364 => (if t364 = true then ((lex_Print.f k t358).bind fun t365 => (some (t365.toList == t357.toList))) else (none))) else (none)) else (none))) = some r := H
    have A9 := Aside0.mk A90
    clear A90
    replace H := Option.bind_eq_some_iff.mp H
    obtain ⟨t363, A100, H⟩ := H
    replace H : (if t357.toList = t363.toList then (if t360 = 0 then ((spillwaylaw7_same.f k t352 t358 false).bind fun t364 => (if t364 = true then ((lex_Print.f k t358).bind fun t365 => (some (t365.toList == t357.toList))) else (none))) else (none)) else (none)) = some r := H
    have A10 := Aside0.mk A100
    clear A100
    by_cases c11 : t357.toList = t363.toList
    ·rw [if_pos c11] at H
     have c11b0 : (t357.toList == t363.toList) = true := beq_iff_eq.mpr c11
     have c11b1 : (t357.toList != t363.toList) = false := bne_eq_false_iff_eq.mpr c11
     clear c11
     by_cases c12 : t360 = 0
     ·rw [if_pos c12] at H
      have c12b0 : (t360 == 0) = true := beq_iff_eq.mpr c12
      have c12b1 : (t360 != 0) = false := bne_eq_false_iff_eq.mpr c12
      clear c12
      replace H := Option.bind_eq_some_iff.mp H
      obtain ⟨t364, A130, H⟩ := H
      replace H : (if t364 = true then ((lex_Print.f k t358).bind fun t365 => (some (t365.toList == t357.toList))) else (none)) = some r := H
      have A13 := Aside0.mk A130
      clear A130
      by_cases c14 : t364 = true
      ·subst c14
       have H1 : ((lex_Print.f k t358).bind fun t365 => (some (t365.toList == t357.toList))) = some r := by rw [if_pos rfl] at H; exact H
       clear H
       have H := H1
       clear H1
       replace H := Option.bind_eq_some_iff.mp H
       obtain ⟨t365, A150, H⟩ := H
       replace H : (some (t365.toList == t357.toList)) = some r := H
       have A15 := Aside0.mk A150
       clear A150
       obtain rfl := Option.some.inj H
       go_enter Tryz.func4, Tryz.ntmps4
       go_wp2_with (first | ((with_reducible refine gate_callee (f := 8) rfl ?_); refine goesL_ (some 10) rfl rfl Tryz.func8 (by kernel_rfl) rfl #[] rfl (by (try simp only [List.map_toArray, List.map_cons, List.map_nil]); first | done | rfl | (simp only [List.length_drop, List.length_take]; rfl)) ?_; (with_reducible refine (spillwaylaw7_known.calls k  true _ ?side1 A2.out).mono ?_); (case side1 => exact LaidW.below HLW.out (by repeat (first | (with_reducible first | exact HB.out | apply below_alloc | apply pw_below_drewN | apply below_drew1) | exact HB.out | (refine below_set ?_ (Aside0.out ?hge); (case hge => assumption))))); rintro e w16 ⟨rfl, hb⟩; refine ⟨_, rfl, ?_⟩; have n0_ := Aside0.mk (below_step (by repeat (first | (with_reducible first | exact HB.out | apply below_alloc | apply pw_below_drewN | apply below_drew1) | exact HB.out)) hb); clear HB; have HB := n0_; clear n0_; (try clear hb); (try clear hb2); (try clear hk); (try clear hi)) | ((with_reducible refine gate_callee (f := 9) rfl ?_); refine goesL_ (some 17) rfl rfl Tryz.func9 (by kernel_rfl) rfl #[.string a0] rfl (by (try simp only [List.map_toArray, List.map_cons, List.map_nil]); first | done | rfl | (simp only [List.length_drop, List.length_take]; rfl)) ?_; (with_reducible refine (lex_Scan.calls k a0 t352 t353 t354 _ ?side1 A6.out).mono ?_); (case side1 => exact LaidW.below HLW.out (by repeat (first | (with_reducible first | exact HB.out | apply below_alloc | apply pw_below_drewN | apply below_drew1) | exact HB.out | (refine below_set ?_ (Aside0.out ?hge); (case hge => assumption))))); rintro e w17 ⟨v355, rfl, ho0, hb⟩; refine ⟨_, rfl, ?_⟩; have n0_ := Aside0.mk (Kd.R_lower ho0 (below_size (by repeat (first | (with_reducible first | exact HB.out | apply below_alloc | apply pw_below_drewN | apply below_drew1) | exact HB.out)))); have n1_ := Aside0.mk (below_step (by repeat (first | (with_reducible first | exact HB.out | apply below_alloc | apply pw_below_drewN | apply below_drew1) | exact HB.out)) hb); clear HB; have HO356 := n0_; have HB := n1_; clear n0_ n1_; (try clear hb); (try clear hb2); (try clear hk); (try clear hi); (try clear ho0); obtain ⟨Ao18, co18, eo18⟩ := Kd.R_slice HO356.out; subst eo18) | ((with_reducible refine gate_callee (f := 12) rfl ?_); refine goesL_ (some 27) rfl rfl Tryz.func12 (by kernel_rfl) rfl #[.slice Ao18 t352.length co18] rfl (by (try simp only [List.map_toArray, List.map_cons, List.map_nil]); first | done | rfl | (simp only [List.length_drop, List.length_take]; rfl)) ?_; (with_reducible refine (lex_Print.calls k _ _ t352 t357 _ ?side1 ?side2 ?side3 A8.out).mono ?_); (case side1 => repeat (first | exact (Kd.R_reads' HO356.out).2.2 | (with_reducible refine Kd.C_alloc ?_ _) | (with_reducible refine Kd.C_drewN ?_ _) | (with_reducible refine Kd.C_drew ?_))); (case side2 => exact (Kd.R_reads' HO356.out).2.1); (case side3 => exact LaidW.below HLW.out (by repeat (first | (with_reducible first | exact HB.out | apply below_alloc | apply pw_below_drewN | apply below_drew1) | exact HB.out | (refine below_set ?_ (Aside0.out ?hge); (case hge => assumption))))); rintro e w19 ⟨rfl, hb⟩; refine ⟨_, rfl, ?_⟩; have n0_ := Aside0.mk (Kd.R_below (by (with_reducible repeat (first | apply Kd.R_alloc | apply Kd.R_drewN | apply Kd.R_drew)); exact HO356.out) hb); have n1_ := Aside0.mk (below_step (by repeat (first | (with_reducible first | exact HB.out | apply below_alloc | apply pw_below_drewN | apply below_drew1) | exact HB.out)) hb); clear HO356; clear HB; have HO356 := n0_; have HB := n1_; clear n0_ n1_; (try clear hb); (try clear hb2); (try clear hk); (try clear hi)) | ((with_reducible refine gate_callee (f := 9) rfl ?_); refine goesL_ (some 30) rfl rfl Tryz.func9 (by kernel_rfl) rfl #[.string t357] rfl (by (try simp only [List.map_toArray, List.map_cons, List.map_nil]); first | done | rfl | (simp only [List.length_drop, List.length_take]; rfl)) ?_; (with_reducible refine (lex_Scan.calls k t357 t358 t359 t360 _ ?side1 A9.out).mono ?_); (case side1 => exact LaidW.below HLW.out (by repeat (first | (with_reducible first | exact HB.out | apply below_alloc | apply pw_below_drewN | apply below_drew1) | exact HB.out | (refine below_set ?_ (Aside0.out ?hge); (case hge => assumption))))); rintro e w20 ⟨v361, rfl, ho0, hb⟩; refine ⟨_, rfl, ?_⟩; have n0_ := Aside0.mk (Kd.R_elder' (by (with_reducible repeat (first | apply Kd.R_alloc | apply Kd.R_drewN | apply Kd.R_drew)); exact HO356.out) (Kd.R_base ho0) hb); have n1_ := Aside0.mk (Kd.R_lower (Kd.R_new' ho0 (Kd.R_lt (by (with_reducible repeat (first | apply Kd.R_alloc | apply Kd.R_drewN | apply Kd.R_drew)); exact HO356.out))) (below_size (by repeat (first | (with_reducible first | exact HB.out | apply below_alloc | apply pw_below_drewN | apply below_drew1) | exact HB.out)))); have n2_ := Aside0.mk (below_step (by repeat (first | (with_reducible first | exact HB.out | apply below_alloc | apply pw_below_drewN | apply below_drew1) | exact HB.out)) hb); clear HO356; clear HB; have HO356 := n0_; have HO362 := n1_; have HB := n2_; clear n0_ n1_ n2_; (try clear hb); (try clear hb2); (try clear hk); (try clear hi); (try clear ho0)) | ((with_reducible refine gate_callee (f := 13) rfl ?_); refine goesL_ (some 36) rfl rfl Tryz.func13 (by kernel_rfl) rfl #[.slice Ao18 t352.length co18] rfl (by (try simp only [List.map_toArray, List.map_cons, List.map_nil]); first | done | rfl | (simp only [List.length_drop, List.length_take]; rfl)) ?_; (with_reducible refine (spillwayref7_PrintTokens.calls k _ _ t352 t363 _ ?side1 ?side2 A10.out).mono ?_); (case side1 => repeat (first | exact (Kd.R_reads' HO356.out).2.2 | (with_reducible refine Kd.C_alloc ?_ _) | (with_reducible refine Kd.C_drewN ?_ _) | (with_reducible refine Kd.C_drew ?_))); (case side2 => exact (Kd.R_reads' HO356.out).2.1); rintro e w21 ⟨rfl, hb⟩; refine ⟨_, rfl, ?_⟩; have n0_ := Aside0.mk (Kd.R_below (by (with_reducible repeat (first | apply Kd.R_alloc | apply Kd.R_drewN | apply Kd.R_drew)); exact HO356.out) hb); have n1_ := Aside0.mk (Kd.R_below (by (with_reducible repeat (first | apply Kd.R_alloc | apply Kd.R_drewN | apply Kd.R_drew)); exact HO362.out) hb); have n2_ := Aside0.mk (below_step (by repeat (first | (with_reducible first | exact HB.out | apply below_alloc | apply pw_below_drewN | apply below_drew1) | exact HB.out)) hb); clear HO356; clear HO362; clear HB; have HO356 := n0_; have HO362 := n1_; have HB := n2_; clear n0_ n1_ n2_; (try clear hb); (try clear hb2); (try clear hk); (try clear hi); obtain ⟨Ao22, co22, eo22⟩ := Kd.R_slice HO362.out; subst eo22) | (go_at_call 11; (with_reducible refine (spillwaylaw7_same.calls k _ _ t352 _ _ t358 false true _ ?side1 ?side2 ?side3 ?side4 A13.out).mono ?_); (case side1 => repeat (first | exact (Kd.R_reads' HO356.out).2.2 | (with_reducible refine Kd.C_alloc ?_ _) | (with_reducible refine Kd.C_drewN ?_ _) | (with_reducible refine Kd.C_drew ?_))); (case side2 => exact (Kd.R_reads' HO356.out).2.1); (case side3 => repeat (first | exact (Kd.R_reads' HO362.out).2.2 | (with_reducible refine Kd.C_alloc ?_ _) | (with_reducible refine Kd.C_drewN ?_ _) | (with_reducible refine Kd.C_drew ?_))); (case side4 => exact (Kd.R_reads' HO362.out).2.1); rintro e w23 ⟨rfl, hb⟩; have n0_ := Aside0.mk (Kd.R_below (by (with_reducible repeat (first | apply Kd.R_alloc | apply Kd.R_drewN | apply Kd.R_drew)); exact HO356.out) hb); have n1_ := Aside0.mk (Kd.R_below (by (with_reducible repeat (first | apply Kd.R_alloc | apply Kd.R_drewN | apply Kd.R_drew)); exact HO362.out) hb); have n2_ := Aside0.mk (below_step (by repeat (first | (with_reducible first | exact HB.out | apply below_alloc | apply pw_below_drewN | apply below_drew1) | exact HB.out)) hb); clear HO356; clear HO362; clear HB; have HO356 := n0_; have HO362 := n1_; have HB := n2_; clear n0_ n1_ n2_; (try clear hb); (try clear hb2); (try clear hk); (try clear hi)) | (go_at_call 12; (with_reducible refine (lex_Print.calls k _ _ t358 t365 _ ?side1 ?side2 ?side3 A15.out).mono ?_); (case side1 => repeat (first | exact (Kd.R_reads' HO362.out).2.2 | (with_reducible refine Kd.C_alloc ?_ _) | (with_reducible refine Kd.C_drewN ?_ _) | (with_reducible refine Kd.C_drew ?_))); (case side2 => exact (Kd.R_reads' HO362.out).2.1); (case side3 => exact LaidW.below HLW.out (by repeat (first | (with_reducible first | exact HB.out | apply below_alloc | apply pw_below_drewN | apply below_drew1) | exact HB.out | (refine below_set ?_ (Aside0.out ?hge); (case hge => assumption))))); rintro e w24 ⟨rfl, hb⟩; have n0_ := Aside0.mk (Kd.R_below (by (with_reducible repeat (first | apply Kd.R_alloc | apply Kd.R_drewN | apply Kd.R_drew)); exact HO356.out) hb); have n1_ := Aside0.mk (Kd.R_below (by (with_reducible repeat (first | apply Kd.R_alloc | apply Kd.R_drewN | apply Kd.R_drew)); exact HO362.out) hb); have n2_ := Aside0.mk (below_step (by repeat (first | (with_reducible first | exact HB.out | apply below_alloc | apply pw_below_drewN | apply below_drew1) | exact HB.out)) hb); clear HO356; clear HO362; clear HB; have HO356 := n0_; have HO362 := n1_; have HB := n2_; clear n0_ n1_ n2_; (try clear hb); (try clear hb2); (try clear hk); (try clear hi)))
       go_ret
       exact ⟨by first | rfl | (simp [errW_none, errW_some] <;> rfl) | (simp [*, errW_none, errW_some] <;> rfl), by repeat (first | (with_reducible first | exact HB.out | apply below_alloc | apply pw_below_drewN | apply below_drew1) | exact HB.out)⟩
      ·replace c14 := Bool.eq_false_iff.mpr c14
       subst c14
       have H1 : (none) = some r := by rw [if_neg (show ¬ (false = true) by decide)] at H; exact H
       clear H
       have H := H1
       clear H1
       exact absurd H (by simp)
     ·rw [if_neg c12] at H
      exact absurd H (by simp)
    ·rw [if_neg c11] at H
     exact absurd H (by simp)
   ·rw [if_neg c7] at H
    have c7b0 : (t354 == 0) = false := beq_eq_false_iff_ne.mpr c7
    have c7b1 : (t354 != 0) = true := bne_iff_ne.mpr c7
    obtain rfl := Option.some.inj H
    go_enter Tryz.func4, Tryz.ntmps4
    go_wp2_with (first | ((with_reducible refine gate_callee (f := 8) rfl ?_); refine goesL_ (some 10) rfl rfl Tryz.func8 (by kernel_rfl) rfl #[] rfl (by (try simp only [List.map_toArray, List.map_cons, List.map_nil]); first | done | rfl | (simp only [List.length_drop, List.length_take]; rfl)) ?_; (with_reducible refine (spillwaylaw7_known.calls k  true _ ?side1 A2.out).mono ?_); (case side1 => exact LaidW.below HLW.out (by repeat (first | (with_reducible first | exact HB.out | apply below_alloc | apply pw_below_drewN | apply below_drew1) | exact HB.out | (refine below_set ?_ (Aside0.out ?hge); (case hge => assumption))))); rintro e w25 ⟨rfl, hb⟩; refine ⟨_, rfl, ?_⟩; have n0_ := Aside0.mk (below_step (by repeat (first | (with_reducible first | exact HB.out | apply below_alloc | apply pw_below_drewN | apply below_drew1) | exact HB.out)) hb); clear HB; have HB := n0_; clear n0_; (try clear hb); (try clear hb2); (try clear hk); (try clear hi)) | ((with_reducible refine gate_callee (f := 9) rfl ?_); refine goesL_ (some 17) rfl rfl Tryz.func9 (by kernel_rfl) rfl #[.string a0] rfl (by (try simp only [List.map_toArray, List.map_cons, List.map_nil]); first | done | rfl | (simp only [List.length_drop, List.length_take]; rfl)) ?_; (with_reducible refine (lex_Scan.calls k a0 t352 t353 t354 _ ?side1 A6.out).mono ?_); (case side1 => exact LaidW.below HLW.out (by repeat (first | (with_reducible first | exact HB.out | apply below_alloc | apply pw_below_drewN | apply below_drew1) | exact HB.out | (refine below_set ?_ (Aside0.out ?hge); (case hge => assumption))))); rintro e w26 ⟨v355, rfl, ho0, hb⟩; refine ⟨_, rfl, ?_⟩; have n0_ := Aside0.mk (Kd.R_lower ho0 (below_size (by repeat (first | (with_reducible first | exact HB.out | apply below_alloc | apply pw_below_drewN | apply below_drew1) | exact HB.out)))); have n1_ := Aside0.mk (below_step (by repeat (first | (with_reducible first | exact HB.out | apply below_alloc | apply pw_below_drewN | apply below_drew1) | exact HB.out)) hb); clear HB; have HO356 := n0_; have HB := n1_; clear n0_ n1_; (try clear hb); (try clear hb2); (try clear hk); (try clear hi); (try clear ho0); obtain ⟨Ao27, co27, eo27⟩ := Kd.R_slice HO356.out; subst eo27))
    go_ret
    exact ⟨by first | rfl | (simp [errW_none, errW_some] <;> rfl) | (simp [*, errW_none, errW_some] <;> rfl), by repeat (first | (with_reducible first | exact HB.out | apply below_alloc | apply pw_below_drewN | apply below_drew1) | exact HB.out)⟩
 ·replace c3 := Bool.eq_false_iff.mpr c3
  subst c3
  have H1 : (none) = some r := by rw [if_neg (show ¬ (false = true) by decide)] at H; exact H
  clear H
  have H := H1
  clear H1
  exact absurd H (by simp)

def spillwaylaw7_LexBack.Pure : Prop := ∀ (a0 : ByteArray), a0.size ≤ 140737488351232 → ∃ k, spillwaylaw7_LexBack.f k a0 = some true
theorem spillwaylaw7_LexBack.walk (P : spillwaylaw7_LexBack.Pure) (a0 : ByteArray) (w : World) (w0 : a0.size ≤ 140737488351232) (hg_ : LaidW w) :
  Calls Tryz.prog 4 #[.string a0] w fun e w' => e = .returned (.bool true) ∧ Below w.heap.size w w' := by
 obtain ⟨k, h⟩ := P a0 w0
 refine (spillwaylaw7_LexBack.calls k a0 true w hg_ h rfl).mono ?_
 rintro e w' ⟨rfl, hd⟩
 exact ⟨rfl, hd⟩

end Go.Proofs.YtnjobjogddjelaaGreatDoor.Print
end

section
namespace Go.Proofs.YtnjobjogddjelaaGreatDoor.PureN
open Go.RowKit Go.Proofs.YtnjobjogddjelaaGreatDoor.Print Go.Proofs.YtnjobjogddjelaaGreatDoor.Pure Go.Proofs.YtnjobjogddjelaaGreatDoorW.PrintWords Go.Proofs.YtnjobjogddjelaaGreatDoorW.PrintLast Go.Proofs.YtnjobjogddjelaaGreatDoorW.PrintMore

/-! What a scanned sign can be. -/
def tokOk (t : Tok) : Prop := R t.v ∧ 0 ≤ t.n ∧ t.n ≤ 100 ∧ t.text.length ≤ 600 ∧ (oneS t).length ≤ 600
theorem durS_le (d : List UInt8) (t : Nat) (h : durS d = some t) : t ≤ 100 := by
 unfold durS at h
 split at h
 ·rename_i hc
  have := Option.some.inj h
  omega
 ·simp at h
theorem read_ok : ∀ (l : List UInt8) (x : Tok × Nat), l.length ≤ 600 → readS l = some x → tokOk x.1
 | [], x, _, h => by simp [readS] at h
 | c :: r, x, hl, h => by
  have h1 := read_one _ x h
  have h2 := readS_pos _ x h
  have ho : (oneS x.1).length ≤ 600 := by omega
  suffices hs : R x.1.v ∧ 0 ≤ x.1.n ∧ x.1.n ≤ 100 ∧ x.1.text.length ≤ 600 from ⟨hs.1, hs.2.1, hs.2.2.1, hs.2.2.2, ho⟩
  clear h1 h2 ho
  have r0 : R 0 := by unfold R; omega
  rw [readS] at h
  split at h
  ·unfold readId at h
   split at h
   ·rw [← Option.some.inj h]
    exact ⟨r0, by simp, by simp, by have := tw_le (p := idc) (c :: r); show (List.takeWhile idc (c :: r)).length ≤ 600; omega⟩
   ·simp at h
  ·split at h
   ·rename_i hD
    unfold readNum at h
    split at h
    ·cases e : durS ((c :: r).takeWhile isD) with
     | none => rw [e] at h; simp at h
     | some t =>
      rw [e] at h
      rw [← Option.some.inj h]
      have := durS_le _ t e
      exact ⟨r0, by show (0 : Int) ≤ (t : Int); omega, by show (t : Int) ≤ 100; omega, by simp⟩
    ·cases e : rdNum ((c :: r).take (numLen (c :: r))) with
     | none => rw [e] at h; simp at h
     | some v =>
      rw [e] at h
      obtain ⟨q, n1, n2, n3⟩ := num_shape (c :: r)
      rw [n1] at e
      obtain ⟨N, rfl, hN, _⟩ := rd_body _ q (tw_D _) (tw_ne r hD) n3 v e
      rw [← Option.some.inj h]
      exact ⟨by show R (N : Int); unfold R; omega, by simp, by simp, by simp⟩
   ·split at h
    ·unfold readText at h
     cases e : unq r with
     | none => rw [e] at h; simp at h
     | some y =>
      rw [e] at h
      simp only at h
      split at h
      ·rename_i hc
       rw [← Option.some.inj h]
       exact ⟨r0, by simp, by simp, by have := hc.1; show y.1.length ≤ 600; omega⟩
      ·simp at h
    ·unfold readSign at h
     split at h
     ·simp at h
     ·rw [← Option.some.inj h]
      exact ⟨r0, by simp, by simp, by show ((c :: r).take _).length ≤ 600; rw [List.length_take]; omega⟩
theorem scan_ok (n : Nat) : ∀ (l : List UInt8) (i : Nat) (ts : List Tok), l.length ≤ n → l.length ≤ 600 → scanS i l = .ok ts → ∀ t ∈ ts, tokOk t := by
 have hend : ∀ i : Nat, tokOk (endT i) := fun i => ⟨by show R 0; unfold R; omega, by simp [endT], by simp [endT], by simp [endT], by simp [endT, oneS]⟩
 induction n with
 | zero =>
  intro l i ts h hb hs
  cases l with
  | nil =>
   rw [scanS_nil] at hs
   injection hs with hs
   rw [← hs]
   intro t ht
   rw [List.mem_singleton] at ht
   rw [ht]
   exact hend i
  | cons c r => simp at h
 | succ n ih =>
  intro l i ts h hb hs
  cases l with
  | nil =>
   rw [scanS_nil] at hs
   injection hs with hs
   rw [← hs]
   intro t ht
   rw [List.mem_singleton] at ht
   rw [ht]
   exact hend i
  | cons c r =>
   have hlen : (c :: r).length = r.length + 1 := rfl
   cases hbl : blank c
   ·cases e : readS (c :: r) with
    | none => rw [scanS_bad _ _ _ hbl e] at hs; simp at hs
    | some x =>
     have hok := read_ok _ x hb e
     rw [scanS_good _ _ _ x e] at hs
     cases e2 : scanS (i + x.2) (r.drop (x.2 - 1)) with
     | error j => rw [e2] at hs; simp at hs
     | ok ts' =>
      rw [e2] at hs
      injection hs with hs
      have := ih (r.drop (x.2 - 1)) (i + x.2) ts' (by rw [List.length_drop]; omega) (by rw [List.length_drop]; omega) e2
      rw [← hs]
      intro t ht
      rw [List.mem_cons] at ht
      rcases ht with rfl | ht
      ·exact hok
      ·exact this t ht
   ·rw [scanS_blank _ _ _ hbl] at hs
    exact ih r (i + 1) ts (by omega) (by omega) hs
/-! A sign's text. -/
theorem itoa_eq (n : Int) (h0 : 0 ≤ n) (h1 : n ≤ 100) : strconv_Itoa.f (mx n 0) = some ⟨(Lib.decDigits n.toNat).toArray⟩ := by
 have hm : mx n 0 = n := by unfold mx; split <;> omega
 rw [hm]
 unfold strconv_Itoa.f
 rw [if_pos ⟨by omega, by omega⟩]
 unfold Lib.itoa
 rw [if_neg (by omega)]
theorem one_eq (t : Tok) (h : tokOk t) (at_ : Int) : lex_one.f t.kind at_ ⟨t.text.toArray⟩ false t.v t.n = some ⟨(oneS t).toArray⟩ := by
 obtain ⟨hv, hn0, hn1, ht, _⟩ := h
 unfold lex_one.f oneS
 by_cases h2 : t.kind = 2
 ·rw [if_pos h2, if_pos h2, fixprint_eq false t.v hv]
  rfl
 ·rw [if_neg h2, if_neg h2]
  by_cases h3 : t.kind = 3
  ·rw [if_pos h3, if_pos h3, itoa_eq _ hn0 hn1, Option.bind_some, size_list]
   have := dec_len t.n.toNat 3 (by omega) (by omega)
   rw [if_pos (by omega)]
   rw [show (⟨#[116]⟩ : ByteArray) = ⟨[116].toArray⟩ from rfl, app_list]
  ·rw [if_neg h3, if_neg h3]
   by_cases h4 : t.kind = 4
   ·rw [if_pos h4, if_pos h4]
    unfold label_Quote.f
    rw [size_list, if_pos (by omega)]
    rfl
   ·rw [if_neg h4, if_neg h4]
    by_cases h1 : t.kind = 1
    ·rw [if_pos h1, if_pos (Or.inl h1)]
    ·rw [if_neg h1]
     by_cases h5 : t.kind = 5
     ·rw [if_pos h5, if_pos (Or.inr h5)]
     ·rw [if_neg h5, if_neg (fun h => h.elim h1 h5)]
theorem toS_f (t : Tok) : (toS t).f0 = t.kind ∧ (toS t).f1 = t.place ∧ (toS t).f2 = ⟨t.text.toArray⟩ ∧ (toS t).f3.f0 = false ∧ (toS t).f3.f1 = t.v ∧ (toS t).f4 = t.n := ⟨rfl, rfl, rfl, rfl, rfl, rfl⟩
theorem rd_map (ts : List Tok) (i : Nat) (h : i < ts.length) : rd_T36 (ts.map toS) (i : Int) = toS ts[i] := by
 rw [rd_at _ i (by rw [List.length_map]; exact h), List.getElem_map]
/-! The signs' text: lex.Print. -/
def partsT (ts : List Tok) : List (List UInt8) := (ts.map oneS).filter fun p => !p.isEmpty
theorem parts_snoc (ts : List Tok) (t : Tok) : partsT (ts ++ [t]) = if oneS t = [] then partsT ts else partsT ts ++ [oneS t] := by
 unfold partsT
 rw [List.map_append, List.filter_append]
 by_cases h : oneS t = []
 ·simp [h]
 ·have : (oneS t).isEmpty = false := by cases e : oneS t with | nil => exact absurd e h | cons a b => rfl
  simp [h, this]
theorem join_is : ∀ ps : List (List UInt8), Lib.join ps [32] = joinS ps
 | [] => rfl
 | [p] => by rw [Lib.join_one]; rfl
 | p :: q :: r => by
  have ih := join_is (q :: r)
  rw [joinS, ← ih]
  simp [Lib.join, List.intercalate, List.intersperse]
theorem parts_len (ts : List Tok) : (partsT ts).length ≤ ts.length := by
 have h := List.length_filter_le (fun p : List UInt8 => !p.isEmpty) (ts.map oneS)
 rw [List.length_map] at h
 exact h
theorem print_l0 (ts : List Tok) (hl : ts.length ≤ 10000) (hok : ∀ t ∈ ts, tokOk t) (hp : (printT ts).length ≤ 1000000) : ∀ (d k i : Nat), i + d = ts.length → d < k →
  lex_Print.l0 k ((partsT (ts.take i)).map fun p => (⟨p.toArray⟩ : ByteArray)) (ts.map toS) (ts.length : Int) (i : Int) = some ⟨(printT ts).toArray⟩
 | 0, k, i, h, hk => by
  obtain ⟨k, rfl⟩ : ∃ m, k = m + 1 := ⟨k - 1, by omega⟩
  rw [lex_Print.l0, if_neg (by omega), List.take_of_length_le (by omega)]
  unfold strings_Join.f
  have e : (((partsT ts).map fun p => (⟨p.toArray⟩ : ByteArray)).map fun x => x.data.toList) = partsT ts := by
   rw [List.map_map]
   conv => rhs; rw [← List.map_id (partsT ts)]
   rfl
  rw [e, show (⟨#[32]⟩ : ByteArray).data.toList = [32] from rfl, join_is]
  have hpt : joinS (partsT ts) = printT ts := rfl
  have := parts_len ts
  rw [hpt, if_pos ⟨by rw [List.length_map]; omega, by omega⟩]
  rfl
 | d + 1, k, i, h, hk => by
  obtain ⟨k, rfl⟩ : ∃ m, k = m + 1 := ⟨k - 1, by omega⟩
  have hi : i < ts.length := by omega
  have ih := print_l0 ts hl hok hp d k (i + 1) (by omega) (by omega)
  have htk : ts.take (i + 1) = ts.take i ++ [ts[i]] := List.take_succ_eq_append_getElem hi
  rw [htk, parts_snoc] at ih
  rw [lex_Print.l0, if_pos (by omega), if_pos (by omega), List.length_map, if_pos (by omega), rd_map ts i hi]
  obtain ⟨a0, a1, a2, a3, a4, a5⟩ := toS_f ts[i]
  rw [a0, a1, a2, a3, a4, a5, one_eq ts[i] (hok _ (List.getElem_mem hi)), Option.bind_some, toList_list, w1 i (by omega)]
  by_cases ho : oneS ts[i] = []
  ·rw [if_pos ho]
   rw [if_pos ho] at ih
   exact ih
  ·rw [if_neg ho]
   rw [if_neg ho, List.map_append] at ih
   have hle := parts_len (ts.take i)
   rw [List.length_take] at hle
   rw [if_pos (by rw [List.length_map]; omega)]
   exact ih
theorem lexprint_eq (ts : List Tok) (k : Nat) (hl : ts.length ≤ 10000) (hok : ∀ t ∈ ts, tokOk t) (hp : (printT ts).length ≤ 1000000) (hk : 10000 < k) : lex_Print.f k (ts.map toS) = some ⟨(printT ts).toArray⟩ := by
 have := print_l0 ts hl hok hp ts.length k 0 (by omega) (by omega)
 unfold lex_Print.f
 rw [List.length_map]
 exact this
/-! The document's print. -/
theorem ext_one (l : List UInt8) (i : Nat) (h : i < l.length) : (⟨l.toArray⟩ : ByteArray).extract i (i + 1) = ⟨[l[i]].toArray⟩ := by
 apply ByteArray.ext
 apply Array.ext'
 rw [ByteArray.data_extract, Array.toList_extract]
 show (l.drop i).take (i + 1 - i) = [l[i]]
 rw [drop_cons l i h, show i + 1 - i = 1 by omega]
 rfl
theorem rquote_l0 (l : List UInt8) (hl : l.length ≤ 700) : ∀ (d k i : Nat) (acc : List UInt8), i + d = l.length → d < k → acc.length ≤ 2 * i + 1 →
  spillwayref3_Quote.l0 k ⟨l.toArray⟩ ⟨acc.toArray⟩ (i : Int) = some ⟨(acc ++ (quoteB (l.drop i) ++ [34])).toArray⟩
 | 0, k, i, acc, h, hk, ha => by
  obtain ⟨k, rfl⟩ : ∃ m, k = m + 1 := ⟨k - 1, by omega⟩
  rw [spillwayref3_Quote.l0, size_list, if_neg (by omega), size_list, if_pos (by omega), List.drop_eq_nil_of_le (by omega), show (⟨#[34]⟩ : ByteArray) = ⟨[34].toArray⟩ from rfl, app_list]
  rfl
 | d + 1, k, i, acc, h, hk, ha => by
  obtain ⟨k, rfl⟩ : ∃ m, k = m + 1 := ⟨k - 1, by omega⟩
  have hi : i < l.length := by omega
  rw [spillwayref3_Quote.l0, size_list, if_pos (by omega), if_pos (by omega), bt_list l i hi, w1 i (by omega), Int.toNat_natCast, Int.toNat_natCast, ext_one l i hi, drop_cons l i hi, quoteB]
  generalize l[i] = c
  rw [show (⟨#[92]⟩ : ByteArray) = ⟨[92].toArray⟩ from rfl, app_list, app_list, app_list, size_list, size_list, size_list]
  have hesc := rquote_l0 l hl d k (i + 1) ((acc ++ [92]) ++ [c]) (by omega) (by omega) (by simp only [List.length_append, List.length_singleton]; omega)
  have hord := rquote_l0 l hl d k (i + 1) (acc ++ [c]) (by omega) (by omega) (by simp only [List.length_append, List.length_singleton]; omega)
  have b1 : acc.length + 1 ≤ 9223372036854775807 := by omega
  have b2 : (i : Int) ≤ ((i + 1 : Nat) : Int) := by omega
  have b3 : ((i + 1 : Nat) : Int) ≤ (l.length : Int) := by omega
  have b4 : (acc ++ [92]).length + [c].length ≤ 9223372036854775807 := by simp only [List.length_append, List.length_singleton]; omega
  have b5 : acc.length + [c].length ≤ 9223372036854775807 := by simp only [List.length_singleton]; omega
  by_cases c34 : c = 34
  ·rw [if_pos (show (c.toNat : Int) = 34 from eq_int c 34 (by omega) c34), if_pos b1, if_pos b2, if_pos b3, if_pos b4, hesc, if_pos (Or.inl c34)]
   simp
  ·rw [if_neg (show ¬ (c.toNat : Int) = 34 from ne_int c 34 (by omega) c34)]
   by_cases c92 : c = 92
   ·rw [if_pos (show (c.toNat : Int) = 92 from eq_int c 92 (by omega) c92), if_pos b1, if_pos b2, if_pos b3, if_pos b4, hesc, if_pos (Or.inr c92)]
    simp
   ·rw [if_neg (show ¬ (c.toNat : Int) = 92 from ne_int c 92 (by omega) c92), if_pos b2, if_pos b3, if_pos b5, hord, if_neg (fun h => h.elim c34 c92)]
    simp
theorem rquote_eq (l : List UInt8) (k : Nat) (hl : l.length ≤ 700) (hk : 700 < k) : spillwayref3_Quote.f k ⟨l.toArray⟩ = some ⟨(quote l).toArray⟩ := by
 have := rquote_l0 l hl l.length k 0 [34] (by omega) (by omega) (by simp)
 exact this
def stepP (s t : List UInt8) : List UInt8 := (if s ≠ [] ∧ t ≠ [] then s ++ [32] else s) ++ t
theorem tailP (G : ByteArray → Option ByteArray) (s t : List UInt8) (h : s.length + t.length ≤ 1000000000) :
  (if (⟨s.toArray⟩ : ByteArray).toList = ([] : List UInt8) then (if (⟨s.toArray⟩ : ByteArray).size + (⟨t.toArray⟩ : ByteArray).size ≤ 9223372036854775807 then G (⟨s.toArray⟩ ++ ⟨t.toArray⟩) else none) else (if (⟨t.toArray⟩ : ByteArray).toList = ([] : List UInt8) then (if (⟨s.toArray⟩ : ByteArray).size + (⟨t.toArray⟩ : ByteArray).size ≤ 9223372036854775807 then G (⟨s.toArray⟩ ++ ⟨t.toArray⟩) else none) else (if (⟨s.toArray⟩ : ByteArray).size + 1 ≤ 9223372036854775807 then (if ((⟨s.toArray⟩ : ByteArray) ++ (⟨#[32]⟩ : ByteArray)).size + (⟨t.toArray⟩ : ByteArray).size ≤ 9223372036854775807 then G ((⟨s.toArray⟩ ++ (⟨#[32]⟩ : ByteArray)) ++ ⟨t.toArray⟩) else none) else none))) = G ⟨(stepP s t).toArray⟩ := by
 unfold stepP
 rw [toList_list, toList_list, show (⟨#[32]⟩ : ByteArray) = ⟨[32].toArray⟩ from rfl, app_list, app_list, app_list, size_list, size_list, size_list]
 by_cases hs : s = []
 ·rw [if_pos hs, if_pos (by omega), if_neg (fun h => h.1 hs)]
 ·rw [if_neg hs]
  by_cases ht : t = []
  ·rw [if_pos ht, if_pos (by omega), if_neg (fun h => h.2 ht)]
  ·rw [if_neg ht, if_pos (by omega), if_pos (by rw [List.length_append, List.length_singleton]; omega), if_pos ⟨hs, ht⟩]
theorem rprint_up (v : Int) (h : R v) (k : Nat) (hk : 300 ≤ k) : spillwayref2_Print.f k false v = some ⟨(printS false v).toArray⟩ := by
 have := up_k (f := fun k => spillwayref2_Print.f k false v) (fun k => spillwayref2_Print.mono false v k) (rprint_eq false v h) (k - 300)
 rwa [show 300 + (k - 300) = k by omega] at this
theorem rdig_up (n : Nat) (h : n < 18446744073709551616) (k : Nat) (hk : 100 ≤ k) : spillwayref2_Digits.f k (n : Int) = some ⟨(Lib.decDigits n).toArray⟩ := by
 have := up_k (f := fun k => spillwayref2_Digits.f k (n : Int)) (fun k => spillwayref2_Digits.mono (n : Int) k) (rDigits_eq 100 n (by omega) (by omega) h) (k - 100)
 rwa [show 100 + (k - 100) = k by omega] at this
theorem rpt_l0 (ts : List Tok) (hl : ts.length ≤ 10000) (hok : ∀ t ∈ ts, tokOk t) : ∀ (d k i : Nat) (s : List UInt8), i + d = ts.length → 2 * d + 800 < k → s.length ≤ 1000 * i →
  spillwayref7_PrintTokens.l0 k (ts.map toS) ⟨s.toArray⟩ (i : Int) = some ⟨(refPrint s (ts.drop i)).toArray⟩
 | 0, k, i, s, h, hk, hs => by
  obtain ⟨k, rfl⟩ : ∃ m, k = m + 1 := ⟨k - 1, by omega⟩
  rw [spillwayref7_PrintTokens.l0, List.length_map, if_neg (by omega), List.drop_eq_nil_of_le (by omega)]
  rfl
 | d + 1, k, i, s, h, hk, hs => by
  obtain ⟨k, rfl⟩ : ∃ m, k = m + 1 + 1 := ⟨k - 2, by omega⟩
  have hi : i < ts.length := by omega
  have hd : ts.drop i = ts[i] :: ts.drop (i + 1) := List.drop_eq_getElem_cons hi
  have hrd := rd_map ts i hi
  have hokt := hok _ (List.getElem_mem hi)
  have hT : (ts.map toS).length = ts.length := List.length_map _
  have ih := fun s' hs' => rpt_l0 ts hl hok d k (i + 1) s' (by omega) (by omega) hs'
  rw [hd]
  generalize ts[i] = t at hd hrd hokt
  obtain ⟨hv, hn0, hn1, htx, ho⟩ := hokt
  have hst : (stepP s (oneS t)).length ≤ 1000 * (i + 1) := by
   unfold stepP
   split <;> simp only [List.length_append, List.length_singleton] <;> omega
  have hG : spillwayref7_PrintTokens.l0 k (ts.map toS) ⟨(stepP s (oneS t)).toArray⟩ (wrap64 ((i : Int) + 1)) = some ⟨(refPrint s (t :: ts.drop (i + 1))).toArray⟩ := by
   rw [w1 i (by omega), ih _ hst]
   rfl
  have hb : s.length + (oneS t).length ≤ 1000000000 := by omega
  have hTail := (tailP (fun x => spillwayref7_PrintTokens.l0 k (ts.map toS) x (wrap64 ((i : Int) + 1))) s (oneS t) hb).trans hG
  have h0 : (0 : Int) ≤ (i : Int) := by omega
  have h1 : (i : Int) < ((ts.map toS).length : Int) := by omega
  obtain ⟨a0, a1, a2, a3, a4, a5⟩ := toS_f t
  have hflag : spillwayref7_PrintTokens.l0 (k + 1 + 1) (ts.map toS) ⟨s.toArray⟩ (i : Int) = spillwayref7_PrintTokens.j1 (k + 1) (ts.map toS) ⟨s.toArray⟩ (i : Int) ⟨#[]⟩ t.kind (decide (t.kind = 1) || decide (t.kind = 5)) := by
   rw [spillwayref7_PrintTokens.l0, if_pos h1, if_pos h0, hrd, a0]
   by_cases k1 : t.kind = 1
   ·rw [if_pos k1, k1]
    rfl
   ·rw [if_neg k1, decide_eq_false k1, Bool.false_or]
    rfl
  rw [hflag, spillwayref7_PrintTokens.j1]
  clear hflag ih hst hG
  by_cases kt : t.kind = 1 ∨ t.kind = 5
  ·have hone : oneS t = t.text := by
    unfold oneS
    rcases kt with e | e <;> rw [e] <;> rfl
   rw [hone] at hTail
   have hfl : (decide (t.kind = 1) || decide (t.kind = 5)) = true := by
    rcases kt with e | e <;> simp [e]
   rw [hfl, if_pos rfl, if_pos h0, if_pos h1, hrd, a2]
   exact hTail
  ·have hfl : (decide (t.kind = 1) || decide (t.kind = 5)) = false := by
    have k1 : ¬ t.kind = 1 := fun e => kt (Or.inl e)
    have k5 : ¬ t.kind = 5 := fun e => kt (Or.inr e)
    simp [k1, k5]
   rw [hfl, if_neg (by simp)]
   by_cases k2 : t.kind = 2
   ·have hone : oneS t = printS false t.v := by unfold oneS; rw [if_pos k2]
    rw [hone] at hTail
    rw [if_pos k2, if_pos h0, if_pos h1, hrd, a3, a4, rprint_up t.v hv k (by omega), Option.bind_some]
    exact hTail
   ·rw [if_neg k2]
    by_cases k3 : t.kind = 3
    ·have hone : oneS t = Lib.decDigits t.n.toNat ++ [116] := by unfold oneS; rw [if_neg k2, if_pos k3]
     rw [hone] at hTail
     have hm : IntKind.u64.wrap (mx 0 t.n) = ((t.n.toNat : Nat) : Int) := by
      rw [u64_mod]
      unfold mx
      split <;> omega
     have hlen := dec_len t.n.toNat 3 (by omega) (by omega)
     rw [if_pos k3, if_pos h0, if_pos h1, hrd, a5, hm, rdig_up _ (by omega) k (by omega), Option.bind_some, size_list, if_pos (by omega), show (⟨#[116]⟩ : ByteArray) = ⟨[116].toArray⟩ from rfl, app_list]
     exact hTail
    ·rw [if_neg k3]
     by_cases k4 : t.kind = 4
     ·have hone : oneS t = quote t.text := by unfold oneS; rw [if_neg k2, if_neg k3, if_pos k4]
      rw [hone] at hTail
      rw [if_pos k4, if_pos h0, if_pos h1, hrd, a2, rquote_eq t.text k (by omega) (by omega), Option.bind_some]
      exact hTail
     ·have hone : oneS t = [] := by unfold oneS; rw [if_neg k2, if_neg k3, if_neg k4, if_neg kt]
      rw [hone] at hTail
      rw [if_neg k4]
      exact hTail
theorem rpt_eq (ts : List Tok) (k : Nat) (hl : ts.length ≤ 10000) (hok : ∀ t ∈ ts, tokOk t) (hk : 21000 < k) : spillwayref7_PrintTokens.f k (ts.map toS) = some ⟨(printT ts).toArray⟩ := by
 have := rpt_l0 ts hl hok ts.length k 0 [] (by omega) (by omega) (by simp)
 rw [List.drop_zero, refPrint_eq ts [], if_pos rfl] at this
 exact this
/-! LexBack. -/
theorem zer_eqv (ts vs : List Tok) (h : vs.map zer = ts.map zer) (i : Nat) (h1 : i < (ts.map toS).length) (h2 : i < (vs.map toS).length) : eqv false (ts.map toS)[i] (vs.map toS)[i] := by
 rw [List.length_map] at h1 h2
 have e : zer vs[i] = zer ts[i] := by
  have e1 : (vs.map zer)[i]'(by rw [List.length_map]; exact h2) = (ts.map zer)[i]'(by rw [List.length_map]; exact h1) := by
   simp only [h]
  rwa [List.getElem_map, List.getElem_map] at e1
 rw [List.getElem_map, List.getElem_map]
 generalize vs[i] = v at e
 generalize ts[i] = t at e
 obtain ⟨k1, p1, x1, v1, n1⟩ := v
 obtain ⟨k2, p2, x2, v2, n2⟩ := t
 unfold zer at e
 simp only [Tok.mk.injEq, true_and] at e
 obtain ⟨rfl, rfl, rfl, rfl⟩ := e
 exact ⟨rfl, rfl, rfl, rfl, fun h => by simp at h⟩
theorem scanW_of (l : List UInt8) (h : l.length ≤ 600) (x : Except Nat (List Tok)) (hx : scanS 0 l = x) : scanW l = scanO [] x := by
 unfold scanW
 rw [if_neg (by omega), hx]
theorem LexBack (a0 : ByteArray) : spillwaylaw7_LexBack.f 30000 a0 = some true := by
 obtain ⟨⟨l⟩⟩ := a0
 unfold spillwaylaw7_LexBack.f
 rw [known_eq 30000 (by omega), Option.bind_some, if_pos rfl]
 split
 ·rfl
 ·rename_i hlen
  have hlen : l.length ≤ 250 := by
   have : ¬ (l.length : Int) > 250 := hlen
   omega
  rw [lexscan_eq l 30000 (by omega), Option.bind_some]
  cases e : scanS 0 l with
  | error j =>
   rw [scanW_of l (by omega) _ e]
   rfl
  | ok ts =>
   rw [scanW_of l (by omega) _ e]
   obtain ⟨hpl, vs, v1, v2, v3, v4⟩ := back l ts e
   have hok := scan_ok _ l 0 ts (Nat.le_refl _) (by omega) e
   have hokv := scan_ok _ (printT ts) 0 vs (Nat.le_refl _) (by omega) v1
   have hl1 := scan_len _ l 0 ts (Nat.le_refl _) e
   show (if (0 : Int) = 0 then _ else _) = _
   rw [if_pos rfl]
   show ((lex_Print.f 30000 (ts.map toS)).bind _) = _
   rw [lexprint_eq ts 30000 (by omega) hok (by omega) (by omega), Option.bind_some, lexscan_eq (printT ts) 30000 (by omega), Option.bind_some, scanW_of _ (by omega) _ v1]
   show ((spillwayref7_PrintTokens.f 30000 (ts.map toS)).bind _) = _
   rw [rpt_eq ts 30000 (by omega) hok (by omega), Option.bind_some, if_pos rfl]
   show (if (0 : Int) = 0 then _ else _) = _
   rw [if_pos rfl]
   show ((spillwaylaw7_same.f 30000 (ts.map toS) (vs.map toS) false).bind _) = _
   rw [same_eq (ts.map toS) (vs.map toS) false 30000 (by rw [List.length_map, List.length_map, v4]) (by rw [List.length_map]; omega) (by rw [List.length_map]; omega) (fun i h => zer_eqv ts vs v2 i h (by rw [List.length_map] at h ⊢; omega)), Option.bind_some, if_pos rfl]
   show ((lex_Print.f 30000 (vs.map toS)).bind _) = _
   rw [lexprint_eq vs 30000 (by omega) hokv (by rw [v3]; omega) (by omega), Option.bind_some, v3]
   simp
end Go.Proofs.YtnjobjogddjelaaGreatDoor.PureN
end
