-- PRINTED by print.py (a twelfth state) out of the translation. Not trusted: Lean checks it.
import Derived.Test.YtjaolddgnijgiaaDoorPrint0
import Derived.Test.YtjaolddgnijgiaaDoorPrint10
import Derived.Test.YtjaolddgnijgiaaDoorPrint17
import Derived.Test.YtjaolddgnijgiaaDoorPrint18
namespace Go.Proofs.YtjaolddgnijgiaaDoor.Print
open Go.RowKit Go.Proofs.YtjaolddgnijgiaaDoorX Go.Proofs.YtjaolddgnijgiaaDoorW.PrintWords Go.Proofs.YtjaolddgnijgiaaDoorW.PrintLast Go.Proofs.YtjaolddgnijgiaaDoorW.PrintMore
attribute [local go_sem] max2_int min2_int max_two min_two max_three min_three max_four min_four   -- for this text's walks alone
set_option linter.unusedVariables false
set_option linter.unusedSimpArgs false

/-! ### spillwayref2_Parse: function 14 -/
mutual
def spillwayref2_Parse.j0 : Nat → ByteArray → Bool → Option (Bool × Int × Bool)
  | 0, _, _ => none
  | k + 1, x0, x4 => if x4 = true then (if 1 ≤ (x0.size : Int) then (spillwayref2_Parse.j1 k (x0.extract 1 x0.size) x4) else (none)) else (spillwayref2_Parse.j1 k x0 x4)
def spillwayref2_Parse.j1 : Nat → ByteArray → Bool → Option (Bool × Int × Bool)
  | 0, _, _ => none
  | k + 1, x0, x4 => (spillwayref2_digits.f k x0).bind fun t186 => (if t186 < 1 then (spillwayref2_Parse.j2 k x0 x4 t186 true) else (if t186 > 13 then (spillwayref2_Parse.j2 k x0 x4 t186 true) else (if t186 > 1 then (if 0 < (x0.size : Int) then (spillwayref2_Parse.j2 k x0 x4 t186 ((bt x0 0) == 48)) else (none)) else (spillwayref2_Parse.j2 k x0 x4 t186 false))))
def spillwayref2_Parse.j2 : Nat → ByteArray → Bool → Int → Bool → Option (Bool × Int × Bool)
  | 0, _, _, _, _ => none
  | k + 1, x0, x4, x5, x41 => if x41 = true then (some (false, 0, false)) else (spillwayref2_Parse.l0 k x0 x4 x5 0 0)
def spillwayref2_Parse.l0 : Nat → ByteArray → Bool → Int → Int → Int → Option (Bool × Int × Bool)
  | 0, _, _, _, _, _ => none
  | k + 1, x0, x4, x5, x6, x7 => if x7 < x5 then (if 0 ≤ x7 then (if x7 < (x0.size : Int) then (spillwayref2_Parse.l0 k x0 x4 x5 (IntKind.u64.wrap ((IntKind.u64.wrap (x6 * 10)) + (((bt x0 x7) - 48) % 256))) (wrap64 (x7 + 1))) else (none)) else (none)) else (if (x0.size : Int) > x5 then (if 0 ≤ (wrap64 (x5 + 1)) then (if (wrap64 (x5 + 1)) ≤ (x0.size : Int) then ((spillwayref2_digits.f k (x0.extract ((wrap64 (x5 + 1)) : Int).toNat x0.size)).bind fun t187 => (if 0 ≤ x5 then (if x5 < (x0.size : Int) then (if (bt x0 x5) = 46 then (if t187 < 1 then (spillwayref2_Parse.j4 k x0 x4 x5 x6 0 t187 true) else (if t187 > 6 then (spillwayref2_Parse.j4 k x0 x4 x5 x6 0 t187 true) else (spillwayref2_Parse.j4 k x0 x4 x5 x6 0 t187 ((wrap64 ((wrap64 (x5 + 1)) + t187)) != (x0.size : Int))))) else (spillwayref2_Parse.j4 k x0 x4 x5 x6 0 t187 true)) else (none)) else (none))) else (none)) else (none)) else ((spillwayref2_signed.f (IntKind.u64.wrap ((IntKind.u64.wrap (x6 * 1000000)) + 0)) x4).bind fun bt190 => (some (bt190.1, bt190.2, true))))
def spillwayref2_Parse.j4 : Nat → ByteArray → Bool → Int → Int → Int → Int → Bool → Option (Bool × Int × Bool)
  | 0, _, _, _, _, _, _, _ => none
  | k + 1, x0, x4, x5, x6, x8, x9, x85 => if x85 = true then (some (false, 0, false)) else (spillwayref2_Parse.l1 k x0 x4 x5 x6 x8 x9 0)
def spillwayref2_Parse.l1 : Nat → ByteArray → Bool → Int → Int → Int → Int → Int → Option (Bool × Int × Bool)
  | 0, _, _, _, _, _, _, _ => none
  | k + 1, x0, x4, x5, x6, x8, x9, x10 => if x10 < 6 then (if x10 < x9 then (if 0 ≤ (wrap64 ((wrap64 (x5 + 1)) + x10)) then (if (wrap64 ((wrap64 (x5 + 1)) + x10)) < (x0.size : Int) then (spillwayref2_Parse.l1 k x0 x4 x5 x6 (IntKind.u64.wrap ((IntKind.u64.wrap (x8 * 10)) + (((bt x0 (wrap64 ((wrap64 (x5 + 1)) + x10))) - 48) % 256))) x9 (wrap64 (x10 + 1))) else (none)) else (none)) else (spillwayref2_Parse.l1 k x0 x4 x5 x6 (IntKind.u64.wrap (x8 * 10)) x9 (wrap64 (x10 + 1)))) else ((spillwayref2_signed.f (IntKind.u64.wrap ((IntKind.u64.wrap (x6 * 1000000)) + x8)) x4).bind fun bt188 => (some (bt188.1, bt188.2, true)))
end
def spillwayref2_Parse.f (k : Nat) (a0 : ByteArray) : Option (Bool × Int × Bool) := if a0.toList = ([111, 118, 102] : List UInt8) then ((spillwayref2_Ovf.f).bind fun bt184 => (some (bt184.1, bt184.2, true))) else (if (a0.size : Int) > 0 then (if 0 < (a0.size : Int) then (spillwayref2_Parse.j0 k a0 ((bt a0 0) == 45)) else (none)) else (spillwayref2_Parse.j0 k a0 false))
theorem spillwayref2_Parse.mono_l : ∀ k, (∀ y0 y1, LeO (spillwayref2_Parse.j0 k y0 y1) (spillwayref2_Parse.j0 (k + 1) y0 y1)) ∧ (∀ y0 y1, LeO (spillwayref2_Parse.j1 k y0 y1) (spillwayref2_Parse.j1 (k + 1) y0 y1)) ∧ (∀ y0 y1 y2 y3, LeO (spillwayref2_Parse.j2 k y0 y1 y2 y3) (spillwayref2_Parse.j2 (k + 1) y0 y1 y2 y3)) ∧ (∀ y0 y1 y2 y3 y4, LeO (spillwayref2_Parse.l0 k y0 y1 y2 y3 y4) (spillwayref2_Parse.l0 (k + 1) y0 y1 y2 y3 y4)) ∧ (∀ y0 y1 y2 y3 y4 y5 y6, LeO (spillwayref2_Parse.j4 k y0 y1 y2 y3 y4 y5 y6) (spillwayref2_Parse.j4 (k + 1) y0 y1 y2 y3 y4 y5 y6)) ∧ (∀ y0 y1 y2 y3 y4 y5 y6, LeO (spillwayref2_Parse.l1 k y0 y1 y2 y3 y4 y5 y6) (spillwayref2_Parse.l1 (k + 1) y0 y1 y2 y3 y4 y5 y6))
  | 0 => ⟨fun _ _ r h => by simp [spillwayref2_Parse.j0] at h, fun _ _ r h => by simp [spillwayref2_Parse.j1] at h, fun _ _ _ _ r h => by simp [spillwayref2_Parse.j2] at h, fun _ _ _ _ _ r h => by simp [spillwayref2_Parse.l0] at h, fun _ _ _ _ _ _ _ r h => by simp [spillwayref2_Parse.j4] at h, fun _ _ _ _ _ _ _ r h => by simp [spillwayref2_Parse.l1] at h⟩
  | k + 1 => by
    obtain ⟨ih0, ih1, ih2, ih3, ih4, ih5⟩ := spillwayref2_Parse.mono_l k
    refine ⟨?_, ?_, ?_, ?_, ?_, ?_⟩
    · intro y0 y1
      unfold spillwayref2_Parse.j0
      repeat' first
      | (with_reducible exact ih0 _ _)
      | (with_reducible exact ih1 _ _)
      | (with_reducible exact ih2 _ _ _ _)
      | (with_reducible exact ih3 _ _ _ _ _)
      | (with_reducible exact ih4 _ _ _ _ _ _ _)
      | (with_reducible exact ih5 _ _ _ _ _ _ _)
      | (with_reducible exact spillwayref2_digits.mono _ _)
      | (with_reducible exact LeO.refl _)
      | (with_reducible exact LeO.none _)
      | (with_reducible refine LeO.ite ?_ ?_)
      | (with_reducible refine LeO.bind ?_ (fun _ => ?_))
      | exact ih0 _ _
      | exact ih1 _ _
      | exact ih2 _ _ _ _
      | exact ih3 _ _ _ _ _
      | exact ih4 _ _ _ _ _ _ _
      | exact ih5 _ _ _ _ _ _ _
      | exact spillwayref2_digits.mono _ _
      | exact LeO.none _
      | refine LeO.ite ?_ ?_
      | refine LeO.bind ?_ (fun _ => ?_)
    · intro y0 y1
      unfold spillwayref2_Parse.j1
      repeat' first
      | (with_reducible exact ih0 _ _)
      | (with_reducible exact ih1 _ _)
      | (with_reducible exact ih2 _ _ _ _)
      | (with_reducible exact ih3 _ _ _ _ _)
      | (with_reducible exact ih4 _ _ _ _ _ _ _)
      | (with_reducible exact ih5 _ _ _ _ _ _ _)
      | (with_reducible exact spillwayref2_digits.mono _ _)
      | (with_reducible exact LeO.refl _)
      | (with_reducible exact LeO.none _)
      | (with_reducible refine LeO.ite ?_ ?_)
      | (with_reducible refine LeO.bind ?_ (fun _ => ?_))
      | exact ih0 _ _
      | exact ih1 _ _
      | exact ih2 _ _ _ _
      | exact ih3 _ _ _ _ _
      | exact ih4 _ _ _ _ _ _ _
      | exact ih5 _ _ _ _ _ _ _
      | exact spillwayref2_digits.mono _ _
      | exact LeO.none _
      | refine LeO.ite ?_ ?_
      | refine LeO.bind ?_ (fun _ => ?_)
    · intro y0 y1 y2 y3
      unfold spillwayref2_Parse.j2
      repeat' first
      | (with_reducible exact ih0 _ _)
      | (with_reducible exact ih1 _ _)
      | (with_reducible exact ih2 _ _ _ _)
      | (with_reducible exact ih3 _ _ _ _ _)
      | (with_reducible exact ih4 _ _ _ _ _ _ _)
      | (with_reducible exact ih5 _ _ _ _ _ _ _)
      | (with_reducible exact spillwayref2_digits.mono _ _)
      | (with_reducible exact LeO.refl _)
      | (with_reducible exact LeO.none _)
      | (with_reducible refine LeO.ite ?_ ?_)
      | (with_reducible refine LeO.bind ?_ (fun _ => ?_))
      | exact ih0 _ _
      | exact ih1 _ _
      | exact ih2 _ _ _ _
      | exact ih3 _ _ _ _ _
      | exact ih4 _ _ _ _ _ _ _
      | exact ih5 _ _ _ _ _ _ _
      | exact spillwayref2_digits.mono _ _
      | exact LeO.none _
      | refine LeO.ite ?_ ?_
      | refine LeO.bind ?_ (fun _ => ?_)
    · intro y0 y1 y2 y3 y4
      unfold spillwayref2_Parse.l0
      repeat' first
      | (with_reducible exact ih0 _ _)
      | (with_reducible exact ih1 _ _)
      | (with_reducible exact ih2 _ _ _ _)
      | (with_reducible exact ih3 _ _ _ _ _)
      | (with_reducible exact ih4 _ _ _ _ _ _ _)
      | (with_reducible exact ih5 _ _ _ _ _ _ _)
      | (with_reducible exact spillwayref2_digits.mono _ _)
      | (with_reducible exact LeO.refl _)
      | (with_reducible exact LeO.none _)
      | (with_reducible refine LeO.ite ?_ ?_)
      | (with_reducible refine LeO.bind ?_ (fun _ => ?_))
      | exact ih0 _ _
      | exact ih1 _ _
      | exact ih2 _ _ _ _
      | exact ih3 _ _ _ _ _
      | exact ih4 _ _ _ _ _ _ _
      | exact ih5 _ _ _ _ _ _ _
      | exact spillwayref2_digits.mono _ _
      | exact LeO.none _
      | refine LeO.ite ?_ ?_
      | refine LeO.bind ?_ (fun _ => ?_)
    · intro y0 y1 y2 y3 y4 y5 y6
      unfold spillwayref2_Parse.j4
      repeat' first
      | (with_reducible exact ih0 _ _)
      | (with_reducible exact ih1 _ _)
      | (with_reducible exact ih2 _ _ _ _)
      | (with_reducible exact ih3 _ _ _ _ _)
      | (with_reducible exact ih4 _ _ _ _ _ _ _)
      | (with_reducible exact ih5 _ _ _ _ _ _ _)
      | (with_reducible exact spillwayref2_digits.mono _ _)
      | (with_reducible exact LeO.refl _)
      | (with_reducible exact LeO.none _)
      | (with_reducible refine LeO.ite ?_ ?_)
      | (with_reducible refine LeO.bind ?_ (fun _ => ?_))
      | exact ih0 _ _
      | exact ih1 _ _
      | exact ih2 _ _ _ _
      | exact ih3 _ _ _ _ _
      | exact ih4 _ _ _ _ _ _ _
      | exact ih5 _ _ _ _ _ _ _
      | exact spillwayref2_digits.mono _ _
      | exact LeO.none _
      | refine LeO.ite ?_ ?_
      | refine LeO.bind ?_ (fun _ => ?_)
    · intro y0 y1 y2 y3 y4 y5 y6
      unfold spillwayref2_Parse.l1
      repeat' first
      | (with_reducible exact ih0 _ _)
      | (with_reducible exact ih1 _ _)
      | (with_reducible exact ih2 _ _ _ _)
      | (with_reducible exact ih3 _ _ _ _ _)
      | (with_reducible exact ih4 _ _ _ _ _ _ _)
      | (with_reducible exact ih5 _ _ _ _ _ _ _)
      | (with_reducible exact spillwayref2_digits.mono _ _)
      | (with_reducible exact LeO.refl _)
      | (with_reducible exact LeO.none _)
      | (with_reducible refine LeO.ite ?_ ?_)
      | (with_reducible refine LeO.bind ?_ (fun _ => ?_))
      | exact ih0 _ _
      | exact ih1 _ _
      | exact ih2 _ _ _ _
      | exact ih3 _ _ _ _ _
      | exact ih4 _ _ _ _ _ _ _
      | exact ih5 _ _ _ _ _ _ _
      | exact spillwayref2_digits.mono _ _
      | exact LeO.none _
      | refine LeO.ite ?_ ?_
      | refine LeO.bind ?_ (fun _ => ?_)
theorem spillwayref2_Parse.mono : ∀ a0 k, LeO (spillwayref2_Parse.f k a0) (spillwayref2_Parse.f (k + 1) a0) := by
  intro a0 k
  obtain ⟨ih0, ih1, ih2, ih3, ih4, ih5⟩ := spillwayref2_Parse.mono_l k
  unfold spillwayref2_Parse.f
  repeat' first
      | (with_reducible exact ih0 _ _)
      | (with_reducible exact ih1 _ _)
      | (with_reducible exact ih2 _ _ _ _)
      | (with_reducible exact ih3 _ _ _ _ _)
      | (with_reducible exact ih4 _ _ _ _ _ _ _)
      | (with_reducible exact ih5 _ _ _ _ _ _ _)
      | (with_reducible exact spillwayref2_digits.mono _ _)
      | (with_reducible exact LeO.refl _)
      | (with_reducible exact LeO.none _)
      | (with_reducible refine LeO.ite ?_ ?_)
      | (with_reducible refine LeO.bind ?_ (fun _ => ?_))
      | exact ih0 _ _
      | exact ih1 _ _
      | exact ih2 _ _ _ _
      | exact ih3 _ _ _ _ _
      | exact ih4 _ _ _ _ _ _ _
      | exact ih5 _ _ _ _ _ _ _
      | exact spillwayref2_digits.mono _ _
      | exact LeO.none _
      | refine LeO.ite ?_ ?_
      | refine LeO.bind ?_ (fun _ => ?_)
set_option maxHeartbeats 8000000 in
set_option maxRecDepth 100000 in
theorem spillwayref2_Parse.calls (k : Nat) (a0 : ByteArray) (r1 : Bool) (r2 : Int) (r3 : Bool) (w : World) (h : spillwayref2_Parse.f k a0 = some (r1, r2, r3)) :
    Calls Tryd.prog 14 #[.string a0] w fun e w' => e = .returned (.tuple #[.agg #[.bool r1, .int .i64 r2], .bool r3]) ∧ Below w.heap.size w w' := by
  have hu25 := Tryd.underlying25
  have HB := Aside0.mk (Below.refl w.heap.size w)
  have H : (if a0.toList = ([111, 118, 102] : List UInt8) then ((spillwayref2_Ovf.f).bind fun bt184 => (some (bt184.1, bt184.2, true))) else (if (a0.size : Int) > 0 then (if 0 < (a0.size : Int) then (spillwayref2_Parse.j0 k a0 ((bt a0 0) == 45)) else (none)) else (spillwayref2_Parse.j0 k a0 false))) = some (r1, r2, r3) := h
  clear h
  by_cases c2 : a0.toList = ([111, 118, 102] : List UInt8)
  · rw [if_pos c2] at H
    have c2b0 : (a0.toList == ([111, 118, 102] : List UInt8)) = true := beq_iff_eq.mpr c2
    have c2b1 : (a0.toList != ([111, 118, 102] : List UInt8)) = false := bne_eq_false_iff_eq.mpr c2
    clear c2
    replace H := Option.bind_eq_some_iff.mp H
    obtain ⟨⟨t184, t185⟩, A30, H⟩ := H
    replace H : (some (t184, t185, true)) = some (r1, r2, r3) := H
    have A3 := Aside0.mk A30
    clear A30
    simp only [Option.some.injEq, Prod.mk.injEq] at H
    obtain ⟨rfl, rfl, rfl⟩ := H
    go_enter Tryd.func14, Tryd.ntmps14
    go_wp2_with (first | ((with_reducible refine gate_dst (N := 2) rfl ?_); (try (refine gate_guard (by rfl) ?_; dsimp only)); refine box_event ?hg (N := 2) ?hd (cs := #[.bool false, .int .i64 0]) (t := 25) ?hr ?_; (case hd => rfl); (case hg => rfl); (case hr => first | (go_simp; done) | (go_simp; rfl)); intro gb183 hg w4 hbox hb; have n0_ := Aside0.mk (below_step (by repeat (first | (with_reducible first | exact HB.out | apply below_alloc | apply pw_below_drewN | apply below_drew1) | exact HB.out)) hb); have n1_ := Aside0.mk (hbox); have n2_ := Aside0.mk ((by rw [hg]; exact (below_size (by repeat (first | (with_reducible first | exact HB.out | apply below_alloc | apply pw_below_drewN | apply below_drew1) | exact HB.out))) : w.heap.size ≤ gb183)); have n3_ := Aside0.mk ((by rw [hg]; exact (below_size (by repeat (first | (with_reducible first | exact HB.out | apply below_alloc | apply pw_below_drewN | apply below_drew1) | exact HB.out))) : w.heap.size ≤ gb183)); clear HB; have HB := n0_; have BK183 := n1_; have GW183 := n2_; have GE183 := n3_; clear n0_ n1_ n2_ n3_; clear hb hbox hg) | ((with_reducible refine gate_callee (f := 30) rfl ?_); refine goesL_ (some 13) rfl rfl Tryd.func30 (by kernel_rfl) rfl #[] rfl (by (try simp only [List.map_toArray, List.map_cons, List.map_nil]); first | done | rfl | (simp only [List.length_drop, List.length_take]; rfl)) ?_; (with_reducible refine (spillwayref2_Ovf.calls  t184 t185 _ A3.out).mono ?_); rintro e w5 ⟨rfl, hb⟩; refine ⟨_, rfl, ?_⟩; have n0_ := Aside0.mk (blk_below (g := gb183) (o := .cells #[.bool false, .int .i64 0] 25 (0, 0)) (by (with_reducible repeat (first | refine blk_drewN ?_ _ | refine blk_drew ?_ | refine blk_alloc ?_ _)); exact BK183.out) hb); have n1_ := Aside0.mk (below_step (by repeat (first | (with_reducible first | exact HB.out | apply below_alloc | apply pw_below_drewN | apply below_drew1 | refine below_set ?_ GE183.out) | exact HB.out)) hb); clear BK183; clear HB; have BK183 := n0_; have HB := n1_; clear n0_ n1_; (try clear hb); (try clear hb2); (try clear hk); (try clear hi); have hcz6_0 : w5.cell? ⟨gb183, 0, none⟩ = some (.bool false) := (blk_cell BK183.out 0).trans rfl; have hcz6_1 : w5.cell? ⟨gb183, 1, none⟩ = some (.int .i64 0) := (blk_cell BK183.out 1).trans rfl; have hfz6_0 := blk_frozen BK183.out 0; have hfz6_1 := blk_frozen BK183.out 1))
    refine bodyPost_ret (results_ct rfl _ _ gb183 25 #[.bool t184, .int .i64 t185] (0, 0) _ rfl (by (with_reducible repeat (first | refine blk_drewN ?_ _ | refine blk_drew ?_ | refine blk_alloc ?_ _)); refine blk_put (cs := #[.bool t184, .int .i64 0]) ?_ 1 _ rfl; (with_reducible repeat (first | refine blk_drewN ?_ _ | refine blk_drew ?_ | refine blk_alloc ?_ _)); refine blk_put (cs := #[.bool false, .int .i64 0]) ?_ 0 _ rfl; (with_reducible repeat (first | refine blk_drewN ?_ _ | refine blk_drew ?_ | refine blk_alloc ?_ _)); exact BK183.out) Tryd.underlying25 rfl (by kernel_rfl)) rfl ?_
    exact ⟨by first | rfl | (simp [errW_none, errW_some] <;> rfl) | (simp [*, errW_none, errW_some] <;> rfl), by repeat (first | (with_reducible first | exact HB.out | apply below_alloc | apply pw_below_drewN | apply below_drew1 | refine below_set ?_ GE183.out) | exact HB.out)⟩
  · rw [if_neg c2] at H
    have c2b0 : (a0.toList == ([111, 118, 102] : List UInt8)) = false := beq_eq_false_iff_ne.mpr c2
    have c2b1 : (a0.toList != ([111, 118, 102] : List UInt8)) = true := bne_iff_ne.mpr c2
    have HC7 := Aside0.mk H
    clear H
    go_enter Tryd.func14, Tryd.ntmps14
    go_upto_region 3 with (first | ((with_reducible refine gate_dst (N := 2) rfl ?_); (try (refine gate_guard (by rfl) ?_; dsimp only)); refine box_event ?hg (N := 2) ?hd (cs := #[.bool false, .int .i64 0]) (t := 25) ?hr ?_; (case hd => rfl); (case hg => rfl); (case hr => first | (go_simp; done) | (go_simp; rfl)); intro gb183 hg w8 hbox hb; have n0_ := Aside0.mk (below_step (by repeat (first | (with_reducible first | exact HB.out | apply below_alloc | apply pw_below_drewN | apply below_drew1) | exact HB.out)) hb); have n1_ := Aside0.mk (hbox); have n2_ := Aside0.mk ((by rw [hg]; exact (below_size (by repeat (first | (with_reducible first | exact HB.out | apply below_alloc | apply pw_below_drewN | apply below_drew1) | exact HB.out))) : w.heap.size ≤ gb183)); have n3_ := Aside0.mk ((by rw [hg]; exact (below_size (by repeat (first | (with_reducible first | exact HB.out | apply below_alloc | apply pw_below_drewN | apply below_drew1) | exact HB.out))) : w.heap.size ≤ gb183)); clear HB; have HB := n0_; have BK183 := n1_; have GW183 := n2_; have GE183 := n3_; clear n0_ n1_ n2_ n3_; clear hb hbox hg))
    (try simp only [Act.put, List.setIfInBounds_toArray, List.set_cons_zero, List.set_cons_succ])
    go_cut [4] (fun v4 wc => ∃ (kq : Nat) (x4_6 : Bool), v4 = .bool x4_6 ∧ Aside0 (spillwayref2_Parse.j0 kq a0 x4_6 = some (r1, r2, r3)) ∧ Aside0 (kq ≤ k) ∧ Aside0 (wc.heap[gb183]? = some (.cells #[.bool false, .int .i64 0] 25 (0, 0))) ∧ Aside0 (Below w.heap.size w wc))
    case first =>
      have H := HC7.out
      clear HC7
      by_cases c9 : (a0.size : Int) > 0
      · rw [if_pos c9] at H
        have c9b0 : decide (0 < (a0.size : Int)) = true := decide_eq_true c9
        have c9b1 : decide (0 < a0.size) = true := decide_eq_true (by omega)
        clear c9
        (first | rw [c9b0] | (simp only [i64_w, i32_w]; rw [c9b0]) | skip)
        by_cases c10 : 0 < (a0.size : Int)
        · rw [if_pos c10] at H
          have c10b0 : decide (0 < (a0.size : Int)) = true := decide_eq_true c10
          have c10b1 : decide (0 < a0.size) = true := decide_eq_true (by omega)
          clear c10
          have H' := Aside0.mk H
          clear H
          have p11 : 0 ≤ (0 : Int) := (by omega)
          have q11 : 0 < a0.size := (by have : (0 : Int) < (a0.size : Int) := of_decide_eq_true (by first | (with_reducible assumption) | assumption); omega)
          have hx11 : ∀ h : 0 < a0.size, ((a0[0]'h).toNat : Int) = bt a0 0 := bt_at a0 0
          clear p11
          have qi11 : (0 < (a0.size : Int)) = True := eq_true (of_decide_eq_true (by first | (with_reducible assumption) | assumption))
          replace q11 := eq_true q11
          go_wp2
          go_meet
          case rel => exact ⟨_, (((bt a0 0) == 45)), (by first | rfl | (simp; done) | (simp [*]; done)), H', ⟨by first | omega | exact Nat.le_refl _⟩, ⟨by (with_reducible repeat (first | refine blk_drewN ?_ _ | refine blk_drew ?_ | refine blk_alloc ?_ _)); exact BK183.out⟩, ⟨by repeat (first | (with_reducible first | exact HB.out | apply below_alloc | apply pw_below_drewN | apply below_drew1 | refine below_set ?_ GE183.out) | exact HB.out)⟩⟩
        · rw [if_neg c10] at H
          exact absurd H (by simp)
      · rw [if_neg c9] at H
        have c9b0 : decide (0 < (a0.size : Int)) = false := decide_eq_false c9
        have c9b1 : decide (0 < a0.size) = false := decide_eq_false (by omega)
        clear c9
        (first | rw [c9b0] | (simp only [i64_w, i32_w]; rw [c9b0]) | skip)
        have H' := Aside0.mk H
        clear H
        go_wp2
        go_meet
        case rel => exact ⟨_, (false), (by first | rfl | (simp; done) | (simp [*]; done)), H', ⟨by first | omega | exact Nat.le_refl _⟩, ⟨by (with_reducible repeat (first | refine blk_drewN ?_ _ | refine blk_drew ?_ | refine blk_alloc ?_ _)); exact BK183.out⟩, ⟨by repeat (first | (with_reducible first | exact HB.out | apply below_alloc | apply pw_below_drewN | apply below_drew1 | refine below_set ?_ GE183.out) | exact HB.out)⟩⟩
    case rest =>
      clear HC7
      try clear c1
      try clear p1
      try clear q1
      try clear hx1
      try clear qi1
      try clear c2
      try clear c2b0
      try clear c2b1
      try clear p2
      try clear c3
      try clear c9
      try clear c9b0
      try clear c9b1
      try clear c10
      try clear c10b0
      try clear c10b1
      try clear p11
      try clear q11
      try clear hx11
      try clear qi11
      try clear hcz6_0
      try clear hcz6_1
      try clear hfz6_0
      try clear hfz6_1
      try clear p11
      try clear q11
      obtain ⟨kq, x4_6, rfl, HA, HJ6, BK183, HB⟩ := hcut
      cases kq with
      | zero => exact absurd HA.out (by simp [spillwayref2_Parse.j0])
      | succ kj6 =>
        have H := HA.out
        clear HA
        simp only [spillwayref2_Parse.j0] at H
        have HC12 := Aside0.mk H
        clear H
        go_upto_if 22 with (fail)
        go_cut [0] (fun v0 wc => ∃ (kq : Nat) (x0_11 : ByteArray), v0 = .string x0_11 ∧ Aside0 (spillwayref2_Parse.j1 kq x0_11 x4_6 = some (r1, r2, r3)) ∧ Aside0 (kq ≤ kj6) ∧ Aside0 (wc.heap[gb183]? = some (.cells #[.bool false, .int .i64 0] 25 (0, 0))) ∧ Aside0 (Below w.heap.size w wc))
        case first =>
          have H := HC12.out
          clear HC12
          by_cases c13 : x4_6 = true
          · subst c13
            have H1 : (if 1 ≤ (a0.size : Int) then (spillwayref2_Parse.j1 kj6 (a0.extract 1 a0.size) true) else (none)) = some (r1, r2, r3) := by rw [if_pos rfl] at H; exact H
            clear H
            have H := H1
            clear H1
            by_cases c14 : 1 ≤ (a0.size : Int)
            · rw [if_pos c14] at H
              have c14b0 := eq_true c14
              have c14b1 : decide (1 ≤ (a0.size : Int)) = true := decide_eq_true c14
              clear c14
              have H' := Aside0.mk H
              clear H
              go_wp2
              go_meet
              case rel => exact ⟨_, (a0.extract 1 a0.size), (by first | rfl | (simp; done) | (simp [*]; done)), H', ⟨by have := HJ6.out; first | omega | exact Nat.le_refl _⟩, ⟨by (with_reducible repeat (first | refine blk_drewN ?_ _ | refine blk_drew ?_ | refine blk_alloc ?_ _)); exact BK183.out⟩, ⟨by repeat (first | (with_reducible first | exact HB.out | apply below_alloc | apply pw_below_drewN | apply below_drew1 | refine below_set ?_ GE183.out) | exact HB.out)⟩⟩
            · rw [if_neg c14] at H
              exact absurd H (by simp)
          · replace c13 := Bool.eq_false_iff.mpr c13
            subst c13
            have H1 : (spillwayref2_Parse.j1 kj6 a0 false) = some (r1, r2, r3) := by rw [if_neg (show ¬ (false = true) by decide)] at H; exact H
            clear H
            have H := H1
            clear H1
            have H' := Aside0.mk H
            clear H
            go_wp2
            go_meet
            case rel => exact ⟨_, (a0), (by first | rfl | (simp; done) | (simp [*]; done)), H', ⟨by have := HJ6.out; first | omega | exact Nat.le_refl _⟩, ⟨by (with_reducible repeat (first | refine blk_drewN ?_ _ | refine blk_drew ?_ | refine blk_alloc ?_ _)); exact BK183.out⟩, ⟨by repeat (first | (with_reducible first | exact HB.out | apply below_alloc | apply pw_below_drewN | apply below_drew1 | refine below_set ?_ GE183.out) | exact HB.out)⟩⟩
        case rest =>
          clear HC12
          try clear c1
          try clear p1
          try clear q1
          try clear hx1
          try clear qi1
          try clear c2
          try clear c2b0
          try clear c2b1
          try clear p2
          try clear c3
          try clear c9
          try clear c9b0
          try clear c9b1
          try clear c10
          try clear c10b0
          try clear c10b1
          try clear p11
          try clear q11
          try clear hx11
          try clear qi11
          try clear c13
          try clear c14
          try clear c14b0
          try clear c14b1
          try clear hcz6_0
          try clear hcz6_1
          try clear hfz6_0
          try clear hfz6_1
          try clear p1
          try clear p11
          try clear p2
          try clear q1
          try clear q11
          obtain ⟨kq, x0_11, rfl, HA, HJ11, BK183, HB⟩ := hcut
          cases kq with
          | zero => exact absurd HA.out (by simp [spillwayref2_Parse.j1])
          | succ kj11 =>
            have H := HA.out
            clear HA
            simp only [spillwayref2_Parse.j1] at H
            replace H := Option.bind_eq_some_iff.mp H
            obtain ⟨t186, A150, H⟩ := H
            replace H : (if t186 < 1 then (spillwayref2_Parse.j2 kj11 x0_11 x4_6 t186 true) else (if t186 > 13 then (spillwayref2_Parse.j2 kj11 x0_11 x4_6 t186 true) else (if t186 > 1 then (if 0 < (x0_11.size : Int) then (spillwayref2_Parse.j2 kj11 x0_11 x4_6 t186 ((bt x0_11 0) == 48)) else (none)) else (spillwayref2_Parse.j2 kj11 x0_11 x4_6 t186 false)))) = some (r1, r2, r3) := H
            have A15 := Aside0.mk A150
            clear A150
            have HC16 := Aside0.mk H
            clear H
            go_upto_region 7 with (first | ((with_reducible refine gate_callee (f := 37) rfl ?_); refine goesL_ (some 26) rfl rfl Tryd.func37 (by kernel_rfl) rfl #[.string x0_11] rfl (by (try simp only [List.map_toArray, List.map_cons, List.map_nil]); first | done | rfl | (simp only [List.length_drop, List.length_take]; rfl)) ?_; (with_reducible refine (spillwayref2_digits.calls kj11 x0_11 t186 _ A15.out).mono ?_); rintro e w' ⟨rfl, ⟨nd, rfl⟩⟩; refine ⟨_, rfl, ?_⟩))
            (try simp only [Act.put, List.setIfInBounds_toArray, List.set_cons_zero, List.set_cons_succ])
            go_cut [41] (fun v41 wc => ∃ (kq : Nat) (x41_15 : Bool), v41 = .bool x41_15 ∧ Aside0 (spillwayref2_Parse.j2 kq x0_11 x4_6 t186 x41_15 = some (r1, r2, r3)) ∧ Aside0 (kq ≤ kj11) ∧ Aside0 (wc.heap[gb183]? = some (.cells #[.bool false, .int .i64 0] 25 (0, 0))) ∧ Aside0 (Below w.heap.size w wc))
            case first =>
              have H := HC16.out
              clear HC16
              by_cases c17 : t186 < 1
              · rw [if_pos c17] at H
                have c17b0 : decide (t186 < 1) = true := decide_eq_true c17
                clear c17
                (first | rw [c17b0] | (simp only [i64_w, i32_w]; rw [c17b0]) | skip)
                have H' := Aside0.mk H
                clear H
                go_wp2
                go_meet
                case rel => exact ⟨_, (true), (by first | rfl | (simp; done) | (simp [*]; done)), H', ⟨by have := HJ6.out; have := HJ11.out; first | omega | exact Nat.le_refl _⟩, ⟨by (with_reducible repeat (first | refine blk_drewN ?_ _ | refine blk_drew ?_ | refine blk_alloc ?_ _)); exact BK183.out⟩, ⟨by repeat (first | (with_reducible first | exact HB.out | apply below_alloc | apply pw_below_drewN | apply below_drew1 | refine below_set ?_ GE183.out) | exact HB.out)⟩⟩
              · rw [if_neg c17] at H
                have c17b0 : decide (t186 < 1) = false := decide_eq_false c17
                clear c17
                (first | rw [c17b0] | (simp only [i64_w, i32_w]; rw [c17b0]) | skip)
                by_cases c18 : t186 > 13
                · rw [if_pos c18] at H
                  have c18b0 : decide (13 < t186) = true := decide_eq_true c18
                  clear c18
                  have H' := Aside0.mk H
                  clear H
                  go_wp2
                  go_meet
                  case rel => exact ⟨_, (true), (by first | rfl | (simp; done) | (simp [*]; done)), H', ⟨by have := HJ6.out; have := HJ11.out; first | omega | exact Nat.le_refl _⟩, ⟨by (with_reducible repeat (first | refine blk_drewN ?_ _ | refine blk_drew ?_ | refine blk_alloc ?_ _)); exact BK183.out⟩, ⟨by repeat (first | (with_reducible first | exact HB.out | apply below_alloc | apply pw_below_drewN | apply below_drew1 | refine below_set ?_ GE183.out) | exact HB.out)⟩⟩
                · rw [if_neg c18] at H
                  have c18b0 : decide (13 < t186) = false := decide_eq_false c18
                  clear c18
                  by_cases c19 : t186 > 1
                  · rw [if_pos c19] at H
                    have c19b0 : decide (1 < t186) = true := decide_eq_true c19
                    clear c19
                    by_cases c20 : 0 < (x0_11.size : Int)
                    · rw [if_pos c20] at H
                      have c20b0 : decide (0 < (x0_11.size : Int)) = true := decide_eq_true c20
                      have c20b1 : decide (0 < x0_11.size) = true := decide_eq_true (by omega)
                      clear c20
                      have H' := Aside0.mk H
                      clear H
                      have p21 : 0 ≤ (0 : Int) := (by omega)
                      have q21 : 0 < x0_11.size := (by have : (0 : Int) < (x0_11.size : Int) := of_decide_eq_true (by first | (with_reducible assumption) | assumption); omega)
                      have hx21 : ∀ h : 0 < x0_11.size, ((x0_11[0]'h).toNat : Int) = bt x0_11 0 := bt_at x0_11 0
                      clear p21
                      have qi21 : (0 < (x0_11.size : Int)) = True := eq_true (of_decide_eq_true (by first | (with_reducible assumption) | assumption))
                      replace q21 := eq_true q21
                      go_wp2
                      go_meet
                      case rel => exact ⟨_, (((bt x0_11 0) == 48)), (by first | rfl | (simp; done) | (simp [*]; done)), H', ⟨by have := HJ6.out; have := HJ11.out; first | omega | exact Nat.le_refl _⟩, ⟨by (with_reducible repeat (first | refine blk_drewN ?_ _ | refine blk_drew ?_ | refine blk_alloc ?_ _)); exact BK183.out⟩, ⟨by repeat (first | (with_reducible first | exact HB.out | apply below_alloc | apply pw_below_drewN | apply below_drew1 | refine below_set ?_ GE183.out) | exact HB.out)⟩⟩
                    · rw [if_neg c20] at H
                      exact absurd H (by simp)
                  · rw [if_neg c19] at H
                    have c19b0 : decide (1 < t186) = false := decide_eq_false c19
                    clear c19
                    have H' := Aside0.mk H
                    clear H
                    go_wp2
                    go_meet
                    case rel => exact ⟨_, (false), (by first | rfl | (simp; done) | (simp [*]; done)), H', ⟨by have := HJ6.out; have := HJ11.out; first | omega | exact Nat.le_refl _⟩, ⟨by (with_reducible repeat (first | refine blk_drewN ?_ _ | refine blk_drew ?_ | refine blk_alloc ?_ _)); exact BK183.out⟩, ⟨by repeat (first | (with_reducible first | exact HB.out | apply below_alloc | apply pw_below_drewN | apply below_drew1 | refine below_set ?_ GE183.out) | exact HB.out)⟩⟩
            case rest =>
              clear HC16
              try clear c1
              try clear p1
              try clear q1
              try clear hx1
              try clear qi1
              try clear c2
              try clear c2b0
              try clear c2b1
              try clear p2
              try clear q2
              try clear hx2
              try clear qi2
              try clear c3
              try clear c9
              try clear c9b0
              try clear c9b1
              try clear c10
              try clear c10b0
              try clear c10b1
              try clear p11
              try clear q11
              try clear hx11
              try clear qi11
              try clear c13
              try clear c14
              try clear c14b0
              try clear c14b1
              try clear c17
              try clear c17b0
              try clear c18
              try clear c18b0
              try clear c19
              try clear c19b0
              try clear c20
              try clear c20b0
              try clear c20b1
              try clear p21
              try clear q21
              try clear hx21
              try clear qi21
              try clear hcz6_0
              try clear hcz6_1
              try clear hfz6_0
              try clear hfz6_1
              try clear p1
              try clear p11
              try clear p2
              try clear p21
              try clear q1
              try clear q11
              try clear q21
              obtain ⟨kq, x41_15, rfl, HA, HJ15, BK183, HB⟩ := hcut
              cases kq with
              | zero => exact absurd HA.out (by simp [spillwayref2_Parse.j2])
              | succ kj15 =>
                have H := HA.out
                clear HA
                simp only [spillwayref2_Parse.j2] at H
                by_cases c22 : x41_15 = true
                · subst c22
                  have H1 : (some (false, 0, false)) = some (r1, r2, r3) := by rw [if_pos rfl] at H; exact H
                  clear H
                  have H := H1
                  clear H1
                  simp only [Option.some.injEq, Prod.mk.injEq] at H
                  obtain ⟨rfl, rfl, rfl⟩ := H
                  have hcz23_0 : wc.cell? ⟨gb183, 0, none⟩ = some (.bool false) := (blk_cell BK183.out 0).trans rfl
                  have hcz23_1 : wc.cell? ⟨gb183, 1, none⟩ = some (.int .i64 0) := (blk_cell BK183.out 1).trans rfl
                  have hfz23_0 := blk_frozen BK183.out 0
                  have hfz23_1 := blk_frozen BK183.out 1
                  go_wp2
                  refine bodyPost_ret (results_ct rfl _ _ gb183 25 #[.bool false, .int .i64 0] (0, 0) _ rfl (by (with_reducible repeat (first | refine blk_drewN ?_ _ | refine blk_drew ?_ | refine blk_alloc ?_ _)); refine blk_put (cs := #[.bool false, .int .i64 0]) ?_ 1 _ rfl; (with_reducible repeat (first | refine blk_drewN ?_ _ | refine blk_drew ?_ | refine blk_alloc ?_ _)); refine blk_put (cs := #[.bool false, .int .i64 0]) ?_ 0 _ rfl; (with_reducible repeat (first | refine blk_drewN ?_ _ | refine blk_drew ?_ | refine blk_alloc ?_ _)); exact BK183.out) Tryd.underlying25 rfl (by kernel_rfl)) rfl ?_
                  exact ⟨by first | rfl | (simp [errW_none, errW_some] <;> rfl) | (simp [*, errW_none, errW_some] <;> rfl), by repeat (first | (with_reducible first | exact HB.out | apply below_alloc | apply pw_below_drewN | apply below_drew1 | refine below_set ?_ GE183.out) | exact HB.out)⟩
                · replace c22 := Bool.eq_false_iff.mpr c22
                  subst c22
                  have H1 : (spillwayref2_Parse.l0 kj15 x0_11 x4_6 t186 0 0) = some (r1, r2, r3) := by rw [if_neg (show ¬ (false = true) by decide)] at H; exact H
                  clear H
                  have H := H1
                  clear H1
                  have H' := Aside0.mk H
                  clear H
                  go_wp2
                  go_loopg [6, 7] kj15 (fun kq v6 v7 w' => ∃ (x6_4 : Int) (x7_4 : Int), v6 = .int .u64 x6_4 ∧ v7 = .int .i64 x7_4 ∧ Aside0 (spillwayref2_Parse.l0 kq x0_11 x4_6 t186 x6_4 x7_4 = some (r1, r2, r3)) ∧ Aside0 (kq ≤ kj15) ∧ Aside0 (w'.heap[gb183]? = some (.cells #[.bool false, .int .i64 0] 25 (0, 0))) ∧ Aside0 (Below w.heap.size w w'))
                  case atStart => exact ⟨(0), (0), (by first | rfl | (simp; done) | (simp [*]; done)), (by first | rfl | (simp; done) | (simp [*]; done)), H', ⟨Nat.le_refl _⟩, ⟨by (with_reducible repeat (first | refine blk_drewN ?_ _ | refine blk_drew ?_ | refine blk_alloc ?_ _)); exact BK183.out⟩, ⟨by repeat (first | (with_reducible first | exact HB.out | apply below_alloc | apply pw_below_drewN | apply below_drew1 | refine below_set ?_ GE183.out) | exact HB.out)⟩⟩
                  case round =>
                    clear H'
                    try clear c1
                    try clear p1
                    try clear q1
                    try clear hx1
                    try clear qi1
                    try clear c2
                    try clear c2b0
                    try clear c2b1
                    try clear p2
                    try clear q2
                    try clear hx2
                    try clear qi2
                    try clear c3
                    try clear c9
                    try clear c9b0
                    try clear c9b1
                    try clear c10
                    try clear c10b0
                    try clear c10b1
                    try clear p11
                    try clear q11
                    try clear hx11
                    try clear qi11
                    try clear c13
                    try clear c14
                    try clear c14b0
                    try clear c14b1
                    try clear c17
                    try clear c17b0
                    try clear c18
                    try clear c18b0
                    try clear c19
                    try clear c19b0
                    try clear c20
                    try clear c20b0
                    try clear c20b1
                    try clear p21
                    try clear q21
                    try clear hx21
                    try clear qi21
                    try clear c22
                    try clear hcz23_0
                    try clear hcz23_1
                    try clear hcz6_0
                    try clear hcz6_1
                    try clear hfz23_0
                    try clear hfz23_1
                    try clear hfz6_0
                    try clear hfz6_1
                    try clear p1
                    try clear p11
                    try clear p2
                    try clear p21
                    try clear q1
                    try clear q11
                    try clear q2
                    try clear q21
                    obtain ⟨x6_4, x7_4, rfl, rfl, HA, HK4, BK183, HB⟩ := hrel
                    cases gk with
                    | zero => exact absurd HA.out (by simp [spillwayref2_Parse.l0])
                    | succ k4 =>
                      have H := HA.out
                      clear HA
                      simp only [spillwayref2_Parse.l0] at H
                      by_cases c24 : x7_4 < t186
                      · rw [if_pos c24] at H
                        have c24b0 : decide (x7_4 < t186) = true := decide_eq_true c24
                        clear c24
                        by_cases c25 : 0 ≤ x7_4
                        · rw [if_pos c25] at H
                          have c25b0 : decide (0 ≤ x7_4) = true := decide_eq_true c25
                          clear c25
                          by_cases c26 : x7_4 < (x0_11.size : Int)
                          · rw [if_pos c26] at H
                            have c26b0 : decide (x7_4 < (x0_11.size : Int)) = true := decide_eq_true c26
                            clear c26
                            have H' := Aside0.mk H
                            clear H
                            have p27 : 0 ≤ (x7_4 : Int) := of_decide_eq_true (by first | (with_reducible assumption) | assumption)
                            have q27 : x7_4 < (x0_11.size : Int) := of_decide_eq_true (by first | (with_reducible assumption) | assumption)
                            have hx27 := bt_at x0_11 x7_4
                            replace p27 := eq_true p27
                            replace q27 := eq_true q27
                            go_wp2
                            go_roundg k4
                            case measure => have := HJ6.out; have := HJ11.out; have := HJ15.out; have := HK4.out; omega
                            case rel => exact ⟨(IntKind.u64.wrap ((IntKind.u64.wrap (x6_4 * 10)) + (((bt x0_11 x7_4) - 48) % 256))), (wrap64 (x7_4 + 1)), (by first | rfl | (simp; done) | (simp [*]; done)), (by first | rfl | (simp; done) | (simp [*]; done)), H', ⟨by have := HJ6.out; have := HJ11.out; have := HJ15.out; have := HK4.out; omega⟩, ⟨by (with_reducible repeat (first | refine blk_drewN ?_ _ | refine blk_drew ?_ | refine blk_alloc ?_ _)); exact BK183.out⟩, ⟨by repeat (first | (with_reducible first | exact HB.out | apply below_alloc | apply pw_below_drewN | apply below_drew1 | refine below_set ?_ GE183.out) | exact HB.out)⟩⟩
                          · rw [if_neg c26] at H
                            exact absurd H (by simp)
                        · rw [if_neg c25] at H
                          exact absurd H (by simp)
                      · rw [if_neg c24] at H
                        have c24b0 : decide (x7_4 < t186) = false := decide_eq_false c24
                        clear c24
                        by_cases c28 : (x0_11.size : Int) > t186
                        · rw [if_pos c28] at H
                          have c28b0 : decide (t186 < (x0_11.size : Int)) = true := decide_eq_true c28
                          clear c28
                          obtain ⟨ji29, hji29⟩ : ∃ j_ : Int, (wrap64 (t186 + 1)) = j_ := ⟨_, rfl⟩
                          replace H : (if 0 ≤ (ji29) then (if (ji29) ≤ (x0_11.size : Int) then ((spillwayref2_digits.f k4 (x0_11.extract ((ji29) : Int).toNat x0_11.size)).bind fun t187 => (if 0 ≤ t186 then (if t186 < (x0_11.size : Int) then (if (bt x0_11 t186) = 46 then (if t187 < 1 then (spillwayref2_Parse.j4 k4 x0_11 x4_6 t186 x6_4 0 t187 true) else (if t187 > 6 then (spillwayref2_Parse.j4 k4 x0_11 x4_6 t186 x6_4 0 t187 true) else (spillwayref2_Parse.j4 k4 x0_11 x4_6 t186 x6_4 0 t187 ((wrap64 ((ji29) + t187)) != (x0_11.size : Int))))) else (spillwayref2_Parse.j4 k4 x0_11 x4_6 t186 x6_4 0 t187 true)) else (none)) else (none))) else (none)) else (none)) = some (r1, r2, r3) := by first | (rw [hji29] at H; exact H) | (simp only [hji29] at H ⊢; exact H)
                          have hji29w : (IntKind.i64.wrap (t186 + 1)) = ji29 := (i64_w _).trans hji29
                          by_cases c30 : 0 ≤ (ji29)
                          · rw [if_pos c30] at H
                            have c30b0 := eq_true c30
                            have c30b1 : decide (0 ≤ (ji29)) = true := decide_eq_true c30
                            clear c30
                            by_cases c31 : (ji29) ≤ (x0_11.size : Int)
                            · rw [if_pos c31] at H
                              have c31b0 := eq_true c31
                              have c31b1 : decide ((ji29) ≤ (x0_11.size : Int)) = true := decide_eq_true c31
                              clear c31
                              replace H := Option.bind_eq_some_iff.mp H
                              obtain ⟨t187, A320, H⟩ := H
                              replace H : (if 0 ≤ t186 then (if t186 < (x0_11.size : Int) then (if (bt x0_11 t186) = 46 then (if t187 < 1 then (spillwayref2_Parse.j4 k4 x0_11 x4_6 t186 x6_4 0 t187 true) else (if t187 > 6 then (spillwayref2_Parse.j4 k4 x0_11 x4_6 t186 x6_4 0 t187 true) else (spillwayref2_Parse.j4 k4 x0_11 x4_6 t186 x6_4 0 t187 ((wrap64 ((ji29) + t187)) != (x0_11.size : Int))))) else (spillwayref2_Parse.j4 k4 x0_11 x4_6 t186 x6_4 0 t187 true)) else (none)) else (none)) = some (r1, r2, r3) := H
                              have A32 := Aside0.mk A320
                              clear A320
                              have HC33 := Aside0.mk H
                              clear H
                              go_upto_region 17 with (first | ((with_reducible refine gate_callee (f := 37) rfl ?_); refine goesL_ (some 64) rfl rfl Tryd.func37 (by kernel_rfl) rfl #[.string (x0_11.extract ((ji29) : Int).toNat x0_11.size)] rfl (by (try simp only [List.map_toArray, List.map_cons, List.map_nil]); first | done | (simp only [hji29]; rfl) | rfl | (simp only [List.length_drop, List.length_take]; rfl)) ?_; (with_reducible refine (spillwayref2_digits.calls k4 (x0_11.extract ((ji29) : Int).toNat x0_11.size) t187 _ A32.out).mono ?_); rintro e w' ⟨rfl, ⟨nd, rfl⟩⟩; refine ⟨_, rfl, ?_⟩))
                              (try simp only [Act.put, List.setIfInBounds_toArray, List.set_cons_zero, List.set_cons_succ])
                              go_cut [85] (fun v85 wc => ∃ (kq : Nat) (x85_32 : Bool), v85 = .bool x85_32 ∧ Aside0 (spillwayref2_Parse.j4 kq x0_11 x4_6 t186 x6_4 0 t187 x85_32 = some (r1, r2, r3)) ∧ Aside0 (kq ≤ k4) ∧ Aside0 (wc.heap[gb183]? = some (.cells #[.bool false, .int .i64 0] 25 (0, 0))) ∧ Aside0 (Below w.heap.size w wc))
                              case first =>
                                have H := HC33.out
                                clear HC33
                                by_cases c34 : 0 ≤ t186
                                · rw [if_pos c34] at H
                                  have c34b0 : decide (0 ≤ t186) = true := decide_eq_true c34
                                  clear c34
                                  (first | rw [c34b0] | (simp only [i64_w, i32_w]; rw [c34b0]) | skip)
                                  by_cases c35 : t186 < (x0_11.size : Int)
                                  · rw [if_pos c35] at H
                                    have c35b0 : decide (t186 < (x0_11.size : Int)) = true := decide_eq_true c35
                                    clear c35
                                    by_cases c37 : (bt x0_11 t186) = 46
                                    · rw [if_pos c37] at H
                                      have c37b0 : ((bt x0_11 t186) == 46) = true := beq_iff_eq.mpr c37
                                      have c37b1 : ((bt x0_11 t186) != 46) = false := bne_eq_false_iff_eq.mpr c37
                                      clear c37
                                      by_cases c38 : t187 < 1
                                      · rw [if_pos c38] at H
                                        have c38b0 : decide (t187 < 1) = true := decide_eq_true c38
                                        clear c38
                                        have H' := Aside0.mk H
                                        clear H
                                        have p36 : 0 ≤ (t186 : Int) := of_decide_eq_true (by first | (with_reducible assumption) | assumption)
                                        have q36 : t186 < (x0_11.size : Int) := of_decide_eq_true (by first | (with_reducible assumption) | assumption)
                                        have hx36 := bt_at x0_11 t186
                                        replace p36 := eq_true p36
                                        replace q36 := eq_true q36
                                        go_wp2
                                        go_meet
                                        case rel => exact ⟨_, (true), (by first | rfl | (simp; done) | (simp [*]; done)), H', ⟨by have := HJ6.out; have := HJ11.out; have := HJ15.out; have := HK4.out; first | omega | exact Nat.le_refl _⟩, ⟨by (with_reducible repeat (first | refine blk_drewN ?_ _ | refine blk_drew ?_ | refine blk_alloc ?_ _)); exact BK183.out⟩, ⟨by repeat (first | (with_reducible first | exact HB.out | apply below_alloc | apply pw_below_drewN | apply below_drew1 | refine below_set ?_ GE183.out) | exact HB.out)⟩⟩
                                      · rw [if_neg c38] at H
                                        have c38b0 : decide (t187 < 1) = false := decide_eq_false c38
                                        clear c38
                                        by_cases c39 : t187 > 6
                                        · rw [if_pos c39] at H
                                          have c39b0 : decide (6 < t187) = true := decide_eq_true c39
                                          clear c39
                                          have H' := Aside0.mk H
                                          clear H
                                          have p36 : 0 ≤ (t186 : Int) := of_decide_eq_true (by first | (with_reducible assumption) | assumption)
                                          have q36 : t186 < (x0_11.size : Int) := of_decide_eq_true (by first | (with_reducible assumption) | assumption)
                                          have hx36 := bt_at x0_11 t186
                                          replace p36 := eq_true p36
                                          replace q36 := eq_true q36
                                          go_wp2
                                          go_meet
                                          case rel => exact ⟨_, (true), (by first | rfl | (simp; done) | (simp [*]; done)), H', ⟨by have := HJ6.out; have := HJ11.out; have := HJ15.out; have := HK4.out; first | omega | exact Nat.le_refl _⟩, ⟨by (with_reducible repeat (first | refine blk_drewN ?_ _ | refine blk_drew ?_ | refine blk_alloc ?_ _)); exact BK183.out⟩, ⟨by repeat (first | (with_reducible first | exact HB.out | apply below_alloc | apply pw_below_drewN | apply below_drew1 | refine below_set ?_ GE183.out) | exact HB.out)⟩⟩
                                        · rw [if_neg c39] at H
                                          have c39b0 : decide (6 < t187) = false := decide_eq_false c39
                                          clear c39
                                          have H' := Aside0.mk H
                                          clear H
                                          have p36 : 0 ≤ (t186 : Int) := of_decide_eq_true (by first | (with_reducible assumption) | assumption)
                                          have q36 : t186 < (x0_11.size : Int) := of_decide_eq_true (by first | (with_reducible assumption) | assumption)
                                          have hx36 := bt_at x0_11 t186
                                          replace p36 := eq_true p36
                                          replace q36 := eq_true q36
                                          go_wp2
                                          go_meet
                                          case rel => exact ⟨_, (((wrap64 ((ji29) + t187)) != (x0_11.size : Int))), (by first | rfl | (simp; done) | (simp only [← hji29] <;> (first | rfl | simp)) | (simp [*]; done)), H', ⟨by have := HJ6.out; have := HJ11.out; have := HJ15.out; have := HK4.out; first | omega | exact Nat.le_refl _⟩, ⟨by (with_reducible repeat (first | refine blk_drewN ?_ _ | refine blk_drew ?_ | refine blk_alloc ?_ _)); exact BK183.out⟩, ⟨by repeat (first | (with_reducible first | exact HB.out | apply below_alloc | apply pw_below_drewN | apply below_drew1 | refine below_set ?_ GE183.out) | exact HB.out)⟩⟩
                                    · rw [if_neg c37] at H
                                      have c37b0 : ((bt x0_11 t186) == 46) = false := beq_eq_false_iff_ne.mpr c37
                                      have c37b1 : ((bt x0_11 t186) != 46) = true := bne_iff_ne.mpr c37
                                      have H' := Aside0.mk H
                                      clear H
                                      have p36 : 0 ≤ (t186 : Int) := of_decide_eq_true (by first | (with_reducible assumption) | assumption)
                                      have q36 : t186 < (x0_11.size : Int) := of_decide_eq_true (by first | (with_reducible assumption) | assumption)
                                      have hx36 := bt_at x0_11 t186
                                      replace p36 := eq_true p36
                                      replace q36 := eq_true q36
                                      go_wp2
                                      go_meet
                                      case rel => exact ⟨_, (true), (by first | rfl | (simp; done) | (simp [*]; done)), H', ⟨by have := HJ6.out; have := HJ11.out; have := HJ15.out; have := HK4.out; first | omega | exact Nat.le_refl _⟩, ⟨by (with_reducible repeat (first | refine blk_drewN ?_ _ | refine blk_drew ?_ | refine blk_alloc ?_ _)); exact BK183.out⟩, ⟨by repeat (first | (with_reducible first | exact HB.out | apply below_alloc | apply pw_below_drewN | apply below_drew1 | refine below_set ?_ GE183.out) | exact HB.out)⟩⟩
                                  · rw [if_neg c35] at H
                                    exact absurd H (by simp)
                                · rw [if_neg c34] at H
                                  exact absurd H (by simp)
                              case rest =>
                                clear HC33
                                try clear c1
                                try clear p1
                                try clear q1
                                try clear hx1
                                try clear qi1
                                try clear c2
                                try clear c2b0
                                try clear c2b1
                                try clear p2
                                try clear q2
                                try clear hx2
                                try clear qi2
                                try clear c3
                                try clear p3
                                try clear q3
                                try clear hx3
                                try clear p6
                                try clear c9
                                try clear c9b0
                                try clear c9b1
                                try clear c10
                                try clear c10b0
                                try clear c10b1
                                try clear p11
                                try clear q11
                                try clear hx11
                                try clear qi11
                                try clear c13
                                try clear c14
                                try clear c14b0
                                try clear c14b1
                                try clear c17
                                try clear c17b0
                                try clear c18
                                try clear c18b0
                                try clear c19
                                try clear c19b0
                                try clear c20
                                try clear c20b0
                                try clear c20b1
                                try clear p21
                                try clear q21
                                try clear hx21
                                try clear qi21
                                try clear c22
                                try clear c24
                                try clear c24b0
                                try clear c25
                                try clear c25b0
                                try clear c26
                                try clear c26b0
                                try clear p27
                                try clear q27
                                try clear hx27
                                try clear c28
                                try clear c28b0
                                try clear c30
                                try clear c30b0
                                try clear c30b1
                                try clear c31
                                try clear c31b0
                                try clear c31b1
                                try clear c34
                                try clear c34b0
                                try clear c35
                                try clear c35b0
                                try clear p36
                                try clear q36
                                try clear hx36
                                try clear c37
                                try clear c37b0
                                try clear c37b1
                                try clear c38
                                try clear c38b0
                                try clear c39
                                try clear c39b0
                                try clear hcz23_0
                                try clear hcz23_1
                                try clear hcz6_0
                                try clear hcz6_1
                                try clear hfz23_0
                                try clear hfz23_1
                                try clear hfz6_0
                                try clear hfz6_1
                                try clear p1
                                try clear p11
                                try clear p2
                                try clear p21
                                try clear p27
                                try clear p36
                                try clear q1
                                try clear q11
                                try clear q2
                                try clear q21
                                try clear q27
                                try clear q36
                                obtain ⟨kq, x85_32, rfl, HA, HJ32, BK183, HB⟩ := hcut
                                cases kq with
                                | zero => exact absurd HA.out (by simp [spillwayref2_Parse.j4])
                                | succ kj32 =>
                                  have H := HA.out
                                  clear HA
                                  simp only [spillwayref2_Parse.j4] at H
                                  by_cases c40 : x85_32 = true
                                  · subst c40
                                    have H1 : (some (false, 0, false)) = some (r1, r2, r3) := by rw [if_pos rfl] at H; exact H
                                    clear H
                                    have H := H1
                                    clear H1
                                    simp only [Option.some.injEq, Prod.mk.injEq] at H
                                    obtain ⟨rfl, rfl, rfl⟩ := H
                                    have hcz41_0 : wc.cell? ⟨gb183, 0, none⟩ = some (.bool false) := (blk_cell BK183.out 0).trans rfl
                                    have hcz41_1 : wc.cell? ⟨gb183, 1, none⟩ = some (.int .i64 0) := (blk_cell BK183.out 1).trans rfl
                                    have hfz41_0 := blk_frozen BK183.out 0
                                    have hfz41_1 := blk_frozen BK183.out 1
                                    go_wp2
                                    refine bodyPost_ret (results_ct rfl _ _ gb183 25 #[.bool false, .int .i64 0] (0, 0) _ rfl (by (with_reducible repeat (first | refine blk_drewN ?_ _ | refine blk_drew ?_ | refine blk_alloc ?_ _)); refine blk_put (cs := #[.bool false, .int .i64 0]) ?_ 1 _ rfl; (with_reducible repeat (first | refine blk_drewN ?_ _ | refine blk_drew ?_ | refine blk_alloc ?_ _)); refine blk_put (cs := #[.bool false, .int .i64 0]) ?_ 0 _ rfl; (with_reducible repeat (first | refine blk_drewN ?_ _ | refine blk_drew ?_ | refine blk_alloc ?_ _)); exact BK183.out) Tryd.underlying25 rfl (by kernel_rfl)) rfl ?_
                                    exact ⟨by first | rfl | (simp [errW_none, errW_some] <;> rfl) | (simp only [← hji29]; first | rfl | (simp [errW_none, errW_some] <;> rfl)) | (simp [*, errW_none, errW_some] <;> rfl), by repeat (first | (with_reducible first | exact HB.out | apply below_alloc | apply pw_below_drewN | apply below_drew1 | refine below_set ?_ GE183.out) | exact HB.out)⟩
                                  · replace c40 := Bool.eq_false_iff.mpr c40
                                    subst c40
                                    have H1 : (spillwayref2_Parse.l1 kj32 x0_11 x4_6 t186 x6_4 0 t187 0) = some (r1, r2, r3) := by rw [if_neg (show ¬ (false = true) by decide)] at H; exact H
                                    clear H
                                    have H := H1
                                    clear H1
                                    have H' := Aside0.mk H
                                    clear H
                                    go_wp2
                                    go_loopg [8, 10] kj32 (fun kq v8 v10 w' => ∃ (x8_6 : Int) (x10_6 : Int), v8 = .int .u64 x8_6 ∧ v10 = .int .i64 x10_6 ∧ Aside0 (spillwayref2_Parse.l1 kq x0_11 x4_6 t186 x6_4 x8_6 t187 x10_6 = some (r1, r2, r3)) ∧ Aside0 (kq ≤ kj32) ∧ Aside0 (w'.heap[gb183]? = some (.cells #[.bool false, .int .i64 0] 25 (0, 0))) ∧ Aside0 (Below w.heap.size w w'))
                                    case atStart => exact ⟨(0), (0), (by first | rfl | (simp; done) | (simp [*]; done)), (by first | rfl | (simp; done) | (simp [*]; done)), H', ⟨Nat.le_refl _⟩, ⟨by (with_reducible repeat (first | refine blk_drewN ?_ _ | refine blk_drew ?_ | refine blk_alloc ?_ _)); exact BK183.out⟩, ⟨by repeat (first | (with_reducible first | exact HB.out | apply below_alloc | apply pw_below_drewN | apply below_drew1 | refine below_set ?_ GE183.out) | exact HB.out)⟩⟩
                                    case round =>
                                      clear H'
                                      try clear c1
                                      try clear p1
                                      try clear q1
                                      try clear hx1
                                      try clear qi1
                                      try clear c2
                                      try clear c2b0
                                      try clear c2b1
                                      try clear p2
                                      try clear q2
                                      try clear hx2
                                      try clear qi2
                                      try clear c3
                                      try clear p3
                                      try clear q3
                                      try clear hx3
                                      try clear c4
                                      try clear p6
                                      try clear c9
                                      try clear c9b0
                                      try clear c9b1
                                      try clear c10
                                      try clear c10b0
                                      try clear c10b1
                                      try clear p11
                                      try clear q11
                                      try clear hx11
                                      try clear qi11
                                      try clear c13
                                      try clear c14
                                      try clear c14b0
                                      try clear c14b1
                                      try clear c17
                                      try clear c17b0
                                      try clear c18
                                      try clear c18b0
                                      try clear c19
                                      try clear c19b0
                                      try clear c20
                                      try clear c20b0
                                      try clear c20b1
                                      try clear p21
                                      try clear q21
                                      try clear hx21
                                      try clear qi21
                                      try clear c22
                                      try clear c24
                                      try clear c24b0
                                      try clear c25
                                      try clear c25b0
                                      try clear c26
                                      try clear c26b0
                                      try clear p27
                                      try clear q27
                                      try clear hx27
                                      try clear c28
                                      try clear c28b0
                                      try clear c30
                                      try clear c30b0
                                      try clear c30b1
                                      try clear c31
                                      try clear c31b0
                                      try clear c31b1
                                      try clear c34
                                      try clear c34b0
                                      try clear c35
                                      try clear c35b0
                                      try clear p36
                                      try clear q36
                                      try clear hx36
                                      try clear c37
                                      try clear c37b0
                                      try clear c37b1
                                      try clear c38
                                      try clear c38b0
                                      try clear c39
                                      try clear c39b0
                                      try clear c40
                                      try clear hcz23_0
                                      try clear hcz23_1
                                      try clear hcz41_0
                                      try clear hcz41_1
                                      try clear hcz6_0
                                      try clear hcz6_1
                                      try clear hfz23_0
                                      try clear hfz23_1
                                      try clear hfz41_0
                                      try clear hfz41_1
                                      try clear hfz6_0
                                      try clear hfz6_1
                                      try clear p1
                                      try clear p11
                                      try clear p2
                                      try clear p21
                                      try clear p27
                                      try clear p3
                                      try clear p36
                                      try clear p6
                                      try clear q1
                                      try clear q11
                                      try clear q2
                                      try clear q21
                                      try clear q27
                                      try clear q3
                                      try clear q36
                                      obtain ⟨x8_6, x10_6, rfl, rfl, HA, HK6, BK183, HB⟩ := hrel
                                      cases gk with
                                      | zero => exact absurd HA.out (by simp [spillwayref2_Parse.l1])
                                      | succ k6 =>
                                        have H := HA.out
                                        clear HA
                                        simp only [spillwayref2_Parse.l1] at H
                                        by_cases c42 : x10_6 < 6
                                        · rw [if_pos c42] at H
                                          have c42b0 : decide (x10_6 < 6) = true := decide_eq_true c42
                                          clear c42
                                          by_cases c43 : x10_6 < t187
                                          · rw [if_pos c43] at H
                                            have c43b0 : decide (x10_6 < t187) = true := decide_eq_true c43
                                            clear c43
                                            obtain ⟨ji44, hji44⟩ : ∃ j_ : Int, (wrap64 ((wrap64 (t186 + 1)) + x10_6)) = j_ := ⟨_, rfl⟩
                                            replace H : (if 0 ≤ (ji44) then (if (ji44) < (x0_11.size : Int) then (spillwayref2_Parse.l1 k6 x0_11 x4_6 t186 x6_4 (IntKind.u64.wrap ((IntKind.u64.wrap (x8_6 * 10)) + (((bt x0_11 (ji44)) - 48) % 256))) t187 (wrap64 (x10_6 + 1))) else (none)) else (none)) = some (r1, r2, r3) := by first | (rw [hji44] at H; exact H) | (simp only [hji44] at H ⊢; exact H)
                                            have hji44w : (IntKind.i64.wrap ((wrap64 (t186 + 1)) + x10_6)) = ji44 := (i64_w _).trans hji44
                                            rw [hji29] at hji44 hji44w
                                            by_cases c45 : 0 ≤ (ji44)
                                            · rw [if_pos c45] at H
                                              have c45b0 : decide (0 ≤ (ji44)) = true := decide_eq_true c45
                                              clear c45
                                              by_cases c46 : (ji44) < (x0_11.size : Int)
                                              · rw [if_pos c46] at H
                                                have c46b0 : decide ((ji44) < (x0_11.size : Int)) = true := decide_eq_true c46
                                                clear c46
                                                have H' := Aside0.mk H
                                                clear H
                                                have p47 : 0 ≤ ((ji44) : Int) := of_decide_eq_true (by first | (with_reducible assumption) | assumption)
                                                have q47 : (ji44) < (x0_11.size : Int) := of_decide_eq_true (by first | (with_reducible assumption) | assumption)
                                                have hx47 := bt_at x0_11 (ji44)
                                                replace p47 := eq_true p47
                                                replace q47 := eq_true q47
                                                go_wp2
                                                go_roundg k6
                                                case measure => have := HJ6.out; have := HJ11.out; have := HJ15.out; have := HK4.out; have := HJ32.out; have := HK6.out; omega
                                                case rel => exact ⟨(IntKind.u64.wrap ((IntKind.u64.wrap (x8_6 * 10)) + (((bt x0_11 (ji44)) - 48) % 256))), (wrap64 (x10_6 + 1)), (by first | rfl | (simp; done) | (simp only [← hji44] <;> (first | rfl | simp)) | (simp [*]; done)), (by first | rfl | (simp; done) | (simp [*]; done)), H', ⟨by have := HJ6.out; have := HJ11.out; have := HJ15.out; have := HK4.out; have := HJ32.out; have := HK6.out; omega⟩, ⟨by (with_reducible repeat (first | refine blk_drewN ?_ _ | refine blk_drew ?_ | refine blk_alloc ?_ _)); exact BK183.out⟩, ⟨by repeat (first | (with_reducible first | exact HB.out | apply below_alloc | apply pw_below_drewN | apply below_drew1 | refine below_set ?_ GE183.out) | exact HB.out)⟩⟩
                                              · rw [if_neg c46] at H
                                                exact absurd H (by simp)
                                            · rw [if_neg c45] at H
                                              exact absurd H (by simp)
                                          · rw [if_neg c43] at H
                                            have c43b0 : decide (x10_6 < t187) = false := decide_eq_false c43
                                            clear c43
                                            have H' := Aside0.mk H
                                            clear H
                                            go_wp2
                                            go_roundg k6
                                            case measure => have := HJ6.out; have := HJ11.out; have := HJ15.out; have := HK4.out; have := HJ32.out; have := HK6.out; omega
                                            case rel => exact ⟨(IntKind.u64.wrap (x8_6 * 10)), (wrap64 (x10_6 + 1)), (by first | rfl | (simp; done) | (simp [*]; done)), (by first | rfl | (simp; done) | (simp [*]; done)), H', ⟨by have := HJ6.out; have := HJ11.out; have := HJ15.out; have := HK4.out; have := HJ32.out; have := HK6.out; omega⟩, ⟨by (with_reducible repeat (first | refine blk_drewN ?_ _ | refine blk_drew ?_ | refine blk_alloc ?_ _)); exact BK183.out⟩, ⟨by repeat (first | (with_reducible first | exact HB.out | apply below_alloc | apply pw_below_drewN | apply below_drew1 | refine below_set ?_ GE183.out) | exact HB.out)⟩⟩
                                        · rw [if_neg c42] at H
                                          have c42b0 : decide (x10_6 < 6) = false := decide_eq_false c42
                                          clear c42
                                          replace H := Option.bind_eq_some_iff.mp H
                                          obtain ⟨⟨t188, t189⟩, A480, H⟩ := H
                                          replace H : (some (t188, t189, true)) = some (r1, r2, r3) := H
                                          have A48 := Aside0.mk A480
                                          clear A480
                                          simp only [Option.some.injEq, Prod.mk.injEq] at H
                                          obtain ⟨rfl, rfl, rfl⟩ := H
                                          go_wp2_with (first | ((with_reducible refine gate_callee (f := 38) rfl ?_); refine goesL_ (some 111) rfl rfl Tryd.func38 (by kernel_rfl) rfl #[.int .u64 (IntKind.u64.wrap ((IntKind.u64.wrap (x6_4 * 1000000)) + x8_6)), .bool x4_6] rfl (by (try simp only [List.map_toArray, List.map_cons, List.map_nil]); first | done | rfl | (simp only [List.length_drop, List.length_take]; rfl)) ?_; (with_reducible refine (spillwayref2_signed.calls (IntKind.u64.wrap ((IntKind.u64.wrap (x6_4 * 1000000)) + x8_6)) x4_6 t188 t189 _ A48.out).mono ?_); rintro e w49 ⟨rfl, hb⟩; refine ⟨_, rfl, ?_⟩; have n0_ := Aside0.mk (blk_below (g := gb183) (o := .cells #[.bool false, .int .i64 0] 25 (0, 0)) (by (with_reducible repeat (first | refine blk_drewN ?_ _ | refine blk_drew ?_ | refine blk_alloc ?_ _)); exact BK183.out) hb); have n1_ := Aside0.mk (below_step (by repeat (first | (with_reducible first | exact HB.out | apply below_alloc | apply pw_below_drewN | apply below_drew1 | refine below_set ?_ GE183.out) | exact HB.out)) hb); clear BK183; clear HB; have BK183 := n0_; have HB := n1_; clear n0_ n1_; (try clear hb); (try clear hb2); (try clear hk); (try clear hi); have hcz50_0 : w49.cell? ⟨gb183, 0, none⟩ = some (.bool false) := (blk_cell BK183.out 0).trans rfl; have hcz50_1 : w49.cell? ⟨gb183, 1, none⟩ = some (.int .i64 0) := (blk_cell BK183.out 1).trans rfl; have hfz50_0 := blk_frozen BK183.out 0; have hfz50_1 := blk_frozen BK183.out 1))
                                          refine bodyPost_ret (results_ct rfl _ _ gb183 25 #[.bool t188, .int .i64 t189] (0, 0) _ rfl (by (with_reducible repeat (first | refine blk_drewN ?_ _ | refine blk_drew ?_ | refine blk_alloc ?_ _)); refine blk_put (cs := #[.bool t188, .int .i64 0]) ?_ 1 _ rfl; (with_reducible repeat (first | refine blk_drewN ?_ _ | refine blk_drew ?_ | refine blk_alloc ?_ _)); refine blk_put (cs := #[.bool false, .int .i64 0]) ?_ 0 _ rfl; (with_reducible repeat (first | refine blk_drewN ?_ _ | refine blk_drew ?_ | refine blk_alloc ?_ _)); exact BK183.out) Tryd.underlying25 rfl (by kernel_rfl)) rfl ?_
                                          exact ⟨by first | rfl | (simp [errW_none, errW_some] <;> rfl) | (simp only [← hji29]; first | rfl | (simp [errW_none, errW_some] <;> rfl)) | (simp [*, errW_none, errW_some] <;> rfl), by repeat (first | (with_reducible first | exact HB.out | apply below_alloc | apply pw_below_drewN | apply below_drew1 | refine below_set ?_ GE183.out) | exact HB.out)⟩
                            · rw [if_neg c31] at H
                              exact absurd H (by simp)
                          · rw [if_neg c30] at H
                            exact absurd H (by simp)
                        · rw [if_neg c28] at H
                          have c28b0 : decide (t186 < (x0_11.size : Int)) = false := decide_eq_false c28
                          clear c28
                          replace H := Option.bind_eq_some_iff.mp H
                          obtain ⟨⟨t190, t191⟩, A510, H⟩ := H
                          replace H : (some (t190, t191, true)) = some (r1, r2, r3) := H
                          have A51 := Aside0.mk A510
                          clear A510
                          simp only [Option.some.injEq, Prod.mk.injEq] at H
                          obtain ⟨rfl, rfl, rfl⟩ := H
                          go_wp2_with (first | ((with_reducible refine gate_callee (f := 38) rfl ?_); refine goesL_ (some 111) rfl rfl Tryd.func38 (by kernel_rfl) rfl #[.int .u64 (IntKind.u64.wrap ((IntKind.u64.wrap (x6_4 * 1000000)) + 0)), .bool x4_6] rfl (by (try simp only [List.map_toArray, List.map_cons, List.map_nil]); first | done | rfl | (rw [Int.add_zero]; rfl) | (simp only [Int.add_zero]; done) | (simp [Int.add_zero]; done) | (simp only [List.length_drop, List.length_take]; rfl)) ?_; (with_reducible refine (spillwayref2_signed.calls (IntKind.u64.wrap ((IntKind.u64.wrap (x6_4 * 1000000)) + 0)) x4_6 t190 t191 _ A51.out).mono ?_); rintro e w52 ⟨rfl, hb⟩; refine ⟨_, rfl, ?_⟩; have n0_ := Aside0.mk (blk_below (g := gb183) (o := .cells #[.bool false, .int .i64 0] 25 (0, 0)) (by (with_reducible repeat (first | refine blk_drewN ?_ _ | refine blk_drew ?_ | refine blk_alloc ?_ _)); exact BK183.out) hb); have n1_ := Aside0.mk (below_step (by repeat (first | (with_reducible first | exact HB.out | apply below_alloc | apply pw_below_drewN | apply below_drew1 | refine below_set ?_ GE183.out) | exact HB.out)) hb); clear BK183; clear HB; have BK183 := n0_; have HB := n1_; clear n0_ n1_; (try clear hb); (try clear hb2); (try clear hk); (try clear hi); have hcz53_0 : w52.cell? ⟨gb183, 0, none⟩ = some (.bool false) := (blk_cell BK183.out 0).trans rfl; have hcz53_1 : w52.cell? ⟨gb183, 1, none⟩ = some (.int .i64 0) := (blk_cell BK183.out 1).trans rfl; have hfz53_0 := blk_frozen BK183.out 0; have hfz53_1 := blk_frozen BK183.out 1))
                          refine bodyPost_ret (results_ct rfl _ _ gb183 25 #[.bool t190, .int .i64 t191] (0, 0) _ rfl (by (with_reducible repeat (first | refine blk_drewN ?_ _ | refine blk_drew ?_ | refine blk_alloc ?_ _)); refine blk_put (cs := #[.bool t190, .int .i64 0]) ?_ 1 _ rfl; (with_reducible repeat (first | refine blk_drewN ?_ _ | refine blk_drew ?_ | refine blk_alloc ?_ _)); refine blk_put (cs := #[.bool false, .int .i64 0]) ?_ 0 _ rfl; (with_reducible repeat (first | refine blk_drewN ?_ _ | refine blk_drew ?_ | refine blk_alloc ?_ _)); exact BK183.out) Tryd.underlying25 rfl (by kernel_rfl)) rfl ?_
                          exact ⟨by first | rfl | (simp [errW_none, errW_some] <;> rfl) | (simp [*, errW_none, errW_some] <;> rfl), by repeat (first | (with_reducible first | exact HB.out | apply below_alloc | apply pw_below_drewN | apply below_drew1 | refine below_set ?_ GE183.out) | exact HB.out)⟩

end Go.Proofs.YtjaolddgnijgiaaDoor.Print
