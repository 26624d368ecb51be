-- PRINTED by print.py (a twelfth state) out of the translation. Not trusted: Lean checks it.
import Derived.Test.YtjaolddgnijgiaaDoorPrint0
import Derived.Test.YtjaolddgnijgiaaDoorPrint1
import Derived.Test.YtjaolddgnijgiaaDoorPrint16
import Derived.Test.YtjaolddgnijgiaaDoorPrint21
import Derived.Test.YtjaolddgnijgiaaDoorPrint28
import Derived.Test.YtjaolddgnijgiaaDoorPrint31
import Derived.Test.YtjaolddgnijgiaaDoorPrint32
import Derived.Test.YtjaolddgnijgiaaDoorKnown
namespace Go.Proofs.YtjaolddgnijgiaaDoor.Print
open Go.RowKit Go.Proofs.YtjaolddgnijgiaaDoorX Go.Proofs.YtjaolddgnijgiaaDoorW.PrintWords Go.Proofs.YtjaolddgnijgiaaDoorW.PrintLast Go.Proofs.YtjaolddgnijgiaaDoorW.PrintMore
attribute [local go_sem] max2_int min2_int max_two min_two max_three min_three max_four min_four   -- for this text's walks alone
set_option linter.unusedVariables false
set_option linter.unusedSimpArgs false

attribute [local go_sem high] eqA25
/-! ### spillwaylaw2_FixTexts: function 7 -/
mutual
def spillwaylaw2_FixTexts.j0 : Nat → Int → Bool → Int → Option (Bool)
  | 0, _, _, _ => none
  | k + 1, x1, x292000, x292001 => (fix_Print.f x292000 x292001).bind fun t294 => ((fix_Parse.f k t294).bind fun bt295 => (if t294.size + 1 ≤ 9223372036854775807 then ((fix_Parse.f k (t294 ++ (⟨#[48]⟩ : ByteArray))).bind fun bt299 => (if 1 + t294.size ≤ 9223372036854775807 then ((fix_Parse.f k ((⟨#[48]⟩ : ByteArray) ++ t294)).bind fun bt303 => (spillwaylaw2_FixTexts.l0 k x1 t294 bt295.2.2 bt299.2.2 bt303.2.2 false 0 x292000 x292001 bt295.1 bt295.2.1 bt299.1 bt299.2.1 bt303.1 bt303.2.1)) else (none))) else (none)))
def spillwaylaw2_FixTexts.l0 : Nat → Int → ByteArray → Int → Int → Int → Bool → Int → Bool → Int → Bool → Int → Bool → Int → Bool → Int → Option (Bool)
  | 0, _, _, _, _, _, _, _, _, _, _, _, _, _, _, _ => none
  | k + 1, x1, x8, x10, x12, x14, x15, x16, x292000, x292001, x299000, x299001, x303000, x303001, x307000, x307001 => if x16 < (x8.size : Int) then (if x15 = true then (spillwaylaw2_FixTexts.l0 k x1 x8 x10 x12 x14 true (wrap64 (x16 + 1)) x292000 x292001 x299000 x299001 x303000 x303001 x307000 x307001) else (if 0 ≤ x16 then (spillwaylaw2_FixTexts.l0 k x1 x8 x10 x12 x14 ((bt x8 x16) == 46) (wrap64 (x16 + 1)) x292000 x292001 x299000 x299001 x303000 x303001 x307000 x307001) else (none))) else (if x10 = 0 then (if (!(x299000 == x292000) || (!(x299001 == x292001))) = true then (spillwaylaw2_FixTexts.j2 k x12 x15 true x292000 x292001 x303000 x303001) else (if x14 = 0 then (if (x307000 || (!(x307001 == 0))) = true then (spillwaylaw2_FixTexts.j2 k x12 x15 true x292000 x292001 x303000 x303001) else (if (x15 != ((Int.tmod x1 1000000) != 0)) = true then (spillwaylaw2_FixTexts.j2 k x12 x15 true x292000 x292001 x303000 x303001) else (if x15 = true then (if 0 ≤ (wrap64 ((x8.size : Int) - 1)) then (if (wrap64 ((x8.size : Int) - 1)) < (x8.size : Int) then (spillwaylaw2_FixTexts.j2 k x12 x15 ((bt x8 (wrap64 ((x8.size : Int) - 1))) == 48) x292000 x292001 x303000 x303001) else (none)) else (none)) else (spillwaylaw2_FixTexts.j2 k x12 x15 false x292000 x292001 x303000 x303001)))) else (if (x15 != ((Int.tmod x1 1000000) != 0)) = true then (spillwaylaw2_FixTexts.j2 k x12 x15 true x292000 x292001 x303000 x303001) else (if x15 = true then (if 0 ≤ (wrap64 ((x8.size : Int) - 1)) then (if (wrap64 ((x8.size : Int) - 1)) < (x8.size : Int) then (spillwaylaw2_FixTexts.j2 k x12 x15 ((bt x8 (wrap64 ((x8.size : Int) - 1))) == 48) x292000 x292001 x303000 x303001) else (none)) else (none)) else (spillwaylaw2_FixTexts.j2 k x12 x15 false x292000 x292001 x303000 x303001))))) else (spillwaylaw2_FixTexts.j2 k x12 x15 true x292000 x292001 x303000 x303001))
def spillwaylaw2_FixTexts.j2 : Nat → Int → Bool → Bool → Bool → Int → Bool → Int → Option (Bool)
  | 0, _, _, _, _, _, _, _ => none
  | k + 1, x12, x15, x95, x292000, x292001, x303000, x303001 => if x95 = true then (some false) else (if x12 = 0 then (if x15 = true then (if (x303000 == x292000 && (x303001 == x292001)) = true then (some true) else (some false)) else ((fix_Of.f k 10).bind fun bt307 => ((fix_Mul.f k x292000 x292001 bt307.1 bt307.2).bind fun bt309 => (some (x303000 == bt309.1 && (x303001 == bt309.2)))))) else (some true))
end
def spillwaylaw2_FixTexts.f (k : Nat) (a0 : Int) (a1 : Int) (a2 : Bool) : Option (Bool) := (spillwaylaw2_known.f).bind fun t290 => (if t290 = true then (if a2 = true then ((fix_Neg.f false (wrap64 ((wrap64 ((wrap64 (a0)) * 1000000)) + (wrap64 (Int.tmod a1 1000000))))).bind fun bt292 => (spillwaylaw2_FixTexts.j0 k a1 bt292.1 bt292.2)) else (spillwaylaw2_FixTexts.j0 k a1 false (wrap64 ((wrap64 ((wrap64 (a0)) * 1000000)) + (wrap64 (Int.tmod a1 1000000)))))) else (some false))
theorem spillwaylaw2_FixTexts.mono_l : ∀ k, (∀ y0 y1 y2, LeO (spillwaylaw2_FixTexts.j0 k y0 y1 y2) (spillwaylaw2_FixTexts.j0 (k + 1) y0 y1 y2)) ∧ (∀ y0 y1 y2 y3 y4 y5 y6 y7 y8 y9 y10 y11 y12 y13 y14, LeO (spillwaylaw2_FixTexts.l0 k y0 y1 y2 y3 y4 y5 y6 y7 y8 y9 y10 y11 y12 y13 y14) (spillwaylaw2_FixTexts.l0 (k + 1) y0 y1 y2 y3 y4 y5 y6 y7 y8 y9 y10 y11 y12 y13 y14)) ∧ (∀ y0 y1 y2 y3 y4 y5 y6, LeO (spillwaylaw2_FixTexts.j2 k y0 y1 y2 y3 y4 y5 y6) (spillwaylaw2_FixTexts.j2 (k + 1) y0 y1 y2 y3 y4 y5 y6))
  | 0 => ⟨fun _ _ _ r h => by simp [spillwaylaw2_FixTexts.j0] at h, fun _ _ _ _ _ _ _ _ _ _ _ _ _ _ _ r h => by simp [spillwaylaw2_FixTexts.l0] at h, fun _ _ _ _ _ _ _ r h => by simp [spillwaylaw2_FixTexts.j2] at h⟩
  | k + 1 => by
    obtain ⟨ih0, ih1, ih2⟩ := spillwaylaw2_FixTexts.mono_l k
    refine ⟨?_, ?_, ?_⟩
    · intro y0 y1 y2
      unfold spillwaylaw2_FixTexts.j0
      repeat' first
      | (with_reducible exact ih0 _ _ _)
      | (with_reducible exact ih1 _ _ _ _ _ _ _ _ _ _ _ _ _ _ _)
      | (with_reducible exact ih2 _ _ _ _ _ _ _)
      | (with_reducible exact fix_Mul.mono _ _ _ _ _)
      | (with_reducible exact fix_Of.mono _ _)
      | (with_reducible exact fix_Parse.mono _ _)
      | (with_reducible exact LeO.refl _)
      | (with_reducible exact LeO.none _)
      | (with_reducible refine LeO.ite ?_ ?_)
      | (with_reducible refine LeO.bind ?_ (fun _ => ?_))
      | exact ih0 _ _ _
      | exact ih1 _ _ _ _ _ _ _ _ _ _ _ _ _ _ _
      | exact ih2 _ _ _ _ _ _ _
      | exact fix_Mul.mono _ _ _ _ _
      | exact fix_Of.mono _ _
      | exact fix_Parse.mono _ _
      | exact LeO.none _
      | refine LeO.ite ?_ ?_
      | refine LeO.bind ?_ (fun _ => ?_)
    · intro y0 y1 y2 y3 y4 y5 y6 y7 y8 y9 y10 y11 y12 y13 y14
      unfold spillwaylaw2_FixTexts.l0
      repeat' first
      | (with_reducible exact ih0 _ _ _)
      | (with_reducible exact ih1 _ _ _ _ _ _ _ _ _ _ _ _ _ _ _)
      | (with_reducible exact ih2 _ _ _ _ _ _ _)
      | (with_reducible exact fix_Mul.mono _ _ _ _ _)
      | (with_reducible exact fix_Of.mono _ _)
      | (with_reducible exact fix_Parse.mono _ _)
      | (with_reducible exact LeO.refl _)
      | (with_reducible exact LeO.none _)
      | (with_reducible refine LeO.ite ?_ ?_)
      | (with_reducible refine LeO.bind ?_ (fun _ => ?_))
      | exact ih0 _ _ _
      | exact ih1 _ _ _ _ _ _ _ _ _ _ _ _ _ _ _
      | exact ih2 _ _ _ _ _ _ _
      | exact fix_Mul.mono _ _ _ _ _
      | exact fix_Of.mono _ _
      | exact fix_Parse.mono _ _
      | exact LeO.none _
      | refine LeO.ite ?_ ?_
      | refine LeO.bind ?_ (fun _ => ?_)
    · intro y0 y1 y2 y3 y4 y5 y6
      unfold spillwaylaw2_FixTexts.j2
      repeat' first
      | (with_reducible exact ih0 _ _ _)
      | (with_reducible exact ih1 _ _ _ _ _ _ _ _ _ _ _ _ _ _ _)
      | (with_reducible exact ih2 _ _ _ _ _ _ _)
      | (with_reducible exact fix_Mul.mono _ _ _ _ _)
      | (with_reducible exact fix_Of.mono _ _)
      | (with_reducible exact fix_Parse.mono _ _)
      | (with_reducible exact LeO.refl _)
      | (with_reducible exact LeO.none _)
      | (with_reducible refine LeO.ite ?_ ?_)
      | (with_reducible refine LeO.bind ?_ (fun _ => ?_))
      | exact ih0 _ _ _
      | exact ih1 _ _ _ _ _ _ _ _ _ _ _ _ _ _ _
      | exact ih2 _ _ _ _ _ _ _
      | exact fix_Mul.mono _ _ _ _ _
      | exact fix_Of.mono _ _
      | exact fix_Parse.mono _ _
      | exact LeO.none _
      | refine LeO.ite ?_ ?_
      | refine LeO.bind ?_ (fun _ => ?_)
theorem spillwaylaw2_FixTexts.mono : ∀ a0 a1 a2 k, LeO (spillwaylaw2_FixTexts.f k a0 a1 a2) (spillwaylaw2_FixTexts.f (k + 1) a0 a1 a2) := by
  intro a0 a1 a2 k
  obtain ⟨ih0, ih1, ih2⟩ := spillwaylaw2_FixTexts.mono_l k
  unfold spillwaylaw2_FixTexts.f
  repeat' first
      | (with_reducible exact ih0 _ _ _)
      | (with_reducible exact ih1 _ _ _ _ _ _ _ _ _ _ _ _ _ _ _)
      | (with_reducible exact ih2 _ _ _ _ _ _ _)
      | (with_reducible exact fix_Mul.mono _ _ _ _ _)
      | (with_reducible exact fix_Of.mono _ _)
      | (with_reducible exact fix_Parse.mono _ _)
      | (with_reducible exact LeO.refl _)
      | (with_reducible exact LeO.none _)
      | (with_reducible refine LeO.ite ?_ ?_)
      | (with_reducible refine LeO.bind ?_ (fun _ => ?_))
      | exact ih0 _ _ _
      | exact ih1 _ _ _ _ _ _ _ _ _ _ _ _ _ _ _
      | exact ih2 _ _ _ _ _ _ _
      | exact fix_Mul.mono _ _ _ _ _
      | exact fix_Of.mono _ _
      | exact fix_Parse.mono _ _
      | exact LeO.none _
      | refine LeO.ite ?_ ?_
      | refine LeO.bind ?_ (fun _ => ?_)
def spillwaylaw2_FixTexts.T17 : Bool × List (List Nat × List Nat) := (true, [([], []), ([0], [0]), ([1], [1]), ([2], [2]), ([3, 2, 2], [2, 3]), ([4], [4]), ([4], [4]), ([5, 6, 4], [4, 5, 6]), ([4, 7, 2], [2, 4, 7]), ([2, 8], [2, 8]), ([9, 4], [9]), ([10], [10]), ([11, 10], [10, 11]), ([12, 10, 10], [10, 12]), ([13], [13]), ([13], [13]), ([13, 13], [13]), ([15, 16, 16, 13], [13, 15, 16]), ([14, 17, 13], [13, 14, 17]), ([13, 18, 10], [10, 13, 18]), ([10, 19], [10, 19]), ([20, 17, 0, 1, 2, 3, 4, 5, 6, 7, 8, 9, 10, 11, 12, 13, 14, 15, 16, 17, 18, 19, 20], [20])])
def spillwaylaw2_FixTexts.B17 : List Nat := [0, 1, 3, 7, 15, 31, 31, 127, 255, 511, 1023, 2047, 4095, 8191, 16383, 16383, 16383, 114687, 262143, 524287, 1048575, 2097151]
theorem spillwaylaw2_FixTexts.tab17 : rtab .any (opsOf Tryd.f7 17) = spillwaylaw2_FixTexts.T17 := by kernel_rfl
theorem spillwaylaw2_FixTexts.bits17 : waitsOk spillwaylaw2_FixTexts.T17.2 spillwaylaw2_FixTexts.B17 = true := by kernel_rfl
set_option maxHeartbeats 8000000 in
set_option maxRecDepth 100000 in
theorem spillwaylaw2_FixTexts.calls (k : Nat) (a0 : Int) (a1 : Int) (a2 : Bool) (r : Bool) (w : World) (hg_ : LaidW w) (h : spillwaylaw2_FixTexts.f k a0 a1 a2 = some r) (hr_ : r = true) :
    Calls Tryd.prog 7 #[.int .u32 a0, .int .u32 a1, .bool a2] w fun e w' => e = .returned (.bool r) ∧ Below w.heap.size w w' := by
  have HRT := Aside0.mk hr_
  clear hr_
  have HLW := Aside0.mk hg_
  clear hg_
  have hu25 := Tryd.underlying25
  have HB := Aside0.mk (Below.refl w.heap.size w)
  have H : ((spillwaylaw2_known.f).bind fun t290 => (if t290 = true then (if a2 = true then ((fix_Neg.f false (wrap64 ((wrap64 ((wrap64 (a0)) * 1000000)) + (wrap64 (Int.tmod a1 1000000))))).bind fun bt292 => (spillwaylaw2_FixTexts.j0 k a1 bt292.1 bt292.2)) else (spillwaylaw2_FixTexts.j0 k a1 false (wrap64 ((wrap64 ((wrap64 (a0)) * 1000000)) + (wrap64 (Int.tmod a1 1000000)))))) else (some false))) = some r := h
  clear h
  replace H := Option.bind_eq_some_iff.mp H
  obtain ⟨t290, A40, H⟩ := H
  replace H : (if t290 = true then (if a2 = true then ((fix_Neg.f false (wrap64 ((wrap64 ((wrap64 (a0)) * 1000000)) + (wrap64 (Int.tmod a1 1000000))))).bind fun bt292 => (spillwaylaw2_FixTexts.j0 k a1 bt292.1 bt292.2)) else (spillwaylaw2_FixTexts.j0 k a1 false (wrap64 ((wrap64 ((wrap64 (a0)) * 1000000)) + (wrap64 (Int.tmod a1 1000000)))))) else (some false)) = some r := H
  have A4 := Aside0.mk A40
  clear A40
  by_cases c5 : t290 = true
  · subst c5
    have H1 : (if a2 = true then ((fix_Neg.f false (wrap64 ((wrap64 ((wrap64 (a0)) * 1000000)) + (wrap64 (Int.tmod a1 1000000))))).bind fun bt292 => (spillwaylaw2_FixTexts.j0 k a1 bt292.1 bt292.2)) else (spillwaylaw2_FixTexts.j0 k a1 false (wrap64 ((wrap64 ((wrap64 (a0)) * 1000000)) + (wrap64 (Int.tmod a1 1000000)))))) = some r := by rw [if_pos rfl] at H; exact H
    clear H
    have H := H1
    clear H1
    have HC6 := Aside0.mk H
    clear H
    go_enter Tryd.func7, Tryd.ntmps7
    go_upto_if 27 with (first | ((with_reducible refine gate_callee (f := 10) rfl ?_); refine goesL_ (some 17) rfl rfl Tryd.func10 (by kernel_rfl) rfl #[] rfl (by (try simp only [List.map_toArray, List.map_cons, List.map_nil]); first | done | rfl | (simp only [List.length_drop, List.length_take]; rfl)) ?_; (with_reducible refine (spillwaylaw2_known.calls  true _ ?side1 A4.out).mono ?_); (case side1 => exact LaidW.below HLW.out (by repeat (first | (with_reducible first | exact HB.out | apply below_alloc | apply pw_below_drewN | apply below_drew1) | exact HB.out | (refine below_set ?_ (Aside0.out ?hge); (case hge => assumption))))); rintro e w7 ⟨rfl, hb⟩; refine ⟨_, rfl, ?_⟩; have n0_ := Aside0.mk (below_step (by repeat (first | (with_reducible first | exact HB.out | apply below_alloc | apply pw_below_drewN | apply below_drew1) | exact HB.out)) hb); clear HB; have HB := n0_; clear n0_; (try clear hb); (try clear hb2); (try clear hk); (try clear hi)) | ((with_reducible refine gate_dst (N := 7) rfl ?_); (try (refine gate_guard (by rfl) ?_; dsimp only)); refine box_event ?hg (N := 7) ?hd (cs := #[.bool false, .int .i64 0]) (t := 25) ?hr ?_; (case hd => rfl); (case hg => rfl); (case hr => first | (go_simp; done) | (go_simp; rfl)); intro gb291 hg w8 hbox hb; have n0_ := Aside0.mk (below_step (by repeat (first | (with_reducible first | exact HB.out | apply below_alloc | apply pw_below_drewN | apply below_drew1) | exact HB.out)) hb); have n1_ := Aside0.mk (hbox); have n2_ := Aside0.mk ((by rw [hg]; exact (below_size (by repeat (first | (with_reducible first | exact HB.out | apply below_alloc | apply pw_below_drewN | apply below_drew1) | exact HB.out))) : w.heap.size ≤ gb291)); have n3_ := Aside0.mk ((by rw [hg]; exact (below_size (by repeat (first | (with_reducible first | exact HB.out | apply below_alloc | apply pw_below_drewN | apply below_drew1) | exact HB.out))) : w.heap.size ≤ gb291)); clear HB; have HB := n0_; have BK291 := n1_; have GW291 := n2_; have GE291 := n3_; clear n0_ n1_ n2_ n3_; clear hb hbox hg; have hcz9_0 : w8.cell? ⟨gb291, 0, none⟩ = some (.bool false) := (blk_cell BK291.out 0).trans rfl; have hcz9_1 : w8.cell? ⟨gb291, 1, none⟩ = some (.int .i64 0) := (blk_cell BK291.out 1).trans rfl; have hfz9_0 := blk_frozen BK291.out 0; have hfz9_1 := blk_frozen BK291.out 1))
    (try simp only [Act.put, List.setIfInBounds_toArray, List.set_cons_zero, List.set_cons_succ])
    go_cut [] (fun wc => ∃ (kq : Nat) (x292000_5 : Bool) (x292001_5 : Int), Aside0 (spillwaylaw2_FixTexts.j0 kq a1 x292000_5 x292001_5 = some r) ∧ Aside0 (kq ≤ k) ∧ Aside0 (wc.heap[gb291]? = some (.cells #[.bool x292000_5, .int .i64 x292001_5] 25 (0, 0))) ∧ Aside0 (Below w.heap.size w wc))
    case first =>
      have H := HC6.out
      clear HC6
      by_cases c10 : a2 = true
      · subst c10
        have H1 : ((fix_Neg.f false (wrap64 ((wrap64 ((wrap64 (a0)) * 1000000)) + (wrap64 (Int.tmod a1 1000000))))).bind fun bt292 => (spillwaylaw2_FixTexts.j0 k a1 bt292.1 bt292.2)) = some r := by rw [if_pos rfl] at H; exact H
        clear H
        have H := H1
        clear H1
        replace H := Option.bind_eq_some_iff.mp H
        obtain ⟨⟨t292, t293⟩, A110, H⟩ := H
        replace H : (spillwaylaw2_FixTexts.j0 k a1 t292 t293) = some r := H
        have A11 := Aside0.mk A110
        clear A110
        have H' := Aside0.mk H
        clear H
        have hcz12_0 : w8.cell? ⟨gb291, 0, none⟩ = some (.bool false) := (blk_cell BK291.out 0).trans rfl
        have hcz12_1 : w8.cell? ⟨gb291, 1, none⟩ = some (.int .i64 0) := (blk_cell BK291.out 1).trans rfl
        have hfz12_0 := blk_frozen BK291.out 0
        have hfz12_1 := blk_frozen BK291.out 1
        go_wp2_with (first | ((with_reducible refine gate_callee (f := 21) rfl ?_); refine goesL_ (some 29) rfl rfl Tryd.func21 (by kernel_rfl) rfl #[.agg #[.bool false, .int .i64 (wrap64 ((wrap64 ((wrap64 (a0)) * 1000000)) + (wrap64 (Int.tmod a1 1000000))))]] rfl (by (try simp only [List.map_toArray, List.map_cons, List.map_nil]); first | done | rfl | (simp only [List.length_drop, List.length_take]; rfl)) ?_; (with_reducible refine (fix_Neg.calls false (wrap64 ((wrap64 ((wrap64 (a0)) * 1000000)) + (wrap64 (Int.tmod a1 1000000)))) t292 t293 _ A11.out).mono ?_); rintro e w13 ⟨rfl, hb⟩; refine ⟨_, rfl, ?_⟩; have n0_ := Aside0.mk (blk_below (g := gb291) (o := .cells #[.bool false, .int .i64 (wrap64 ((wrap64 ((wrap64 (a0)) * 1000000)) + (wrap64 (Int.tmod a1 1000000))))] 25 (0, 0)) (by (with_reducible repeat (first | refine blk_drewN ?_ _ | refine blk_drew ?_ | refine blk_alloc ?_ _)); refine blk_put (cs := #[.bool false, .int .i64 0]) ?_ 1 _ rfl; (with_reducible repeat (first | refine blk_drewN ?_ _ | refine blk_drew ?_ | refine blk_alloc ?_ _)); refine blk_put (cs := #[.bool false, .int .i64 0]) ?_ 0 _ rfl; (with_reducible repeat (first | refine blk_drewN ?_ _ | refine blk_drew ?_ | refine blk_alloc ?_ _)); exact BK291.out) hb); have n1_ := Aside0.mk (below_step (by repeat (first | (with_reducible first | exact HB.out | apply below_alloc | apply pw_below_drewN | apply below_drew1 | refine below_set ?_ GE291.out) | exact HB.out)) hb); clear BK291; clear HB; have BK291 := n0_; have HB := n1_; clear n0_ n1_; (try clear hb); (try clear hb2); (try clear hk); (try clear hi); have hcz14_0 : w13.cell? ⟨gb291, 0, none⟩ = some (.bool false) := (blk_cell BK291.out 0).trans rfl; have hcz14_1 : w13.cell? ⟨gb291, 1, none⟩ = some (.int .i64 (wrap64 ((wrap64 ((wrap64 (a0)) * 1000000)) + (wrap64 (Int.tmod a1 1000000))))) := (blk_cell BK291.out 1).trans rfl; have hfz14_0 := blk_frozen BK291.out 0; have hfz14_1 := blk_frozen BK291.out 1))
        go_meet
        case rel => exact ⟨_, (t292), (t293), H', ⟨by first | omega | exact Nat.le_refl _⟩, ⟨by (with_reducible repeat (first | refine blk_drewN ?_ _ | refine blk_drew ?_ | refine blk_alloc ?_ _)); refine blk_put (cs := #[.bool t292, .int .i64 (wrap64 ((wrap64 ((wrap64 (a0)) * 1000000)) + (wrap64 (Int.tmod a1 1000000))))]) ?_ 1 _ rfl; (with_reducible repeat (first | refine blk_drewN ?_ _ | refine blk_drew ?_ | refine blk_alloc ?_ _)); refine blk_put (cs := #[.bool false, .int .i64 (wrap64 ((wrap64 ((wrap64 (a0)) * 1000000)) + (wrap64 (Int.tmod a1 1000000))))]) ?_ 0 _ rfl; (with_reducible repeat (first | refine blk_drewN ?_ _ | refine blk_drew ?_ | refine blk_alloc ?_ _)); exact BK291.out⟩, ⟨by repeat (first | (with_reducible first | exact HB.out | apply below_alloc | apply pw_below_drewN | apply below_drew1 | refine below_set ?_ GE291.out) | exact HB.out)⟩⟩
      · replace c10 := Bool.eq_false_iff.mpr c10
        subst c10
        have H1 : (spillwaylaw2_FixTexts.j0 k a1 false (wrap64 ((wrap64 ((wrap64 (a0)) * 1000000)) + (wrap64 (Int.tmod a1 1000000))))) = some r := by rw [if_neg (show ¬ (false = true) by decide)] at H; exact H
        clear H
        have H := H1
        clear H1
        have H' := Aside0.mk H
        clear H
        go_wp2
        go_meet
        case rel => exact ⟨_, (false), (wrap64 ((wrap64 ((wrap64 (a0)) * 1000000)) + (wrap64 (Int.tmod a1 1000000)))), H', ⟨by first | omega | exact Nat.le_refl _⟩, ⟨by (with_reducible repeat (first | refine blk_drewN ?_ _ | refine blk_drew ?_ | refine blk_alloc ?_ _)); refine blk_put (cs := #[.bool false, .int .i64 0]) ?_ 1 _ rfl; (with_reducible repeat (first | refine blk_drewN ?_ _ | refine blk_drew ?_ | refine blk_alloc ?_ _)); refine blk_put (cs := #[.bool false, .int .i64 0]) ?_ 0 _ rfl; (with_reducible repeat (first | refine blk_drewN ?_ _ | refine blk_drew ?_ | refine blk_alloc ?_ _)); exact BK291.out⟩, ⟨by repeat (first | (with_reducible first | exact HB.out | apply below_alloc | apply pw_below_drewN | apply below_drew1 | refine below_set ?_ GE291.out) | exact HB.out)⟩⟩
    case rest =>
      clear HC6
      try clear c1
      try clear c2
      try clear p2
      try clear c5
      try clear p6
      try clear c7
      try clear c10
      try clear hcz12_0
      try clear hcz12_1
      try clear hcz14_0
      try clear hcz14_1
      try clear hcz9_0
      try clear hcz9_1
      try clear hfz12_0
      try clear hfz12_1
      try clear hfz14_0
      try clear hfz14_1
      try clear hfz9_0
      try clear hfz9_1
      obtain ⟨kq, x292000_5, x292001_5, HA, HJ5, BK291, HB⟩ := hcut
      cases kq with
      | zero => exact absurd HA.out (by simp [spillwaylaw2_FixTexts.j0])
      | succ kj5 =>
        have H := HA.out
        clear HA
        simp only [spillwaylaw2_FixTexts.j0] at H
        replace H := Option.bind_eq_some_iff.mp H
        obtain ⟨t294, A150, H⟩ := H
        replace H : ((fix_Parse.f kj5 t294).bind fun bt295 => (if t294.size + 1 ≤ 9223372036854775807 then ((fix_Parse.f kj5 (t294 ++ (⟨#[48]⟩ : ByteArray))).bind fun bt299 => (if 1 + t294.size ≤ 9223372036854775807 then ((fix_Parse.f kj5 ((⟨#[48]⟩ : ByteArray) ++ t294)).bind fun bt303 => (spillwaylaw2_FixTexts.l0 kj5 a1 t294 bt295.2.2 bt299.2.2 bt303.2.2 false 0 x292000_5 x292001_5 bt295.1 bt295.2.1 bt299.1 bt299.2.1 bt303.1 bt303.2.1)) else (none))) else (none))) = some r := H
        have A15 := Aside0.mk A150
        clear A150
        replace H := Option.bind_eq_some_iff.mp H
        obtain ⟨⟨t295, t296, t297⟩, A160, H⟩ := H
        replace H : (if t294.size + 1 ≤ 9223372036854775807 then ((fix_Parse.f kj5 (t294 ++ (⟨#[48]⟩ : ByteArray))).bind fun bt299 => (if 1 + t294.size ≤ 9223372036854775807 then ((fix_Parse.f kj5 ((⟨#[48]⟩ : ByteArray) ++ t294)).bind fun bt303 => (spillwaylaw2_FixTexts.l0 kj5 a1 t294 t297 bt299.2.2 bt303.2.2 false 0 x292000_5 x292001_5 t295 t296 bt299.1 bt299.2.1 bt303.1 bt303.2.1)) else (none))) else (none)) = some r := H
        have A16 := Aside0.mk A160
        clear A160
        by_cases c17 : t294.size + 1 ≤ 9223372036854775807
        · rw [if_pos c17] at H
          have c17b0 := eq_true c17
          have c17b1 : decide (t294.size + 1 ≤ 9223372036854775807) = true := decide_eq_true c17
          try have c17b2 : (9223372036854775807 < t294.size + 1) = False := eq_false (Nat.not_lt.2 c17)
          replace H := Option.bind_eq_some_iff.mp H
          obtain ⟨⟨t299, t300, t301⟩, A180, H⟩ := H
          replace H : (if 1 + t294.size ≤ 9223372036854775807 then ((fix_Parse.f kj5 ((⟨#[48]⟩ : ByteArray) ++ t294)).bind fun bt303 => (spillwaylaw2_FixTexts.l0 kj5 a1 t294 t297 t301 bt303.2.2 false 0 x292000_5 x292001_5 t295 t296 t299 t300 bt303.1 bt303.2.1)) else (none)) = some r := H
          have A18 := Aside0.mk A180
          clear A180
          by_cases c19 : 1 + t294.size ≤ 9223372036854775807
          · rw [if_pos c19] at H
            have c19b0 := eq_true c19
            have c19b1 : decide (1 + t294.size ≤ 9223372036854775807) = true := decide_eq_true c19
            try have c19b2 : (9223372036854775807 < 1 + t294.size) = False := eq_false (Nat.not_lt.2 c19)
            replace H := Option.bind_eq_some_iff.mp H
            obtain ⟨⟨t303, t304, t305⟩, A200, H⟩ := H
            replace H : (spillwaylaw2_FixTexts.l0 kj5 a1 t294 t297 t301 t305 false 0 x292000_5 x292001_5 t295 t296 t299 t300 t303 t304) = some r := H
            have A20 := Aside0.mk A200
            clear A200
            have H' := Aside0.mk H
            clear H
            have hcz21_0 : wc.cell? ⟨gb291, 0, none⟩ = some (.bool x292000_5) := (blk_cell BK291.out 0).trans rfl
            have hcz21_1 : wc.cell? ⟨gb291, 1, none⟩ = some (.int .i64 x292001_5) := (blk_cell BK291.out 1).trans rfl
            have hfz21_0 := blk_frozen BK291.out 0
            have hfz21_1 := blk_frozen BK291.out 1
            go_wp2_with (first | ((with_reducible refine gate_callee (f := 15) rfl ?_); refine goesL_ (some 31) rfl rfl Tryd.func15 (by kernel_rfl) rfl #[.agg #[.bool x292000_5, .int .i64 x292001_5]] rfl (by (try simp only [List.map_toArray, List.map_cons, List.map_nil]); first | done | rfl | (simp only [List.length_drop, List.length_take]; rfl)) ?_; (with_reducible refine (fix_Print.calls x292000_5 x292001_5 t294 _ ?side1 A15.out).mono ?_); (case side1 => exact LaidW.below HLW.out (by repeat (first | (with_reducible first | exact HB.out | apply below_alloc | apply pw_below_drewN | apply below_drew1) | exact HB.out | (refine below_set ?_ (Aside0.out ?hge); (case hge => assumption))))); rintro e w22 ⟨rfl, hb⟩; refine ⟨_, rfl, ?_⟩; have n0_ := Aside0.mk (blk_below (g := gb291) (o := .cells #[.bool x292000_5, .int .i64 x292001_5] 25 (0, 0)) (by (with_reducible repeat (first | refine blk_drewN ?_ _ | refine blk_drew ?_ | refine blk_alloc ?_ _)); exact BK291.out) hb); have n1_ := Aside0.mk (below_step (by repeat (first | (with_reducible first | exact HB.out | apply below_alloc | apply pw_below_drewN | apply below_drew1 | refine below_set ?_ GE291.out) | exact HB.out)) hb); clear BK291; clear HB; have BK291 := n0_; have HB := n1_; clear n0_ n1_; (try clear hb); (try clear hb2); (try clear hk); (try clear hi)) | ((with_reducible refine gate_callee (f := 13) rfl ?_); refine goesL_ (some 34) rfl rfl Tryd.func13 (by kernel_rfl) rfl #[.string t294] rfl (by (try simp only [List.map_toArray, List.map_cons, List.map_nil]); first | done | rfl | (simp only [List.length_drop, List.length_take]; rfl)) ?_; (with_reducible refine (fix_Parse.calls kj5 t294 t295 t296 t297 _ ?side1 A16.out).mono ?_); (case side1 => exact LaidW.below HLW.out (by repeat (first | (with_reducible first | exact HB.out | apply below_alloc | apply pw_below_drewN | apply below_drew1) | exact HB.out | (refine below_set ?_ (Aside0.out ?hge); (case hge => assumption))))); rintro e w23 ⟨rfl, hb⟩; refine ⟨_, rfl, ?_⟩; have n0_ := Aside0.mk (blk_below (g := gb291) (o := .cells #[.bool x292000_5, .int .i64 x292001_5] 25 (0, 0)) (by (with_reducible repeat (first | refine blk_drewN ?_ _ | refine blk_drew ?_ | refine blk_alloc ?_ _)); exact BK291.out) hb); have n1_ := Aside0.mk (below_step (by repeat (first | (with_reducible first | exact HB.out | apply below_alloc | apply pw_below_drewN | apply below_drew1 | refine below_set ?_ GE291.out) | exact HB.out)) hb); clear BK291; clear HB; have BK291 := n0_; have HB := n1_; clear n0_ n1_; (try clear hb); (try clear hb2); (try clear hk); (try clear hi)) | ((with_reducible refine gate_dst (N := 9) rfl ?_); (try (refine gate_guard (by rfl) ?_; dsimp only)); refine box_event ?hg (N := 9) ?hd (cs := #[.bool false, .int .i64 0]) (t := 25) ?hr ?_; (case hd => rfl); (case hg => rfl); (case hr => first | (go_simp; done) | (go_simp; rfl)); intro gb298 hg w24 hbox hb; have n0_ := Aside0.mk (blk_below (g := gb291) (o := .cells #[.bool x292000_5, .int .i64 x292001_5] 25 (0, 0)) (by (with_reducible repeat (first | refine blk_drewN ?_ _ | refine blk_drew ?_ | refine blk_alloc ?_ _)); exact BK291.out) hb); have n1_ := Aside0.mk (below_step (by repeat (first | (with_reducible first | exact HB.out | apply below_alloc | apply pw_below_drewN | apply below_drew1 | refine below_set ?_ GE291.out) | exact HB.out)) hb); have n2_ := Aside0.mk (hbox); have n3_ := Aside0.mk ((by rw [hg]; exact (below_size (by repeat (first | (with_reducible first | exact HB.out | apply below_alloc | apply pw_below_drewN | apply below_drew1 | refine below_set ?_ GE291.out) | exact HB.out))) : w.heap.size ≤ gb298)); have n4_ := Aside0.mk ((by rw [hg]; exact (below_size (by repeat (first | (with_reducible first | exact HB.out | apply below_alloc | apply pw_below_drewN | apply below_drew1 | refine below_set ?_ GE291.out) | exact HB.out))) : w.heap.size ≤ gb298)); have n5_ := Aside0.mk ((by rw [hg]; exact Nat.ne_of_lt (blk_lt (g := gb291) (o := .cells #[.bool x292000_5, .int .i64 x292001_5] 25 (0, 0)) (by (with_reducible repeat (first | refine blk_drewN ?_ _ | refine blk_drew ?_ | refine blk_alloc ?_ _)); exact BK291.out)) : gb291 ≠ gb298)); have n6_ := Aside0.mk ((by rw [hg]; exact Nat.ne_of_gt (blk_lt (g := gb291) (o := .cells #[.bool x292000_5, .int .i64 x292001_5] 25 (0, 0)) (by (with_reducible repeat (first | refine blk_drewN ?_ _ | refine blk_drew ?_ | refine blk_alloc ?_ _)); exact BK291.out)) : gb298 ≠ gb291)); clear BK291; clear HB; have BK291 := n0_; have HB := n1_; have BK298 := n2_; have GW298 := n3_; have GE298 := n4_; have NB291_298 := n5_; have NB298_291 := n6_; clear n0_ n1_ n2_ n3_ n4_ n5_ n6_; clear hb hbox hg; have hnb25 := NB298_291.out; have hnc25 := NB291_298.out; have hcz26_0 : w24.cell? ⟨gb298, 0, none⟩ = some (.bool false) := (blk_cell BK298.out 0).trans rfl; have hcz26_1 : w24.cell? ⟨gb298, 1, none⟩ = some (.int .i64 0) := (blk_cell BK298.out 1).trans rfl; have hfz26_0 := blk_frozen BK298.out 0; have hfz26_1 := blk_frozen BK298.out 1) | ((with_reducible refine gate_callee (f := 13) rfl ?_); refine goesL_ (some 40) rfl rfl Tryd.func13 (by kernel_rfl) rfl #[.string (t294 ++ (⟨#[48]⟩ : ByteArray))] rfl (by (try simp only [List.map_toArray, List.map_cons, List.map_nil]); first | done | rfl | (simp only [List.length_drop, List.length_take]; rfl)) ?_; (with_reducible refine (fix_Parse.calls kj5 (t294 ++ (⟨#[48]⟩ : ByteArray)) t299 t300 t301 _ ?side1 A18.out).mono ?_); (case side1 => exact LaidW.below HLW.out (by repeat (first | (with_reducible first | exact HB.out | apply below_alloc | apply pw_below_drewN | apply below_drew1) | exact HB.out | (refine below_set ?_ (Aside0.out ?hge); (case hge => assumption))))); rintro e w27 ⟨rfl, hb⟩; refine ⟨_, rfl, ?_⟩; have n0_ := Aside0.mk (blk_below (g := gb291) (o := .cells #[.bool x292000_5, .int .i64 x292001_5] 25 (0, 0)) (by (with_reducible repeat (first | refine blk_drewN ?_ _ | refine blk_drew ?_ | refine blk_alloc ?_ _)); refine blk_far ?_ NB291_298.out _; (with_reducible repeat (first | refine blk_drewN ?_ _ | refine blk_drew ?_ | refine blk_alloc ?_ _)); refine blk_far ?_ NB291_298.out _; (with_reducible repeat (first | refine blk_drewN ?_ _ | refine blk_drew ?_ | refine blk_alloc ?_ _)); exact BK291.out) hb); have n1_ := Aside0.mk (blk_below (g := gb298) (o := .cells #[.bool t295, .int .i64 t296] 25 (0, 0)) (by (with_reducible repeat (first | refine blk_drewN ?_ _ | refine blk_drew ?_ | refine blk_alloc ?_ _)); refine blk_put (cs := #[.bool t295, .int .i64 0]) ?_ 1 _ rfl; (with_reducible repeat (first | refine blk_drewN ?_ _ | refine blk_drew ?_ | refine blk_alloc ?_ _)); refine blk_put (cs := #[.bool false, .int .i64 0]) ?_ 0 _ rfl; (with_reducible repeat (first | refine blk_drewN ?_ _ | refine blk_drew ?_ | refine blk_alloc ?_ _)); exact BK298.out) hb); have n2_ := Aside0.mk (below_step (by repeat (first | (with_reducible first | exact HB.out | apply below_alloc | apply pw_below_drewN | apply below_drew1 | refine below_set ?_ GE291.out | refine below_set ?_ GE298.out) | exact HB.out)) hb); clear BK291; clear BK298; clear HB; have BK291 := n0_; have BK298 := n1_; have HB := n2_; clear n0_ n1_ n2_; (try clear hb); (try clear hb2); (try clear hk); (try clear hi)) | ((with_reducible refine gate_dst (N := 11) rfl ?_); (try (refine gate_guard (by rfl) ?_; dsimp only)); refine box_event ?hg (N := 11) ?hd (cs := #[.bool false, .int .i64 0]) (t := 25) ?hr ?_; (case hd => rfl); (case hg => rfl); (case hr => first | (go_simp; done) | (go_simp; rfl)); intro gb302 hg w28 hbox hb; have n0_ := Aside0.mk (blk_below (g := gb291) (o := .cells #[.bool x292000_5, .int .i64 x292001_5] 25 (0, 0)) (by (with_reducible repeat (first | refine blk_drewN ?_ _ | refine blk_drew ?_ | refine blk_alloc ?_ _)); exact BK291.out) hb); have n1_ := Aside0.mk (blk_below (g := gb298) (o := .cells #[.bool t295, .int .i64 t296] 25 (0, 0)) (by (with_reducible repeat (first | refine blk_drewN ?_ _ | refine blk_drew ?_ | refine blk_alloc ?_ _)); exact BK298.out) hb); have n2_ := Aside0.mk (below_step (by repeat (first | (with_reducible first | exact HB.out | apply below_alloc | apply pw_below_drewN | apply below_drew1 | refine below_set ?_ GE291.out | refine below_set ?_ GE298.out) | exact HB.out)) hb); have n3_ := Aside0.mk (hbox); have n4_ := Aside0.mk ((by rw [hg]; exact (below_size (by repeat (first | (with_reducible first | exact HB.out | apply below_alloc | apply pw_below_drewN | apply below_drew1 | refine below_set ?_ GE291.out | refine below_set ?_ GE298.out) | exact HB.out))) : w.heap.size ≤ gb302)); have n5_ := Aside0.mk ((by rw [hg]; exact (below_size (by repeat (first | (with_reducible first | exact HB.out | apply below_alloc | apply pw_below_drewN | apply below_drew1 | refine below_set ?_ GE291.out | refine below_set ?_ GE298.out) | exact HB.out))) : w.heap.size ≤ gb302)); have n6_ := Aside0.mk ((by rw [hg]; exact Nat.ne_of_lt (blk_lt (g := gb291) (o := .cells #[.bool x292000_5, .int .i64 x292001_5] 25 (0, 0)) (by (with_reducible repeat (first | refine blk_drewN ?_ _ | refine blk_drew ?_ | refine blk_alloc ?_ _)); exact BK291.out)) : gb291 ≠ gb302)); have n7_ := Aside0.mk ((by rw [hg]; exact Nat.ne_of_gt (blk_lt (g := gb291) (o := .cells #[.bool x292000_5, .int .i64 x292001_5] 25 (0, 0)) (by (with_reducible repeat (first | refine blk_drewN ?_ _ | refine blk_drew ?_ | refine blk_alloc ?_ _)); exact BK291.out)) : gb302 ≠ gb291)); have n8_ := Aside0.mk ((by rw [hg]; exact Nat.ne_of_lt (blk_lt (g := gb298) (o := .cells #[.bool t295, .int .i64 t296] 25 (0, 0)) (by (with_reducible repeat (first | refine blk_drewN ?_ _ | refine blk_drew ?_ | refine blk_alloc ?_ _)); exact BK298.out)) : gb298 ≠ gb302)); have n9_ := Aside0.mk ((by rw [hg]; exact Nat.ne_of_gt (blk_lt (g := gb298) (o := .cells #[.bool t295, .int .i64 t296] 25 (0, 0)) (by (with_reducible repeat (first | refine blk_drewN ?_ _ | refine blk_drew ?_ | refine blk_alloc ?_ _)); exact BK298.out)) : gb302 ≠ gb298)); clear BK291; clear BK298; clear HB; have BK291 := n0_; have BK298 := n1_; have HB := n2_; have BK302 := n3_; have GW302 := n4_; have GE302 := n5_; have NB291_302 := n6_; have NB302_291 := n7_; have NB298_302 := n8_; have NB302_298 := n9_; clear n0_ n1_ n2_ n3_ n4_ n5_ n6_ n7_ n8_ n9_; clear hb hbox hg; have hnb29 := NB302_291.out; have hnc29 := NB291_302.out; have hnb30 := NB302_298.out; have hnc30 := NB298_302.out; have hcz31_0 : w28.cell? ⟨gb302, 0, none⟩ = some (.bool false) := (blk_cell BK302.out 0).trans rfl; have hcz31_1 : w28.cell? ⟨gb302, 1, none⟩ = some (.int .i64 0) := (blk_cell BK302.out 1).trans rfl; have hfz31_0 := blk_frozen BK302.out 0; have hfz31_1 := blk_frozen BK302.out 1) | ((with_reducible refine gate_callee (f := 13) rfl ?_); refine goesL_ (some 46) rfl rfl Tryd.func13 (by kernel_rfl) rfl #[.string ((⟨#[48]⟩ : ByteArray) ++ t294)] rfl (by (try simp only [List.map_toArray, List.map_cons, List.map_nil]); first | done | rfl | (simp only [List.length_drop, List.length_take]; rfl)) ?_; (with_reducible refine (fix_Parse.calls kj5 ((⟨#[48]⟩ : ByteArray) ++ t294) t303 t304 t305 _ ?side1 A20.out).mono ?_); (case side1 => exact LaidW.below HLW.out (by repeat (first | (with_reducible first | exact HB.out | apply below_alloc | apply pw_below_drewN | apply below_drew1) | exact HB.out | (refine below_set ?_ (Aside0.out ?hge); (case hge => assumption))))); rintro e w32 ⟨rfl, hb⟩; refine ⟨_, rfl, ?_⟩; have n0_ := Aside0.mk (blk_below (g := gb291) (o := .cells #[.bool x292000_5, .int .i64 x292001_5] 25 (0, 0)) (by (with_reducible repeat (first | refine blk_drewN ?_ _ | refine blk_drew ?_ | refine blk_alloc ?_ _)); refine blk_far ?_ NB291_302.out _; (with_reducible repeat (first | refine blk_drewN ?_ _ | refine blk_drew ?_ | refine blk_alloc ?_ _)); refine blk_far ?_ NB291_302.out _; (with_reducible repeat (first | refine blk_drewN ?_ _ | refine blk_drew ?_ | refine blk_alloc ?_ _)); exact BK291.out) hb); have n1_ := Aside0.mk (blk_below (g := gb298) (o := .cells #[.bool t295, .int .i64 t296] 25 (0, 0)) (by (with_reducible repeat (first | refine blk_drewN ?_ _ | refine blk_drew ?_ | refine blk_alloc ?_ _)); refine blk_far ?_ NB298_302.out _; (with_reducible repeat (first | refine blk_drewN ?_ _ | refine blk_drew ?_ | refine blk_alloc ?_ _)); refine blk_far ?_ NB298_302.out _; (with_reducible repeat (first | refine blk_drewN ?_ _ | refine blk_drew ?_ | refine blk_alloc ?_ _)); exact BK298.out) hb); have n2_ := Aside0.mk (blk_below (g := gb302) (o := .cells #[.bool t299, .int .i64 t300] 25 (0, 0)) (by (with_reducible repeat (first | refine blk_drewN ?_ _ | refine blk_drew ?_ | refine blk_alloc ?_ _)); refine blk_put (cs := #[.bool t299, .int .i64 0]) ?_ 1 _ rfl; (with_reducible repeat (first | refine blk_drewN ?_ _ | refine blk_drew ?_ | refine blk_alloc ?_ _)); refine blk_put (cs := #[.bool false, .int .i64 0]) ?_ 0 _ rfl; (with_reducible repeat (first | refine blk_drewN ?_ _ | refine blk_drew ?_ | refine blk_alloc ?_ _)); exact BK302.out) hb); have n3_ := Aside0.mk (below_step (by repeat (first | (with_reducible first | exact HB.out | apply below_alloc | apply pw_below_drewN | apply below_drew1 | refine below_set ?_ GE291.out | refine below_set ?_ GE298.out | refine below_set ?_ GE302.out) | exact HB.out)) hb); clear BK291; clear BK298; clear BK302; clear HB; have BK291 := n0_; have BK298 := n1_; have BK302 := n2_; have HB := n3_; clear n0_ n1_ n2_ n3_; (try clear hb); (try clear hb2); (try clear hk); (try clear hi)) | ((with_reducible refine gate_dst (N := 13) rfl ?_); (try (refine gate_guard (by rfl) ?_; dsimp only)); refine box_event ?hg (N := 13) ?hd (cs := #[.bool false, .int .i64 0]) (t := 25) ?hr ?_; (case hd => rfl); (case hg => rfl); (case hr => first | (go_simp; done) | (go_simp; rfl)); intro gb306 hg w33 hbox hb; have n0_ := Aside0.mk (blk_below (g := gb291) (o := .cells #[.bool x292000_5, .int .i64 x292001_5] 25 (0, 0)) (by (with_reducible repeat (first | refine blk_drewN ?_ _ | refine blk_drew ?_ | refine blk_alloc ?_ _)); exact BK291.out) hb); have n1_ := Aside0.mk (blk_below (g := gb298) (o := .cells #[.bool t295, .int .i64 t296] 25 (0, 0)) (by (with_reducible repeat (first | refine blk_drewN ?_ _ | refine blk_drew ?_ | refine blk_alloc ?_ _)); exact BK298.out) hb); have n2_ := Aside0.mk (blk_below (g := gb302) (o := .cells #[.bool t299, .int .i64 t300] 25 (0, 0)) (by (with_reducible repeat (first | refine blk_drewN ?_ _ | refine blk_drew ?_ | refine blk_alloc ?_ _)); exact BK302.out) hb); have n3_ := Aside0.mk (below_step (by repeat (first | (with_reducible first | exact HB.out | apply below_alloc | apply pw_below_drewN | apply below_drew1 | refine below_set ?_ GE291.out | refine below_set ?_ GE298.out | refine below_set ?_ GE302.out) | exact HB.out)) hb); have n4_ := Aside0.mk (hbox); have n5_ := Aside0.mk ((by rw [hg]; exact (below_size (by repeat (first | (with_reducible first | exact HB.out | apply below_alloc | apply pw_below_drewN | apply below_drew1 | refine below_set ?_ GE291.out | refine below_set ?_ GE298.out | refine below_set ?_ GE302.out) | exact HB.out))) : w.heap.size ≤ gb306)); have n6_ := Aside0.mk ((by rw [hg]; exact (below_size (by repeat (first | (with_reducible first | exact HB.out | apply below_alloc | apply pw_below_drewN | apply below_drew1 | refine below_set ?_ GE291.out | refine below_set ?_ GE298.out | refine below_set ?_ GE302.out) | exact HB.out))) : w.heap.size ≤ gb306)); have n7_ := Aside0.mk ((by rw [hg]; exact Nat.ne_of_lt (blk_lt (g := gb291) (o := .cells #[.bool x292000_5, .int .i64 x292001_5] 25 (0, 0)) (by (with_reducible repeat (first | refine blk_drewN ?_ _ | refine blk_drew ?_ | refine blk_alloc ?_ _)); exact BK291.out)) : gb291 ≠ gb306)); have n8_ := Aside0.mk ((by rw [hg]; exact Nat.ne_of_gt (blk_lt (g := gb291) (o := .cells #[.bool x292000_5, .int .i64 x292001_5] 25 (0, 0)) (by (with_reducible repeat (first | refine blk_drewN ?_ _ | refine blk_drew ?_ | refine blk_alloc ?_ _)); exact BK291.out)) : gb306 ≠ gb291)); have n9_ := Aside0.mk ((by rw [hg]; exact Nat.ne_of_lt (blk_lt (g := gb298) (o := .cells #[.bool t295, .int .i64 t296] 25 (0, 0)) (by (with_reducible repeat (first | refine blk_drewN ?_ _ | refine blk_drew ?_ | refine blk_alloc ?_ _)); exact BK298.out)) : gb298 ≠ gb306)); have n10_ := Aside0.mk ((by rw [hg]; exact Nat.ne_of_gt (blk_lt (g := gb298) (o := .cells #[.bool t295, .int .i64 t296] 25 (0, 0)) (by (with_reducible repeat (first | refine blk_drewN ?_ _ | refine blk_drew ?_ | refine blk_alloc ?_ _)); exact BK298.out)) : gb306 ≠ gb298)); have n11_ := Aside0.mk ((by rw [hg]; exact Nat.ne_of_lt (blk_lt (g := gb302) (o := .cells #[.bool t299, .int .i64 t300] 25 (0, 0)) (by (with_reducible repeat (first | refine blk_drewN ?_ _ | refine blk_drew ?_ | refine blk_alloc ?_ _)); exact BK302.out)) : gb302 ≠ gb306)); have n12_ := Aside0.mk ((by rw [hg]; exact Nat.ne_of_gt (blk_lt (g := gb302) (o := .cells #[.bool t299, .int .i64 t300] 25 (0, 0)) (by (with_reducible repeat (first | refine blk_drewN ?_ _ | refine blk_drew ?_ | refine blk_alloc ?_ _)); exact BK302.out)) : gb306 ≠ gb302)); clear BK291; clear BK298; clear BK302; clear HB; have BK291 := n0_; have BK298 := n1_; have BK302 := n2_; have HB := n3_; have BK306 := n4_; have GW306 := n5_; have GE306 := n6_; have NB291_306 := n7_; have NB306_291 := n8_; have NB298_306 := n9_; have NB306_298 := n10_; have NB302_306 := n11_; have NB306_302 := n12_; clear n0_ n1_ n2_ n3_ n4_ n5_ n6_ n7_ n8_ n9_ n10_ n11_ n12_; clear hb hbox hg; have hnb34 := NB306_291.out; have hnc34 := NB291_306.out; have hnb35 := NB306_298.out; have hnc35 := NB298_306.out; have hnb36 := NB306_302.out; have hnc36 := NB302_306.out; have hcz37_0 : w33.cell? ⟨gb306, 0, none⟩ = some (.bool false) := (blk_cell BK306.out 0).trans rfl; have hcz37_1 : w33.cell? ⟨gb306, 1, none⟩ = some (.int .i64 0) := (blk_cell BK306.out 1).trans rfl; have hfz37_0 := blk_frozen BK306.out 0; have hfz37_1 := blk_frozen BK306.out 1))
            go_loopg [15, 16] kj5 (fun kq v15 v16 w' => ∃ (x15_2 : Bool) (x16_2 : Int), v15 = .bool x15_2 ∧ v16 = .int .i64 x16_2 ∧ Aside0 (spillwaylaw2_FixTexts.l0 kq a1 t294 t297 t301 t305 x15_2 x16_2 x292000_5 x292001_5 t295 t296 t299 t300 t303 t304 = some r) ∧ Aside0 (kq ≤ kj5) ∧ Aside0 (w'.heap[gb291]? = some (.cells #[.bool x292000_5, .int .i64 x292001_5] 25 (0, 0))) ∧ Aside0 (w'.heap[gb298]? = some (.cells #[.bool t295, .int .i64 t296] 25 (0, 0))) ∧ Aside0 (w'.heap[gb302]? = some (.cells #[.bool t299, .int .i64 t300] 25 (0, 0))) ∧ Aside0 (w'.heap[gb306]? = some (.cells #[.bool t303, .int .i64 t304] 25 (0, 0))) ∧ Aside0 (Below w.heap.size w w'))
            case atStart => exact ⟨(false), (0), (by first | rfl | (simp; done) | (simp [*]; done)), (by first | rfl | (simp; done) | (simp [*]; done)), H', ⟨Nat.le_refl _⟩, ⟨by (with_reducible repeat (first | refine blk_drewN ?_ _ | refine blk_drew ?_ | refine blk_alloc ?_ _)); refine blk_far ?_ NB291_306.out _; (with_reducible repeat (first | refine blk_drewN ?_ _ | refine blk_drew ?_ | refine blk_alloc ?_ _)); refine blk_far ?_ NB291_306.out _; (with_reducible repeat (first | refine blk_drewN ?_ _ | refine blk_drew ?_ | refine blk_alloc ?_ _)); exact BK291.out⟩, ⟨by (with_reducible repeat (first | refine blk_drewN ?_ _ | refine blk_drew ?_ | refine blk_alloc ?_ _)); refine blk_far ?_ NB298_306.out _; (with_reducible repeat (first | refine blk_drewN ?_ _ | refine blk_drew ?_ | refine blk_alloc ?_ _)); refine blk_far ?_ NB298_306.out _; (with_reducible repeat (first | refine blk_drewN ?_ _ | refine blk_drew ?_ | refine blk_alloc ?_ _)); exact BK298.out⟩, ⟨by (with_reducible repeat (first | refine blk_drewN ?_ _ | refine blk_drew ?_ | refine blk_alloc ?_ _)); refine blk_far ?_ NB302_306.out _; (with_reducible repeat (first | refine blk_drewN ?_ _ | refine blk_drew ?_ | refine blk_alloc ?_ _)); refine blk_far ?_ NB302_306.out _; (with_reducible repeat (first | refine blk_drewN ?_ _ | refine blk_drew ?_ | refine blk_alloc ?_ _)); exact BK302.out⟩, ⟨by (with_reducible repeat (first | refine blk_drewN ?_ _ | refine blk_drew ?_ | refine blk_alloc ?_ _)); refine blk_put (cs := #[.bool t303, .int .i64 0]) ?_ 1 _ rfl; (with_reducible repeat (first | refine blk_drewN ?_ _ | refine blk_drew ?_ | refine blk_alloc ?_ _)); refine blk_put (cs := #[.bool false, .int .i64 0]) ?_ 0 _ rfl; (with_reducible repeat (first | refine blk_drewN ?_ _ | refine blk_drew ?_ | refine blk_alloc ?_ _)); exact BK306.out⟩, ⟨by repeat (first | (with_reducible first | exact HB.out | apply below_alloc | apply pw_below_drewN | apply below_drew1 | refine below_set ?_ GE291.out | refine below_set ?_ GE298.out | refine below_set ?_ GE302.out | refine below_set ?_ GE306.out) | exact HB.out)⟩⟩
            case round =>
              clear H'
              try clear c1
              try clear c2
              try clear p2
              try clear c3
              try clear c5
              try clear p6
              try clear c7
              try clear c10
              try clear c13
              try clear c15
              try clear c17
              try clear c17b0
              try clear c17b1
              try clear c17b2
              try clear c19
              try clear c19b0
              try clear c19b1
              try clear c19b2
              try clear c21
              try clear c25
              try clear c29
              try clear c30
              try clear c34
              try clear c35
              try clear c36
              try clear hcz12_0
              try clear hcz12_1
              try clear hcz14_0
              try clear hcz14_1
              try clear hcz21_0
              try clear hcz21_1
              try clear hcz26_0
              try clear hcz26_1
              try clear hcz31_0
              try clear hcz31_1
              try clear hcz37_0
              try clear hcz37_1
              try clear hcz9_0
              try clear hcz9_1
              try clear hfz12_0
              try clear hfz12_1
              try clear hfz14_0
              try clear hfz14_1
              try clear hfz21_0
              try clear hfz21_1
              try clear hfz26_0
              try clear hfz26_1
              try clear hfz31_0
              try clear hfz31_1
              try clear hfz37_0
              try clear hfz37_1
              try clear hfz9_0
              try clear hfz9_1
              try clear p2
              try clear p6
              obtain ⟨x15_2, x16_2, rfl, rfl, HA, HK2, BK291, BK298, BK302, BK306, HB⟩ := hrel
              cases gk with
              | zero => exact absurd HA.out (by simp [spillwaylaw2_FixTexts.l0])
              | succ k2 =>
                have H := HA.out
                clear HA
                simp only [spillwaylaw2_FixTexts.l0] at H
                by_cases c38 : x16_2 < (t294.size : Int)
                · rw [if_pos c38] at H
                  have c38b0 : decide (x16_2 < (t294.size : Int)) = true := decide_eq_true c38
                  clear c38
                  by_cases c39 : x15_2 = true
                  · subst c39
                    have H1 : (spillwaylaw2_FixTexts.l0 k2 a1 t294 t297 t301 t305 true (wrap64 (x16_2 + 1)) x292000_5 x292001_5 t295 t296 t299 t300 t303 t304) = some r := by rw [if_pos rfl] at H; exact H
                    clear H
                    have H := H1
                    clear H1
                    have H' := Aside0.mk H
                    clear H
                    go_wp2
                    go_roundg k2
                    case measure => have := HJ5.out; have := HK2.out; omega
                    case rel => exact ⟨(true), (wrap64 (x16_2 + 1)), (by first | rfl | (simp; done) | (simp [*]; done)), (by first | rfl | (simp; done) | (simp [*]; done)), H', ⟨by have := HJ5.out; have := HK2.out; omega⟩, ⟨by (with_reducible repeat (first | refine blk_drewN ?_ _ | refine blk_drew ?_ | refine blk_alloc ?_ _)); exact BK291.out⟩, ⟨by (with_reducible repeat (first | refine blk_drewN ?_ _ | refine blk_drew ?_ | refine blk_alloc ?_ _)); exact BK298.out⟩, ⟨by (with_reducible repeat (first | refine blk_drewN ?_ _ | refine blk_drew ?_ | refine blk_alloc ?_ _)); exact BK302.out⟩, ⟨by (with_reducible repeat (first | refine blk_drewN ?_ _ | refine blk_drew ?_ | refine blk_alloc ?_ _)); exact BK306.out⟩, ⟨by repeat (first | (with_reducible first | exact HB.out | apply below_alloc | apply pw_below_drewN | apply below_drew1 | refine below_set ?_ GE291.out | refine below_set ?_ GE298.out | refine below_set ?_ GE302.out | refine below_set ?_ GE306.out) | exact HB.out)⟩⟩
                  · replace c39 := Bool.eq_false_iff.mpr c39
                    subst c39
                    have H1 : (if 0 ≤ x16_2 then (spillwaylaw2_FixTexts.l0 k2 a1 t294 t297 t301 t305 ((bt t294 x16_2) == 46) (wrap64 (x16_2 + 1)) x292000_5 x292001_5 t295 t296 t299 t300 t303 t304) else (none)) = some r := by rw [if_neg (show ¬ (false = true) by decide)] at H; exact H
                    clear H
                    have H := H1
                    clear H1
                    by_cases c40 : 0 ≤ x16_2
                    · rw [if_pos c40] at H
                      have c40b0 : decide (0 ≤ x16_2) = true := decide_eq_true c40
                      clear c40
                      have H' := Aside0.mk H
                      clear H
                      have p41 : 0 ≤ (x16_2 : Int) := of_decide_eq_true (by first | (with_reducible assumption) | assumption)
                      have q41 : x16_2 < (t294.size : Int) := of_decide_eq_true (by first | (with_reducible assumption) | assumption)
                      have hx41 := bt_at t294 x16_2
                      replace p41 := eq_true p41
                      replace q41 := eq_true q41
                      go_wp2
                      go_roundg k2
                      case measure => have := HJ5.out; have := HK2.out; omega
                      case rel => exact ⟨(((bt t294 x16_2) == 46)), (wrap64 (x16_2 + 1)), (by first | rfl | (simp; done) | (simp [*]; done)), (by first | rfl | (simp; done) | (simp [*]; done)), H', ⟨by have := HJ5.out; have := HK2.out; omega⟩, ⟨by (with_reducible repeat (first | refine blk_drewN ?_ _ | refine blk_drew ?_ | refine blk_alloc ?_ _)); exact BK291.out⟩, ⟨by (with_reducible repeat (first | refine blk_drewN ?_ _ | refine blk_drew ?_ | refine blk_alloc ?_ _)); exact BK298.out⟩, ⟨by (with_reducible repeat (first | refine blk_drewN ?_ _ | refine blk_drew ?_ | refine blk_alloc ?_ _)); exact BK302.out⟩, ⟨by (with_reducible repeat (first | refine blk_drewN ?_ _ | refine blk_drew ?_ | refine blk_alloc ?_ _)); exact BK306.out⟩, ⟨by repeat (first | (with_reducible first | exact HB.out | apply below_alloc | apply pw_below_drewN | apply below_drew1 | refine below_set ?_ GE291.out | refine below_set ?_ GE298.out | refine below_set ?_ GE302.out | refine below_set ?_ GE306.out) | exact HB.out)⟩⟩
                    · rw [if_neg c40] at H
                      exact absurd H (by simp)
                · rw [if_neg c38] at H
                  have c38b0 : decide (x16_2 < (t294.size : Int)) = false := decide_eq_false c38
                  clear c38
                  have HC42 := Aside0.mk H
                  clear H
                  go_upto_region 15 with (fail)
                  go_cut [95] (fun v95 wc => ∃ (kq : Nat) (x95_41 : Bool), v95 = .bool x95_41 ∧ Aside0 (spillwaylaw2_FixTexts.j2 kq t301 x15_2 x95_41 x292000_5 x292001_5 t299 t300 = some r) ∧ Aside0 (kq ≤ k2) ∧ Aside0 (wc.heap[gb291]? = some (.cells #[.bool x292000_5, .int .i64 x292001_5] 25 (0, 0))) ∧ Aside0 (wc.heap[gb298]? = some (.cells #[.bool t295, .int .i64 t296] 25 (0, 0))) ∧ Aside0 (wc.heap[gb302]? = some (.cells #[.bool t299, .int .i64 t300] 25 (0, 0))) ∧ Aside0 (wc.heap[gb306]? = some (.cells #[.bool t303, .int .i64 t304] 25 (0, 0))) ∧ Aside0 (Below w.heap.size w wc))
                  case first =>
                    have H := HC42.out
                    clear HC42
                    by_cases c43 : t297 = 0
                    · rw [if_pos c43] at H
                      have c43b0 : (t297 == 0) = true := beq_iff_eq.mpr c43
                      have c43b1 : (t297 != 0) = false := bne_eq_false_iff_eq.mpr c43
                      clear c43
                      (first | rw [c43b0] | (simp only [i64_w, i32_w]; rw [c43b0]) | skip)
                      by_cases c44 : (!(t295 == x292000_5) || (!(t296 == x292001_5))) = true
                      · rw [if_pos c44] at H
                        have c44b0 : (!(t295 == x292000_5) || (!(t296 == x292001_5))) = true := c44
                        clear c44
                        have H' := Aside0.mk H
                        clear H
                        have hnb45 := NB298_291.out
                        have hnc45 := NB291_298.out
                        have hnb46 := NB298_302.out
                        have hnc46 := NB302_298.out
                        have hnb47 := NB298_306.out
                        have hnc47 := NB306_298.out
                        have hcz48_0 : wr.cell? ⟨gb298, 0, none⟩ = some (.bool t295) := (blk_cell BK298.out 0).trans rfl
                        have hcz48_1 : wr.cell? ⟨gb298, 1, none⟩ = some (.int .i64 t296) := (blk_cell BK298.out 1).trans rfl
                        have hfz48_0 := blk_frozen BK298.out 0
                        have hfz48_1 := blk_frozen BK298.out 1
                        have hnb49 := NB291_302.out
                        have hnc49 := NB302_291.out
                        have hnb50 := NB291_306.out
                        have hnc50 := NB306_291.out
                        have hcz51_0 : wr.cell? ⟨gb291, 0, none⟩ = some (.bool x292000_5) := (blk_cell BK291.out 0).trans rfl
                        have hcz51_1 : wr.cell? ⟨gb291, 1, none⟩ = some (.int .i64 x292001_5) := (blk_cell BK291.out 1).trans rfl
                        have hfz51_0 := blk_frozen BK291.out 0
                        have hfz51_1 := blk_frozen BK291.out 1
                        go_wp2
                        go_meet
                        case rel => exact ⟨_, (true), (by first | rfl | (simp; done) | (simp [*]; done)), H', ⟨by have := HJ5.out; have := HK2.out; first | omega | exact Nat.le_refl _⟩, ⟨by (with_reducible repeat (first | refine blk_drewN ?_ _ | refine blk_drew ?_ | refine blk_alloc ?_ _)); exact BK291.out⟩, ⟨by (with_reducible repeat (first | refine blk_drewN ?_ _ | refine blk_drew ?_ | refine blk_alloc ?_ _)); exact BK298.out⟩, ⟨by (with_reducible repeat (first | refine blk_drewN ?_ _ | refine blk_drew ?_ | refine blk_alloc ?_ _)); exact BK302.out⟩, ⟨by (with_reducible repeat (first | refine blk_drewN ?_ _ | refine blk_drew ?_ | refine blk_alloc ?_ _)); exact BK306.out⟩, ⟨by repeat (first | (with_reducible first | exact HB.out | apply below_alloc | apply pw_below_drewN | apply below_drew1 | refine below_set ?_ GE291.out | refine below_set ?_ GE298.out | refine below_set ?_ GE302.out | refine below_set ?_ GE306.out) | exact HB.out)⟩⟩
                      · rw [if_neg c44] at H
                        have c44b0 : (!(t295 == x292000_5) || (!(t296 == x292001_5))) = false := by simpa using c44
                        clear c44
                        by_cases c52 : t305 = 0
                        · rw [if_pos c52] at H
                          have c52b0 : (t305 == 0) = true := beq_iff_eq.mpr c52
                          have c52b1 : (t305 != 0) = false := bne_eq_false_iff_eq.mpr c52
                          clear c52
                          by_cases c53 : (t303 || (!(t304 == 0))) = true
                          · rw [if_pos c53] at H
                            have c53b0 : (t303 || (!(t304 == 0))) = true := c53
                            clear c53
                            have H' := Aside0.mk H
                            clear H
                            have hnb54 := NB298_291.out
                            have hnc54 := NB291_298.out
                            have hnb55 := NB298_302.out
                            have hnc55 := NB302_298.out
                            have hnb56 := NB298_306.out
                            have hnc56 := NB306_298.out
                            have hcz57_0 : wr.cell? ⟨gb298, 0, none⟩ = some (.bool t295) := (blk_cell BK298.out 0).trans rfl
                            have hcz57_1 : wr.cell? ⟨gb298, 1, none⟩ = some (.int .i64 t296) := (blk_cell BK298.out 1).trans rfl
                            have hfz57_0 := blk_frozen BK298.out 0
                            have hfz57_1 := blk_frozen BK298.out 1
                            have hnb58 := NB291_302.out
                            have hnc58 := NB302_291.out
                            have hnb59 := NB291_306.out
                            have hnc59 := NB306_291.out
                            have hcz60_0 : wr.cell? ⟨gb291, 0, none⟩ = some (.bool x292000_5) := (blk_cell BK291.out 0).trans rfl
                            have hcz60_1 : wr.cell? ⟨gb291, 1, none⟩ = some (.int .i64 x292001_5) := (blk_cell BK291.out 1).trans rfl
                            have hfz60_0 := blk_frozen BK291.out 0
                            have hfz60_1 := blk_frozen BK291.out 1
                            have hnb61 := NB306_302.out
                            have hnc61 := NB302_306.out
                            have hcz62_0 : wr.cell? ⟨gb306, 0, none⟩ = some (.bool t303) := (blk_cell BK306.out 0).trans rfl
                            have hcz62_1 : wr.cell? ⟨gb306, 1, none⟩ = some (.int .i64 t304) := (blk_cell BK306.out 1).trans rfl
                            have hfz62_0 := blk_frozen BK306.out 0
                            have hfz62_1 := blk_frozen BK306.out 1
                            go_wp2
                            go_meet
                            case rel => exact ⟨_, (true), (by first | rfl | (simp; done) | (simp [*]; done)), H', ⟨by have := HJ5.out; have := HK2.out; first | omega | exact Nat.le_refl _⟩, ⟨by (with_reducible repeat (first | refine blk_drewN ?_ _ | refine blk_drew ?_ | refine blk_alloc ?_ _)); exact BK291.out⟩, ⟨by (with_reducible repeat (first | refine blk_drewN ?_ _ | refine blk_drew ?_ | refine blk_alloc ?_ _)); exact BK298.out⟩, ⟨by (with_reducible repeat (first | refine blk_drewN ?_ _ | refine blk_drew ?_ | refine blk_alloc ?_ _)); exact BK302.out⟩, ⟨by (with_reducible repeat (first | refine blk_drewN ?_ _ | refine blk_drew ?_ | refine blk_alloc ?_ _)); exact BK306.out⟩, ⟨by repeat (first | (with_reducible first | exact HB.out | apply below_alloc | apply pw_below_drewN | apply below_drew1 | refine below_set ?_ GE291.out | refine below_set ?_ GE298.out | refine below_set ?_ GE302.out | refine below_set ?_ GE306.out) | exact HB.out)⟩⟩
                          · rw [if_neg c53] at H
                            have c53b0 : (t303 || (!(t304 == 0))) = false := by simpa using c53
                            clear c53
                            by_cases c63 : (x15_2 != ((Int.tmod a1 1000000) != 0)) = true
                            · rw [if_pos c63] at H
                              have c63b0 : (x15_2 != ((Int.tmod a1 1000000) != 0)) = true := c63
                              (try (have c63b1 : decide (x15_2 = ((Int.tmod a1 1000000) != 0)) = false := by simpa using c63))
                              (try (have c63b2 : (x15_2 == ((Int.tmod a1 1000000) != 0)) = false := by simpa using c63))
                              (try (have c63b3 : ¬ (x15_2 = ((Int.tmod a1 1000000) != 0)) := by simpa using c63))
                              clear c63
                              have H' := Aside0.mk H
                              clear H
                              have hnb64 := NB298_291.out
                              have hnc64 := NB291_298.out
                              have hnb65 := NB298_302.out
                              have hnc65 := NB302_298.out
                              have hnb66 := NB298_306.out
                              have hnc66 := NB306_298.out
                              have hcz67_0 : wr.cell? ⟨gb298, 0, none⟩ = some (.bool t295) := (blk_cell BK298.out 0).trans rfl
                              have hcz67_1 : wr.cell? ⟨gb298, 1, none⟩ = some (.int .i64 t296) := (blk_cell BK298.out 1).trans rfl
                              have hfz67_0 := blk_frozen BK298.out 0
                              have hfz67_1 := blk_frozen BK298.out 1
                              have hnb68 := NB291_302.out
                              have hnc68 := NB302_291.out
                              have hnb69 := NB291_306.out
                              have hnc69 := NB306_291.out
                              have hcz70_0 : wr.cell? ⟨gb291, 0, none⟩ = some (.bool x292000_5) := (blk_cell BK291.out 0).trans rfl
                              have hcz70_1 : wr.cell? ⟨gb291, 1, none⟩ = some (.int .i64 x292001_5) := (blk_cell BK291.out 1).trans rfl
                              have hfz70_0 := blk_frozen BK291.out 0
                              have hfz70_1 := blk_frozen BK291.out 1
                              have hnb71 := NB306_302.out
                              have hnc71 := NB302_306.out
                              have hcz72_0 : wr.cell? ⟨gb306, 0, none⟩ = some (.bool t303) := (blk_cell BK306.out 0).trans rfl
                              have hcz72_1 : wr.cell? ⟨gb306, 1, none⟩ = some (.int .i64 t304) := (blk_cell BK306.out 1).trans rfl
                              have hfz72_0 := blk_frozen BK306.out 0
                              have hfz72_1 := blk_frozen BK306.out 1
                              go_wp2
                              go_meet
                              case rel => exact ⟨_, (true), (by first | rfl | (simp; done) | (simp [*]; done)), H', ⟨by have := HJ5.out; have := HK2.out; first | omega | exact Nat.le_refl _⟩, ⟨by (with_reducible repeat (first | refine blk_drewN ?_ _ | refine blk_drew ?_ | refine blk_alloc ?_ _)); exact BK291.out⟩, ⟨by (with_reducible repeat (first | refine blk_drewN ?_ _ | refine blk_drew ?_ | refine blk_alloc ?_ _)); exact BK298.out⟩, ⟨by (with_reducible repeat (first | refine blk_drewN ?_ _ | refine blk_drew ?_ | refine blk_alloc ?_ _)); exact BK302.out⟩, ⟨by (with_reducible repeat (first | refine blk_drewN ?_ _ | refine blk_drew ?_ | refine blk_alloc ?_ _)); exact BK306.out⟩, ⟨by repeat (first | (with_reducible first | exact HB.out | apply below_alloc | apply pw_below_drewN | apply below_drew1 | refine below_set ?_ GE291.out | refine below_set ?_ GE298.out | refine below_set ?_ GE302.out | refine below_set ?_ GE306.out) | exact HB.out)⟩⟩
                            · rw [if_neg c63] at H
                              have c63b0 : (x15_2 != ((Int.tmod a1 1000000) != 0)) = false := by simpa using c63
                              (try (have c63b1 : decide (x15_2 = ((Int.tmod a1 1000000) != 0)) = true := by simpa using c63))
                              (try (have c63b2 : (x15_2 == ((Int.tmod a1 1000000) != 0)) = true := by simpa using c63))
                              clear c63
                              by_cases c73 : x15_2 = true
                              · subst c73
                                have H1 : (if 0 ≤ (wrap64 ((t294.size : Int) - 1)) then (if (wrap64 ((t294.size : Int) - 1)) < (t294.size : Int) then (spillwaylaw2_FixTexts.j2 k2 t301 true ((bt t294 (wrap64 ((t294.size : Int) - 1))) == 48) x292000_5 x292001_5 t299 t300) else (none)) else (none)) = some r := by rw [if_pos rfl] at H; exact H
                                clear H
                                have H := H1
                                clear H1
                                obtain ⟨ji74, hji74⟩ : ∃ j_ : Int, (wrap64 ((t294.size : Int) - 1)) = j_ := ⟨_, rfl⟩
                                replace H : (if 0 ≤ (ji74) then (if (ji74) < (t294.size : Int) then (spillwaylaw2_FixTexts.j2 k2 t301 true ((bt t294 (ji74)) == 48) x292000_5 x292001_5 t299 t300) else (none)) else (none)) = some r := by first | (rw [hji74] at H; exact H) | (simp only [hji74] at H ⊢; exact H)
                                have hji74w : (IntKind.i64.wrap ((t294.size : Int) - 1)) = ji74 := (i64_w _).trans hji74
                                by_cases c75 : 0 ≤ (ji74)
                                · rw [if_pos c75] at H
                                  have c75b0 : decide (0 ≤ (ji74)) = true := decide_eq_true c75
                                  clear c75
                                  by_cases c76 : (ji74) < (t294.size : Int)
                                  · rw [if_pos c76] at H
                                    have c76b0 : decide ((ji74) < (t294.size : Int)) = true := decide_eq_true c76
                                    clear c76
                                    have H' := Aside0.mk H
                                    clear H
                                    have hnb78 := NB298_291.out
                                    have hnc78 := NB291_298.out
                                    have hnb79 := NB298_302.out
                                    have hnc79 := NB302_298.out
                                    have hnb80 := NB298_306.out
                                    have hnc80 := NB306_298.out
                                    have hcz81_0 : wr.cell? ⟨gb298, 0, none⟩ = some (.bool t295) := (blk_cell BK298.out 0).trans rfl
                                    have hcz81_1 : wr.cell? ⟨gb298, 1, none⟩ = some (.int .i64 t296) := (blk_cell BK298.out 1).trans rfl
                                    have hfz81_0 := blk_frozen BK298.out 0
                                    have hfz81_1 := blk_frozen BK298.out 1
                                    have hnb82 := NB291_302.out
                                    have hnc82 := NB302_291.out
                                    have hnb83 := NB291_306.out
                                    have hnc83 := NB306_291.out
                                    have hcz84_0 : wr.cell? ⟨gb291, 0, none⟩ = some (.bool x292000_5) := (blk_cell BK291.out 0).trans rfl
                                    have hcz84_1 : wr.cell? ⟨gb291, 1, none⟩ = some (.int .i64 x292001_5) := (blk_cell BK291.out 1).trans rfl
                                    have hfz84_0 := blk_frozen BK291.out 0
                                    have hfz84_1 := blk_frozen BK291.out 1
                                    have hnb85 := NB306_302.out
                                    have hnc85 := NB302_306.out
                                    have hcz86_0 : wr.cell? ⟨gb306, 0, none⟩ = some (.bool t303) := (blk_cell BK306.out 0).trans rfl
                                    have hcz86_1 : wr.cell? ⟨gb306, 1, none⟩ = some (.int .i64 t304) := (blk_cell BK306.out 1).trans rfl
                                    have hfz86_0 := blk_frozen BK306.out 0
                                    have hfz86_1 := blk_frozen BK306.out 1
                                    have p77 : 0 ≤ ((ji74) : Int) := of_decide_eq_true (by first | (with_reducible assumption) | assumption)
                                    have q77 : (ji74) < (t294.size : Int) := of_decide_eq_true (by first | (with_reducible assumption) | assumption)
                                    have hx77 := bt_at t294 (ji74)
                                    replace p77 := eq_true p77
                                    replace q77 := eq_true q77
                                    go_wp2
                                    go_meet
                                    case rel => exact ⟨_, (((bt t294 (ji74)) == 48)), (by first | rfl | (simp; done) | (simp only [← hji74] <;> (first | rfl | simp)) | (simp [*]; done)), H', ⟨by have := HJ5.out; have := HK2.out; first | omega | exact Nat.le_refl _⟩, ⟨by (with_reducible repeat (first | refine blk_drewN ?_ _ | refine blk_drew ?_ | refine blk_alloc ?_ _)); exact BK291.out⟩, ⟨by (with_reducible repeat (first | refine blk_drewN ?_ _ | refine blk_drew ?_ | refine blk_alloc ?_ _)); exact BK298.out⟩, ⟨by (with_reducible repeat (first | refine blk_drewN ?_ _ | refine blk_drew ?_ | refine blk_alloc ?_ _)); exact BK302.out⟩, ⟨by (with_reducible repeat (first | refine blk_drewN ?_ _ | refine blk_drew ?_ | refine blk_alloc ?_ _)); exact BK306.out⟩, ⟨by repeat (first | (with_reducible first | exact HB.out | apply below_alloc | apply pw_below_drewN | apply below_drew1 | refine below_set ?_ GE291.out | refine below_set ?_ GE298.out | refine below_set ?_ GE302.out | refine below_set ?_ GE306.out) | exact HB.out)⟩⟩
                                  · rw [if_neg c76] at H
                                    exact absurd H (by simp)
                                · rw [if_neg c75] at H
                                  exact absurd H (by simp)
                              · replace c73 := Bool.eq_false_iff.mpr c73
                                subst c73
                                have H1 : (spillwaylaw2_FixTexts.j2 k2 t301 false false x292000_5 x292001_5 t299 t300) = some r := by rw [if_neg (show ¬ (false = true) by decide)] at H; exact H
                                clear H
                                have H := H1
                                clear H1
                                have H' := Aside0.mk H
                                clear H
                                have hnb87 := NB298_291.out
                                have hnc87 := NB291_298.out
                                have hnb88 := NB298_302.out
                                have hnc88 := NB302_298.out
                                have hnb89 := NB298_306.out
                                have hnc89 := NB306_298.out
                                have hcz90_0 : wr.cell? ⟨gb298, 0, none⟩ = some (.bool t295) := (blk_cell BK298.out 0).trans rfl
                                have hcz90_1 : wr.cell? ⟨gb298, 1, none⟩ = some (.int .i64 t296) := (blk_cell BK298.out 1).trans rfl
                                have hfz90_0 := blk_frozen BK298.out 0
                                have hfz90_1 := blk_frozen BK298.out 1
                                have hnb91 := NB291_302.out
                                have hnc91 := NB302_291.out
                                have hnb92 := NB291_306.out
                                have hnc92 := NB306_291.out
                                have hcz93_0 : wr.cell? ⟨gb291, 0, none⟩ = some (.bool x292000_5) := (blk_cell BK291.out 0).trans rfl
                                have hcz93_1 : wr.cell? ⟨gb291, 1, none⟩ = some (.int .i64 x292001_5) := (blk_cell BK291.out 1).trans rfl
                                have hfz93_0 := blk_frozen BK291.out 0
                                have hfz93_1 := blk_frozen BK291.out 1
                                have hnb94 := NB306_302.out
                                have hnc94 := NB302_306.out
                                have hcz95_0 : wr.cell? ⟨gb306, 0, none⟩ = some (.bool t303) := (blk_cell BK306.out 0).trans rfl
                                have hcz95_1 : wr.cell? ⟨gb306, 1, none⟩ = some (.int .i64 t304) := (blk_cell BK306.out 1).trans rfl
                                have hfz95_0 := blk_frozen BK306.out 0
                                have hfz95_1 := blk_frozen BK306.out 1
                                go_wp2
                                go_meet
                                case rel => exact ⟨_, (false), (by first | rfl | (simp; done) | (simp [*]; done)), H', ⟨by have := HJ5.out; have := HK2.out; first | omega | exact Nat.le_refl _⟩, ⟨by (with_reducible repeat (first | refine blk_drewN ?_ _ | refine blk_drew ?_ | refine blk_alloc ?_ _)); exact BK291.out⟩, ⟨by (with_reducible repeat (first | refine blk_drewN ?_ _ | refine blk_drew ?_ | refine blk_alloc ?_ _)); exact BK298.out⟩, ⟨by (with_reducible repeat (first | refine blk_drewN ?_ _ | refine blk_drew ?_ | refine blk_alloc ?_ _)); exact BK302.out⟩, ⟨by (with_reducible repeat (first | refine blk_drewN ?_ _ | refine blk_drew ?_ | refine blk_alloc ?_ _)); exact BK306.out⟩, ⟨by repeat (first | (with_reducible first | exact HB.out | apply below_alloc | apply pw_below_drewN | apply below_drew1 | refine below_set ?_ GE291.out | refine below_set ?_ GE298.out | refine below_set ?_ GE302.out | refine below_set ?_ GE306.out) | exact HB.out)⟩⟩
                        · rw [if_neg c52] at H
                          have c52b0 : (t305 == 0) = false := beq_eq_false_iff_ne.mpr c52
                          have c52b1 : (t305 != 0) = true := bne_iff_ne.mpr c52
                          by_cases c96 : (x15_2 != ((Int.tmod a1 1000000) != 0)) = true
                          · rw [if_pos c96] at H
                            have c96b0 : (x15_2 != ((Int.tmod a1 1000000) != 0)) = true := c96
                            (try (have c96b1 : decide (x15_2 = ((Int.tmod a1 1000000) != 0)) = false := by simpa using c96))
                            (try (have c96b2 : (x15_2 == ((Int.tmod a1 1000000) != 0)) = false := by simpa using c96))
                            (try (have c96b3 : ¬ (x15_2 = ((Int.tmod a1 1000000) != 0)) := by simpa using c96))
                            clear c96
                            have H' := Aside0.mk H
                            clear H
                            have hnb97 := NB298_291.out
                            have hnc97 := NB291_298.out
                            have hnb98 := NB298_302.out
                            have hnc98 := NB302_298.out
                            have hnb99 := NB298_306.out
                            have hnc99 := NB306_298.out
                            have hcz100_0 : wr.cell? ⟨gb298, 0, none⟩ = some (.bool t295) := (blk_cell BK298.out 0).trans rfl
                            have hcz100_1 : wr.cell? ⟨gb298, 1, none⟩ = some (.int .i64 t296) := (blk_cell BK298.out 1).trans rfl
                            have hfz100_0 := blk_frozen BK298.out 0
                            have hfz100_1 := blk_frozen BK298.out 1
                            have hnb101 := NB291_302.out
                            have hnc101 := NB302_291.out
                            have hnb102 := NB291_306.out
                            have hnc102 := NB306_291.out
                            have hcz103_0 : wr.cell? ⟨gb291, 0, none⟩ = some (.bool x292000_5) := (blk_cell BK291.out 0).trans rfl
                            have hcz103_1 : wr.cell? ⟨gb291, 1, none⟩ = some (.int .i64 x292001_5) := (blk_cell BK291.out 1).trans rfl
                            have hfz103_0 := blk_frozen BK291.out 0
                            have hfz103_1 := blk_frozen BK291.out 1
                            go_wp2
                            go_meet
                            case rel => exact ⟨_, (true), (by first | rfl | (simp; done) | (simp [*]; done)), H', ⟨by have := HJ5.out; have := HK2.out; first | omega | exact Nat.le_refl _⟩, ⟨by (with_reducible repeat (first | refine blk_drewN ?_ _ | refine blk_drew ?_ | refine blk_alloc ?_ _)); exact BK291.out⟩, ⟨by (with_reducible repeat (first | refine blk_drewN ?_ _ | refine blk_drew ?_ | refine blk_alloc ?_ _)); exact BK298.out⟩, ⟨by (with_reducible repeat (first | refine blk_drewN ?_ _ | refine blk_drew ?_ | refine blk_alloc ?_ _)); exact BK302.out⟩, ⟨by (with_reducible repeat (first | refine blk_drewN ?_ _ | refine blk_drew ?_ | refine blk_alloc ?_ _)); exact BK306.out⟩, ⟨by repeat (first | (with_reducible first | exact HB.out | apply below_alloc | apply pw_below_drewN | apply below_drew1 | refine below_set ?_ GE291.out | refine below_set ?_ GE298.out | refine below_set ?_ GE302.out | refine below_set ?_ GE306.out) | exact HB.out)⟩⟩
                          · rw [if_neg c96] at H
                            have c96b0 : (x15_2 != ((Int.tmod a1 1000000) != 0)) = false := by simpa using c96
                            (try (have c96b1 : decide (x15_2 = ((Int.tmod a1 1000000) != 0)) = true := by simpa using c96))
                            (try (have c96b2 : (x15_2 == ((Int.tmod a1 1000000) != 0)) = true := by simpa using c96))
                            clear c96
                            by_cases c104 : x15_2 = true
                            · subst c104
                              have H1 : (if 0 ≤ (wrap64 ((t294.size : Int) - 1)) then (if (wrap64 ((t294.size : Int) - 1)) < (t294.size : Int) then (spillwaylaw2_FixTexts.j2 k2 t301 true ((bt t294 (wrap64 ((t294.size : Int) - 1))) == 48) x292000_5 x292001_5 t299 t300) else (none)) else (none)) = some r := by rw [if_pos rfl] at H; exact H
                              clear H
                              have H := H1
                              clear H1
                              obtain ⟨ji105, hji105⟩ : ∃ j_ : Int, (wrap64 ((t294.size : Int) - 1)) = j_ := ⟨_, rfl⟩
                              replace H : (if 0 ≤ (ji105) then (if (ji105) < (t294.size : Int) then (spillwaylaw2_FixTexts.j2 k2 t301 true ((bt t294 (ji105)) == 48) x292000_5 x292001_5 t299 t300) else (none)) else (none)) = some r := by first | (rw [hji105] at H; exact H) | (simp only [hji105] at H ⊢; exact H)
                              have hji105w : (IntKind.i64.wrap ((t294.size : Int) - 1)) = ji105 := (i64_w _).trans hji105
                              by_cases c106 : 0 ≤ (ji105)
                              · rw [if_pos c106] at H
                                have c106b0 : decide (0 ≤ (ji105)) = true := decide_eq_true c106
                                clear c106
                                by_cases c107 : (ji105) < (t294.size : Int)
                                · rw [if_pos c107] at H
                                  have c107b0 : decide ((ji105) < (t294.size : Int)) = true := decide_eq_true c107
                                  clear c107
                                  have H' := Aside0.mk H
                                  clear H
                                  have hnb109 := NB298_291.out
                                  have hnc109 := NB291_298.out
                                  have hnb110 := NB298_302.out
                                  have hnc110 := NB302_298.out
                                  have hnb111 := NB298_306.out
                                  have hnc111 := NB306_298.out
                                  have hcz112_0 : wr.cell? ⟨gb298, 0, none⟩ = some (.bool t295) := (blk_cell BK298.out 0).trans rfl
                                  have hcz112_1 : wr.cell? ⟨gb298, 1, none⟩ = some (.int .i64 t296) := (blk_cell BK298.out 1).trans rfl
                                  have hfz112_0 := blk_frozen BK298.out 0
                                  have hfz112_1 := blk_frozen BK298.out 1
                                  have hnb113 := NB291_302.out
                                  have hnc113 := NB302_291.out
                                  have hnb114 := NB291_306.out
                                  have hnc114 := NB306_291.out
                                  have hcz115_0 : wr.cell? ⟨gb291, 0, none⟩ = some (.bool x292000_5) := (blk_cell BK291.out 0).trans rfl
                                  have hcz115_1 : wr.cell? ⟨gb291, 1, none⟩ = some (.int .i64 x292001_5) := (blk_cell BK291.out 1).trans rfl
                                  have hfz115_0 := blk_frozen BK291.out 0
                                  have hfz115_1 := blk_frozen BK291.out 1
                                  have p108 : 0 ≤ ((ji105) : Int) := of_decide_eq_true (by first | (with_reducible assumption) | assumption)
                                  have q108 : (ji105) < (t294.size : Int) := of_decide_eq_true (by first | (with_reducible assumption) | assumption)
                                  have hx108 := bt_at t294 (ji105)
                                  replace p108 := eq_true p108
                                  replace q108 := eq_true q108
                                  go_wp2
                                  go_meet
                                  case rel => exact ⟨_, (((bt t294 (ji105)) == 48)), (by first | rfl | (simp; done) | (simp only [← hji105] <;> (first | rfl | simp)) | (simp [*]; done)), H', ⟨by have := HJ5.out; have := HK2.out; first | omega | exact Nat.le_refl _⟩, ⟨by (with_reducible repeat (first | refine blk_drewN ?_ _ | refine blk_drew ?_ | refine blk_alloc ?_ _)); exact BK291.out⟩, ⟨by (with_reducible repeat (first | refine blk_drewN ?_ _ | refine blk_drew ?_ | refine blk_alloc ?_ _)); exact BK298.out⟩, ⟨by (with_reducible repeat (first | refine blk_drewN ?_ _ | refine blk_drew ?_ | refine blk_alloc ?_ _)); exact BK302.out⟩, ⟨by (with_reducible repeat (first | refine blk_drewN ?_ _ | refine blk_drew ?_ | refine blk_alloc ?_ _)); exact BK306.out⟩, ⟨by repeat (first | (with_reducible first | exact HB.out | apply below_alloc | apply pw_below_drewN | apply below_drew1 | refine below_set ?_ GE291.out | refine below_set ?_ GE298.out | refine below_set ?_ GE302.out | refine below_set ?_ GE306.out) | exact HB.out)⟩⟩
                                · rw [if_neg c107] at H
                                  exact absurd H (by simp)
                              · rw [if_neg c106] at H
                                exact absurd H (by simp)
                            · replace c104 := Bool.eq_false_iff.mpr c104
                              subst c104
                              have H1 : (spillwaylaw2_FixTexts.j2 k2 t301 false false x292000_5 x292001_5 t299 t300) = some r := by rw [if_neg (show ¬ (false = true) by decide)] at H; exact H
                              clear H
                              have H := H1
                              clear H1
                              have H' := Aside0.mk H
                              clear H
                              have hnb116 := NB298_291.out
                              have hnc116 := NB291_298.out
                              have hnb117 := NB298_302.out
                              have hnc117 := NB302_298.out
                              have hnb118 := NB298_306.out
                              have hnc118 := NB306_298.out
                              have hcz119_0 : wr.cell? ⟨gb298, 0, none⟩ = some (.bool t295) := (blk_cell BK298.out 0).trans rfl
                              have hcz119_1 : wr.cell? ⟨gb298, 1, none⟩ = some (.int .i64 t296) := (blk_cell BK298.out 1).trans rfl
                              have hfz119_0 := blk_frozen BK298.out 0
                              have hfz119_1 := blk_frozen BK298.out 1
                              have hnb120 := NB291_302.out
                              have hnc120 := NB302_291.out
                              have hnb121 := NB291_306.out
                              have hnc121 := NB306_291.out
                              have hcz122_0 : wr.cell? ⟨gb291, 0, none⟩ = some (.bool x292000_5) := (blk_cell BK291.out 0).trans rfl
                              have hcz122_1 : wr.cell? ⟨gb291, 1, none⟩ = some (.int .i64 x292001_5) := (blk_cell BK291.out 1).trans rfl
                              have hfz122_0 := blk_frozen BK291.out 0
                              have hfz122_1 := blk_frozen BK291.out 1
                              go_wp2
                              go_meet
                              case rel => exact ⟨_, (false), (by first | rfl | (simp; done) | (simp [*]; done)), H', ⟨by have := HJ5.out; have := HK2.out; first | omega | exact Nat.le_refl _⟩, ⟨by (with_reducible repeat (first | refine blk_drewN ?_ _ | refine blk_drew ?_ | refine blk_alloc ?_ _)); exact BK291.out⟩, ⟨by (with_reducible repeat (first | refine blk_drewN ?_ _ | refine blk_drew ?_ | refine blk_alloc ?_ _)); exact BK298.out⟩, ⟨by (with_reducible repeat (first | refine blk_drewN ?_ _ | refine blk_drew ?_ | refine blk_alloc ?_ _)); exact BK302.out⟩, ⟨by (with_reducible repeat (first | refine blk_drewN ?_ _ | refine blk_drew ?_ | refine blk_alloc ?_ _)); exact BK306.out⟩, ⟨by repeat (first | (with_reducible first | exact HB.out | apply below_alloc | apply pw_below_drewN | apply below_drew1 | refine below_set ?_ GE291.out | refine below_set ?_ GE298.out | refine below_set ?_ GE302.out | refine below_set ?_ GE306.out) | exact HB.out)⟩⟩
                    · rw [if_neg c43] at H
                      have c43b0 : (t297 == 0) = false := beq_eq_false_iff_ne.mpr c43
                      have c43b1 : (t297 != 0) = true := bne_iff_ne.mpr c43
                      (first | rw [c43b0] | (simp only [i64_w, i32_w]; rw [c43b0]) | skip)
                      have H' := Aside0.mk H
                      clear H
                      go_wp2
                      go_meet
                      case rel => exact ⟨_, (true), (by first | rfl | (simp; done) | (simp [*]; done)), H', ⟨by have := HJ5.out; have := HK2.out; first | omega | exact Nat.le_refl _⟩, ⟨by (with_reducible repeat (first | refine blk_drewN ?_ _ | refine blk_drew ?_ | refine blk_alloc ?_ _)); exact BK291.out⟩, ⟨by (with_reducible repeat (first | refine blk_drewN ?_ _ | refine blk_drew ?_ | refine blk_alloc ?_ _)); exact BK298.out⟩, ⟨by (with_reducible repeat (first | refine blk_drewN ?_ _ | refine blk_drew ?_ | refine blk_alloc ?_ _)); exact BK302.out⟩, ⟨by (with_reducible repeat (first | refine blk_drewN ?_ _ | refine blk_drew ?_ | refine blk_alloc ?_ _)); exact BK306.out⟩, ⟨by repeat (first | (with_reducible first | exact HB.out | apply below_alloc | apply pw_below_drewN | apply below_drew1 | refine below_set ?_ GE291.out | refine below_set ?_ GE298.out | refine below_set ?_ GE302.out | refine below_set ?_ GE306.out) | exact HB.out)⟩⟩
                  case rest =>
                    clear HC42
                    try clear c1
                    try clear p1
                    try clear q1
                    try clear hx1
                    try clear c2
                    try clear p2
                    try clear c3
                    try clear c4
                    try clear p4
                    try clear q4
                    try clear hx4
                    try clear c5
                    try clear c6
                    try clear p6
                    try clear c7
                    try clear p7
                    try clear q7
                    try clear hx7
                    try clear c8
                    try clear c9
                    try clear c10
                    try clear p10
                    try clear q10
                    try clear hx10
                    try clear c11
                    try clear c12
                    try clear c13
                    try clear c15
                    try clear c17
                    try clear c17b0
                    try clear c17b1
                    try clear c17b2
                    try clear c19
                    try clear c19b0
                    try clear c19b1
                    try clear c19b2
                    try clear c21
                    try clear c25
                    try clear c29
                    try clear c30
                    try clear c34
                    try clear c35
                    try clear c36
                    try clear c38
                    try clear c38b0
                    try clear c39
                    try clear c40
                    try clear c40b0
                    try clear p41
                    try clear q41
                    try clear hx41
                    try clear c43
                    try clear c43b0
                    try clear c43b1
                    try clear c44
                    try clear c44b0
                    try clear c45
                    try clear c46
                    try clear c47
                    try clear c49
                    try clear c50
                    try clear c52
                    try clear c52b0
                    try clear c52b1
                    try clear c53
                    try clear c53b0
                    try clear c54
                    try clear c55
                    try clear c56
                    try clear c58
                    try clear c59
                    try clear c61
                    try clear c63
                    try clear c63b0
                    try clear c63b1
                    try clear c63b2
                    try clear c64
                    try clear p64
                    try clear c65
                    try clear c66
                    try clear c68
                    try clear c69
                    try clear c71
                    try clear c73
                    try clear c75
                    try clear c75b0
                    try clear c76
                    try clear c76b0
                    try clear p77
                    try clear q77
                    try clear hx77
                    try clear c78
                    try clear c79
                    try clear c80
                    try clear c82
                    try clear c83
                    try clear c85
                    try clear c87
                    try clear c88
                    try clear c89
                    try clear c91
                    try clear c92
                    try clear c94
                    try clear c96
                    try clear c96b0
                    try clear c96b1
                    try clear c96b2
                    try clear c97
                    try clear c98
                    try clear c99
                    try clear c101
                    try clear c102
                    try clear c104
                    try clear c106
                    try clear c106b0
                    try clear c107
                    try clear c107b0
                    try clear p108
                    try clear q108
                    try clear hx108
                    try clear c109
                    try clear c110
                    try clear c111
                    try clear c113
                    try clear c114
                    try clear c116
                    try clear c117
                    try clear c118
                    try clear c120
                    try clear c121
                    try clear hcz100_0
                    try clear hcz100_1
                    try clear hcz103_0
                    try clear hcz103_1
                    try clear hcz112_0
                    try clear hcz112_1
                    try clear hcz115_0
                    try clear hcz115_1
                    try clear hcz119_0
                    try clear hcz119_1
                    try clear hcz122_0
                    try clear hcz122_1
                    try clear hcz12_0
                    try clear hcz12_1
                    try clear hcz14_0
                    try clear hcz14_1
                    try clear hcz21_0
                    try clear hcz21_1
                    try clear hcz26_0
                    try clear hcz26_1
                    try clear hcz31_0
                    try clear hcz31_1
                    try clear hcz37_0
                    try clear hcz37_1
                    try clear hcz48_0
                    try clear hcz48_1
                    try clear hcz51_0
                    try clear hcz51_1
                    try clear hcz57_0
                    try clear hcz57_1
                    try clear hcz60_0
                    try clear hcz60_1
                    try clear hcz62_0
                    try clear hcz62_1
                    try clear hcz67_0
                    try clear hcz67_1
                    try clear hcz70_0
                    try clear hcz70_1
                    try clear hcz72_0
                    try clear hcz72_1
                    try clear hcz81_0
                    try clear hcz81_1
                    try clear hcz84_0
                    try clear hcz84_1
                    try clear hcz86_0
                    try clear hcz86_1
                    try clear hcz90_0
                    try clear hcz90_1
                    try clear hcz93_0
                    try clear hcz93_1
                    try clear hcz95_0
                    try clear hcz95_1
                    try clear hcz9_0
                    try clear hcz9_1
                    try clear hfz100_0
                    try clear hfz100_1
                    try clear hfz103_0
                    try clear hfz103_1
                    try clear hfz112_0
                    try clear hfz112_1
                    try clear hfz115_0
                    try clear hfz115_1
                    try clear hfz119_0
                    try clear hfz119_1
                    try clear hfz122_0
                    try clear hfz122_1
                    try clear hfz12_0
                    try clear hfz12_1
                    try clear hfz14_0
                    try clear hfz14_1
                    try clear hfz21_0
                    try clear hfz21_1
                    try clear hfz26_0
                    try clear hfz26_1
                    try clear hfz31_0
                    try clear hfz31_1
                    try clear hfz37_0
                    try clear hfz37_1
                    try clear hfz48_0
                    try clear hfz48_1
                    try clear hfz51_0
                    try clear hfz51_1
                    try clear hfz57_0
                    try clear hfz57_1
                    try clear hfz60_0
                    try clear hfz60_1
                    try clear hfz62_0
                    try clear hfz62_1
                    try clear hfz67_0
                    try clear hfz67_1
                    try clear hfz70_0
                    try clear hfz70_1
                    try clear hfz72_0
                    try clear hfz72_1
                    try clear hfz81_0
                    try clear hfz81_1
                    try clear hfz84_0
                    try clear hfz84_1
                    try clear hfz86_0
                    try clear hfz86_1
                    try clear hfz90_0
                    try clear hfz90_1
                    try clear hfz93_0
                    try clear hfz93_1
                    try clear hfz95_0
                    try clear hfz95_1
                    try clear hfz9_0
                    try clear hfz9_1
                    try clear p108
                    try clear p2
                    try clear p41
                    try clear p6
                    try clear p77
                    try clear q108
                    try clear q41
                    try clear q77
                    obtain ⟨kq, x95_41, rfl, HA, HJ41, BK291, BK298, BK302, BK306, HB⟩ := hcut
                    cases kq with
                    | zero => exact absurd HA.out (by simp [spillwaylaw2_FixTexts.j2])
                    | succ kj41 =>
                      have H := HA.out
                      clear HA
                      simp only [spillwaylaw2_FixTexts.j2] at H
                      by_cases c123 : x95_41 = true
                      · subst c123
                        have H1 : (some false) = some r := by rw [if_pos rfl] at H; exact H
                        clear H
                        have H := H1
                        clear H1
                        exact absurd ((Option.some.inj H).trans HRT.out) (by decide)
                      · replace c123 := Bool.eq_false_iff.mpr c123
                        subst c123
                        have H1 : (if t301 = 0 then (if x15_2 = true then (if (t299 == x292000_5 && (t300 == x292001_5)) = true then (some true) else (some false)) else ((fix_Of.f kj41 10).bind fun bt307 => ((fix_Mul.f kj41 x292000_5 x292001_5 bt307.1 bt307.2).bind fun bt309 => (some (t299 == bt309.1 && (t300 == bt309.2)))))) else (some true)) = some r := by rw [if_neg (show ¬ (false = true) by decide)] at H; exact H
                        clear H
                        have H := H1
                        clear H1
                        by_cases c124 : t301 = 0
                        · rw [if_pos c124] at H
                          have c124b0 : (t301 == 0) = true := beq_iff_eq.mpr c124
                          have c124b1 : (t301 != 0) = false := bne_eq_false_iff_eq.mpr c124
                          clear c124
                          by_cases c125 : x15_2 = true
                          · subst c125
                            have H1 : (if (t299 == x292000_5 && (t300 == x292001_5)) = true then (some true) else (some false)) = some r := by rw [if_pos rfl] at H; exact H
                            clear H
                            have H := H1
                            clear H1
                            by_cases c126 : (t299 == x292000_5 && (t300 == x292001_5)) = true
                            · rw [if_pos c126] at H
                              have c126b0 : (t299 == x292000_5 && (t300 == x292001_5)) = true := c126
                              (try (have c126b1 : decide (t299 = x292000_5 && (t300 == x292001_5)) = true := by simpa using c126))
                              (try (have c126b2 : (t299 == x292000_5 && (t300 == x292001_5)) = true := by simpa using c126))
                              clear c126
                              obtain rfl := Option.some.inj H
                              try go_wp2
                              have n0_ := Aside0.mk (blk_drew BK291.out)
                              have n1_ := Aside0.mk (blk_drew BK298.out)
                              have n2_ := Aside0.mk (blk_drew BK302.out)
                              have n3_ := Aside0.mk (blk_drew BK306.out)
                              have n4_ := Aside0.mk (below_drew1 HB.out)
                              clear BK291
                              clear BK298
                              clear BK302
                              clear BK306
                              clear HB
                              have BK291 := n0_
                              have BK298 := n1_
                              have BK302 := n2_
                              have BK306 := n3_
                              have HB := n4_
                              clear n0_ n1_ n2_ n3_ n4_
                              refine start_ (n := 22) (S := fun w' => w'.cell? ⟨gb302, 0, none⟩ = some (.bool t299) ∧ w'.cell? ⟨gb302, 1, none⟩ = some (.int .i64 t300) ∧ w'.cell? ⟨gb291, 0, none⟩ = some (.bool x292000_5) ∧ w'.cell? ⟨gb291, 1, none⟩ = some (.int .i64 x292001_5)) (ds := []) #[false, false, false, false, false, false, false, false, false, false, false, false, false, false, false, false, false, false, false, false, false, false] (by kernel_rfl) rfl rfl ⟨(blk_cell BK302.out 0).trans rfl, (blk_cell BK302.out 1).trans rfl, (blk_cell BK291.out 0).trans rfl, (blk_cell BK291.out 1).trans rfl⟩ (fun hHeld => ?_); refine with_tabW spillwaylaw2_FixTexts.tab17 spillwaylaw2_FixTexts.bits17 (fun HT_ HW_ => ?_)
                              generalize wc.drew = w127 at BK291 BK298 BK302 BK306 HB hHeld ⊢
                              refine pure_ (i := 0) (N := some 96) (v := ?_) (a' := ?_) #[true, false, false, false, false, false, false, false, false, false, false, false, false, false, false, false, false, false, false, false, false, false] rfl rfl (any_of HT_.out (by kernel_rfl)) (fun _ _ _ h => h) (Or.inl ⟨by rfl, ?_⟩) ?_ ?_
                              rotate_left
                              · intro w'
                                go_simp
                                with_reducible rfl
                              rotate_left
                              · simp only [Act.put, List.setIfInBounds_toArray, List.set_cons_zero, List.set_cons_succ, i64_w, i32_w]
                                rfl
                              refine pure_ (i := 1) (N := some 97) (v := ?_) (a' := ?_) #[true, true, false, false, false, false, false, false, false, false, false, false, false, false, false, false, false, false, false, false, false, false] rfl rfl (any_of HT_.out (by kernel_rfl)) (fun _ _ _ h => h) (Or.inl ⟨by rfl, ?_⟩) ?_ ?_
                              rotate_left
                              · intro w'
                                go_simp
                                with_reducible rfl
                              rotate_left
                              · simp only [Act.put, List.setIfInBounds_toArray, List.set_cons_zero, List.set_cons_succ, i64_w, i32_w]
                                rfl
                              refine pure_ (i := 2) (N := some 98) (v := ?_) (a' := ?_) #[true, true, true, false, false, false, false, false, false, false, false, false, false, false, false, false, false, false, false, false, false, false] rfl rfl (any_of HT_.out (by kernel_rfl)) (fun _ _ _ h => h) (Or.inl ⟨by rfl, ?_⟩) ?_ ?_
                              rotate_left
                              · intro w'
                                go_simp
                                with_reducible rfl
                              rotate_left
                              · simp only [Act.put, List.setIfInBounds_toArray, List.set_cons_zero, List.set_cons_succ, i64_w, i32_w]
                                rfl
                              refine pure_ (i := 3) (N := some 99) (v := ?_) (a' := ?_) #[true, true, true, true, false, false, false, false, false, false, false, false, false, false, false, false, false, false, false, false, false, false] rfl rfl (any_of HT_.out (by kernel_rfl)) (fun _ _ _ h => h) (Or.inl ⟨by rfl, ?_⟩) ?_ ?_
                              rotate_left
                              · intro w'
                                go_simp
                                with_reducible rfl
                              rotate_left
                              · simp only [Act.put, List.setIfInBounds_toArray, List.set_cons_zero, List.set_cons_succ, i64_w, i32_w]
                                rfl
                              refine pure_ (i := 4) (N := some 100) (v := ?_) (a' := ?_) #[true, true, true, true, true, false, false, false, false, false, false, false, false, false, false, false, false, false, false, false, false, false] rfl rfl (any_of HT_.out (by kernel_rfl)) (fun _ _ _ h => h) (Or.inl ⟨by rfl, ?_⟩) ?_ ?_
                              rotate_left
                              · intro w'
                                go_simp
                                with_reducible rfl
                              rotate_left
                              · simp only [Act.put, List.setIfInBounds_toArray, List.set_cons_zero, List.set_cons_succ, i64_w, i32_w]
                                rfl
                              refine take_ (i := 5) (N := some 101) (v := ?_) (a' := ?_) #[true, true, true, true, true, true, false, false, false, false, false, false, false, false, false, false, false, false, false, false, false, false] rfl rfl (take_ofW HT_.out HW_.out (by kernel_rfl)) (fun _ _ _ h => h) (Or.inl ⟨by rfl, ?_⟩) hHeld ?_ ?_
                              rotate_left
                              · rintro w' ⟨s0, s1, s2, s3⟩
                                go_simp
                                with_reducible rfl
                              rotate_left
                              · simp only [Act.put, List.setIfInBounds_toArray, List.set_cons_zero, List.set_cons_succ, i64_w, i32_w]
                                rfl
                              refine take_ (i := 6) (N := some 102) (v := ?_) (a' := ?_) #[true, true, true, true, true, true, true, false, false, false, false, false, false, false, false, false, false, false, false, false, false, false] rfl rfl (take_ofW HT_.out HW_.out (by kernel_rfl)) (fun _ _ _ h => h) (Or.inl ⟨by rfl, ?_⟩) hHeld ?_ ?_
                              rotate_left
                              · rintro w' ⟨s0, s1, s2, s3⟩
                                go_simp
                                with_reducible rfl
                              rotate_left
                              · simp only [Act.put, List.setIfInBounds_toArray, List.set_cons_zero, List.set_cons_succ, i64_w, i32_w]
                                rfl
                              refine pure_ (i := 7) (N := some 103) (v := ?_) (a' := ?_) #[true, true, true, true, true, true, true, true, false, false, false, false, false, false, false, false, false, false, false, false, false, false] rfl rfl (any_of HT_.out (by kernel_rfl)) (fun _ _ _ h => h) (Or.inl ⟨by rfl, ?_⟩) ?_ ?_
                              rotate_left
                              · intro w'
                                go_simp
                                with_reducible rfl
                              rotate_left
                              · simp only [Act.put, List.setIfInBounds_toArray, List.set_cons_zero, List.set_cons_succ, i64_w, i32_w]
                                rfl
                              refine pure_ (i := 8) (N := some 104) (v := ?_) (a' := ?_) #[true, true, true, true, true, true, true, true, true, false, false, false, false, false, false, false, false, false, false, false, false, false] rfl rfl (any_of HT_.out (by kernel_rfl)) (fun _ _ _ h => h) (Or.inl ⟨by rfl, ?_⟩) ?_ ?_
                              rotate_left
                              · intro w'
                                go_simp
                                with_reducible rfl
                              rotate_left
                              · simp only [Act.put, List.setIfInBounds_toArray, List.set_cons_zero, List.set_cons_succ, i64_w, i32_w]
                                rfl
                              refine pure_ (i := 9) (N := some 105) (v := ?_) (a' := ?_) #[true, true, true, true, true, true, true, true, true, true, false, false, false, false, false, false, false, false, false, false, false, false] rfl rfl (any_of HT_.out (by kernel_rfl)) (fun _ _ _ h => h) (Or.inl ⟨by rfl, ?_⟩) ?_ ?_
                              rotate_left
                              · intro w'
                                go_simp
                                with_reducible rfl
                              rotate_left
                              · simp only [Act.put, List.setIfInBounds_toArray, List.set_cons_zero, List.set_cons_succ, i64_w, i32_w]
                                rfl
                              refine pure_ (i := 10) (N := some 106) (v := ?_) (a' := ?_) #[true, true, true, true, true, true, true, true, true, true, true, false, false, false, false, false, false, false, false, false, false, false] rfl rfl (any_of HT_.out (by kernel_rfl)) (fun _ _ _ h => h) (Or.inl ⟨by rfl, ?_⟩) ?_ ?_
                              rotate_left
                              · intro w'
                                go_simp
                                with_reducible rfl
                              rotate_left
                              · simp only [Act.put, List.setIfInBounds_toArray, List.set_cons_zero, List.set_cons_succ, i64_w, i32_w]
                                rfl
                              refine pure_ (i := 11) (N := some 107) (v := undef) (a' := ?_) #[true, true, true, true, true, true, true, true, true, true, true, true, false, false, false, false, false, false, false, false, false, false] rfl rfl (any_of HT_.out (by kernel_rfl)) (fun _ _ _ h => h) (Or.inr ⟨by rfl, rfl⟩) ?_ ?_
                              rotate_left
                              · simp only [Act.put, List.setIfInBounds_toArray, List.set_cons_zero, List.set_cons_succ, i64_w, i32_w]
                                rfl
                              refine pure_ (i := 12) (N := some 108) (v := undef) (a' := ?_) #[true, true, true, true, true, true, true, true, true, true, true, true, true, false, false, false, false, false, false, false, false, false] rfl rfl (any_of HT_.out (by kernel_rfl)) (fun _ _ _ h => h) (Or.inr ⟨by rfl, rfl⟩) ?_ ?_
                              rotate_left
                              · simp only [Act.put, List.setIfInBounds_toArray, List.set_cons_zero, List.set_cons_succ, i64_w, i32_w]
                                rfl
                              refine pure_ (i := 13) (N := some 109) (v := undef) (a' := ?_) #[true, true, true, true, true, true, true, true, true, true, true, true, true, true, false, false, false, false, false, false, false, false] rfl rfl (any_of HT_.out (by kernel_rfl)) (fun _ _ _ h => h) (Or.inr ⟨by rfl, rfl⟩) ?_ ?_
                              rotate_left
                              · simp only [Act.put, List.setIfInBounds_toArray, List.set_cons_zero, List.set_cons_succ, i64_w, i32_w]
                                rfl
                              refine pure_ (i := 14) (N := some 110) (v := undef) (a' := ?_) #[true, true, true, true, true, true, true, true, true, true, true, true, true, true, true, false, false, false, false, false, false, false] rfl rfl (any_of HT_.out (by kernel_rfl)) (fun _ _ _ h => h) (Or.inr ⟨by rfl, rfl⟩) ?_ ?_
                              rotate_left
                              · simp only [Act.put, List.setIfInBounds_toArray, List.set_cons_zero, List.set_cons_succ, i64_w, i32_w]
                                rfl
                              refine pure_ (i := 15) (N := some 111) (v := undef) (a' := ?_) #[true, true, true, true, true, true, true, true, true, true, true, true, true, true, true, true, false, false, false, false, false, false] rfl rfl (any_of HT_.out (by kernel_rfl)) (fun _ _ _ h => h) (Or.inr ⟨by rfl, rfl⟩) ?_ ?_
                              rotate_left
                              · simp only [Act.put, List.setIfInBounds_toArray, List.set_cons_zero, List.set_cons_succ, i64_w, i32_w]
                                rfl
                              refine pure_ (i := 16) (N := some 112) (v := undef) (a' := ?_) #[true, true, true, true, true, true, true, true, true, true, true, true, true, true, true, true, true, false, false, false, false, false] rfl rfl (any_of HT_.out (by kernel_rfl)) (fun _ _ _ h => h) (Or.inr ⟨by rfl, rfl⟩) ?_ ?_
                              rotate_left
                              · simp only [Act.put, List.setIfInBounds_toArray, List.set_cons_zero, List.set_cons_succ, i64_w, i32_w]
                                rfl
                              refine pure_ (i := 17) (N := some 113) (v := undef) (a' := ?_) #[true, true, true, true, true, true, true, true, true, true, true, true, true, true, true, true, true, true, false, false, false, false] rfl rfl (any_of HT_.out (by kernel_rfl)) (fun _ _ _ h => h) (Or.inr ⟨by rfl, rfl⟩) ?_ ?_
                              rotate_left
                              · simp only [Act.put, List.setIfInBounds_toArray, List.set_cons_zero, List.set_cons_succ, i64_w, i32_w]
                                rfl
                              refine pure_ (i := 18) (N := some 114) (v := undef) (a' := ?_) #[true, true, true, true, true, true, true, true, true, true, true, true, true, true, true, true, true, true, true, false, false, false] rfl rfl (any_of HT_.out (by kernel_rfl)) (fun _ _ _ h => h) (Or.inr ⟨by rfl, rfl⟩) ?_ ?_
                              rotate_left
                              · simp only [Act.put, List.setIfInBounds_toArray, List.set_cons_zero, List.set_cons_succ, i64_w, i32_w]
                                rfl
                              refine pure_ (i := 19) (N := some 115) (v := undef) (a' := ?_) #[true, true, true, true, true, true, true, true, true, true, true, true, true, true, true, true, true, true, true, true, false, false] rfl rfl (any_of HT_.out (by kernel_rfl)) (fun _ _ _ h => h) (Or.inr ⟨by rfl, rfl⟩) ?_ ?_
                              rotate_left
                              · simp only [Act.put, List.setIfInBounds_toArray, List.set_cons_zero, List.set_cons_succ, i64_w, i32_w]
                                rfl
                              refine pure_ (i := 20) (N := some 116) (v := ?_) (a' := ?_) #[true, true, true, true, true, true, true, true, true, true, true, true, true, true, true, true, true, true, true, true, true, false] rfl rfl (any_of HT_.out (by kernel_rfl)) (fun _ _ _ h => h) (Or.inl ⟨by rfl, ?_⟩) ?_ ?_
                              rotate_left
                              · intro w'
                                go_simp
                                with_reducible rfl
                              rotate_left
                              · simp only [Act.put, List.setIfInBounds_toArray, List.set_cons_zero, List.set_cons_succ, i64_w, i32_w]
                                rfl
                              refine pure_ (i := 21) (N := some 6) (v := ?_) (a' := ?_) #[true, true, true, true, true, true, true, true, true, true, true, true, true, true, true, true, true, true, true, true, true, true] rfl rfl (any_of HT_.out (by kernel_rfl)) (fun _ _ _ h => h) (Or.inl ⟨by rfl, ?_⟩) ?_ ?_
                              rotate_left
                              · intro w'
                                go_simp
                                with_reducible rfl
                              rotate_left
                              · simp only [Act.put, List.setIfInBounds_toArray, List.set_cons_zero, List.set_cons_succ, i64_w, i32_w]
                                rfl
                              refine done_ (done_of HT_.out (by kernel_rfl)) ?_
                              try go_wp2
                              go_ret
                              exact ⟨by first | rfl | (simp [errW_none, errW_some] <;> rfl) | (simp [*, errW_none, errW_some] <;> rfl), by repeat (first | (with_reducible first | exact HB.out | apply below_alloc | apply pw_below_drewN | apply below_drew1 | refine below_set ?_ GE291.out | refine below_set ?_ GE298.out | refine below_set ?_ GE302.out | refine below_set ?_ GE306.out) | exact HB.out)⟩
                            · rw [if_neg c126] at H
                              have c126b0 : (t299 == x292000_5 && (t300 == x292001_5)) = false := by simpa using c126
                              (try (have c126b1 : decide (t299 = x292000_5 && (t300 == x292001_5)) = false := by simpa using c126))
                              (try (have c126b2 : (t299 == x292000_5 && (t300 == x292001_5)) = false := by simpa using c126))
                              (try (have c126b3 : ¬ (t299 = x292000_5 && (t300 == x292001_5)) := by simpa using c126))
                              clear c126
                              exact absurd ((Option.some.inj H).trans HRT.out) (by decide)
                          · replace c125 := Bool.eq_false_iff.mpr c125
                            subst c125
                            have H1 : ((fix_Of.f kj41 10).bind fun bt307 => ((fix_Mul.f kj41 x292000_5 x292001_5 bt307.1 bt307.2).bind fun bt309 => (some (t299 == bt309.1 && (t300 == bt309.2))))) = some r := by rw [if_neg (show ¬ (false = true) by decide)] at H; exact H
                            clear H
                            have H := H1
                            clear H1
                            replace H := Option.bind_eq_some_iff.mp H
                            obtain ⟨⟨t307, t308⟩, A1280, H⟩ := H
                            replace H : ((fix_Mul.f kj41 x292000_5 x292001_5 t307 t308).bind fun bt309 => (some (t299 == bt309.1 && (t300 == bt309.2)))) = some r := H
                            have A128 := Aside0.mk A1280
                            clear A1280
                            replace H := Option.bind_eq_some_iff.mp H
                            obtain ⟨⟨t309, t310⟩, A1290, H⟩ := H
                            replace H : (some (t299 == t309 && (t300 == t310))) = some r := H
                            have A129 := Aside0.mk A1290
                            clear A1290
                            obtain rfl := Option.some.inj H
                            try go_wp2
                            have n0_ := Aside0.mk (blk_drew BK291.out)
                            have n1_ := Aside0.mk (blk_drew BK298.out)
                            have n2_ := Aside0.mk (blk_drew BK302.out)
                            have n3_ := Aside0.mk (blk_drew BK306.out)
                            have n4_ := Aside0.mk (below_drew1 HB.out)
                            clear BK291
                            clear BK298
                            clear BK302
                            clear BK306
                            clear HB
                            have BK291 := n0_
                            have BK298 := n1_
                            have BK302 := n2_
                            have BK306 := n3_
                            have HB := n4_
                            clear n0_ n1_ n2_ n3_ n4_
                            refine start_ (n := 22) (S := fun w' => w'.cell? ⟨gb302, 0, none⟩ = some (.bool t299) ∧ w'.cell? ⟨gb302, 1, none⟩ = some (.int .i64 t300) ∧ w'.cell? ⟨gb291, 0, none⟩ = some (.bool x292000_5) ∧ w'.cell? ⟨gb291, 1, none⟩ = some (.int .i64 x292001_5)) (ds := []) #[false, false, false, false, false, false, false, false, false, false, false, false, false, false, false, false, false, false, false, false, false, false] (by kernel_rfl) rfl rfl ⟨(blk_cell BK302.out 0).trans rfl, (blk_cell BK302.out 1).trans rfl, (blk_cell BK291.out 0).trans rfl, (blk_cell BK291.out 1).trans rfl⟩ (fun hHeld => ?_); refine with_tabW spillwaylaw2_FixTexts.tab17 spillwaylaw2_FixTexts.bits17 (fun HT_ HW_ => ?_)
                            generalize wc.drew = w130 at BK291 BK298 BK302 BK306 HB hHeld ⊢
                            refine pure_ (i := 0) (N := some 96) (v := ?_) (a' := ?_) #[true, false, false, false, false, false, false, false, false, false, false, false, false, false, false, false, false, false, false, false, false, false] rfl rfl (any_of HT_.out (by kernel_rfl)) (fun _ _ _ h => h) (Or.inl ⟨by rfl, ?_⟩) ?_ ?_
                            rotate_left
                            · intro w'
                              go_simp
                              with_reducible rfl
                            rotate_left
                            · simp only [Act.put, List.setIfInBounds_toArray, List.set_cons_zero, List.set_cons_succ, i64_w, i32_w]
                              rfl
                            refine pure_ (i := 1) (N := some 97) (v := ?_) (a' := ?_) #[true, true, false, false, false, false, false, false, false, false, false, false, false, false, false, false, false, false, false, false, false, false] rfl rfl (any_of HT_.out (by kernel_rfl)) (fun _ _ _ h => h) (Or.inl ⟨by rfl, ?_⟩) ?_ ?_
                            rotate_left
                            · intro w'
                              go_simp
                              with_reducible rfl
                            rotate_left
                            · simp only [Act.put, List.setIfInBounds_toArray, List.set_cons_zero, List.set_cons_succ, i64_w, i32_w]
                              rfl
                            refine pure_ (i := 2) (N := some 98) (v := ?_) (a' := ?_) #[true, true, true, false, false, false, false, false, false, false, false, false, false, false, false, false, false, false, false, false, false, false] rfl rfl (any_of HT_.out (by kernel_rfl)) (fun _ _ _ h => h) (Or.inl ⟨by rfl, ?_⟩) ?_ ?_
                            rotate_left
                            · intro w'
                              go_simp
                              with_reducible rfl
                            rotate_left
                            · simp only [Act.put, List.setIfInBounds_toArray, List.set_cons_zero, List.set_cons_succ, i64_w, i32_w]
                              rfl
                            refine pure_ (i := 3) (N := some 99) (v := ?_) (a' := ?_) #[true, true, true, true, false, false, false, false, false, false, false, false, false, false, false, false, false, false, false, false, false, false] rfl rfl (any_of HT_.out (by kernel_rfl)) (fun _ _ _ h => h) (Or.inl ⟨by rfl, ?_⟩) ?_ ?_
                            rotate_left
                            · intro w'
                              go_simp
                              with_reducible rfl
                            rotate_left
                            · simp only [Act.put, List.setIfInBounds_toArray, List.set_cons_zero, List.set_cons_succ, i64_w, i32_w]
                              rfl
                            refine pure_ (i := 4) (N := some 100) (v := ?_) (a' := ?_) #[true, true, true, true, true, false, false, false, false, false, false, false, false, false, false, false, false, false, false, false, false, false] rfl rfl (any_of HT_.out (by kernel_rfl)) (fun _ _ _ h => h) (Or.inl ⟨by rfl, ?_⟩) ?_ ?_
                            rotate_left
                            · intro w'
                              go_simp
                              with_reducible rfl
                            rotate_left
                            · simp only [Act.put, List.setIfInBounds_toArray, List.set_cons_zero, List.set_cons_succ, i64_w, i32_w]
                              rfl
                            refine pure_ (i := 5) (N := some 101) (v := undef) (a' := ?_) #[true, true, true, true, true, true, false, false, false, false, false, false, false, false, false, false, false, false, false, false, false, false] rfl rfl (any_of HT_.out (by kernel_rfl)) (fun _ _ _ h => h) (Or.inr ⟨by rfl, rfl⟩) ?_ ?_
                            rotate_left
                            · simp only [Act.put, List.setIfInBounds_toArray, List.set_cons_zero, List.set_cons_succ, i64_w, i32_w]
                              rfl
                            refine pure_ (i := 6) (N := some 102) (v := undef) (a' := ?_) #[true, true, true, true, true, true, true, false, false, false, false, false, false, false, false, false, false, false, false, false, false, false] rfl rfl (any_of HT_.out (by kernel_rfl)) (fun _ _ _ h => h) (Or.inr ⟨by rfl, rfl⟩) ?_ ?_
                            rotate_left
                            · simp only [Act.put, List.setIfInBounds_toArray, List.set_cons_zero, List.set_cons_succ, i64_w, i32_w]
                              rfl
                            refine pure_ (i := 7) (N := some 103) (v := undef) (a' := ?_) #[true, true, true, true, true, true, true, true, false, false, false, false, false, false, false, false, false, false, false, false, false, false] rfl rfl (any_of HT_.out (by kernel_rfl)) (fun _ _ _ h => h) (Or.inr ⟨by rfl, rfl⟩) ?_ ?_
                            rotate_left
                            · simp only [Act.put, List.setIfInBounds_toArray, List.set_cons_zero, List.set_cons_succ, i64_w, i32_w]
                              rfl
                            refine pure_ (i := 8) (N := some 104) (v := ?_) (a' := ?_) #[true, true, true, true, true, true, true, true, true, false, false, false, false, false, false, false, false, false, false, false, false, false] rfl rfl (any_of HT_.out (by kernel_rfl)) (fun _ _ _ h => h) (Or.inl ⟨by rfl, ?_⟩) ?_ ?_
                            rotate_left
                            · intro w'
                              go_simp
                              with_reducible rfl
                            rotate_left
                            · simp only [Act.put, List.setIfInBounds_toArray, List.set_cons_zero, List.set_cons_succ, i64_w, i32_w]
                              rfl
                            refine pure_ (i := 9) (N := some 105) (v := ?_) (a' := ?_) #[true, true, true, true, true, true, true, true, true, true, false, false, false, false, false, false, false, false, false, false, false, false] rfl rfl (any_of HT_.out (by kernel_rfl)) (fun _ _ _ h => h) (Or.inl ⟨by rfl, ?_⟩) ?_ ?_
                            rotate_left
                            · intro w'
                              go_simp
                              with_reducible rfl
                            rotate_left
                            · simp only [Act.put, List.setIfInBounds_toArray, List.set_cons_zero, List.set_cons_succ, i64_w, i32_w]
                              rfl
                            refine pure_ (i := 10) (N := some 106) (v := ?_) (a' := ?_) #[true, true, true, true, true, true, true, true, true, true, true, false, false, false, false, false, false, false, false, false, false, false] rfl rfl (any_of HT_.out (by kernel_rfl)) (fun _ _ _ h => h) (Or.inl ⟨by rfl, ?_⟩) ?_ ?_
                            rotate_left
                            · intro w'
                              go_simp
                              with_reducible rfl
                            rotate_left
                            · simp only [Act.put, List.setIfInBounds_toArray, List.set_cons_zero, List.set_cons_succ, i64_w, i32_w]
                              rfl
                            refine pure_ (i := 11) (N := some 107) (v := ?_) (a' := ?_) #[true, true, true, true, true, true, true, true, true, true, true, true, false, false, false, false, false, false, false, false, false, false] rfl rfl (any_of HT_.out (by kernel_rfl)) (fun _ _ _ h => h) (Or.inl ⟨by rfl, ?_⟩) ?_ ?_
                            rotate_left
                            · intro w'
                              go_simp
                              with_reducible rfl
                            rotate_left
                            · simp only [Act.put, List.setIfInBounds_toArray, List.set_cons_zero, List.set_cons_succ, i64_w, i32_w]
                              rfl
                            refine pure_ (i := 12) (N := some 108) (v := ?_) (a' := ?_) #[true, true, true, true, true, true, true, true, true, true, true, true, true, false, false, false, false, false, false, false, false, false] rfl rfl (any_of HT_.out (by kernel_rfl)) (fun _ _ _ h => h) (Or.inl ⟨by rfl, ?_⟩) ?_ ?_
                            rotate_left
                            · intro w'
                              go_simp
                              with_reducible rfl
                            rotate_left
                            · simp only [Act.put, List.setIfInBounds_toArray, List.set_cons_zero, List.set_cons_succ, i64_w, i32_w]
                              rfl
                            refine pure_ (i := 13) (N := some 109) (v := ?_) (a' := ?_) #[true, true, true, true, true, true, true, true, true, true, true, true, true, true, false, false, false, false, false, false, false, false] rfl rfl (any_of HT_.out (by kernel_rfl)) (fun _ _ _ h => h) (Or.inl ⟨by rfl, ?_⟩) ?_ ?_
                            rotate_left
                            · intro w'
                              go_simp
                              with_reducible rfl
                            rotate_left
                            · simp only [Act.put, List.setIfInBounds_toArray, List.set_cons_zero, List.set_cons_succ, i64_w, i32_w]
                              rfl
                            refine take_ (i := 14) (N := some 110) (v := ?_) (a' := ?_) #[true, true, true, true, true, true, true, true, true, true, true, true, true, true, true, false, false, false, false, false, false, false] rfl rfl (take_ofW HT_.out HW_.out (by kernel_rfl)) (fun _ _ _ h => h) (Or.inl ⟨by rfl, ?_⟩) hHeld ?_ ?_
                            rotate_left
                            · rintro w' ⟨s0, s1, s2, s3⟩
                              go_simp
                              with_reducible rfl
                            rotate_left
                            · simp only [Act.put, List.setIfInBounds_toArray, List.set_cons_zero, List.set_cons_succ, i64_w, i32_w]
                              rfl
                            refine take_ (i := 15) (N := some 111) (v := ?_) (a' := ?_) #[true, true, true, true, true, true, true, true, true, true, true, true, true, true, true, true, false, false, false, false, false, false] rfl rfl (take_ofW HT_.out HW_.out (by kernel_rfl)) (fun _ _ _ h => h) (Or.inl ⟨by rfl, ?_⟩) hHeld ?_ ?_
                            rotate_left
                            · rintro w' ⟨s0, s1, s2, s3⟩
                              go_simp
                              with_reducible rfl
                            rotate_left
                            · simp only [Act.put, List.setIfInBounds_toArray, List.set_cons_zero, List.set_cons_succ, i64_w, i32_w]
                              rfl
                            refine one_ (i := 16) (N := some 112) #[true, true, true, true, true, true, true, true, true, true, true, true, true, true, true, true, true, false, false, false, false, false] rfl rfl (one_of HT_.out (by kernel_rfl)) (by decide) (fun K hK => ?_)
                            refine goes_ Tryd.func22 (by kernel_rfl) rfl #[.int .i64 10] (by rfl) rfl rfl (by (try simp only [List.map_toArray, List.map_cons, List.map_nil]); first | done | rfl | (simp only [List.length_drop, List.length_take]; rfl)) ?_
                            with_reducible refine (fix_Of.calls kj41 10 t307 t308 _ A128.out).mono ?_
                            rintro e w131 ⟨rfl, hb⟩
                            refine ⟨_, rfl, ?_⟩
                            have n0_ := Aside0.mk (blk_below (g := gb291) (o := .cells #[.bool x292000_5, .int .i64 x292001_5] 25 (0, 0)) (by (with_reducible repeat (first | refine blk_drewN ?_ _ | refine blk_drew ?_ | refine blk_alloc ?_ _)); exact BK291.out) hb)
                            have n1_ := Aside0.mk (blk_below (g := gb298) (o := .cells #[.bool t295, .int .i64 t296] 25 (0, 0)) (by (with_reducible repeat (first | refine blk_drewN ?_ _ | refine blk_drew ?_ | refine blk_alloc ?_ _)); exact BK298.out) hb)
                            have n2_ := Aside0.mk (blk_below (g := gb302) (o := .cells #[.bool t299, .int .i64 t300] 25 (0, 0)) (by (with_reducible repeat (first | refine blk_drewN ?_ _ | refine blk_drew ?_ | refine blk_alloc ?_ _)); exact BK302.out) hb)
                            have n3_ := Aside0.mk (blk_below (g := gb306) (o := .cells #[.bool t303, .int .i64 t304] 25 (0, 0)) (by (with_reducible repeat (first | refine blk_drewN ?_ _ | refine blk_drew ?_ | refine blk_alloc ?_ _)); exact BK306.out) hb)
                            have n4_ := Aside0.mk (below_step (by repeat (first | (with_reducible first | exact HB.out | apply below_alloc | apply pw_below_drewN | apply below_drew1 | refine below_set ?_ GE291.out | refine below_set ?_ GE298.out | refine below_set ?_ GE302.out | refine below_set ?_ GE306.out) | exact HB.out)) hb)
                            clear BK291
                            clear BK298
                            clear BK302
                            clear BK306
                            clear HB
                            have BK291 := n0_
                            have BK298 := n1_
                            have BK302 := n2_
                            have BK306 := n3_
                            have HB := n4_
                            clear n0_ n1_ n2_ n3_ n4_
                            (try clear hb)
                            (try clear hb2)
                            (try clear hk)
                            (try clear hi)
                            refine hK.out _ _ ⟨(blk_cell BK302.out 0).trans rfl, (blk_cell BK302.out 1).trans rfl, (blk_cell BK291.out 0).trans rfl, (blk_cell BK291.out 1).trans rfl⟩ (fun hHeld => ?_)
                            clear hK K
                            refine norm_ (a' := ?_) ?_ ?_
                            rotate_left
                            · show Act.put _ (some 112) _ = _
                              simp only [Act.put, List.setIfInBounds_toArray, List.set_cons_zero, List.set_cons_succ, i64_w, i32_w]
                              rfl
                            refine one_ (i := 17) (N := some 113) #[true, true, true, true, true, true, true, true, true, true, true, true, true, true, true, true, true, true, false, false, false, false] rfl rfl (one_of HT_.out (by kernel_rfl)) (by decide) (fun K hK => ?_)
                            refine goes_ Tryd.func19 (by kernel_rfl) rfl #[.agg #[.bool x292000_5, .int .i64 x292001_5], .agg #[.bool t307, .int .i64 t308]] (by rfl) rfl rfl (by (try simp only [List.map_toArray, List.map_cons, List.map_nil]); first | done | rfl | (simp only [List.length_drop, List.length_take]; rfl)) ?_
                            with_reducible refine (fix_Mul.calls kj41 x292000_5 x292001_5 t307 t308 t309 t310 _ A129.out).mono ?_
                            rintro e w132 ⟨rfl, hb⟩
                            refine ⟨_, rfl, ?_⟩
                            have n0_ := Aside0.mk (blk_below (g := gb291) (o := .cells #[.bool x292000_5, .int .i64 x292001_5] 25 (0, 0)) (by (with_reducible repeat (first | refine blk_drewN ?_ _ | refine blk_drew ?_ | refine blk_alloc ?_ _)); exact BK291.out) hb)
                            have n1_ := Aside0.mk (blk_below (g := gb298) (o := .cells #[.bool t295, .int .i64 t296] 25 (0, 0)) (by (with_reducible repeat (first | refine blk_drewN ?_ _ | refine blk_drew ?_ | refine blk_alloc ?_ _)); exact BK298.out) hb)
                            have n2_ := Aside0.mk (blk_below (g := gb302) (o := .cells #[.bool t299, .int .i64 t300] 25 (0, 0)) (by (with_reducible repeat (first | refine blk_drewN ?_ _ | refine blk_drew ?_ | refine blk_alloc ?_ _)); exact BK302.out) hb)
                            have n3_ := Aside0.mk (blk_below (g := gb306) (o := .cells #[.bool t303, .int .i64 t304] 25 (0, 0)) (by (with_reducible repeat (first | refine blk_drewN ?_ _ | refine blk_drew ?_ | refine blk_alloc ?_ _)); exact BK306.out) hb)
                            have n4_ := Aside0.mk (below_step (by repeat (first | (with_reducible first | exact HB.out | apply below_alloc | apply pw_below_drewN | apply below_drew1 | refine below_set ?_ GE291.out | refine below_set ?_ GE298.out | refine below_set ?_ GE302.out | refine below_set ?_ GE306.out) | exact HB.out)) hb)
                            clear BK291
                            clear BK298
                            clear BK302
                            clear BK306
                            clear HB
                            have BK291 := n0_
                            have BK298 := n1_
                            have BK302 := n2_
                            have BK306 := n3_
                            have HB := n4_
                            clear n0_ n1_ n2_ n3_ n4_
                            (try clear hb)
                            (try clear hb2)
                            (try clear hk)
                            (try clear hi)
                            refine hK.out _ _ ⟨(blk_cell BK302.out 0).trans rfl, (blk_cell BK302.out 1).trans rfl, (blk_cell BK291.out 0).trans rfl, (blk_cell BK291.out 1).trans rfl⟩ (fun hHeld => ?_)
                            clear hK K
                            refine norm_ (a' := ?_) ?_ ?_
                            rotate_left
                            · show Act.put _ (some 113) _ = _
                              simp only [Act.put, List.setIfInBounds_toArray, List.set_cons_zero, List.set_cons_succ, i64_w, i32_w]
                              rfl
                            refine pure_ (i := 18) (N := some 114) (v := ?_) (a' := ?_) #[true, true, true, true, true, true, true, true, true, true, true, true, true, true, true, true, true, true, true, false, false, false] rfl rfl (any_of HT_.out (by kernel_rfl)) (fun _ _ _ h => h) (Or.inl ⟨by rfl, ?_⟩) ?_ ?_
                            rotate_left
                            · intro w'
                              go_simp
                              with_reducible rfl
                            rotate_left
                            · simp only [Act.put, List.setIfInBounds_toArray, List.set_cons_zero, List.set_cons_succ, i64_w, i32_w]
                              rfl
                            refine pure_ (i := 19) (N := some 115) (v := ?_) (a' := ?_) #[true, true, true, true, true, true, true, true, true, true, true, true, true, true, true, true, true, true, true, true, false, false] rfl rfl (any_of HT_.out (by kernel_rfl)) (fun _ _ _ h => h) (Or.inl ⟨by rfl, ?_⟩) ?_ ?_
                            rotate_left
                            · intro w'
                              go_simp
                              with_reducible rfl
                            rotate_left
                            · simp only [Act.put, List.setIfInBounds_toArray, List.set_cons_zero, List.set_cons_succ, i64_w, i32_w]
                              rfl
                            refine pure_ (i := 20) (N := some 116) (v := ?_) (a' := ?_) #[true, true, true, true, true, true, true, true, true, true, true, true, true, true, true, true, true, true, true, true, true, false] rfl rfl (any_of HT_.out (by kernel_rfl)) (fun _ _ _ h => h) (Or.inl ⟨by rfl, ?_⟩) ?_ ?_
                            rotate_left
                            · intro w'
                              go_simp
                              with_reducible rfl
                            rotate_left
                            · simp only [Act.put, List.setIfInBounds_toArray, List.set_cons_zero, List.set_cons_succ, i64_w, i32_w]
                              rfl
                            refine pure_ (i := 21) (N := some 6) (v := ?_) (a' := ?_) #[true, true, true, true, true, true, true, true, true, true, true, true, true, true, true, true, true, true, true, true, true, true] rfl rfl (any_of HT_.out (by kernel_rfl)) (fun _ _ _ h => h) (Or.inl ⟨by rfl, ?_⟩) ?_ ?_
                            rotate_left
                            · intro w'
                              go_simp
                              with_reducible rfl
                            rotate_left
                            · simp only [Act.put, List.setIfInBounds_toArray, List.set_cons_zero, List.set_cons_succ, i64_w, i32_w]
                              rfl
                            refine done_ (done_of HT_.out (by kernel_rfl)) ?_
                            try go_wp2
                            go_ret
                            exact ⟨by first | rfl | (simp [errW_none, errW_some] <;> rfl) | (simp [*, errW_none, errW_some] <;> rfl), by repeat (first | (with_reducible first | exact HB.out | apply below_alloc | apply pw_below_drewN | apply below_drew1 | refine below_set ?_ GE291.out | refine below_set ?_ GE298.out | refine below_set ?_ GE302.out | refine below_set ?_ GE306.out) | exact HB.out)⟩
                        · rw [if_neg c124] at H
                          have c124b0 : (t301 == 0) = false := beq_eq_false_iff_ne.mpr c124
                          have c124b1 : (t301 != 0) = true := bne_iff_ne.mpr c124
                          obtain rfl := Option.some.inj H
                          try go_wp2
                          have n0_ := Aside0.mk (blk_drew BK291.out)
                          have n1_ := Aside0.mk (blk_drew BK298.out)
                          have n2_ := Aside0.mk (blk_drew BK302.out)
                          have n3_ := Aside0.mk (blk_drew BK306.out)
                          have n4_ := Aside0.mk (below_drew1 HB.out)
                          clear BK291
                          clear BK298
                          clear BK302
                          clear BK306
                          clear HB
                          have BK291 := n0_
                          have BK298 := n1_
                          have BK302 := n2_
                          have BK306 := n3_
                          have HB := n4_
                          clear n0_ n1_ n2_ n3_ n4_
                          refine start_ (n := 22) (S := fun w' => True) (ds := []) #[false, false, false, false, false, false, false, false, false, false, false, false, false, false, false, false, false, false, false, false, false, false] (by kernel_rfl) rfl rfl trivial (fun hHeld => ?_); refine with_tabW spillwaylaw2_FixTexts.tab17 spillwaylaw2_FixTexts.bits17 (fun HT_ HW_ => ?_)
                          generalize wc.drew = w133 at BK291 BK298 BK302 BK306 HB hHeld ⊢
                          refine pure_ (i := 0) (N := some 96) (v := ?_) (a' := ?_) #[true, false, false, false, false, false, false, false, false, false, false, false, false, false, false, false, false, false, false, false, false, false] rfl rfl (any_of HT_.out (by kernel_rfl)) (fun _ _ _ h => h) (Or.inl ⟨by rfl, ?_⟩) ?_ ?_
                          rotate_left
                          · intro w'
                            go_simp
                            with_reducible rfl
                          rotate_left
                          · simp only [Act.put, List.setIfInBounds_toArray, List.set_cons_zero, List.set_cons_succ, i64_w, i32_w]
                            rfl
                          refine pure_ (i := 1) (N := some 97) (v := ?_) (a' := ?_) #[true, true, false, false, false, false, false, false, false, false, false, false, false, false, false, false, false, false, false, false, false, false] rfl rfl (any_of HT_.out (by kernel_rfl)) (fun _ _ _ h => h) (Or.inl ⟨by rfl, ?_⟩) ?_ ?_
                          rotate_left
                          · intro w'
                            go_simp
                            with_reducible rfl
                          rotate_left
                          · simp only [Act.put, List.setIfInBounds_toArray, List.set_cons_zero, List.set_cons_succ, i64_w, i32_w]
                            rfl
                          refine pure_ (i := 2) (N := some 98) (v := ?_) (a' := ?_) #[true, true, true, false, false, false, false, false, false, false, false, false, false, false, false, false, false, false, false, false, false, false] rfl rfl (any_of HT_.out (by kernel_rfl)) (fun _ _ _ h => h) (Or.inl ⟨by rfl, ?_⟩) ?_ ?_
                          rotate_left
                          · intro w'
                            go_simp
                            with_reducible rfl
                          rotate_left
                          · simp only [Act.put, List.setIfInBounds_toArray, List.set_cons_zero, List.set_cons_succ, i64_w, i32_w]
                            rfl
                          refine pure_ (i := 3) (N := some 99) (v := undef) (a' := ?_) #[true, true, true, true, false, false, false, false, false, false, false, false, false, false, false, false, false, false, false, false, false, false] rfl rfl (any_of HT_.out (by kernel_rfl)) (fun _ _ _ h => h) (Or.inr ⟨by rfl, rfl⟩) ?_ ?_
                          rotate_left
                          · simp only [Act.put, List.setIfInBounds_toArray, List.set_cons_zero, List.set_cons_succ, i64_w, i32_w]
                            rfl
                          refine pure_ (i := 4) (N := some 100) (v := undef) (a' := ?_) #[true, true, true, true, true, false, false, false, false, false, false, false, false, false, false, false, false, false, false, false, false, false] rfl rfl (any_of HT_.out (by kernel_rfl)) (fun _ _ _ h => h) (Or.inr ⟨by rfl, rfl⟩) ?_ ?_
                          rotate_left
                          · simp only [Act.put, List.setIfInBounds_toArray, List.set_cons_zero, List.set_cons_succ, i64_w, i32_w]
                            rfl
                          refine pure_ (i := 5) (N := some 101) (v := undef) (a' := ?_) #[true, true, true, true, true, true, false, false, false, false, false, false, false, false, false, false, false, false, false, false, false, false] rfl rfl (any_of HT_.out (by kernel_rfl)) (fun _ _ _ h => h) (Or.inr ⟨by rfl, rfl⟩) ?_ ?_
                          rotate_left
                          · simp only [Act.put, List.setIfInBounds_toArray, List.set_cons_zero, List.set_cons_succ, i64_w, i32_w]
                            rfl
                          refine pure_ (i := 6) (N := some 102) (v := undef) (a' := ?_) #[true, true, true, true, true, true, true, false, false, false, false, false, false, false, false, false, false, false, false, false, false, false] rfl rfl (any_of HT_.out (by kernel_rfl)) (fun _ _ _ h => h) (Or.inr ⟨by rfl, rfl⟩) ?_ ?_
                          rotate_left
                          · simp only [Act.put, List.setIfInBounds_toArray, List.set_cons_zero, List.set_cons_succ, i64_w, i32_w]
                            rfl
                          refine pure_ (i := 7) (N := some 103) (v := undef) (a' := ?_) #[true, true, true, true, true, true, true, true, false, false, false, false, false, false, false, false, false, false, false, false, false, false] rfl rfl (any_of HT_.out (by kernel_rfl)) (fun _ _ _ h => h) (Or.inr ⟨by rfl, rfl⟩) ?_ ?_
                          rotate_left
                          · simp only [Act.put, List.setIfInBounds_toArray, List.set_cons_zero, List.set_cons_succ, i64_w, i32_w]
                            rfl
                          refine pure_ (i := 8) (N := some 104) (v := undef) (a' := ?_) #[true, true, true, true, true, true, true, true, true, false, false, false, false, false, false, false, false, false, false, false, false, false] rfl rfl (any_of HT_.out (by kernel_rfl)) (fun _ _ _ h => h) (Or.inr ⟨by rfl, rfl⟩) ?_ ?_
                          rotate_left
                          · simp only [Act.put, List.setIfInBounds_toArray, List.set_cons_zero, List.set_cons_succ, i64_w, i32_w]
                            rfl
                          refine pure_ (i := 9) (N := some 105) (v := ?_) (a' := ?_) #[true, true, true, true, true, true, true, true, true, true, false, false, false, false, false, false, false, false, false, false, false, false] rfl rfl (any_of HT_.out (by kernel_rfl)) (fun _ _ _ h => h) (Or.inl ⟨by rfl, ?_⟩) ?_ ?_
                          rotate_left
                          · intro w'
                            go_simp
                            with_reducible rfl
                          rotate_left
                          · simp only [Act.put, List.setIfInBounds_toArray, List.set_cons_zero, List.set_cons_succ, i64_w, i32_w]
                            rfl
                          refine pure_ (i := 10) (N := some 106) (v := ?_) (a' := ?_) #[true, true, true, true, true, true, true, true, true, true, true, false, false, false, false, false, false, false, false, false, false, false] rfl rfl (any_of HT_.out (by kernel_rfl)) (fun _ _ _ h => h) (Or.inl ⟨by rfl, ?_⟩) ?_ ?_
                          rotate_left
                          · intro w'
                            go_simp
                            with_reducible rfl
                          rotate_left
                          · simp only [Act.put, List.setIfInBounds_toArray, List.set_cons_zero, List.set_cons_succ, i64_w, i32_w]
                            rfl
                          refine pure_ (i := 11) (N := some 107) (v := undef) (a' := ?_) #[true, true, true, true, true, true, true, true, true, true, true, true, false, false, false, false, false, false, false, false, false, false] rfl rfl (any_of HT_.out (by kernel_rfl)) (fun _ _ _ h => h) (Or.inr ⟨by rfl, rfl⟩) ?_ ?_
                          rotate_left
                          · simp only [Act.put, List.setIfInBounds_toArray, List.set_cons_zero, List.set_cons_succ, i64_w, i32_w]
                            rfl
                          refine pure_ (i := 12) (N := some 108) (v := undef) (a' := ?_) #[true, true, true, true, true, true, true, true, true, true, true, true, true, false, false, false, false, false, false, false, false, false] rfl rfl (any_of HT_.out (by kernel_rfl)) (fun _ _ _ h => h) (Or.inr ⟨by rfl, rfl⟩) ?_ ?_
                          rotate_left
                          · simp only [Act.put, List.setIfInBounds_toArray, List.set_cons_zero, List.set_cons_succ, i64_w, i32_w]
                            rfl
                          refine pure_ (i := 13) (N := some 109) (v := undef) (a' := ?_) #[true, true, true, true, true, true, true, true, true, true, true, true, true, true, false, false, false, false, false, false, false, false] rfl rfl (any_of HT_.out (by kernel_rfl)) (fun _ _ _ h => h) (Or.inr ⟨by rfl, rfl⟩) ?_ ?_
                          rotate_left
                          · simp only [Act.put, List.setIfInBounds_toArray, List.set_cons_zero, List.set_cons_succ, i64_w, i32_w]
                            rfl
                          refine pure_ (i := 14) (N := some 110) (v := undef) (a' := ?_) #[true, true, true, true, true, true, true, true, true, true, true, true, true, true, true, false, false, false, false, false, false, false] rfl rfl (any_of HT_.out (by kernel_rfl)) (fun _ _ _ h => h) (Or.inr ⟨by rfl, rfl⟩) ?_ ?_
                          rotate_left
                          · simp only [Act.put, List.setIfInBounds_toArray, List.set_cons_zero, List.set_cons_succ, i64_w, i32_w]
                            rfl
                          refine pure_ (i := 15) (N := some 111) (v := undef) (a' := ?_) #[true, true, true, true, true, true, true, true, true, true, true, true, true, true, true, true, false, false, false, false, false, false] rfl rfl (any_of HT_.out (by kernel_rfl)) (fun _ _ _ h => h) (Or.inr ⟨by rfl, rfl⟩) ?_ ?_
                          rotate_left
                          · simp only [Act.put, List.setIfInBounds_toArray, List.set_cons_zero, List.set_cons_succ, i64_w, i32_w]
                            rfl
                          refine pure_ (i := 16) (N := some 112) (v := undef) (a' := ?_) #[true, true, true, true, true, true, true, true, true, true, true, true, true, true, true, true, true, false, false, false, false, false] rfl rfl (any_of HT_.out (by kernel_rfl)) (fun _ _ _ h => h) (Or.inr ⟨by rfl, rfl⟩) ?_ ?_
                          rotate_left
                          · simp only [Act.put, List.setIfInBounds_toArray, List.set_cons_zero, List.set_cons_succ, i64_w, i32_w]
                            rfl
                          refine pure_ (i := 17) (N := some 113) (v := undef) (a' := ?_) #[true, true, true, true, true, true, true, true, true, true, true, true, true, true, true, true, true, true, false, false, false, false] rfl rfl (any_of HT_.out (by kernel_rfl)) (fun _ _ _ h => h) (Or.inr ⟨by rfl, rfl⟩) ?_ ?_
                          rotate_left
                          · simp only [Act.put, List.setIfInBounds_toArray, List.set_cons_zero, List.set_cons_succ, i64_w, i32_w]
                            rfl
                          refine pure_ (i := 18) (N := some 114) (v := undef) (a' := ?_) #[true, true, true, true, true, true, true, true, true, true, true, true, true, true, true, true, true, true, true, false, false, false] rfl rfl (any_of HT_.out (by kernel_rfl)) (fun _ _ _ h => h) (Or.inr ⟨by rfl, rfl⟩) ?_ ?_
                          rotate_left
                          · simp only [Act.put, List.setIfInBounds_toArray, List.set_cons_zero, List.set_cons_succ, i64_w, i32_w]
                            rfl
                          refine pure_ (i := 19) (N := some 115) (v := undef) (a' := ?_) #[true, true, true, true, true, true, true, true, true, true, true, true, true, true, true, true, true, true, true, true, false, false] rfl rfl (any_of HT_.out (by kernel_rfl)) (fun _ _ _ h => h) (Or.inr ⟨by rfl, rfl⟩) ?_ ?_
                          rotate_left
                          · simp only [Act.put, List.setIfInBounds_toArray, List.set_cons_zero, List.set_cons_succ, i64_w, i32_w]
                            rfl
                          refine pure_ (i := 20) (N := some 116) (v := ?_) (a' := ?_) #[true, true, true, true, true, true, true, true, true, true, true, true, true, true, true, true, true, true, true, true, true, false] rfl rfl (any_of HT_.out (by kernel_rfl)) (fun _ _ _ h => h) (Or.inl ⟨by rfl, ?_⟩) ?_ ?_
                          rotate_left
                          · intro w'
                            go_simp
                            with_reducible rfl
                          rotate_left
                          · simp only [Act.put, List.setIfInBounds_toArray, List.set_cons_zero, List.set_cons_succ, i64_w, i32_w]
                            rfl
                          refine pure_ (i := 21) (N := some 6) (v := ?_) (a' := ?_) #[true, true, true, true, true, true, true, true, true, true, true, true, true, true, true, true, true, true, true, true, true, true] rfl rfl (any_of HT_.out (by kernel_rfl)) (fun _ _ _ h => h) (Or.inl ⟨by rfl, ?_⟩) ?_ ?_
                          rotate_left
                          · intro w'
                            go_simp
                            with_reducible rfl
                          rotate_left
                          · simp only [Act.put, List.setIfInBounds_toArray, List.set_cons_zero, List.set_cons_succ, i64_w, i32_w]
                            rfl
                          refine done_ (done_of HT_.out (by kernel_rfl)) ?_
                          try go_wp2
                          go_ret
                          exact ⟨by first | rfl | (simp [errW_none, errW_some] <;> rfl) | (simp [*, errW_none, errW_some] <;> rfl), by repeat (first | (with_reducible first | exact HB.out | apply below_alloc | apply pw_below_drewN | apply below_drew1 | refine below_set ?_ GE291.out | refine below_set ?_ GE298.out | refine below_set ?_ GE302.out | refine below_set ?_ GE306.out) | exact HB.out)⟩
          · rw [if_neg c19] at H
            exact absurd H (by simp)
        · rw [if_neg c17] at H
          exact absurd H (by simp)
  · replace c5 := Bool.eq_false_iff.mpr c5
    subst c5
    have H1 : (some false) = some r := by rw [if_neg (show ¬ (false = true) by decide)] at H; exact H
    clear H
    have H := H1
    clear H1
    exact absurd ((Option.some.inj H).trans HRT.out) (by decide)

/-- THE ONE PURE STATEMENT of spillwaylaw2_FixTexts: yours. -/
def spillwaylaw2_FixTexts.Pure : Prop := ∀ (a0 : Int) (a1 : Int) (a2 : Bool), (Lit.int .u32 a0).wf = true → (Lit.int .u32 a1).wf = true → ∃ k, spillwaylaw2_FixTexts.f k a0 a1 a2 = some true
theorem spillwaylaw2_FixTexts.walk (P : spillwaylaw2_FixTexts.Pure) (a0 : Int) (a1 : Int) (a2 : Bool) (w : World) (w0 : (Lit.int .u32 a0).wf = true) (w1 : (Lit.int .u32 a1).wf = true) (hg_ : LaidW w) :
    Calls Tryd.prog 7 #[.int .u32 a0, .int .u32 a1, .bool a2] w fun e w' => e = .returned (.bool true) ∧ Below w.heap.size w w' := by
  obtain ⟨k, h⟩ := P a0 a1 a2 w0 w1
  refine (spillwaylaw2_FixTexts.calls k a0 a1 a2 true w hg_ h rfl).mono ?_
  rintro e w' ⟨rfl, hd⟩
  exact ⟨rfl, hd⟩

end Go.Proofs.YtjaolddgnijgiaaDoor.Print
