/- A part of the proof of LexTells: what the functions that the law reaches come to. -/
import Derived.Test.YtnjobjogddjelaaGreatDoorC02
import Derived.Test.YtnjobjogddjelaaGreatDoorC04
import Derived.Test.YtnjobjogddjelaaGreatDoorC01
set_option linter.unusedVariables false
set_option linter.unusedSimpArgs false
section
namespace Go.Proofs.YtnjobjogddjelaaGreatDoor.Print
open Go.Sort Go.Shelf
open Go.RowKit Go.Proofs.YtnjobjogddjelaaGreatDoorX Go.Proofs.YtnjobjogddjelaaGreatDoorW.PrintWords Go.Proofs.YtnjobjogddjelaaGreatDoorW.PrintLast Go.Proofs.YtnjobjogddjelaaGreatDoorW.PrintMore
attribute [local go_sem] max2_int min2_int max_two min_two max_three min_three max_four min_four

/-! spillwayref7.token, where a sign stands: by hand. -/
def msk (n i : Nat) : Array Bool := ((List.range n).map fun j => decide (j < i)).toArray
def signF : List ByteArray → ByteArray → Int × Int × ByteArray × Bool × Int × Int × Int
 | [], _ => (0, 0, ⟨#[]⟩, false, 0, 0, 0)
 | t :: ts, s => if t.toList = [] then signF ts s else if t.size ≤ s.size then (if (s.extract 0 t.size).toList = t.toList then (5, 0, t, false, 0, 0, (t.size : Int)) else signF ts s) else signF ts s
def spillwayref7_Signs.f (s : ByteArray) : Option (Int × Int × ByteArray × Bool × Int × Int × Int) := some (signF signT s)
set_option maxHeartbeats 8000000 in
set_option maxRecDepth 100000 in
theorem token_sign (a0 : ByteArray) (r1 : Int) (r2 : Int) (r3 : ByteArray) (r4 : Bool) (r5 : Int) (r6 : Int) (r7 : Int) (w : World) (A4 : Aside0 (spillwayref7_letter.f (bt a0 0) = some false)) (A26 : Aside0 (spillwayref7_digit.f (bt a0 0) = some false))
  (c0 : decide (0 < (a0.size : Int)) = true) (c1 : (bt a0 0 == 34) = false) (h : spillwayref7_Signs.f a0 = some (r1, r2, r3, r4, r5, r6, r7)) :
  Calls Tryz.prog 19 #[.string a0] w fun e w' => e = .returned (.tuple #[.agg #[.int .i64 r1, .int .i64 r2, .string r3, .bool r4, .int .i64 r5, .int .i64 r6], .int .i64 r7]) ∧ Below w.heap.size w w' := by
 have hp : (0 : Int) < (a0.size : Int) := of_decide_eq_true c0
 have q3 : (0 < a0.size) = True := eq_true (by omega)
 have hx3 : ∀ h : 0 < a0.size, ((a0[0]'h).toNat : Int) = bt a0 0 := bt_at a0 0
 have qi3 : (0 < (a0.size : Int)) = True := eq_true hp
 have HS := Aside0.mk (show signF signT a0 = (r1, r2, r3, r4, r5, r6, r7) from Option.some.inj h)
 clear hp h
 go_enter Tryz.func19, Tryz.ntmps19
 go_wp2_with (first
  | ((with_reducible refine gate_dst (N := 2) rfl ?_); refine box_event ?hg (N := 2) ?hd (cs := #[.int .i64 0, .int .i64 0, .string (⟨#[]⟩ : ByteArray), .bool false, .int .i64 0, .int .i64 0]) (t := 36) ?hr ?_; (case hd => rfl); (case hg => rfl); (case hr => first | (go_simp; done) | (go_simp; rfl)); intro gb hg w1 hbox hb; have BK := Aside0.mk hbox; have GE := Aside0.mk (show w.heap.size ≤ gb by omega); have HB := Aside0.mk hb; clear hb hbox hg)
  | ((with_reducible refine gate_callee (f := 29) rfl ?_); refine goesL_ (some 12) rfl rfl Tryz.func29 (by kernel_rfl) rfl #[.int .u8 (bt a0 0)] rfl (by (try simp only [List.map_toArray, List.map_cons, List.map_nil]); first | done | rfl) ?_; (with_reducible refine (spillwayref7_letter.calls (bt a0 0) false _ A4.out).mono ?_); rintro e w' ⟨rfl, ⟨nd, rfl⟩⟩; refine ⟨_, rfl, ?_⟩; have n0_ := Aside0.mk (blk_drewN BK.out nd); have n1_ := Aside0.mk (pw_below_drewN HB.out nd); clear BK HB; have BK := n0_; have HB := n1_; clear n0_ n1_; generalize World.drewN _ nd = w2 at BK HB ⊢)
  | ((with_reducible refine gate_callee (f := 30) rfl ?_); refine goesL_ (some 42) rfl rfl Tryz.func30 (by kernel_rfl) rfl #[.int .u8 (bt a0 0)] rfl (by (try simp only [List.map_toArray, List.map_cons, List.map_nil]); first | done | rfl) ?_; (with_reducible refine (spillwayref7_digit.calls (bt a0 0) false _ A26.out).mono ?_); rintro e w' ⟨rfl, ⟨nd, rfl⟩⟩; refine ⟨_, rfl, ?_⟩; have n0_ := Aside0.mk (blk_drewN BK.out nd); have n1_ := Aside0.mk (pw_below_drewN HB.out nd); clear BK HB; have BK := n0_; have HB := n1_; clear n0_ n1_; generalize World.drewN _ nd = w3 at BK HB ⊢)
  | (go_at_call 17; refine (Signs_calls _).mono ?_; rintro e w4 ⟨rfl, hb⟩; have n0_ := Aside0.mk (blk_below BK.out hb); have n1_ := Aside0.mk (below_step HB.out hb); clear BK HB hb; have BK := n0_; have HB := n1_; clear n0_ n1_)
  | ((with_reducible refine gate_dst (N := 7) rfl ?_); refine box_event ?hg (N := 7) ?hd (cs := SG0) (t := 45) ?hr ?_; (case hd => rfl); (case hg => rfl); (case hr => first | (go_simp; done) | (go_simp; rfl)); intro gs hg w5 hbox hb; have BS := Aside0.mk hbox; have n0_ := Aside0.mk (blk_below BK.out hb); have n1_ := Aside0.mk (below_step HB.out hb); have GS := Aside0.mk (show w.heap.size ≤ gs by rw [hg]; exact below_size HB.out); have NE := Aside0.mk (show gb ≠ gs by rw [hg]; intro e; have := blk_lt BK.out; omega); clear BK HB hb hbox hg; have BK := n0_; have HB := n1_; clear n0_ n1_)
  | ((with_reducible refine gate_ (.store 45 (.tmp 7) (.tmp 63)) rfl ?_); go_loud (refine row_event (x := .tmp 7) (y := .tmp 63) (t := 45) (g := gs) (cells := SG) (old := SG0) (e := 45) rfl rfl rfl rfl rfl BS.out (by kernel_rfl) (by kernel_rfl) (by kernel_rfl) ?_; intro w6 hw6; have n0_ := Aside0.mk (show w6.heap[gs]? = some (.cells SG 45 (0, 0)) by rw [hw6]; exact setRow_heap _ _ _ _ _ _ BS.out); have n1_ := Aside0.mk (show Below w.heap.size w w6 by rw [hw6]; exact below_setRow HB.out GS.out _); have n2_ := Aside0.mk (show w6.heap[gb]? = some (.cells #[.int .i64 0, .int .i64 0, .string (⟨#[]⟩ : ByteArray), .bool false, .int .i64 0, .int .i64 0] 36 (0, 0)) by rw [hw6]; exact (setRow_other _ _ _ _ NE.out).trans BK.out); clear hw6 BS HB BK; have BS := n0_; have HB := n1_; have BK := n2_; clear n0_ n1_ n2_)))
 go_loopg [8] 22 (fun kq v8 w' => ∃ x : Int, v8 = .int .i64 x ∧ Aside0 (0 ≤ x ∧ x.toNat + kq = 22 ∧ signF (signT.drop x.toNat) a0 = (r1, r2, r3, r4, r5, r6, r7)) ∧ Aside0 (w'.heap[gb]? = some (.cells #[.int .i64 0, .int .i64 0, .string (⟨#[]⟩ : ByteArray), .bool false, .int .i64 0, .int .i64 0] 36 (0, 0))) ∧ Aside0 (w'.heap[gs]? = some (.cells SG 45 (0, 0))) ∧ Aside0 (Below w.heap.size w w'))
 case atStart => exact ⟨0, rfl, ⟨by decide, by decide, HS.out⟩, BK, BS, HB⟩
 case round =>
  clear BK BS HB HS
  obtain ⟨x, rfl, HA, BK, BS, HB⟩ := hrel
  obtain ⟨h0, hk, hq⟩ := HA.out
  cases gk with
  | zero =>
   have d0 : decide (x < 22) = false := decide_eq_false (by omega)
   have hx : x.toNat = 22 := by omega
   rw [hx] at hq
   have hq : (0, 0, ⟨#[]⟩, false, 0, 0, 0) = (r1, r2, r3, r4, r5, r6, r7) := hq
   cases hq
   clear HA hk h0 hx
   go_wp2_with (first
    | ((with_reducible refine gate_ (.store 36 (.tmp 2) (.tmp 101)) rfl ?_); refine row_event (x := .tmp 2) (y := .tmp 101) (t := 36) (g := gb) (cells := #[.int .i64 0, .int .i64 0, .string (⟨#[]⟩ : ByteArray), .bool false, .int .i64 0, .int .i64 0]) (old := #[.int .i64 0, .int .i64 0, .string (⟨#[]⟩ : ByteArray), .bool false, .int .i64 0, .int .i64 0]) (e := 36) rfl rfl rfl rfl rfl BK.out (by kernel_rfl) (by kernel_rfl) (by kernel_rfl) ?_; intro w6 hw6; have n1_ := Aside0.mk (show Below w.heap.size w w6 by rw [hw6]; exact below_setRow HB.out GE.out _); have n2_ := Aside0.mk (show w6.heap[gb]? = some (.cells #[.int .i64 0, .int .i64 0, .string (⟨#[]⟩ : ByteArray), .bool false, .int .i64 0, .int .i64 0] 36 (0, 0)) by rw [hw6]; exact setRow_heap _ _ _ _ _ _ BK.out); clear hw6 HB BK; have HB := n1_; have BK := n2_; clear n1_ n2_))
   refine bodyPost_ret (results_ct rfl _ _ gb 36 #[.int .i64 0, .int .i64 0, .string (⟨#[]⟩ : ByteArray), .bool false, .int .i64 0, .int .i64 0] (0, 0) _ rfl BK.out Tryz.underlying36 rfl (by kernel_rfl)) rfl ?_
   exact ⟨rfl, HB.out⟩
  | succ k1 =>
   have d0 : decide (x < 22) = true := decide_eq_true (by omega)
   have hx : x.toNat < signT.length := by show x.toNat < 22; omega
   obtain ⟨t, ht⟩ : ∃ t, signT[x.toNat]? = some t := ⟨_, List.getElem?_eq_getElem hx⟩
   have hdrop : signT.drop x.toNat = t :: signT.drop (x.toNat + 1) := by
    rw [List.drop_eq_getElem_cons hx]
    congr 1
    exact Option.some.inj ((List.getElem?_eq_getElem hx).symm.trans ht)
   rw [hdrop, signF] at hq
   have hcell : ∀ W : World, W.heap[gs]? = some (.cells SG 45 (0, 0)) → W.cell? ⟨gs, x.toNat, none⟩ = some (.string t) := fun W hW => by
    rw [blk_cell hW]
    show (signT.map Value.string).toArray[x.toNat]? = _
    rw [List.getElem?_toArray, List.getElem?_map, ht]
    rfl
   have hc1 : wr.drew.cell? ⟨gs, x.toNat, none⟩ = some (.string t) := hcell _ BS.out
   have hc2 : wr.drew.drew.cell? ⟨gs, x.toNat, none⟩ = some (.string t) := hcell _ BS.out
   have p4 : (0 ≤ x) = True := eq_true h0
   have q4 : (x < 22) = True := eq_true (by omega)
   have hw : wrap64 (x + 1) = x + 1 := by unfold wrap64; omega
   have HK := Aside0.mk (And.intro h0 hk)
   clear HA hk h0 hx ht hdrop hcell
   by_cases e1 : t.toList = []
   ·rw [if_pos e1] at hq
    have f1 : t.toList.isEmpty = true := by rw [e1]; rfl
    have HQ := Aside0.mk hq
    clear hq e1
    go_wp2
    refine start_ (n := 25) (S := fun w' => w'.cell? ⟨gs, x.toNat, none⟩ = some (.string t)) (ds := []) #[false, false, false, false, false, false, false, false, false, false, false, false, false, false, false, false, false, false, false, false, false, false, false, false, false] (by kernel_rfl) rfl rfl (hc1) (fun hHeld => ?_)
    refine pure_ (i := 0) (N := some 68) (v := ?_) (a' := ?_) (msk 25 1) rfl rfl (by kernel_rfl) (fun _ _ _ h => h) (Or.inl ⟨by first | rfl | exact wanted_on rfl rfl rfl (by rfl), ?_⟩) ?_ ?_
    rotate_left
    ·intro w'
     go_simp
     with_reducible rfl
    rotate_left
    ·simp only [Act.put, List.setIfInBounds_toArray, List.set_cons_zero, List.set_cons_succ, i64_w, i32_w]
     rfl
    refine pure_ (i := 1) (N := some 69) (v := ?_) (a' := ?_) (msk 25 2) rfl rfl (by kernel_rfl) (fun _ _ _ h => h) (Or.inl ⟨by first | rfl | exact wanted_on rfl rfl rfl (by rfl), ?_⟩) ?_ ?_
    rotate_left
    ·intro w'
     go_simp
     with_reducible rfl
    rotate_left
    ·simp only [Act.put, List.setIfInBounds_toArray, List.set_cons_zero, List.set_cons_succ, i64_w, i32_w]
     rfl
    refine take_ (i := 2) (N := some 70) (v := ?_) (a' := ?_) (msk 25 3) rfl rfl (by kernel_rfl) (fun _ _ _ h => h) (Or.inl ⟨by first | rfl | exact wanted_on rfl rfl rfl (by rfl), ?_⟩) hHeld ?_ ?_
    rotate_left
    ·intro w' s0
     go_simp
     with_reducible rfl
    rotate_left
    ·simp only [Act.put, List.setIfInBounds_toArray, List.set_cons_zero, List.set_cons_succ, i64_w, i32_w]
     rfl
    refine pure_ (i := 3) (N := some 71) (v := ?_) (a' := ?_) (msk 25 4) rfl rfl (by kernel_rfl) (fun _ _ _ h => h) (Or.inl ⟨by first | rfl | exact wanted_on rfl rfl rfl (by rfl), ?_⟩) ?_ ?_
    rotate_left
    ·intro w'
     go_simp
     (try simp only [f1, Bool.not_true, Bool.not_false])
     with_reducible rfl
    rotate_left
    ·simp only [Act.put, List.setIfInBounds_toArray, List.set_cons_zero, List.set_cons_succ, i64_w, i32_w]
     rfl
    refine pure_ (i := 4) (N := some 72) (v := ?_) (a' := ?_) (msk 25 5) rfl rfl (by kernel_rfl) (fun _ _ _ h => h) (Or.inl ⟨by first | rfl | exact wanted_on rfl rfl rfl (by rfl), ?_⟩) ?_ ?_
    rotate_left
    ·intro w'
     go_simp
     with_reducible rfl
    rotate_left
    ·simp only [Act.put, List.setIfInBounds_toArray, List.set_cons_zero, List.set_cons_succ, i64_w, i32_w]
     rfl
    refine pure_ (i := 5) (N := some 73) (v := undef) (a' := _) (msk 25 6) rfl rfl (by kernel_rfl) (fun _ _ _ h => h) (Or.inr ⟨wanted_off rfl rfl rfl (by rfl), rfl⟩) rfl ?_
    refine norm_ (a' := ?_) ?_ ?_
    rotate_left
    ·show Act.put _ (some 73) _ = _
     simp only [Act.put, List.setIfInBounds_toArray, List.set_cons_zero, List.set_cons_succ, i64_w, i32_w]
     rfl
    refine pure_ (i := 6) (N := some 74) (v := undef) (a' := _) (msk 25 7) rfl rfl (by kernel_rfl) (fun _ _ _ h => h) (Or.inr ⟨wanted_off rfl rfl rfl (by rfl), rfl⟩) rfl ?_
    refine norm_ (a' := ?_) ?_ ?_
    rotate_left
    ·show Act.put _ (some 74) _ = _
     simp only [Act.put, List.setIfInBounds_toArray, List.set_cons_zero, List.set_cons_succ, i64_w, i32_w]
     rfl
    refine pure_ (i := 7) (N := some 75) (v := undef) (a' := _) (msk 25 8) rfl rfl (by kernel_rfl) (fun _ _ _ h => h) (Or.inr ⟨wanted_off rfl rfl rfl (by rfl), rfl⟩) rfl ?_
    refine norm_ (a' := ?_) ?_ ?_
    rotate_left
    ·show Act.put _ (some 75) _ = _
     simp only [Act.put, List.setIfInBounds_toArray, List.set_cons_zero, List.set_cons_succ, i64_w, i32_w]
     rfl
    refine pure_ (i := 8) (N := some 76) (v := undef) (a' := _) (msk 25 9) rfl rfl (by kernel_rfl) (fun _ _ _ h => h) (Or.inr ⟨wanted_off rfl rfl rfl (by rfl), rfl⟩) rfl ?_
    refine norm_ (a' := ?_) ?_ ?_
    rotate_left
    ·show Act.put _ (some 76) _ = _
     simp only [Act.put, List.setIfInBounds_toArray, List.set_cons_zero, List.set_cons_succ, i64_w, i32_w]
     rfl
    refine pure_ (i := 9) (N := some 77) (v := undef) (a' := _) (msk 25 10) rfl rfl (by kernel_rfl) (fun _ _ _ h => h) (Or.inr ⟨wanted_off rfl rfl rfl (by rfl), rfl⟩) rfl ?_
    refine norm_ (a' := ?_) ?_ ?_
    rotate_left
    ·show Act.put _ (some 77) _ = _
     simp only [Act.put, List.setIfInBounds_toArray, List.set_cons_zero, List.set_cons_succ, i64_w, i32_w]
     rfl
    refine pure_ (i := 10) (N := some 78) (v := undef) (a' := _) (msk 25 11) rfl rfl (by kernel_rfl) (fun _ _ _ h => h) (Or.inr ⟨wanted_off rfl rfl rfl (by rfl), rfl⟩) rfl ?_
    refine norm_ (a' := ?_) ?_ ?_
    rotate_left
    ·show Act.put _ (some 78) _ = _
     simp only [Act.put, List.setIfInBounds_toArray, List.set_cons_zero, List.set_cons_succ, i64_w, i32_w]
     rfl
    refine pure_ (i := 11) (N := some 79) (v := undef) (a' := _) (msk 25 12) rfl rfl (by kernel_rfl) (fun _ _ _ h => h) (Or.inr ⟨wanted_off rfl rfl rfl (by rfl), rfl⟩) rfl ?_
    refine norm_ (a' := ?_) ?_ ?_
    rotate_left
    ·show Act.put _ (some 79) _ = _
     simp only [Act.put, List.setIfInBounds_toArray, List.set_cons_zero, List.set_cons_succ, i64_w, i32_w]
     rfl
    refine pure_ (i := 12) (N := some 80) (v := ?_) (a' := ?_) (msk 25 13) rfl rfl (by kernel_rfl) (fun _ _ _ h => h) (Or.inl ⟨by first | rfl | exact wanted_on rfl rfl rfl (by rfl), ?_⟩) ?_ ?_
    rotate_left
    ·intro w'
     go_simp
     with_reducible rfl
    rotate_left
    ·simp only [Act.put, List.setIfInBounds_toArray, List.set_cons_zero, List.set_cons_succ, i64_w, i32_w]
     rfl
    refine pure_ (i := 13) (N := some 81) (v := ?_) (a' := ?_) (msk 25 14) rfl rfl (by kernel_rfl) (fun _ _ _ h => h) (Or.inl ⟨by first | rfl | exact wanted_on rfl rfl rfl (by rfl), ?_⟩) ?_ ?_
    rotate_left
    ·intro w'
     go_simp
     with_reducible rfl
    rotate_left
    ·simp only [Act.put, List.setIfInBounds_toArray, List.set_cons_zero, List.set_cons_succ, i64_w, i32_w]
     rfl
    refine pure_ (i := 14) (N := some 82) (v := undef) (a' := _) (msk 25 15) rfl rfl (by kernel_rfl) (fun _ _ _ h => h) (Or.inr ⟨wanted_off rfl rfl rfl (by rfl), rfl⟩) rfl ?_
    refine norm_ (a' := ?_) ?_ ?_
    rotate_left
    ·show Act.put _ (some 82) _ = _
     simp only [Act.put, List.setIfInBounds_toArray, List.set_cons_zero, List.set_cons_succ, i64_w, i32_w]
     rfl
    refine pure_ (i := 15) (N := some 83) (v := undef) (a' := _) (msk 25 16) rfl rfl (by kernel_rfl) (fun _ _ _ h => h) (Or.inr ⟨wanted_off rfl rfl rfl (by rfl), rfl⟩) rfl ?_
    refine norm_ (a' := ?_) ?_ ?_
    rotate_left
    ·show Act.put _ (some 83) _ = _
     simp only [Act.put, List.setIfInBounds_toArray, List.set_cons_zero, List.set_cons_succ, i64_w, i32_w]
     rfl
    refine pure_ (i := 16) (N := some 84) (v := undef) (a' := _) (msk 25 17) rfl rfl (by kernel_rfl) (fun _ _ _ h => h) (Or.inr ⟨wanted_off rfl rfl rfl (by rfl), rfl⟩) rfl ?_
    refine norm_ (a' := ?_) ?_ ?_
    rotate_left
    ·show Act.put _ (some 84) _ = _
     simp only [Act.put, List.setIfInBounds_toArray, List.set_cons_zero, List.set_cons_succ, i64_w, i32_w]
     rfl
    refine pure_ (i := 17) (N := some 85) (v := undef) (a' := _) (msk 25 18) rfl rfl (by kernel_rfl) (fun _ _ _ h => h) (Or.inr ⟨wanted_off rfl rfl rfl (by rfl), rfl⟩) rfl ?_
    refine norm_ (a' := ?_) ?_ ?_
    rotate_left
    ·show Act.put _ (some 85) _ = _
     simp only [Act.put, List.setIfInBounds_toArray, List.set_cons_zero, List.set_cons_succ, i64_w, i32_w]
     rfl
    refine pure_ (i := 18) (N := some 86) (v := undef) (a' := _) (msk 25 19) rfl rfl (by kernel_rfl) (fun _ _ _ h => h) (Or.inr ⟨wanted_off rfl rfl rfl (by rfl), rfl⟩) rfl ?_
    refine norm_ (a' := ?_) ?_ ?_
    rotate_left
    ·show Act.put _ (some 86) _ = _
     simp only [Act.put, List.setIfInBounds_toArray, List.set_cons_zero, List.set_cons_succ, i64_w, i32_w]
     rfl
    refine pure_ (i := 19) (N := some 87) (v := undef) (a' := _) (msk 25 20) rfl rfl (by kernel_rfl) (fun _ _ _ h => h) (Or.inr ⟨wanted_off rfl rfl rfl (by rfl), rfl⟩) rfl ?_
    refine norm_ (a' := ?_) ?_ ?_
    rotate_left
    ·show Act.put _ (some 87) _ = _
     simp only [Act.put, List.setIfInBounds_toArray, List.set_cons_zero, List.set_cons_succ, i64_w, i32_w]
     rfl
    refine pure_ (i := 20) (N := some 88) (v := undef) (a' := _) (msk 25 21) rfl rfl (by kernel_rfl) (fun _ _ _ h => h) (Or.inr ⟨wanted_off rfl rfl rfl (by rfl), rfl⟩) rfl ?_
    refine norm_ (a' := ?_) ?_ ?_
    rotate_left
    ·show Act.put _ (some 88) _ = _
     simp only [Act.put, List.setIfInBounds_toArray, List.set_cons_zero, List.set_cons_succ, i64_w, i32_w]
     rfl
    refine pure_ (i := 21) (N := some 89) (v := undef) (a' := _) (msk 25 22) rfl rfl (by kernel_rfl) (fun _ _ _ h => h) (Or.inr ⟨wanted_off rfl rfl rfl (by rfl), rfl⟩) rfl ?_
    refine norm_ (a' := ?_) ?_ ?_
    rotate_left
    ·show Act.put _ (some 89) _ = _
     simp only [Act.put, List.setIfInBounds_toArray, List.set_cons_zero, List.set_cons_succ, i64_w, i32_w]
     rfl
    refine pure_ (i := 22) (N := some 90) (v := undef) (a' := _) (msk 25 23) rfl rfl (by kernel_rfl) (fun _ _ _ h => h) (Or.inr ⟨wanted_off rfl rfl rfl (by rfl), rfl⟩) rfl ?_
    refine norm_ (a' := ?_) ?_ ?_
    rotate_left
    ·show Act.put _ (some 90) _ = _
     simp only [Act.put, List.setIfInBounds_toArray, List.set_cons_zero, List.set_cons_succ, i64_w, i32_w]
     rfl
    refine pure_ (i := 23) (N := some 91) (v := undef) (a' := _) (msk 25 24) rfl rfl (by kernel_rfl) (fun _ _ _ h => h) (Or.inr ⟨wanted_off rfl rfl rfl (by rfl), rfl⟩) rfl ?_
    refine norm_ (a' := ?_) ?_ ?_
    rotate_left
    ·show Act.put _ (some 91) _ = _
     simp only [Act.put, List.setIfInBounds_toArray, List.set_cons_zero, List.set_cons_succ, i64_w, i32_w]
     rfl
    refine pure_ (i := 24) (N := some 92) (v := ?_) (a' := ?_) (msk 25 25) rfl rfl (by kernel_rfl) (fun _ _ _ h => h) (Or.inl ⟨by first | rfl | exact wanted_on rfl rfl rfl (by rfl), ?_⟩) ?_ ?_
    rotate_left
    ·intro w'
     go_simp
     with_reducible rfl
    rotate_left
    ·simp only [Act.put, List.setIfInBounds_toArray, List.set_cons_zero, List.set_cons_succ, i64_w, i32_w]
     rfl
    refine done_ (by kernel_rfl) ?_
    clear hHeld
    all_goals
     go_wp2
     go_roundg k1
     case measure => omega
     case rel => exact ⟨x + 1, by rw [hw], ⟨by have := HK.out; omega, by have := HK.out; omega, by rw [show (x + 1).toNat = x.toNat + 1 by have := HK.out; omega]; exact HQ.out⟩, BK, BS, ⟨Below.drew HB.out⟩⟩
   ·rw [if_neg e1] at hq
    have f1 : t.toList.isEmpty = false := by cases e : t.toList with | nil => exact absurd e e1 | cons a b => rfl
    by_cases e2 : t.size ≤ a0.size
    ·rw [if_pos e2] at hq
     have f2 : decide ((t.size : Int) ≤ (a0.size : Int)) = true := decide_eq_true (by omega)
     have f2b : decide (t.size ≤ a0.size) = true := decide_eq_true (by omega)
     have g2 : ((t.size : Int) ≤ (a0.size : Int)) = True := eq_true (by omega)
     have g2b : (t.size ≤ a0.size) = True := eq_true (by omega)
     by_cases e3 : (a0.extract 0 t.size).toList = t.toList
     ·rw [if_pos e3] at hq
      have f3 : ((a0.extract 0 t.size).toList == t.toList) = true := beq_iff_eq.mpr e3
      cases hq
      clear e1 e2 e3
      go_wp2
      refine start_ (n := 25) (S := fun w' => w'.cell? ⟨gs, x.toNat, none⟩ = some (.string r3)) (ds := []) #[false, false, false, false, false, false, false, false, false, false, false, false, false, false, false, false, false, false, false, false, false, false, false, false, false] (by kernel_rfl) rfl rfl (hc1) (fun hHeld => ?_)
      refine pure_ (i := 0) (N := some 68) (v := ?_) (a' := ?_) (msk 25 1) rfl rfl (by kernel_rfl) (fun _ _ _ h => h) (Or.inl ⟨by first | rfl | exact wanted_on rfl rfl rfl (by rfl), ?_⟩) ?_ ?_
      rotate_left
      ·intro w'
       go_simp
       with_reducible rfl
      rotate_left
      ·simp only [Act.put, List.setIfInBounds_toArray, List.set_cons_zero, List.set_cons_succ, i64_w, i32_w]
       rfl
      refine pure_ (i := 1) (N := some 69) (v := ?_) (a' := ?_) (msk 25 2) rfl rfl (by kernel_rfl) (fun _ _ _ h => h) (Or.inl ⟨by first | rfl | exact wanted_on rfl rfl rfl (by rfl), ?_⟩) ?_ ?_
      rotate_left
      ·intro w'
       go_simp
       with_reducible rfl
      rotate_left
      ·simp only [Act.put, List.setIfInBounds_toArray, List.set_cons_zero, List.set_cons_succ, i64_w, i32_w]
       rfl
      refine take_ (i := 2) (N := some 70) (v := ?_) (a' := ?_) (msk 25 3) rfl rfl (by kernel_rfl) (fun _ _ _ h => h) (Or.inl ⟨by first | rfl | exact wanted_on rfl rfl rfl (by rfl), ?_⟩) hHeld ?_ ?_
      rotate_left
      ·intro w' s0
       go_simp
       with_reducible rfl
      rotate_left
      ·simp only [Act.put, List.setIfInBounds_toArray, List.set_cons_zero, List.set_cons_succ, i64_w, i32_w]
       rfl
      refine pure_ (i := 3) (N := some 71) (v := ?_) (a' := ?_) (msk 25 4) rfl rfl (by kernel_rfl) (fun _ _ _ h => h) (Or.inl ⟨by first | rfl | exact wanted_on rfl rfl rfl (by rfl), ?_⟩) ?_ ?_
      rotate_left
      ·intro w'
       go_simp
       (try simp only [f1, Bool.not_true, Bool.not_false])
       with_reducible rfl
      rotate_left
      ·simp only [Act.put, List.setIfInBounds_toArray, List.set_cons_zero, List.set_cons_succ, i64_w, i32_w]
       rfl
      refine pure_ (i := 4) (N := some 72) (v := ?_) (a' := ?_) (msk 25 5) rfl rfl (by kernel_rfl) (fun _ _ _ h => h) (Or.inl ⟨by first | rfl | exact wanted_on rfl rfl rfl (by rfl), ?_⟩) ?_ ?_
      rotate_left
      ·intro w'
       go_simp
       with_reducible rfl
      rotate_left
      ·simp only [Act.put, List.setIfInBounds_toArray, List.set_cons_zero, List.set_cons_succ, i64_w, i32_w]
       rfl
      refine pure_ (i := 5) (N := some 73) (v := ?_) (a' := ?_) (msk 25 6) rfl rfl (by kernel_rfl) (fun _ _ _ h => h) (Or.inl ⟨by first | rfl | exact wanted_on rfl rfl rfl (by rfl), ?_⟩) ?_ ?_
      rotate_left
      ·intro w'
       go_simp
       with_reducible rfl
      rotate_left
      ·simp only [Act.put, List.setIfInBounds_toArray, List.set_cons_zero, List.set_cons_succ, i64_w, i32_w]
       rfl
      refine pure_ (i := 6) (N := some 74) (v := ?_) (a' := ?_) (msk 25 7) rfl rfl (by kernel_rfl) (fun _ _ _ h => h) (Or.inl ⟨by first | rfl | exact wanted_on rfl rfl rfl (by rfl), ?_⟩) ?_ ?_
      rotate_left
      ·intro w'
       go_simp
       with_reducible rfl
      rotate_left
      ·simp only [Act.put, List.setIfInBounds_toArray, List.set_cons_zero, List.set_cons_succ, i64_w, i32_w]
       rfl
      refine pure_ (i := 7) (N := some 75) (v := ?_) (a' := ?_) (msk 25 8) rfl rfl (by kernel_rfl) (fun _ _ _ h => h) (Or.inl ⟨by first | rfl | exact wanted_on rfl rfl rfl (by rfl), ?_⟩) ?_ ?_
      rotate_left
      ·intro w'
       go_simp
       with_reducible rfl
      rotate_left
      ·simp only [Act.put, List.setIfInBounds_toArray, List.set_cons_zero, List.set_cons_succ, i64_w, i32_w]
       rfl
      refine pure_ (i := 8) (N := some 76) (v := ?_) (a' := ?_) (msk 25 9) rfl rfl (by kernel_rfl) (fun _ _ _ h => h) (Or.inl ⟨by first | rfl | exact wanted_on rfl rfl rfl (by rfl), ?_⟩) ?_ ?_
      rotate_left
      ·intro w'
       go_simp
       with_reducible rfl
      rotate_left
      ·simp only [Act.put, List.setIfInBounds_toArray, List.set_cons_zero, List.set_cons_succ, i64_w, i32_w]
       rfl
      refine take_ (i := 9) (N := some 77) (v := ?_) (a' := ?_) (msk 25 10) rfl rfl (by kernel_rfl) (fun _ _ _ h => h) (Or.inl ⟨by first | rfl | exact wanted_on rfl rfl rfl (by rfl), ?_⟩) hHeld ?_ ?_
      rotate_left
      ·intro w' s0
       go_simp
       with_reducible rfl
      rotate_left
      ·simp only [Act.put, List.setIfInBounds_toArray, List.set_cons_zero, List.set_cons_succ, i64_w, i32_w]
       rfl
      refine pure_ (i := 10) (N := some 78) (v := ?_) (a' := ?_) (msk 25 11) rfl rfl (by kernel_rfl) (fun _ _ _ h => h) (Or.inl ⟨by first | rfl | exact wanted_on rfl rfl rfl (by rfl), ?_⟩) ?_ ?_
      rotate_left
      ·intro w'
       go_simp
       with_reducible rfl
      rotate_left
      ·simp only [Act.put, List.setIfInBounds_toArray, List.set_cons_zero, List.set_cons_succ, i64_w, i32_w]
       rfl
      refine pure_ (i := 11) (N := some 79) (v := ?_) (a' := ?_) (msk 25 12) rfl rfl (by kernel_rfl) (fun _ _ _ h => h) (Or.inl ⟨by first | rfl | exact wanted_on rfl rfl rfl (by rfl), ?_⟩) ?_ ?_
      rotate_left
      ·intro w'
       go_simp
       (try simp only [f2b])
       with_reducible rfl
      rotate_left
      ·simp only [Act.put, List.setIfInBounds_toArray, List.set_cons_zero, List.set_cons_succ, i64_w, i32_w]
       rfl
      refine pure_ (i := 12) (N := some 80) (v := ?_) (a' := ?_) (msk 25 13) rfl rfl (by kernel_rfl) (fun _ _ _ h => h) (Or.inl ⟨by first | rfl | exact wanted_on rfl rfl rfl (by rfl), ?_⟩) ?_ ?_
      rotate_left
      ·intro w'
       go_simp
       with_reducible rfl
      rotate_left
      ·simp only [Act.put, List.setIfInBounds_toArray, List.set_cons_zero, List.set_cons_succ, i64_w, i32_w]
       rfl
      refine pure_ (i := 13) (N := some 81) (v := ?_) (a' := ?_) (msk 25 14) rfl rfl (by kernel_rfl) (fun _ _ _ h => h) (Or.inl ⟨by first | rfl | exact wanted_on rfl rfl rfl (by rfl), ?_⟩) ?_ ?_
      rotate_left
      ·intro w'
       go_simp
       with_reducible rfl
      rotate_left
      ·simp only [Act.put, List.setIfInBounds_toArray, List.set_cons_zero, List.set_cons_succ, i64_w, i32_w]
       rfl
      refine pure_ (i := 14) (N := some 82) (v := ?_) (a' := ?_) (msk 25 15) rfl rfl (by kernel_rfl) (fun _ _ _ h => h) (Or.inl ⟨by first | rfl | exact wanted_on rfl rfl rfl (by rfl), ?_⟩) ?_ ?_
      rotate_left
      ·intro w'
       go_simp
       with_reducible rfl
      rotate_left
      ·simp only [Act.put, List.setIfInBounds_toArray, List.set_cons_zero, List.set_cons_succ, i64_w, i32_w]
       rfl
      refine pure_ (i := 15) (N := some 83) (v := ?_) (a' := ?_) (msk 25 16) rfl rfl (by kernel_rfl) (fun _ _ _ h => h) (Or.inl ⟨by first | rfl | exact wanted_on rfl rfl rfl (by rfl), ?_⟩) ?_ ?_
      rotate_left
      ·intro w'
       go_simp
       with_reducible rfl
      rotate_left
      ·simp only [Act.put, List.setIfInBounds_toArray, List.set_cons_zero, List.set_cons_succ, i64_w, i32_w]
       rfl
      refine pure_ (i := 16) (N := some 84) (v := ?_) (a' := ?_) (msk 25 17) rfl rfl (by kernel_rfl) (fun _ _ _ h => h) (Or.inl ⟨by first | rfl | exact wanted_on rfl rfl rfl (by rfl), ?_⟩) ?_ ?_
      rotate_left
      ·intro w'
       go_simp
       with_reducible rfl
      rotate_left
      ·simp only [Act.put, List.setIfInBounds_toArray, List.set_cons_zero, List.set_cons_succ, i64_w, i32_w]
       rfl
      refine take_ (i := 17) (N := some 85) (v := ?_) (a' := ?_) (msk 25 18) rfl rfl (by kernel_rfl) (fun _ _ _ h => h) (Or.inl ⟨by first | rfl | exact wanted_on rfl rfl rfl (by rfl), ?_⟩) hHeld ?_ ?_
      rotate_left
      ·intro w' s0
       go_simp
       with_reducible rfl
      rotate_left
      ·simp only [Act.put, List.setIfInBounds_toArray, List.set_cons_zero, List.set_cons_succ, i64_w, i32_w]
       rfl
      refine pure_ (i := 18) (N := some 86) (v := ?_) (a' := ?_) (msk 25 19) rfl rfl (by kernel_rfl) (fun _ _ _ h => h) (Or.inl ⟨by first | rfl | exact wanted_on rfl rfl rfl (by rfl), ?_⟩) ?_ ?_
      rotate_left
      ·intro w'
       go_simp
       with_reducible rfl
      rotate_left
      ·simp only [Act.put, List.setIfInBounds_toArray, List.set_cons_zero, List.set_cons_succ, i64_w, i32_w]
       rfl
      refine pure_ (i := 19) (N := some 87) (v := ?_) (a' := ?_) (msk 25 20) rfl rfl (by kernel_rfl) (fun _ _ _ h => h) (Or.inl ⟨by first | rfl | exact wanted_on rfl rfl rfl (by rfl), ?_⟩) ?_ ?_
      rotate_left
      ·intro w'
       go_simp
       with_reducible rfl
      rotate_left
      ·simp only [Act.put, List.setIfInBounds_toArray, List.set_cons_zero, List.set_cons_succ, i64_w, i32_w]
       rfl
      refine pure_ (i := 20) (N := some 88) (v := ?_) (a' := ?_) (msk 25 21) rfl rfl (by kernel_rfl) (fun _ _ _ h => h) (Or.inl ⟨by first | rfl | exact wanted_on rfl rfl rfl (by rfl), ?_⟩) ?_ ?_
      rotate_left
      ·intro w'
       go_simp
       with_reducible rfl
      rotate_left
      ·simp only [Act.put, List.setIfInBounds_toArray, List.set_cons_zero, List.set_cons_succ, i64_w, i32_w]
       rfl
      refine pure_ (i := 21) (N := some 89) (v := ?_) (a' := ?_) (msk 25 22) rfl rfl (by kernel_rfl) (fun _ _ _ h => h) (Or.inl ⟨by first | rfl | exact wanted_on rfl rfl rfl (by rfl), ?_⟩) ?_ ?_
      rotate_left
      ·intro w'
       go_simp
       with_reducible rfl
      rotate_left
      ·simp only [Act.put, List.setIfInBounds_toArray, List.set_cons_zero, List.set_cons_succ, i64_w, i32_w]
       rfl
      refine take_ (i := 22) (N := some 90) (v := ?_) (a' := ?_) (msk 25 23) rfl rfl (by kernel_rfl) (fun _ _ _ h => h) (Or.inl ⟨by first | rfl | exact wanted_on rfl rfl rfl (by rfl), ?_⟩) hHeld ?_ ?_
      rotate_left
      ·intro w' s0
       go_simp
       with_reducible rfl
      rotate_left
      ·simp only [Act.put, List.setIfInBounds_toArray, List.set_cons_zero, List.set_cons_succ, i64_w, i32_w]
       rfl
      refine pure_ (i := 23) (N := some 91) (v := ?_) (a' := ?_) (msk 25 24) rfl rfl (by kernel_rfl) (fun _ _ _ h => h) (Or.inl ⟨by first | rfl | exact wanted_on rfl rfl rfl (by rfl), ?_⟩) ?_ ?_
      rotate_left
      ·intro w'
       go_simp
       (try simp only [f3])
       with_reducible rfl
      rotate_left
      ·simp only [Act.put, List.setIfInBounds_toArray, List.set_cons_zero, List.set_cons_succ, i64_w, i32_w]
       rfl
      refine pure_ (i := 24) (N := some 92) (v := ?_) (a' := ?_) (msk 25 25) rfl rfl (by kernel_rfl) (fun _ _ _ h => h) (Or.inl ⟨by first | rfl | exact wanted_on rfl rfl rfl (by rfl), ?_⟩) ?_ ?_
      rotate_left
      ·intro w'
       go_simp
       with_reducible rfl
      rotate_left
      ·simp only [Act.put, List.setIfInBounds_toArray, List.set_cons_zero, List.set_cons_succ, i64_w, i32_w]
       rfl
      refine done_ (by kernel_rfl) ?_
      clear hHeld
      go_wp2
      refine start_ (n := 10) (S := fun w' => w'.cell? ⟨gs, x.toNat, none⟩ = some (.string r3)) (ds := []) #[false, false, false, false, false, false, false, false, false, false] (by kernel_rfl) rfl rfl (hc2) (fun hHeld => ?_)
      refine pure_ (i := 0) (N := some 93) (v := ?_) (a' := ?_) (msk 10 1) rfl rfl (by kernel_rfl) (fun _ _ _ h => h) (Or.inl ⟨by first | rfl | exact wanted_on rfl rfl rfl (by rfl), ?_⟩) ?_ ?_
      rotate_left
      ·intro w'
       go_simp
       with_reducible rfl
      rotate_left
      ·simp only [Act.put, List.setIfInBounds_toArray, List.set_cons_zero, List.set_cons_succ, i64_w, i32_w]
       rfl
      refine pure_ (i := 1) (N := some 94) (v := ?_) (a' := ?_) (msk 10 2) rfl rfl (by kernel_rfl) (fun _ _ _ h => h) (Or.inl ⟨by first | rfl | exact wanted_on rfl rfl rfl (by rfl), ?_⟩) ?_ ?_
      rotate_left
      ·intro w'
       go_simp
       with_reducible rfl
      rotate_left
      ·simp only [Act.put, List.setIfInBounds_toArray, List.set_cons_zero, List.set_cons_succ, i64_w, i32_w]
       rfl
      refine take_ (i := 2) (N := some 95) (v := ?_) (a' := ?_) (msk 10 3) rfl rfl (by kernel_rfl) (fun _ _ _ h => h) (Or.inl ⟨by first | rfl | exact wanted_on rfl rfl rfl (by rfl), ?_⟩) hHeld ?_ ?_
      rotate_left
      ·intro w' s0
       go_simp
       with_reducible rfl
      rotate_left
      ·simp only [Act.put, List.setIfInBounds_toArray, List.set_cons_zero, List.set_cons_succ, i64_w, i32_w]
       rfl
      refine pure_ (i := 3) (N := some 96) (v := ?_) (a' := ?_) (msk 10 4) rfl rfl (by kernel_rfl) (fun _ _ _ h => h) (Or.inl ⟨by first | rfl | exact wanted_on rfl rfl rfl (by rfl), ?_⟩) ?_ ?_
      rotate_left
      ·intro w'
       go_simp
       with_reducible rfl
      rotate_left
      ·simp only [Act.put, List.setIfInBounds_toArray, List.set_cons_zero, List.set_cons_succ, i64_w, i32_w]
       rfl
      refine pure_ (i := 4) (N := some 97) (v := ?_) (a' := ?_) (msk 10 5) rfl rfl (by kernel_rfl) (fun _ _ _ h => h) (Or.inl ⟨by first | rfl | exact wanted_on rfl rfl rfl (by rfl), ?_⟩) ?_ ?_
      rotate_left
      ·intro w'
       go_simp
       with_reducible rfl
      rotate_left
      ·simp only [Act.put, List.setIfInBounds_toArray, List.set_cons_zero, List.set_cons_succ, i64_w, i32_w]
       rfl
      refine pure_ (i := 5) (N := some 98) (v := ?_) (a' := ?_) (msk 10 6) rfl rfl (by kernel_rfl) (fun _ _ _ h => h) (Or.inl ⟨by first | rfl | exact wanted_on rfl rfl rfl (by rfl), ?_⟩) ?_ ?_
      rotate_left
      ·intro w'
       go_simp
       with_reducible rfl
      rotate_left
      ·simp only [Act.put, List.setIfInBounds_toArray, List.set_cons_zero, List.set_cons_succ, i64_w, i32_w]
       rfl
      refine take_ (i := 6) (N := some 99) (v := ?_) (a' := ?_) (msk 10 7) rfl rfl (by kernel_rfl) (fun _ _ _ h => h) (Or.inl ⟨by first | rfl | exact wanted_on rfl rfl rfl (by rfl), ?_⟩) hHeld ?_ ?_
      rotate_left
      ·intro w' s0
       go_simp
       with_reducible rfl
      rotate_left
      ·simp only [Act.put, List.setIfInBounds_toArray, List.set_cons_zero, List.set_cons_succ, i64_w, i32_w]
       rfl
      refine pure_ (i := 7) (N := some 100) (v := ?_) (a' := ?_) (msk 10 8) rfl rfl (by kernel_rfl) (fun _ _ _ h => h) (Or.inl ⟨by first | rfl | exact wanted_on rfl rfl rfl (by rfl), ?_⟩) ?_ ?_
      rotate_left
      ·intro w'
       go_simp
       with_reducible rfl
      rotate_left
      ·simp only [Act.put, List.setIfInBounds_toArray, List.set_cons_zero, List.set_cons_succ, i64_w, i32_w]
       rfl
      refine one_ (i := 8) (N := none) (msk 10 9) rfl rfl (by kernel_rfl) (by decide) (fun Kz hKz => ?_)
      rw [if_pos (by rfl)]
      refine wp_store_row 36 (.tmp 2) (.tmp 96) rfl gb #[.int .i64 5, .int .i64 0, .string r3, .bool false, .int .i64 0, .int .i64 0] rfl rfl 36 #[.int .i64 0, .int .i64 0, .string (⟨#[]⟩ : ByteArray), .bool false, .int .i64 0, .int .i64 0] BK.out (by kernel_rfl) rfl (by first | kernel_rfl | (simp; done) | (simp [Value.oneCell']; done)) ?_
      obtain ⟨wz, hwz⟩ : ∃ z, z = wr.drew.drew.setRow gb #[.int .i64 5, .int .i64 0, .string r3, .bool false, .int .i64 0, .int .i64 0] := ⟨_, rfl⟩
      rw [← hwz]
      have BZ := Aside0.mk (show wz.heap[gb]? = some (.cells #[.int .i64 5, .int .i64 0, .string r3, .bool false, .int .i64 0, .int .i64 0] 36 (0, 0)) by rw [hwz]; exact setRow_heap _ _ #[.int .i64 0, .int .i64 0, .string (⟨#[]⟩ : ByteArray), .bool false, .int .i64 0, .int .i64 0] _ _ _ BK.out)
      have HZ := Aside0.mk (show Below w.heap.size w wz by rw [hwz]; exact below_setRow (Below.drew (Below.drew HB.out)) GE.out _)
      have SZ := Aside0.mk (show wz.heap[gs]? = some (.cells SG 45 (0, 0)) by rw [hwz]; exact (setRow_other _ _ _ _ (Ne.symm NE.out)).trans BS.out)
      have hcz : wz.cell? ⟨gs, x.toNat, none⟩ = some (.string r3) := by rw [blk_cell SZ.out, ← blk_cell BS.out]; exact hc1
      clear hwz
      refine hKz.out _ _ hcz (fun hHeld => ?_)
      refine pure_ (i := 9) (N := some 3) (v := ?_) (a' := ?_) (msk 10 10) rfl rfl (by kernel_rfl) (fun _ _ _ h => h) (Or.inl ⟨by first | rfl | exact wanted_on rfl rfl rfl (by rfl), ?_⟩) ?_ ?_
      rotate_left
      ·intro w'
       go_simp
       with_reducible rfl
      rotate_left
      ·simp only [Act.put, List.setIfInBounds_toArray, List.set_cons_zero, List.set_cons_succ, i64_w, i32_w]
       rfl
      refine done_ (by kernel_rfl) ?_
      clear hHeld
      go_wp2
      refine bodyPost_ret (results_ct rfl _ _ gb 36 #[.int .i64 5, .int .i64 0, .string r3, .bool false, .int .i64 0, .int .i64 0] (0, 0) _ rfl BZ.out Tryz.underlying36 rfl (by kernel_rfl)) rfl ?_
      exact ⟨rfl, HZ.out⟩
     ·rw [if_neg e3] at hq
      have f3 : ((a0.extract 0 t.size).toList == t.toList) = false := beq_eq_false_iff_ne.mpr e3
      have HQ := Aside0.mk hq
      clear hq e1 e2 e3
      go_wp2
      refine start_ (n := 25) (S := fun w' => w'.cell? ⟨gs, x.toNat, none⟩ = some (.string t)) (ds := []) #[false, false, false, false, false, false, false, false, false, false, false, false, false, false, false, false, false, false, false, false, false, false, false, false, false] (by kernel_rfl) rfl rfl (hc1) (fun hHeld => ?_)
      refine pure_ (i := 0) (N := some 68) (v := ?_) (a' := ?_) (msk 25 1) rfl rfl (by kernel_rfl) (fun _ _ _ h => h) (Or.inl ⟨by first | rfl | exact wanted_on rfl rfl rfl (by rfl), ?_⟩) ?_ ?_
      rotate_left
      ·intro w'
       go_simp
       with_reducible rfl
      rotate_left
      ·simp only [Act.put, List.setIfInBounds_toArray, List.set_cons_zero, List.set_cons_succ, i64_w, i32_w]
       rfl
      refine pure_ (i := 1) (N := some 69) (v := ?_) (a' := ?_) (msk 25 2) rfl rfl (by kernel_rfl) (fun _ _ _ h => h) (Or.inl ⟨by first | rfl | exact wanted_on rfl rfl rfl (by rfl), ?_⟩) ?_ ?_
      rotate_left
      ·intro w'
       go_simp
       with_reducible rfl
      rotate_left
      ·simp only [Act.put, List.setIfInBounds_toArray, List.set_cons_zero, List.set_cons_succ, i64_w, i32_w]
       rfl
      refine take_ (i := 2) (N := some 70) (v := ?_) (a' := ?_) (msk 25 3) rfl rfl (by kernel_rfl) (fun _ _ _ h => h) (Or.inl ⟨by first | rfl | exact wanted_on rfl rfl rfl (by rfl), ?_⟩) hHeld ?_ ?_
      rotate_left
      ·intro w' s0
       go_simp
       with_reducible rfl
      rotate_left
      ·simp only [Act.put, List.setIfInBounds_toArray, List.set_cons_zero, List.set_cons_succ, i64_w, i32_w]
       rfl
      refine pure_ (i := 3) (N := some 71) (v := ?_) (a' := ?_) (msk 25 4) rfl rfl (by kernel_rfl) (fun _ _ _ h => h) (Or.inl ⟨by first | rfl | exact wanted_on rfl rfl rfl (by rfl), ?_⟩) ?_ ?_
      rotate_left
      ·intro w'
       go_simp
       (try simp only [f1, Bool.not_true, Bool.not_false])
       with_reducible rfl
      rotate_left
      ·simp only [Act.put, List.setIfInBounds_toArray, List.set_cons_zero, List.set_cons_succ, i64_w, i32_w]
       rfl
      refine pure_ (i := 4) (N := some 72) (v := ?_) (a' := ?_) (msk 25 5) rfl rfl (by kernel_rfl) (fun _ _ _ h => h) (Or.inl ⟨by first | rfl | exact wanted_on rfl rfl rfl (by rfl), ?_⟩) ?_ ?_
      rotate_left
      ·intro w'
       go_simp
       with_reducible rfl
      rotate_left
      ·simp only [Act.put, List.setIfInBounds_toArray, List.set_cons_zero, List.set_cons_succ, i64_w, i32_w]
       rfl
      refine pure_ (i := 5) (N := some 73) (v := ?_) (a' := ?_) (msk 25 6) rfl rfl (by kernel_rfl) (fun _ _ _ h => h) (Or.inl ⟨by first | rfl | exact wanted_on rfl rfl rfl (by rfl), ?_⟩) ?_ ?_
      rotate_left
      ·intro w'
       go_simp
       with_reducible rfl
      rotate_left
      ·simp only [Act.put, List.setIfInBounds_toArray, List.set_cons_zero, List.set_cons_succ, i64_w, i32_w]
       rfl
      refine pure_ (i := 6) (N := some 74) (v := ?_) (a' := ?_) (msk 25 7) rfl rfl (by kernel_rfl) (fun _ _ _ h => h) (Or.inl ⟨by first | rfl | exact wanted_on rfl rfl rfl (by rfl), ?_⟩) ?_ ?_
      rotate_left
      ·intro w'
       go_simp
       with_reducible rfl
      rotate_left
      ·simp only [Act.put, List.setIfInBounds_toArray, List.set_cons_zero, List.set_cons_succ, i64_w, i32_w]
       rfl
      refine pure_ (i := 7) (N := some 75) (v := ?_) (a' := ?_) (msk 25 8) rfl rfl (by kernel_rfl) (fun _ _ _ h => h) (Or.inl ⟨by first | rfl | exact wanted_on rfl rfl rfl (by rfl), ?_⟩) ?_ ?_
      rotate_left
      ·intro w'
       go_simp
       with_reducible rfl
      rotate_left
      ·simp only [Act.put, List.setIfInBounds_toArray, List.set_cons_zero, List.set_cons_succ, i64_w, i32_w]
       rfl
      refine pure_ (i := 8) (N := some 76) (v := ?_) (a' := ?_) (msk 25 9) rfl rfl (by kernel_rfl) (fun _ _ _ h => h) (Or.inl ⟨by first | rfl | exact wanted_on rfl rfl rfl (by rfl), ?_⟩) ?_ ?_
      rotate_left
      ·intro w'
       go_simp
       with_reducible rfl
      rotate_left
      ·simp only [Act.put, List.setIfInBounds_toArray, List.set_cons_zero, List.set_cons_succ, i64_w, i32_w]
       rfl
      refine take_ (i := 9) (N := some 77) (v := ?_) (a' := ?_) (msk 25 10) rfl rfl (by kernel_rfl) (fun _ _ _ h => h) (Or.inl ⟨by first | rfl | exact wanted_on rfl rfl rfl (by rfl), ?_⟩) hHeld ?_ ?_
      rotate_left
      ·intro w' s0
       go_simp
       with_reducible rfl
      rotate_left
      ·simp only [Act.put, List.setIfInBounds_toArray, List.set_cons_zero, List.set_cons_succ, i64_w, i32_w]
       rfl
      refine pure_ (i := 10) (N := some 78) (v := ?_) (a' := ?_) (msk 25 11) rfl rfl (by kernel_rfl) (fun _ _ _ h => h) (Or.inl ⟨by first | rfl | exact wanted_on rfl rfl rfl (by rfl), ?_⟩) ?_ ?_
      rotate_left
      ·intro w'
       go_simp
       with_reducible rfl
      rotate_left
      ·simp only [Act.put, List.setIfInBounds_toArray, List.set_cons_zero, List.set_cons_succ, i64_w, i32_w]
       rfl
      refine pure_ (i := 11) (N := some 79) (v := ?_) (a' := ?_) (msk 25 12) rfl rfl (by kernel_rfl) (fun _ _ _ h => h) (Or.inl ⟨by first | rfl | exact wanted_on rfl rfl rfl (by rfl), ?_⟩) ?_ ?_
      rotate_left
      ·intro w'
       go_simp
       (try simp only [f2b])
       with_reducible rfl
      rotate_left
      ·simp only [Act.put, List.setIfInBounds_toArray, List.set_cons_zero, List.set_cons_succ, i64_w, i32_w]
       rfl
      refine pure_ (i := 12) (N := some 80) (v := ?_) (a' := ?_) (msk 25 13) rfl rfl (by kernel_rfl) (fun _ _ _ h => h) (Or.inl ⟨by first | rfl | exact wanted_on rfl rfl rfl (by rfl), ?_⟩) ?_ ?_
      rotate_left
      ·intro w'
       go_simp
       with_reducible rfl
      rotate_left
      ·simp only [Act.put, List.setIfInBounds_toArray, List.set_cons_zero, List.set_cons_succ, i64_w, i32_w]
       rfl
      refine pure_ (i := 13) (N := some 81) (v := ?_) (a' := ?_) (msk 25 14) rfl rfl (by kernel_rfl) (fun _ _ _ h => h) (Or.inl ⟨by first | rfl | exact wanted_on rfl rfl rfl (by rfl), ?_⟩) ?_ ?_
      rotate_left
      ·intro w'
       go_simp
       with_reducible rfl
      rotate_left
      ·simp only [Act.put, List.setIfInBounds_toArray, List.set_cons_zero, List.set_cons_succ, i64_w, i32_w]
       rfl
      refine pure_ (i := 14) (N := some 82) (v := ?_) (a' := ?_) (msk 25 15) rfl rfl (by kernel_rfl) (fun _ _ _ h => h) (Or.inl ⟨by first | rfl | exact wanted_on rfl rfl rfl (by rfl), ?_⟩) ?_ ?_
      rotate_left
      ·intro w'
       go_simp
       with_reducible rfl
      rotate_left
      ·simp only [Act.put, List.setIfInBounds_toArray, List.set_cons_zero, List.set_cons_succ, i64_w, i32_w]
       rfl
      refine pure_ (i := 15) (N := some 83) (v := ?_) (a' := ?_) (msk 25 16) rfl rfl (by kernel_rfl) (fun _ _ _ h => h) (Or.inl ⟨by first | rfl | exact wanted_on rfl rfl rfl (by rfl), ?_⟩) ?_ ?_
      rotate_left
      ·intro w'
       go_simp
       with_reducible rfl
      rotate_left
      ·simp only [Act.put, List.setIfInBounds_toArray, List.set_cons_zero, List.set_cons_succ, i64_w, i32_w]
       rfl
      refine pure_ (i := 16) (N := some 84) (v := ?_) (a' := ?_) (msk 25 17) rfl rfl (by kernel_rfl) (fun _ _ _ h => h) (Or.inl ⟨by first | rfl | exact wanted_on rfl rfl rfl (by rfl), ?_⟩) ?_ ?_
      rotate_left
      ·intro w'
       go_simp
       with_reducible rfl
      rotate_left
      ·simp only [Act.put, List.setIfInBounds_toArray, List.set_cons_zero, List.set_cons_succ, i64_w, i32_w]
       rfl
      refine take_ (i := 17) (N := some 85) (v := ?_) (a' := ?_) (msk 25 18) rfl rfl (by kernel_rfl) (fun _ _ _ h => h) (Or.inl ⟨by first | rfl | exact wanted_on rfl rfl rfl (by rfl), ?_⟩) hHeld ?_ ?_
      rotate_left
      ·intro w' s0
       go_simp
       with_reducible rfl
      rotate_left
      ·simp only [Act.put, List.setIfInBounds_toArray, List.set_cons_zero, List.set_cons_succ, i64_w, i32_w]
       rfl
      refine pure_ (i := 18) (N := some 86) (v := ?_) (a' := ?_) (msk 25 19) rfl rfl (by kernel_rfl) (fun _ _ _ h => h) (Or.inl ⟨by first | rfl | exact wanted_on rfl rfl rfl (by rfl), ?_⟩) ?_ ?_
      rotate_left
      ·intro w'
       go_simp
       with_reducible rfl
      rotate_left
      ·simp only [Act.put, List.setIfInBounds_toArray, List.set_cons_zero, List.set_cons_succ, i64_w, i32_w]
       rfl
      refine pure_ (i := 19) (N := some 87) (v := ?_) (a' := ?_) (msk 25 20) rfl rfl (by kernel_rfl) (fun _ _ _ h => h) (Or.inl ⟨by first | rfl | exact wanted_on rfl rfl rfl (by rfl), ?_⟩) ?_ ?_
      rotate_left
      ·intro w'
       go_simp
       with_reducible rfl
      rotate_left
      ·simp only [Act.put, List.setIfInBounds_toArray, List.set_cons_zero, List.set_cons_succ, i64_w, i32_w]
       rfl
      refine pure_ (i := 20) (N := some 88) (v := ?_) (a' := ?_) (msk 25 21) rfl rfl (by kernel_rfl) (fun _ _ _ h => h) (Or.inl ⟨by first | rfl | exact wanted_on rfl rfl rfl (by rfl), ?_⟩) ?_ ?_
      rotate_left
      ·intro w'
       go_simp
       with_reducible rfl
      rotate_left
      ·simp only [Act.put, List.setIfInBounds_toArray, List.set_cons_zero, List.set_cons_succ, i64_w, i32_w]
       rfl
      refine pure_ (i := 21) (N := some 89) (v := ?_) (a' := ?_) (msk 25 22) rfl rfl (by kernel_rfl) (fun _ _ _ h => h) (Or.inl ⟨by first | rfl | exact wanted_on rfl rfl rfl (by rfl), ?_⟩) ?_ ?_
      rotate_left
      ·intro w'
       go_simp
       with_reducible rfl
      rotate_left
      ·simp only [Act.put, List.setIfInBounds_toArray, List.set_cons_zero, List.set_cons_succ, i64_w, i32_w]
       rfl
      refine take_ (i := 22) (N := some 90) (v := ?_) (a' := ?_) (msk 25 23) rfl rfl (by kernel_rfl) (fun _ _ _ h => h) (Or.inl ⟨by first | rfl | exact wanted_on rfl rfl rfl (by rfl), ?_⟩) hHeld ?_ ?_
      rotate_left
      ·intro w' s0
       go_simp
       with_reducible rfl
      rotate_left
      ·simp only [Act.put, List.setIfInBounds_toArray, List.set_cons_zero, List.set_cons_succ, i64_w, i32_w]
       rfl
      refine pure_ (i := 23) (N := some 91) (v := ?_) (a' := ?_) (msk 25 24) rfl rfl (by kernel_rfl) (fun _ _ _ h => h) (Or.inl ⟨by first | rfl | exact wanted_on rfl rfl rfl (by rfl), ?_⟩) ?_ ?_
      rotate_left
      ·intro w'
       go_simp
       (try simp only [f3])
       with_reducible rfl
      rotate_left
      ·simp only [Act.put, List.setIfInBounds_toArray, List.set_cons_zero, List.set_cons_succ, i64_w, i32_w]
       rfl
      refine pure_ (i := 24) (N := some 92) (v := ?_) (a' := ?_) (msk 25 25) rfl rfl (by kernel_rfl) (fun _ _ _ h => h) (Or.inl ⟨by first | rfl | exact wanted_on rfl rfl rfl (by rfl), ?_⟩) ?_ ?_
      rotate_left
      ·intro w'
       go_simp
       with_reducible rfl
      rotate_left
      ·simp only [Act.put, List.setIfInBounds_toArray, List.set_cons_zero, List.set_cons_succ, i64_w, i32_w]
       rfl
      refine done_ (by kernel_rfl) ?_
      clear hHeld
      all_goals
       go_wp2
       go_roundg k1
       case measure => omega
       case rel => exact ⟨x + 1, by rw [hw], ⟨by have := HK.out; omega, by have := HK.out; omega, by rw [show (x + 1).toNat = x.toNat + 1 by have := HK.out; omega]; exact HQ.out⟩, BK, BS, ⟨Below.drew HB.out⟩⟩
    ·rw [if_neg e2] at hq
     have f2 : decide ((t.size : Int) ≤ (a0.size : Int)) = false := decide_eq_false (by omega)
     have f2b : decide (t.size ≤ a0.size) = false := decide_eq_false (by omega)
     have HQ := Aside0.mk hq
     clear hq e1 e2
     go_wp2
     refine start_ (n := 25) (S := fun w' => w'.cell? ⟨gs, x.toNat, none⟩ = some (.string t)) (ds := []) #[false, false, false, false, false, false, false, false, false, false, false, false, false, false, false, false, false, false, false, false, false, false, false, false, false] (by kernel_rfl) rfl rfl (hc1) (fun hHeld => ?_)
     refine pure_ (i := 0) (N := some 68) (v := ?_) (a' := ?_) (msk 25 1) rfl rfl (by kernel_rfl) (fun _ _ _ h => h) (Or.inl ⟨by first | rfl | exact wanted_on rfl rfl rfl (by rfl), ?_⟩) ?_ ?_
     rotate_left
     ·intro w'
      go_simp
      with_reducible rfl
     rotate_left
     ·simp only [Act.put, List.setIfInBounds_toArray, List.set_cons_zero, List.set_cons_succ, i64_w, i32_w]
      rfl
     refine pure_ (i := 1) (N := some 69) (v := ?_) (a' := ?_) (msk 25 2) rfl rfl (by kernel_rfl) (fun _ _ _ h => h) (Or.inl ⟨by first | rfl | exact wanted_on rfl rfl rfl (by rfl), ?_⟩) ?_ ?_
     rotate_left
     ·intro w'
      go_simp
      with_reducible rfl
     rotate_left
     ·simp only [Act.put, List.setIfInBounds_toArray, List.set_cons_zero, List.set_cons_succ, i64_w, i32_w]
      rfl
     refine take_ (i := 2) (N := some 70) (v := ?_) (a' := ?_) (msk 25 3) rfl rfl (by kernel_rfl) (fun _ _ _ h => h) (Or.inl ⟨by first | rfl | exact wanted_on rfl rfl rfl (by rfl), ?_⟩) hHeld ?_ ?_
     rotate_left
     ·intro w' s0
      go_simp
      with_reducible rfl
     rotate_left
     ·simp only [Act.put, List.setIfInBounds_toArray, List.set_cons_zero, List.set_cons_succ, i64_w, i32_w]
      rfl
     refine pure_ (i := 3) (N := some 71) (v := ?_) (a' := ?_) (msk 25 4) rfl rfl (by kernel_rfl) (fun _ _ _ h => h) (Or.inl ⟨by first | rfl | exact wanted_on rfl rfl rfl (by rfl), ?_⟩) ?_ ?_
     rotate_left
     ·intro w'
      go_simp
      (try simp only [f1, Bool.not_true, Bool.not_false])
      with_reducible rfl
     rotate_left
     ·simp only [Act.put, List.setIfInBounds_toArray, List.set_cons_zero, List.set_cons_succ, i64_w, i32_w]
      rfl
     refine pure_ (i := 4) (N := some 72) (v := ?_) (a' := ?_) (msk 25 5) rfl rfl (by kernel_rfl) (fun _ _ _ h => h) (Or.inl ⟨by first | rfl | exact wanted_on rfl rfl rfl (by rfl), ?_⟩) ?_ ?_
     rotate_left
     ·intro w'
      go_simp
      with_reducible rfl
     rotate_left
     ·simp only [Act.put, List.setIfInBounds_toArray, List.set_cons_zero, List.set_cons_succ, i64_w, i32_w]
      rfl
     refine pure_ (i := 5) (N := some 73) (v := ?_) (a' := ?_) (msk 25 6) rfl rfl (by kernel_rfl) (fun _ _ _ h => h) (Or.inl ⟨by first | rfl | exact wanted_on rfl rfl rfl (by rfl), ?_⟩) ?_ ?_
     rotate_left
     ·intro w'
      go_simp
      with_reducible rfl
     rotate_left
     ·simp only [Act.put, List.setIfInBounds_toArray, List.set_cons_zero, List.set_cons_succ, i64_w, i32_w]
      rfl
     refine pure_ (i := 6) (N := some 74) (v := ?_) (a' := ?_) (msk 25 7) rfl rfl (by kernel_rfl) (fun _ _ _ h => h) (Or.inl ⟨by first | rfl | exact wanted_on rfl rfl rfl (by rfl), ?_⟩) ?_ ?_
     rotate_left
     ·intro w'
      go_simp
      with_reducible rfl
     rotate_left
     ·simp only [Act.put, List.setIfInBounds_toArray, List.set_cons_zero, List.set_cons_succ, i64_w, i32_w]
      rfl
     refine pure_ (i := 7) (N := some 75) (v := ?_) (a' := ?_) (msk 25 8) rfl rfl (by kernel_rfl) (fun _ _ _ h => h) (Or.inl ⟨by first | rfl | exact wanted_on rfl rfl rfl (by rfl), ?_⟩) ?_ ?_
     rotate_left
     ·intro w'
      go_simp
      with_reducible rfl
     rotate_left
     ·simp only [Act.put, List.setIfInBounds_toArray, List.set_cons_zero, List.set_cons_succ, i64_w, i32_w]
      rfl
     refine pure_ (i := 8) (N := some 76) (v := ?_) (a' := ?_) (msk 25 9) rfl rfl (by kernel_rfl) (fun _ _ _ h => h) (Or.inl ⟨by first | rfl | exact wanted_on rfl rfl rfl (by rfl), ?_⟩) ?_ ?_
     rotate_left
     ·intro w'
      go_simp
      with_reducible rfl
     rotate_left
     ·simp only [Act.put, List.setIfInBounds_toArray, List.set_cons_zero, List.set_cons_succ, i64_w, i32_w]
      rfl
     refine take_ (i := 9) (N := some 77) (v := ?_) (a' := ?_) (msk 25 10) rfl rfl (by kernel_rfl) (fun _ _ _ h => h) (Or.inl ⟨by first | rfl | exact wanted_on rfl rfl rfl (by rfl), ?_⟩) hHeld ?_ ?_
     rotate_left
     ·intro w' s0
      go_simp
      with_reducible rfl
     rotate_left
     ·simp only [Act.put, List.setIfInBounds_toArray, List.set_cons_zero, List.set_cons_succ, i64_w, i32_w]
      rfl
     refine pure_ (i := 10) (N := some 78) (v := ?_) (a' := ?_) (msk 25 11) rfl rfl (by kernel_rfl) (fun _ _ _ h => h) (Or.inl ⟨by first | rfl | exact wanted_on rfl rfl rfl (by rfl), ?_⟩) ?_ ?_
     rotate_left
     ·intro w'
      go_simp
      with_reducible rfl
     rotate_left
     ·simp only [Act.put, List.setIfInBounds_toArray, List.set_cons_zero, List.set_cons_succ, i64_w, i32_w]
      rfl
     refine pure_ (i := 11) (N := some 79) (v := ?_) (a' := ?_) (msk 25 12) rfl rfl (by kernel_rfl) (fun _ _ _ h => h) (Or.inl ⟨by first | rfl | exact wanted_on rfl rfl rfl (by rfl), ?_⟩) ?_ ?_
     rotate_left
     ·intro w'
      go_simp
      (try simp only [f2b])
      with_reducible rfl
     rotate_left
     ·simp only [Act.put, List.setIfInBounds_toArray, List.set_cons_zero, List.set_cons_succ, i64_w, i32_w]
      rfl
     refine pure_ (i := 12) (N := some 80) (v := ?_) (a' := ?_) (msk 25 13) rfl rfl (by kernel_rfl) (fun _ _ _ h => h) (Or.inl ⟨by first | rfl | exact wanted_on rfl rfl rfl (by rfl), ?_⟩) ?_ ?_
     rotate_left
     ·intro w'
      go_simp
      with_reducible rfl
     rotate_left
     ·simp only [Act.put, List.setIfInBounds_toArray, List.set_cons_zero, List.set_cons_succ, i64_w, i32_w]
      rfl
     refine pure_ (i := 13) (N := some 81) (v := ?_) (a' := ?_) (msk 25 14) rfl rfl (by kernel_rfl) (fun _ _ _ h => h) (Or.inl ⟨by first | rfl | exact wanted_on rfl rfl rfl (by rfl), ?_⟩) ?_ ?_
     rotate_left
     ·intro w'
      go_simp
      with_reducible rfl
     rotate_left
     ·simp only [Act.put, List.setIfInBounds_toArray, List.set_cons_zero, List.set_cons_succ, i64_w, i32_w]
      rfl
     refine pure_ (i := 14) (N := some 82) (v := undef) (a' := _) (msk 25 15) rfl rfl (by kernel_rfl) (fun _ _ _ h => h) (Or.inr ⟨wanted_off rfl rfl rfl (by rfl), rfl⟩) rfl ?_
     refine norm_ (a' := ?_) ?_ ?_
     rotate_left
     ·show Act.put _ (some 82) _ = _
      simp only [Act.put, List.setIfInBounds_toArray, List.set_cons_zero, List.set_cons_succ, i64_w, i32_w]
      rfl
     refine pure_ (i := 15) (N := some 83) (v := undef) (a' := _) (msk 25 16) rfl rfl (by kernel_rfl) (fun _ _ _ h => h) (Or.inr ⟨wanted_off rfl rfl rfl (by rfl), rfl⟩) rfl ?_
     refine norm_ (a' := ?_) ?_ ?_
     rotate_left
     ·show Act.put _ (some 83) _ = _
      simp only [Act.put, List.setIfInBounds_toArray, List.set_cons_zero, List.set_cons_succ, i64_w, i32_w]
      rfl
     refine pure_ (i := 16) (N := some 84) (v := undef) (a' := _) (msk 25 17) rfl rfl (by kernel_rfl) (fun _ _ _ h => h) (Or.inr ⟨wanted_off rfl rfl rfl (by rfl), rfl⟩) rfl ?_
     refine norm_ (a' := ?_) ?_ ?_
     rotate_left
     ·show Act.put _ (some 84) _ = _
      simp only [Act.put, List.setIfInBounds_toArray, List.set_cons_zero, List.set_cons_succ, i64_w, i32_w]
      rfl
     refine pure_ (i := 17) (N := some 85) (v := undef) (a' := _) (msk 25 18) rfl rfl (by kernel_rfl) (fun _ _ _ h => h) (Or.inr ⟨wanted_off rfl rfl rfl (by rfl), rfl⟩) rfl ?_
     refine norm_ (a' := ?_) ?_ ?_
     rotate_left
     ·show Act.put _ (some 85) _ = _
      simp only [Act.put, List.setIfInBounds_toArray, List.set_cons_zero, List.set_cons_succ, i64_w, i32_w]
      rfl
     refine pure_ (i := 18) (N := some 86) (v := undef) (a' := _) (msk 25 19) rfl rfl (by kernel_rfl) (fun _ _ _ h => h) (Or.inr ⟨wanted_off rfl rfl rfl (by rfl), rfl⟩) rfl ?_
     refine norm_ (a' := ?_) ?_ ?_
     rotate_left
     ·show Act.put _ (some 86) _ = _
      simp only [Act.put, List.setIfInBounds_toArray, List.set_cons_zero, List.set_cons_succ, i64_w, i32_w]
      rfl
     refine pure_ (i := 19) (N := some 87) (v := undef) (a' := _) (msk 25 20) rfl rfl (by kernel_rfl) (fun _ _ _ h => h) (Or.inr ⟨wanted_off rfl rfl rfl (by rfl), rfl⟩) rfl ?_
     refine norm_ (a' := ?_) ?_ ?_
     rotate_left
     ·show Act.put _ (some 87) _ = _
      simp only [Act.put, List.setIfInBounds_toArray, List.set_cons_zero, List.set_cons_succ, i64_w, i32_w]
      rfl
     refine pure_ (i := 20) (N := some 88) (v := undef) (a' := _) (msk 25 21) rfl rfl (by kernel_rfl) (fun _ _ _ h => h) (Or.inr ⟨wanted_off rfl rfl rfl (by rfl), rfl⟩) rfl ?_
     refine norm_ (a' := ?_) ?_ ?_
     rotate_left
     ·show Act.put _ (some 88) _ = _
      simp only [Act.put, List.setIfInBounds_toArray, List.set_cons_zero, List.set_cons_succ, i64_w, i32_w]
      rfl
     refine pure_ (i := 21) (N := some 89) (v := undef) (a' := _) (msk 25 22) rfl rfl (by kernel_rfl) (fun _ _ _ h => h) (Or.inr ⟨wanted_off rfl rfl rfl (by rfl), rfl⟩) rfl ?_
     refine norm_ (a' := ?_) ?_ ?_
     rotate_left
     ·show Act.put _ (some 89) _ = _
      simp only [Act.put, List.setIfInBounds_toArray, List.set_cons_zero, List.set_cons_succ, i64_w, i32_w]
      rfl
     refine pure_ (i := 22) (N := some 90) (v := undef) (a' := _) (msk 25 23) rfl rfl (by kernel_rfl) (fun _ _ _ h => h) (Or.inr ⟨wanted_off rfl rfl rfl (by rfl), rfl⟩) rfl ?_
     refine norm_ (a' := ?_) ?_ ?_
     rotate_left
     ·show Act.put _ (some 90) _ = _
      simp only [Act.put, List.setIfInBounds_toArray, List.set_cons_zero, List.set_cons_succ, i64_w, i32_w]
      rfl
     refine pure_ (i := 23) (N := some 91) (v := undef) (a' := _) (msk 25 24) rfl rfl (by kernel_rfl) (fun _ _ _ h => h) (Or.inr ⟨wanted_off rfl rfl rfl (by rfl), rfl⟩) rfl ?_
     refine norm_ (a' := ?_) ?_ ?_
     rotate_left
     ·show Act.put _ (some 91) _ = _
      simp only [Act.put, List.setIfInBounds_toArray, List.set_cons_zero, List.set_cons_succ, i64_w, i32_w]
      rfl
     refine pure_ (i := 24) (N := some 92) (v := ?_) (a' := ?_) (msk 25 25) rfl rfl (by kernel_rfl) (fun _ _ _ h => h) (Or.inl ⟨by first | rfl | exact wanted_on rfl rfl rfl (by rfl), ?_⟩) ?_ ?_
     rotate_left
     ·intro w'
      go_simp
      with_reducible rfl
     rotate_left
     ·simp only [Act.put, List.setIfInBounds_toArray, List.set_cons_zero, List.set_cons_succ, i64_w, i32_w]
      rfl
     refine done_ (by kernel_rfl) ?_
     clear hHeld
     all_goals
      go_wp2
      go_roundg k1
      case measure => omega
      case rel => exact ⟨x + 1, by rw [hw], ⟨by have := HK.out; omega, by have := HK.out; omega, by rw [show (x + 1).toNat = x.toNat + 1 by have := HK.out; omega]; exact HQ.out⟩, BK, BS, ⟨Below.drew HB.out⟩⟩
end Go.Proofs.YtnjobjogddjelaaGreatDoor.Print
end

section
namespace Go.Proofs.YtnjobjogddjelaaGreatDoor.Print
open Go.RowKit Go.Proofs.YtnjobjogddjelaaGreatDoorX Go.Proofs.YtnjobjogddjelaaGreatDoorW.PrintWords Go.Proofs.YtnjobjogddjelaaGreatDoorW.PrintLast Go.Proofs.YtnjobjogddjelaaGreatDoorW.PrintMore
attribute [local go_sem] max2_int min2_int max_two min_two max_three min_three max_four min_four

/-! ### spillwayref7_token: function 19 -/
def spillwayref7_token.l0 : Nat → ByteArray → Int → Option (Int × Int × ByteArray × Bool × Int × Int × Int)
 | 0, _, _ => none
 | k + 1, x0, x4 => if x4 < (x0.size : Int) then (if 0 ≤ x4 then ((spillwayref7_letter.f (bt x0 x4)).bind fun t285 => (if t285 = true then (spillwayref7_token.l0 k x0 (wrap64 (x4 + 1))) else ((spillwayref7_digit.f (bt x0 x4)).bind fun t286 => (if t286 = true then (spillwayref7_token.l0 k x0 (wrap64 (x4 + 1))) else (if x4 > 20 then (some (0, 0, (⟨#[]⟩ : ByteArray), false, 0, 0, 0)) else (if x4 ≤ (x0.size : Int) then (some (1, 0, x0.extract 0 (x4 : Int).toNat, false, 0, 0, x4)) else (none))))))) else (none)) else (if x4 > 20 then (some (0, 0, (⟨#[]⟩ : ByteArray), false, 0, 0, 0)) else (if 0 ≤ x4 then (if x4 ≤ (x0.size : Int) then (some (1, 0, x0.extract 0 (x4 : Int).toNat, false, 0, 0, x4)) else (none)) else (none)))
def spillwayref7_token.f (k : Nat) (a0 : ByteArray) : Option (Int × Int × ByteArray × Bool × Int × Int × Int) := if 0 < (a0.size : Int) then ((spillwayref7_letter.f (bt a0 0)).bind fun t284 => (if t284 = true then (spillwayref7_token.l0 k a0 0) else ((spillwayref7_digit.f (bt a0 0)).bind fun t287 => (if t287 = true then ((spillwayref7_number.f k a0).bind fun bt288 => (some (bt288.1, bt288.2.1, bt288.2.2.1, bt288.2.2.2.1, bt288.2.2.2.2.1, bt288.2.2.2.2.2.1, bt288.2.2.2.2.2.2))) else (if (bt a0 0) = 34 then ((spillwayref3_Quoted.f k a0).bind fun bt295 => (if (bt295.1.size : Int) > 30 then (some (0, 0, (⟨#[]⟩ : ByteArray), false, 0, 0, 0)) else (some (4, 0, bt295.1, false, 0, 0, bt295.2)))) else ((spillwayref7_Signs.f a0).bind fun bt297 => (some (bt297.1, bt297.2.1, bt297.2.2.1, bt297.2.2.2.1, bt297.2.2.2.2.1, bt297.2.2.2.2.2.1, bt297.2.2.2.2.2.2)))))))) else (none)
theorem spillwayref7_token.mono_l : ∀ k, (∀ y0 y1, LeO (spillwayref7_token.l0 k y0 y1) (spillwayref7_token.l0 (k + 1) y0 y1))
 | 0 => fun _ _ r h => by simp [spillwayref7_token.l0] at h
 | k + 1 => by
  have ih0 := spillwayref7_token.mono_l k
  ·intro y0 y1
   unfold spillwayref7_token.l0
   repeat' first
   | (with_reducible exact ih0 _ _)
   | (with_reducible exact spillwayref3_Quoted.mono _ _)
   | (with_reducible exact spillwayref7_number.mono _ _)
   | (with_reducible exact LeO.refl _)
   | (with_reducible exact LeO.none _)
   | (with_reducible refine LeO.ite ?_ ?_)
   | (with_reducible refine LeO.bind ?_ (fun _ => ?_))
   | exact ih0 _ _
   | exact spillwayref3_Quoted.mono _ _
   | exact spillwayref7_number.mono _ _
   | exact LeO.none _
   | refine LeO.ite ?_ ?_
   | refine LeO.bind ?_ (fun _ => ?_)
theorem spillwayref7_token.mono : ∀ a0 k, LeO (spillwayref7_token.f k a0) (spillwayref7_token.f (k + 1) a0) := by
 intro a0 k
 have ih0 := spillwayref7_token.mono_l k
 unfold spillwayref7_token.f
 repeat' first
   | (with_reducible exact ih0 _ _)
   | (with_reducible exact spillwayref3_Quoted.mono _ _)
   | (with_reducible exact spillwayref7_number.mono _ _)
   | (with_reducible exact LeO.refl _)
   | (with_reducible exact LeO.none _)
   | (with_reducible refine LeO.ite ?_ ?_)
   | (with_reducible refine LeO.bind ?_ (fun _ => ?_))
   | exact ih0 _ _
   | exact spillwayref3_Quoted.mono _ _
   | exact spillwayref7_number.mono _ _
   | exact LeO.none _
   | refine LeO.ite ?_ ?_
   | refine LeO.bind ?_ (fun _ => ?_)
set_option maxHeartbeats 8000000 in
set_option maxRecDepth 100000 in
theorem spillwayref7_token.calls (k : Nat) (a0 : ByteArray) (r1 : Int) (r2 : Int) (r3 : ByteArray) (r4 : Bool) (r5 : Int) (r6 : Int) (r7 : Int) (w : World) (h : spillwayref7_token.f k a0 = some (r1, r2, r3, r4, r5, r6, r7)) :
  Calls Tryz.prog 19 #[.string a0] w fun e w' => e = .returned (.tuple #[.agg #[.int .i64 r1, .int .i64 r2, .string r3, .bool r4, .int .i64 r5, .int .i64 r6], .int .i64 r7]) ∧ Below w.heap.size w w' := by
 have hu36 := Tryz.underlying36
 have HB := Aside0.mk (Below.refl w.heap.size w)
 have H : (if 0 < (a0.size : Int) then ((spillwayref7_letter.f (bt a0 0)).bind fun t284 => (if t284 = true then (spillwayref7_token.l0 k a0 0) else ((spillwayref7_digit.f (bt a0 0)).bind fun t287 => (if t287 = true then ((spillwayref7_number.f k a0).bind fun bt288 => (some (bt288.1, bt288.2.1, bt288.2.2.1, bt288.2.2.2.1, bt288.2.2.2.2.1, bt288.2.2.2.2.2.1, bt288.2.2.2.2.2.2))) else (if (bt a0 0) = 34 then ((spillwayref3_Quoted.f k a0).bind fun bt295 => (if (bt295.1.size : Int) > 30 then (some (0, 0, (⟨#[]⟩ : ByteArray), false, 0, 0, 0)) else (some (4, 0, bt295.1, false, 0, 0, bt295.2)))) else ((spillwayref7_Signs.f a0).bind fun bt297 => (some (bt297.1, bt297.2.1, bt297.2.2.1, bt297.2.2.2.1, bt297.2.2.2.2.1, bt297.2.2.2.2.2.1, bt297.2.2.2.2.2.2)))))))) else (none)) = some (r1, r2, r3, r4, r5, r6, r7) := h
 clear h
 by_cases c2 : 0 < (a0.size : Int)
 ·rw [if_pos c2] at H
  have c2b0 : decide (0 < (a0.size : Int)) = true := decide_eq_true c2
  have c2b1 : decide (0 < a0.size) = true := decide_eq_true (by omega)
  clear c2
  replace H := Option.bind_eq_some_iff.mp H
  obtain ⟨t284, A40, H⟩ := H
  replace H : (if t284 = true then (spillwayref7_token.l0 k a0 0) else ((spillwayref7_digit.f (bt a0 0)).bind fun t287 => (if t287 = true then ((spillwayref7_number.f k a0).bind fun bt288 => (some (bt288.1, bt288.2.1, bt288.2.2.1, bt288.2.2.2.1, bt288.2.2.2.2.1, bt288.2.2.2.2.2.1, bt288.2.2.2.2.2.2))) else (if (bt a0 0) = 34 then ((spillwayref3_Quoted.f k a0).bind fun bt295 => (if (bt295.1.size : Int) > 30 then (some (0, 0, (⟨#[]⟩ : ByteArray), false, 0, 0, 0)) else (some (4, 0, bt295.1, false, 0, 0, bt295.2)))) else ((spillwayref7_Signs.f a0).bind fun bt297 => (some (bt297.1, bt297.2.1, bt297.2.2.1, bt297.2.2.2.1, bt297.2.2.2.2.1, bt297.2.2.2.2.2.1, bt297.2.2.2.2.2.2))))))) = some (r1, r2, r3, r4, r5, r6, r7) := H
  have A4 := Aside0.mk A40
  clear A40
  by_cases c5 : t284 = true
  ·subst c5
   have H1 : (spillwayref7_token.l0 k a0 0) = some (r1, r2, r3, r4, r5, r6, r7) := by rw [if_pos rfl] at H; exact H
   clear H
   have H := H1
   clear H1
   have H' := Aside0.mk H
   clear H
   go_enter Tryz.func19, Tryz.ntmps19
   go_wp2_with (first | ((with_reducible refine gate_dst (N := 2) rfl ?_); refine box_event ?hg (N := 2) ?hd (cs := #[.int .i64 0, .int .i64 0, .string (⟨#[]⟩ : ByteArray), .bool false, .int .i64 0, .int .i64 0]) (t := 36) ?hr ?_; (case hd => rfl); (case hg => rfl); (case hr => first | (go_simp; done) | (go_simp; rfl)); intro gb283 hg w6 hbox hb; have n0_ := Aside0.mk (below_step (by repeat (first | (with_reducible first | exact HB.out | apply below_alloc | apply pw_below_drewN | apply below_drew1) | exact HB.out)) hb); have n1_ := Aside0.mk (hbox); have n2_ := Aside0.mk ((by rw [hg]; exact (below_size (by repeat (first | (with_reducible first | exact HB.out | apply below_alloc | apply pw_below_drewN | apply below_drew1) | exact HB.out))) : w.heap.size ≤ gb283)); have n3_ := Aside0.mk ((by rw [hg]; exact (below_size (by repeat (first | (with_reducible first | exact HB.out | apply below_alloc | apply pw_below_drewN | apply below_drew1) | exact HB.out))) : w.heap.size ≤ gb283)); clear HB; have HB := n0_; have BK283 := n1_; have GW283 := n2_; have GE283 := n3_; clear n0_ n1_ n2_ n3_; clear hb hbox hg; have p3 : 0 ≤ (0 : Int) := (by omega); have q3 : 0 < a0.size := (by have : (0 : Int) < (a0.size : Int) := of_decide_eq_true (by first | (with_reducible assumption) | assumption); omega); have hx3 : ∀ h : 0 < a0.size, ((a0[0]'h).toNat : Int) = bt a0 0 := bt_at a0 0; clear p3; have qi3 : (0 < (a0.size : Int)) = True := eq_true (of_decide_eq_true (by first | (with_reducible assumption) | assumption)); replace q3 := eq_true q3) | ((with_reducible refine gate_callee (f := 29) rfl ?_); refine goesL_ (some 12) rfl rfl Tryz.func29 (by kernel_rfl) rfl #[.int .u8 (bt a0 0)] rfl (by (try simp only [List.map_toArray, List.map_cons, List.map_nil]); first | done | rfl | (simp only [List.length_drop, List.length_take]; rfl)) ?_; (with_reducible refine (spillwayref7_letter.calls (bt a0 0) true _ A4.out).mono ?_); rintro e w' ⟨rfl, ⟨nd, rfl⟩⟩; refine ⟨_, rfl, ?_⟩))
   go_loopg [4] k (fun kq v4 w' => ∃ (x4_1 : Int), v4 = .int .i64 x4_1 ∧ Aside0 (spillwayref7_token.l0 kq a0 x4_1 = some (r1, r2, r3, r4, r5, r6, r7)) ∧ Aside0 (kq ≤ k) ∧ Aside0 (w'.heap[gb283]? = some (.cells #[.int .i64 0, .int .i64 0, .string (⟨#[]⟩ : ByteArray), .bool false, .int .i64 0, .int .i64 0] 36 (0, 0))) ∧ Aside0 (Below w.heap.size w w'))
   case atStart => exact ⟨(0), (by first | rfl | (simp; done) | (simp [*]; done)), H', ⟨Nat.le_refl _⟩, ⟨by (with_reducible repeat (first | refine blk_drewN ?_ _ | refine blk_drew ?_ | refine blk_alloc ?_ _)); exact BK283.out⟩, ⟨by repeat (first | (with_reducible first | exact HB.out | apply below_alloc | apply pw_below_drewN | apply below_drew1 | refine below_set ?_ GE283.out) | exact HB.out)⟩⟩
   case round =>
    clear H'
    try clear c1
    try clear c2
    try clear c2b0
    try clear c2b1
    try clear p2
    try clear p3
    try clear q3
    try clear hx3
    try clear qi3
    try clear c5
    try clear p3
    try clear q3
    obtain ⟨x4_1, rfl, HA, HK1, BK283, HB⟩ := hrel
    cases gk with
    | zero => exact absurd HA.out (by simp [spillwayref7_token.l0])
    | succ k1 =>
     have H := HA.out
     clear HA
     simp only [spillwayref7_token.l0] at H
     by_cases c7 : x4_1 < (a0.size : Int)
     ·rw [if_pos c7] at H
      have c7b0 : decide (x4_1 < (a0.size : Int)) = true := decide_eq_true c7
      clear c7
      by_cases c8 : 0 ≤ x4_1
      ·rw [if_pos c8] at H
       have c8b0 : decide (0 ≤ x4_1) = true := decide_eq_true c8
       clear c8
       replace H := Option.bind_eq_some_iff.mp H
       obtain ⟨t285, A100, H⟩ := H
       replace H : (if t285 = true then (spillwayref7_token.l0 k1 a0 (wrap64 (x4_1 + 1))) else ((spillwayref7_digit.f (bt a0 x4_1)).bind fun t286 => (if t286 = true then (spillwayref7_token.l0 k1 a0 (wrap64 (x4_1 + 1))) else (if x4_1 > 20 then (some (0, 0, (⟨#[]⟩ : ByteArray), false, 0, 0, 0)) else (if x4_1 ≤ (a0.size : Int) then (some (1, 0, a0.extract 0 (x4_1 : Int).toNat, false, 0, 0, x4_1)) else (none)))))) = some (r1, r2, r3, r4, r5, r6, r7) := H
       have A10 := Aside0.mk A100
       clear A100
       by_cases c11 : t285 = true
       ·subst c11
        have H1 : (spillwayref7_token.l0 k1 a0 (wrap64 (x4_1 + 1))) = some (r1, r2, r3, r4, r5, r6, r7) := by rw [if_pos rfl] at H; exact H
        clear H
        have H := H1
        clear H1
        have H' := Aside0.mk H
        clear H
        have p9 : 0 ≤ (x4_1 : Int) := of_decide_eq_true (by first | (with_reducible assumption) | assumption)
        have q9 : x4_1 < (a0.size : Int) := of_decide_eq_true (by first | (with_reducible assumption) | assumption)
        have hx9 := bt_at a0 x4_1
        replace p9 := eq_true p9
        replace q9 := eq_true q9
        go_wp2_with (first | (go_at_call 29; (with_reducible refine (spillwayref7_letter.calls (bt a0 x4_1) true _ A10.out).mono ?_); rintro e w' ⟨rfl, ⟨nd, rfl⟩⟩))
        go_roundg k1
        case measure => have := HK1.out; omega
        case rel => exact ⟨(wrap64 (x4_1 + 1)), (by first | rfl | (simp; done) | (simp [*]; done)), H', ⟨by have := HK1.out; omega⟩, ⟨by (with_reducible repeat (first | refine blk_drewN ?_ _ | refine blk_drew ?_ | refine blk_alloc ?_ _)); exact BK283.out⟩, ⟨by repeat (first | (with_reducible first | exact HB.out | apply below_alloc | apply pw_below_drewN | apply below_drew1 | refine below_set ?_ GE283.out) | exact HB.out)⟩⟩
       ·replace c11 := Bool.eq_false_iff.mpr c11
        subst c11
        have H1 : ((spillwayref7_digit.f (bt a0 x4_1)).bind fun t286 => (if t286 = true then (spillwayref7_token.l0 k1 a0 (wrap64 (x4_1 + 1))) else (if x4_1 > 20 then (some (0, 0, (⟨#[]⟩ : ByteArray), false, 0, 0, 0)) else (if x4_1 ≤ (a0.size : Int) then (some (1, 0, a0.extract 0 (x4_1 : Int).toNat, false, 0, 0, x4_1)) else (none))))) = some (r1, r2, r3, r4, r5, r6, r7) := by rw [if_neg (show ¬ (false = true) by decide)] at H; exact H
        clear H
        have H := H1
        clear H1
        replace H := Option.bind_eq_some_iff.mp H
        obtain ⟨t286, A130, H⟩ := H
        replace H : (if t286 = true then (spillwayref7_token.l0 k1 a0 (wrap64 (x4_1 + 1))) else (if x4_1 > 20 then (some (0, 0, (⟨#[]⟩ : ByteArray), false, 0, 0, 0)) else (if x4_1 ≤ (a0.size : Int) then (some (1, 0, a0.extract 0 (x4_1 : Int).toNat, false, 0, 0, x4_1)) else (none)))) = some (r1, r2, r3, r4, r5, r6, r7) := H
        have A13 := Aside0.mk A130
        clear A130
        by_cases c14 : t286 = true
        ·subst c14
         have H1 : (spillwayref7_token.l0 k1 a0 (wrap64 (x4_1 + 1))) = some (r1, r2, r3, r4, r5, r6, r7) := by rw [if_pos rfl] at H; exact H
         clear H
         have H := H1
         clear H1
         have H' := Aside0.mk H
         clear H
         have p9 : 0 ≤ (x4_1 : Int) := of_decide_eq_true (by first | (with_reducible assumption) | assumption)
         have q9 : x4_1 < (a0.size : Int) := of_decide_eq_true (by first | (with_reducible assumption) | assumption)
         have hx9 := bt_at a0 x4_1
         replace p9 := eq_true p9
         replace q9 := eq_true q9
         go_wp2_with (first | (go_at_call 29; (with_reducible refine (spillwayref7_letter.calls (bt a0 x4_1) false _ A10.out).mono ?_); rintro e w' ⟨rfl, ⟨nd, rfl⟩⟩; have p12 : 0 ≤ (x4_1 : Int) := of_decide_eq_true (by first | (with_reducible assumption) | assumption); have q12 : x4_1 < (a0.size : Int) := of_decide_eq_true (by first | (with_reducible assumption) | assumption); have hx12 := bt_at a0 x4_1; replace p12 := eq_true p12; replace q12 := eq_true q12) | (go_at_call 30; (with_reducible refine (spillwayref7_digit.calls (bt a0 x4_1) true _ A13.out).mono ?_); rintro e w' ⟨rfl, ⟨nd, rfl⟩⟩))
         go_roundg k1
         case measure => have := HK1.out; omega
         case rel => exact ⟨(wrap64 (x4_1 + 1)), (by first | rfl | (simp; done) | (simp [*]; done)), H', ⟨by have := HK1.out; omega⟩, ⟨by (with_reducible repeat (first | refine blk_drewN ?_ _ | refine blk_drew ?_ | refine blk_alloc ?_ _)); exact BK283.out⟩, ⟨by repeat (first | (with_reducible first | exact HB.out | apply below_alloc | apply pw_below_drewN | apply below_drew1 | refine below_set ?_ GE283.out) | exact HB.out)⟩⟩
        ·replace c14 := Bool.eq_false_iff.mpr c14
         subst c14
         have H1 : (if x4_1 > 20 then (some (0, 0, (⟨#[]⟩ : ByteArray), false, 0, 0, 0)) else (if x4_1 ≤ (a0.size : Int) then (some (1, 0, a0.extract 0 (x4_1 : Int).toNat, false, 0, 0, x4_1)) else (none))) = some (r1, r2, r3, r4, r5, r6, r7) := by rw [if_neg (show ¬ (false = true) by decide)] at H; exact H
         clear H
         have H := H1
         clear H1
         by_cases c15 : x4_1 > 20
         ·rw [if_pos c15] at H
          have c15b0 : decide (20 < x4_1) = true := decide_eq_true c15
          clear c15
          simp only [Option.some.injEq, Prod.mk.injEq] at H
          obtain ⟨rfl, rfl, rfl, rfl, rfl, rfl, rfl⟩ := H
          have p9 : 0 ≤ (x4_1 : Int) := of_decide_eq_true (by first | (with_reducible assumption) | assumption)
          have q9 : x4_1 < (a0.size : Int) := of_decide_eq_true (by first | (with_reducible assumption) | assumption)
          have hx9 := bt_at a0 x4_1
          replace p9 := eq_true p9
          replace q9 := eq_true q9
          go_wp2_with (first | (go_at_call 29; (with_reducible refine (spillwayref7_letter.calls (bt a0 x4_1) false _ A10.out).mono ?_); rintro e w' ⟨rfl, ⟨nd, rfl⟩⟩; (try (rw [drewN_self wr]; generalize hq_ : World.drewN wr _ = wr; have n0_ : Aside0 (wr.heap[gb283]? = some (.cells #[.int .i64 0, .int .i64 0, .string (⟨#[]⟩ : ByteArray), .bool false, .int .i64 0, .int .i64 0] 36 (0, 0))) := ⟨by rw [← hq_]; exact (by (with_reducible repeat (first | refine blk_drewN ?_ _ | refine blk_drew ?_ | refine blk_alloc ?_ _)); exact BK283.out)⟩; have n1_ : Aside0 (Below w.heap.size w wr) := ⟨by rw [← hq_]; exact (by repeat (first | (with_reducible first | exact HB.out | apply below_alloc | apply pw_below_drewN | apply below_drew1 | refine below_set ?_ GE283.out) | exact HB.out))⟩; clear BK283 HB hq_; have BK283 := n0_; have HB := n1_; clear n0_ n1_)); have p12 : 0 ≤ (x4_1 : Int) := of_decide_eq_true (by first | (with_reducible assumption) | assumption); have q12 : x4_1 < (a0.size : Int) := of_decide_eq_true (by first | (with_reducible assumption) | assumption); have hx12 := bt_at a0 x4_1; replace p12 := eq_true p12; replace q12 := eq_true q12) | (go_at_call 30; (with_reducible refine (spillwayref7_digit.calls (bt a0 x4_1) false _ A13.out).mono ?_); rintro e w' ⟨rfl, ⟨nd, rfl⟩⟩; (try (rw [drewN_self wr]; generalize hq_ : World.drewN wr _ = wr; have n0_ : Aside0 (wr.heap[gb283]? = some (.cells #[.int .i64 0, .int .i64 0, .string (⟨#[]⟩ : ByteArray), .bool false, .int .i64 0, .int .i64 0] 36 (0, 0))) := ⟨by rw [← hq_]; exact (by (with_reducible repeat (first | refine blk_drewN ?_ _ | refine blk_drew ?_ | refine blk_alloc ?_ _)); exact BK283.out)⟩; have n1_ : Aside0 (Below w.heap.size w wr) := ⟨by rw [← hq_]; exact (by repeat (first | (with_reducible first | exact HB.out | apply below_alloc | apply pw_below_drewN | apply below_drew1 | refine below_set ?_ GE283.out) | exact HB.out))⟩; clear BK283 HB hq_; have BK283 := n0_; have HB := n1_; clear n0_ n1_)); have hcz16_0 : wr.cell? ⟨gb283, 0, none⟩ = some (.int .i64 0) := (blk_cell BK283.out 0).trans rfl; have hcz16_1 : wr.cell? ⟨gb283, 1, none⟩ = some (.int .i64 0) := (blk_cell BK283.out 1).trans rfl; have hcz16_2 : wr.cell? ⟨gb283, 2, none⟩ = some (.string (⟨#[]⟩ : ByteArray)) := (blk_cell BK283.out 2).trans rfl; have hcz16_3 : wr.cell? ⟨gb283, 3, none⟩ = some (.bool false) := (blk_cell BK283.out 3).trans rfl; have hcz16_4 : wr.cell? ⟨gb283, 4, none⟩ = some (.int .i64 0) := (blk_cell BK283.out 4).trans rfl; have hcz16_5 : wr.cell? ⟨gb283, 5, none⟩ = some (.int .i64 0) := (blk_cell BK283.out 5).trans rfl; have hfz16_0 := blk_frozen BK283.out 0; have hfz16_1 := blk_frozen BK283.out 1; have hfz16_2 := blk_frozen BK283.out 2; have hfz16_3 := blk_frozen BK283.out 3; have hfz16_4 := blk_frozen BK283.out 4; have hfz16_5 := blk_frozen BK283.out 5))
          refine bodyPost_ret (results_ct rfl _ _ gb283 36 #[.int .i64 0, .int .i64 0, .string (⟨#[]⟩ : ByteArray), .bool false, .int .i64 0, .int .i64 0] (0, 0) _ rfl (by (with_reducible repeat (first | refine blk_drewN ?_ _ | refine blk_drew ?_ | refine blk_alloc ?_ _)); refine blk_put (cs := #[.int .i64 0, .int .i64 0, .string (⟨#[]⟩ : ByteArray), .bool false, .int .i64 0, .int .i64 0]) ?_ 5 _ rfl; (with_reducible repeat (first | refine blk_drewN ?_ _ | refine blk_drew ?_ | refine blk_alloc ?_ _)); refine blk_put (cs := #[.int .i64 0, .int .i64 0, .string (⟨#[]⟩ : ByteArray), .bool false, .int .i64 0, .int .i64 0]) ?_ 4 _ rfl; (with_reducible repeat (first | refine blk_drewN ?_ _ | refine blk_drew ?_ | refine blk_alloc ?_ _)); refine blk_put (cs := #[.int .i64 0, .int .i64 0, .string (⟨#[]⟩ : ByteArray), .bool false, .int .i64 0, .int .i64 0]) ?_ 3 _ rfl; (with_reducible repeat (first | refine blk_drewN ?_ _ | refine blk_drew ?_ | refine blk_alloc ?_ _)); refine blk_put (cs := #[.int .i64 0, .int .i64 0, .string (⟨#[]⟩ : ByteArray), .bool false, .int .i64 0, .int .i64 0]) ?_ 2 _ rfl; (with_reducible repeat (first | refine blk_drewN ?_ _ | refine blk_drew ?_ | refine blk_alloc ?_ _)); refine blk_put (cs := #[.int .i64 0, .int .i64 0, .string (⟨#[]⟩ : ByteArray), .bool false, .int .i64 0, .int .i64 0]) ?_ 1 _ rfl; (with_reducible repeat (first | refine blk_drewN ?_ _ | refine blk_drew ?_ | refine blk_alloc ?_ _)); refine blk_put (cs := #[.int .i64 0, .int .i64 0, .string (⟨#[]⟩ : ByteArray), .bool false, .int .i64 0, .int .i64 0]) ?_ 0 _ rfl; (with_reducible repeat (first | refine blk_drewN ?_ _ | refine blk_drew ?_ | refine blk_alloc ?_ _)); exact BK283.out) Tryz.underlying36 rfl (by kernel_rfl)) rfl ?_
          exact ⟨by first | rfl | (simp [errW_none, errW_some] <;> rfl) | (simp [*, errW_none, errW_some] <;> rfl), by repeat (first | (with_reducible first | exact HB.out | apply below_alloc | apply pw_below_drewN | apply below_drew1 | refine below_set ?_ GE283.out) | exact HB.out)⟩
         ·rw [if_neg c15] at H
          have c15b0 : decide (20 < x4_1) = false := decide_eq_false c15
          clear c15
          have c17b0 := eq_true (of_decide_eq_true (by first | (with_reducible assumption) | assumption) : 0 ≤ x4_1)
          by_cases c18 : x4_1 ≤ (a0.size : Int)
          ·rw [if_pos c18] at H
           have c18b0 := eq_true c18
           have c18b1 : decide (x4_1 ≤ (a0.size : Int)) = true := decide_eq_true c18
           clear c18
           simp only [Option.some.injEq, Prod.mk.injEq] at H
           obtain ⟨rfl, rfl, rfl, rfl, rfl, rfl, rfl⟩ := H
           have p9 : 0 ≤ (x4_1 : Int) := of_decide_eq_true (by first | (with_reducible assumption) | assumption)
           have q9 : x4_1 < (a0.size : Int) := of_decide_eq_true (by first | (with_reducible assumption) | assumption)
           have hx9 := bt_at a0 x4_1
           replace p9 := eq_true p9
           replace q9 := eq_true q9
           go_wp2_with (first | (go_at_call 29; (with_reducible refine (spillwayref7_letter.calls (bt a0 x4_1) false _ A10.out).mono ?_); rintro e w' ⟨rfl, ⟨nd, rfl⟩⟩; (try (rw [drewN_self wr]; generalize hq_ : World.drewN wr _ = wr; have n0_ : Aside0 (wr.heap[gb283]? = some (.cells #[.int .i64 0, .int .i64 0, .string (⟨#[]⟩ : ByteArray), .bool false, .int .i64 0, .int .i64 0] 36 (0, 0))) := ⟨by rw [← hq_]; exact (by (with_reducible repeat (first | refine blk_drewN ?_ _ | refine blk_drew ?_ | refine blk_alloc ?_ _)); exact BK283.out)⟩; have n1_ : Aside0 (Below w.heap.size w wr) := ⟨by rw [← hq_]; exact (by repeat (first | (with_reducible first | exact HB.out | apply below_alloc | apply pw_below_drewN | apply below_drew1 | refine below_set ?_ GE283.out) | exact HB.out))⟩; clear BK283 HB hq_; have BK283 := n0_; have HB := n1_; clear n0_ n1_)); have p12 : 0 ≤ (x4_1 : Int) := of_decide_eq_true (by first | (with_reducible assumption) | assumption); have q12 : x4_1 < (a0.size : Int) := of_decide_eq_true (by first | (with_reducible assumption) | assumption); have hx12 := bt_at a0 x4_1; replace p12 := eq_true p12; replace q12 := eq_true q12) | (go_at_call 30; (with_reducible refine (spillwayref7_digit.calls (bt a0 x4_1) false _ A13.out).mono ?_); rintro e w' ⟨rfl, ⟨nd, rfl⟩⟩; (try (rw [drewN_self wr]; generalize hq_ : World.drewN wr _ = wr; have n0_ : Aside0 (wr.heap[gb283]? = some (.cells #[.int .i64 0, .int .i64 0, .string (⟨#[]⟩ : ByteArray), .bool false, .int .i64 0, .int .i64 0] 36 (0, 0))) := ⟨by rw [← hq_]; exact (by (with_reducible repeat (first | refine blk_drewN ?_ _ | refine blk_drew ?_ | refine blk_alloc ?_ _)); exact BK283.out)⟩; have n1_ : Aside0 (Below w.heap.size w wr) := ⟨by rw [← hq_]; exact (by repeat (first | (with_reducible first | exact HB.out | apply below_alloc | apply pw_below_drewN | apply below_drew1 | refine below_set ?_ GE283.out) | exact HB.out))⟩; clear BK283 HB hq_; have BK283 := n0_; have HB := n1_; clear n0_ n1_)); have hcz19_0 : wr.cell? ⟨gb283, 0, none⟩ = some (.int .i64 0) := (blk_cell BK283.out 0).trans rfl; have hcz19_1 : wr.cell? ⟨gb283, 1, none⟩ = some (.int .i64 0) := (blk_cell BK283.out 1).trans rfl; have hcz19_2 : wr.cell? ⟨gb283, 2, none⟩ = some (.string (⟨#[]⟩ : ByteArray)) := (blk_cell BK283.out 2).trans rfl; have hcz19_3 : wr.cell? ⟨gb283, 3, none⟩ = some (.bool false) := (blk_cell BK283.out 3).trans rfl; have hcz19_4 : wr.cell? ⟨gb283, 4, none⟩ = some (.int .i64 0) := (blk_cell BK283.out 4).trans rfl; have hcz19_5 : wr.cell? ⟨gb283, 5, none⟩ = some (.int .i64 0) := (blk_cell BK283.out 5).trans rfl; have hfz19_0 := blk_frozen BK283.out 0; have hfz19_1 := blk_frozen BK283.out 1; have hfz19_2 := blk_frozen BK283.out 2; have hfz19_3 := blk_frozen BK283.out 3; have hfz19_4 := blk_frozen BK283.out 4; have hfz19_5 := blk_frozen BK283.out 5))
           refine bodyPost_ret (results_ct rfl _ _ gb283 36 #[.int .i64 1, .int .i64 0, .string (a0.extract 0 (x4_1 : Int).toNat), .bool false, .int .i64 0, .int .i64 0] (0, 0) _ rfl (by (with_reducible repeat (first | refine blk_drewN ?_ _ | refine blk_drew ?_ | refine blk_alloc ?_ _)); refine blk_put (cs := #[.int .i64 1, .int .i64 0, .string (a0.extract 0 (x4_1 : Int).toNat), .bool false, .int .i64 0, .int .i64 0]) ?_ 5 _ rfl; (with_reducible repeat (first | refine blk_drewN ?_ _ | refine blk_drew ?_ | refine blk_alloc ?_ _)); refine blk_put (cs := #[.int .i64 1, .int .i64 0, .string (a0.extract 0 (x4_1 : Int).toNat), .bool false, .int .i64 0, .int .i64 0]) ?_ 4 _ rfl; (with_reducible repeat (first | refine blk_drewN ?_ _ | refine blk_drew ?_ | refine blk_alloc ?_ _)); refine blk_put (cs := #[.int .i64 1, .int .i64 0, .string (a0.extract 0 (x4_1 : Int).toNat), .bool false, .int .i64 0, .int .i64 0]) ?_ 3 _ rfl; (with_reducible repeat (first | refine blk_drewN ?_ _ | refine blk_drew ?_ | refine blk_alloc ?_ _)); refine blk_put (cs := #[.int .i64 1, .int .i64 0, .string (⟨#[]⟩ : ByteArray), .bool false, .int .i64 0, .int .i64 0]) ?_ 2 _ rfl; (with_reducible repeat (first | refine blk_drewN ?_ _ | refine blk_drew ?_ | refine blk_alloc ?_ _)); refine blk_put (cs := #[.int .i64 1, .int .i64 0, .string (⟨#[]⟩ : ByteArray), .bool false, .int .i64 0, .int .i64 0]) ?_ 1 _ rfl; (with_reducible repeat (first | refine blk_drewN ?_ _ | refine blk_drew ?_ | refine blk_alloc ?_ _)); refine blk_put (cs := #[.int .i64 0, .int .i64 0, .string (⟨#[]⟩ : ByteArray), .bool false, .int .i64 0, .int .i64 0]) ?_ 0 _ rfl; (with_reducible repeat (first | refine blk_drewN ?_ _ | refine blk_drew ?_ | refine blk_alloc ?_ _)); exact BK283.out) Tryz.underlying36 rfl (by kernel_rfl)) rfl ?_
           exact ⟨by first | rfl | (simp [errW_none, errW_some] <;> rfl) | (simp [*, errW_none, errW_some] <;> rfl), by repeat (first | (with_reducible first | exact HB.out | apply below_alloc | apply pw_below_drewN | apply below_drew1 | refine below_set ?_ GE283.out) | exact HB.out)⟩
          ·rw [if_neg c18] at H
           exact absurd H (by simp)
      ·rw [if_neg c8] at H
       exact absurd H (by simp)
     ·rw [if_neg c7] at H
      have c7b0 : decide (x4_1 < (a0.size : Int)) = false := decide_eq_false c7
      clear c7
      by_cases c20 : x4_1 > 20
      ·rw [if_pos c20] at H
       have c20b0 : decide (20 < x4_1) = true := decide_eq_true c20
       clear c20
       simp only [Option.some.injEq, Prod.mk.injEq] at H
       obtain ⟨rfl, rfl, rfl, rfl, rfl, rfl, rfl⟩ := H
       have hcz21_0 : wr.cell? ⟨gb283, 0, none⟩ = some (.int .i64 0) := (blk_cell BK283.out 0).trans rfl
       have hcz21_1 : wr.cell? ⟨gb283, 1, none⟩ = some (.int .i64 0) := (blk_cell BK283.out 1).trans rfl
       have hcz21_2 : wr.cell? ⟨gb283, 2, none⟩ = some (.string (⟨#[]⟩ : ByteArray)) := (blk_cell BK283.out 2).trans rfl
       have hcz21_3 : wr.cell? ⟨gb283, 3, none⟩ = some (.bool false) := (blk_cell BK283.out 3).trans rfl
       have hcz21_4 : wr.cell? ⟨gb283, 4, none⟩ = some (.int .i64 0) := (blk_cell BK283.out 4).trans rfl
       have hcz21_5 : wr.cell? ⟨gb283, 5, none⟩ = some (.int .i64 0) := (blk_cell BK283.out 5).trans rfl
       have hfz21_0 := blk_frozen BK283.out 0
       have hfz21_1 := blk_frozen BK283.out 1
       have hfz21_2 := blk_frozen BK283.out 2
       have hfz21_3 := blk_frozen BK283.out 3
       have hfz21_4 := blk_frozen BK283.out 4
       have hfz21_5 := blk_frozen BK283.out 5
       go_wp2
       refine bodyPost_ret (results_ct rfl _ _ gb283 36 #[.int .i64 0, .int .i64 0, .string (⟨#[]⟩ : ByteArray), .bool false, .int .i64 0, .int .i64 0] (0, 0) _ rfl (by (with_reducible repeat (first | refine blk_drewN ?_ _ | refine blk_drew ?_ | refine blk_alloc ?_ _)); refine blk_put (cs := #[.int .i64 0, .int .i64 0, .string (⟨#[]⟩ : ByteArray), .bool false, .int .i64 0, .int .i64 0]) ?_ 5 _ rfl; (with_reducible repeat (first | refine blk_drewN ?_ _ | refine blk_drew ?_ | refine blk_alloc ?_ _)); refine blk_put (cs := #[.int .i64 0, .int .i64 0, .string (⟨#[]⟩ : ByteArray), .bool false, .int .i64 0, .int .i64 0]) ?_ 4 _ rfl; (with_reducible repeat (first | refine blk_drewN ?_ _ | refine blk_drew ?_ | refine blk_alloc ?_ _)); refine blk_put (cs := #[.int .i64 0, .int .i64 0, .string (⟨#[]⟩ : ByteArray), .bool false, .int .i64 0, .int .i64 0]) ?_ 3 _ rfl; (with_reducible repeat (first | refine blk_drewN ?_ _ | refine blk_drew ?_ | refine blk_alloc ?_ _)); refine blk_put (cs := #[.int .i64 0, .int .i64 0, .string (⟨#[]⟩ : ByteArray), .bool false, .int .i64 0, .int .i64 0]) ?_ 2 _ rfl; (with_reducible repeat (first | refine blk_drewN ?_ _ | refine blk_drew ?_ | refine blk_alloc ?_ _)); refine blk_put (cs := #[.int .i64 0, .int .i64 0, .string (⟨#[]⟩ : ByteArray), .bool false, .int .i64 0, .int .i64 0]) ?_ 1 _ rfl; (with_reducible repeat (first | refine blk_drewN ?_ _ | refine blk_drew ?_ | refine blk_alloc ?_ _)); refine blk_put (cs := #[.int .i64 0, .int .i64 0, .string (⟨#[]⟩ : ByteArray), .bool false, .int .i64 0, .int .i64 0]) ?_ 0 _ rfl; (with_reducible repeat (first | refine blk_drewN ?_ _ | refine blk_drew ?_ | refine blk_alloc ?_ _)); exact BK283.out) Tryz.underlying36 rfl (by kernel_rfl)) rfl ?_
       exact ⟨by first | rfl | (simp [errW_none, errW_some] <;> rfl) | (simp [*, errW_none, errW_some] <;> rfl), by repeat (first | (with_reducible first | exact HB.out | apply below_alloc | apply pw_below_drewN | apply below_drew1 | refine below_set ?_ GE283.out) | exact HB.out)⟩
      ·rw [if_neg c20] at H
       have c20b0 : decide (20 < x4_1) = false := decide_eq_false c20
       clear c20
       by_cases c22 : 0 ≤ x4_1
       ·rw [if_pos c22] at H
        have c22b0 := eq_true c22
        have c22b1 : decide (0 ≤ x4_1) = true := decide_eq_true c22
        clear c22
        by_cases c23 : x4_1 ≤ (a0.size : Int)
        ·rw [if_pos c23] at H
         have c23b0 := eq_true c23
         have c23b1 : decide (x4_1 ≤ (a0.size : Int)) = true := decide_eq_true c23
         clear c23
         simp only [Option.some.injEq, Prod.mk.injEq] at H
         obtain ⟨rfl, rfl, rfl, rfl, rfl, rfl, rfl⟩ := H
         have hcz24_0 : wr.cell? ⟨gb283, 0, none⟩ = some (.int .i64 0) := (blk_cell BK283.out 0).trans rfl
         have hcz24_1 : wr.cell? ⟨gb283, 1, none⟩ = some (.int .i64 0) := (blk_cell BK283.out 1).trans rfl
         have hcz24_2 : wr.cell? ⟨gb283, 2, none⟩ = some (.string (⟨#[]⟩ : ByteArray)) := (blk_cell BK283.out 2).trans rfl
         have hcz24_3 : wr.cell? ⟨gb283, 3, none⟩ = some (.bool false) := (blk_cell BK283.out 3).trans rfl
         have hcz24_4 : wr.cell? ⟨gb283, 4, none⟩ = some (.int .i64 0) := (blk_cell BK283.out 4).trans rfl
         have hcz24_5 : wr.cell? ⟨gb283, 5, none⟩ = some (.int .i64 0) := (blk_cell BK283.out 5).trans rfl
         have hfz24_0 := blk_frozen BK283.out 0
         have hfz24_1 := blk_frozen BK283.out 1
         have hfz24_2 := blk_frozen BK283.out 2
         have hfz24_3 := blk_frozen BK283.out 3
         have hfz24_4 := blk_frozen BK283.out 4
         have hfz24_5 := blk_frozen BK283.out 5
         go_wp2
         refine bodyPost_ret (results_ct rfl _ _ gb283 36 #[.int .i64 1, .int .i64 0, .string (a0.extract 0 (x4_1 : Int).toNat), .bool false, .int .i64 0, .int .i64 0] (0, 0) _ rfl (by (with_reducible repeat (first | refine blk_drewN ?_ _ | refine blk_drew ?_ | refine blk_alloc ?_ _)); refine blk_put (cs := #[.int .i64 1, .int .i64 0, .string (a0.extract 0 (x4_1 : Int).toNat), .bool false, .int .i64 0, .int .i64 0]) ?_ 5 _ rfl; (with_reducible repeat (first | refine blk_drewN ?_ _ | refine blk_drew ?_ | refine blk_alloc ?_ _)); refine blk_put (cs := #[.int .i64 1, .int .i64 0, .string (a0.extract 0 (x4_1 : Int).toNat), .bool false, .int .i64 0, .int .i64 0]) ?_ 4 _ rfl; (with_reducible repeat (first | refine blk_drewN ?_ _ | refine blk_drew ?_ | refine blk_alloc ?_ _)); refine blk_put (cs := #[.int .i64 1, .int .i64 0, .string (a0.extract 0 (x4_1 : Int).toNat), .bool false, .int .i64 0, .int .i64 0]) ?_ 3 _ rfl; (with_reducible repeat (first | refine blk_drewN ?_ _ | refine blk_drew ?_ | refine blk_alloc ?_ _)); refine blk_put (cs := #[.int .i64 1, .int .i64 0, .string (⟨#[]⟩ : ByteArray), .bool false, .int .i64 0, .int .i64 0]) ?_ 2 _ rfl; (with_reducible repeat (first | refine blk_drewN ?_ _ | refine blk_drew ?_ | refine blk_alloc ?_ _)); refine blk_put (cs := #[.int .i64 1, .int .i64 0, .string (⟨#[]⟩ : ByteArray), .bool false, .int .i64 0, .int .i64 0]) ?_ 1 _ rfl; (with_reducible repeat (first | refine blk_drewN ?_ _ | refine blk_drew ?_ | refine blk_alloc ?_ _)); refine blk_put (cs := #[.int .i64 0, .int .i64 0, .string (⟨#[]⟩ : ByteArray), .bool false, .int .i64 0, .int .i64 0]) ?_ 0 _ rfl; (with_reducible repeat (first | refine blk_drewN ?_ _ | refine blk_drew ?_ | refine blk_alloc ?_ _)); exact BK283.out) Tryz.underlying36 rfl (by kernel_rfl)) rfl ?_
         exact ⟨by first | rfl | (simp [errW_none, errW_some] <;> rfl) | (simp [*, errW_none, errW_some] <;> rfl), by repeat (first | (with_reducible first | exact HB.out | apply below_alloc | apply pw_below_drewN | apply below_drew1 | refine below_set ?_ GE283.out) | exact HB.out)⟩
        ·rw [if_neg c23] at H
         exact absurd H (by simp)
       ·rw [if_neg c22] at H
        exact absurd H (by simp)
  ·replace c5 := Bool.eq_false_iff.mpr c5
   subst c5
   have H1 : ((spillwayref7_digit.f (bt a0 0)).bind fun t287 => (if t287 = true then ((spillwayref7_number.f k a0).bind fun bt288 => (some (bt288.1, bt288.2.1, bt288.2.2.1, bt288.2.2.2.1, bt288.2.2.2.2.1, bt288.2.2.2.2.2.1, bt288.2.2.2.2.2.2))) else (if (bt a0 0) = 34 then ((spillwayref3_Quoted.f k a0).bind fun bt295 => (if (bt295.1.size : Int) > 30 then (some (0, 0, (⟨#[]⟩ : ByteArray), false, 0, 0, 0)) else (some (4, 0, bt295.1, false, 0, 0, bt295.2)))) else ((spillwayref7_Signs.f a0).bind fun bt297 => (some (bt297.1, bt297.2.1, bt297.2.2.1, bt297.2.2.2.1, bt297.2.2.2.2.1, bt297.2.2.2.2.2.1, bt297.2.2.2.2.2.2)))))) = some (r1, r2, r3, r4, r5, r6, r7) := by rw [if_neg (show ¬ (false = true) by decide)] at H; exact H
   clear H
   have H := H1
   clear H1
   replace H := Option.bind_eq_some_iff.mp H
   obtain ⟨t287, A260, H⟩ := H
   replace H : (if t287 = true then ((spillwayref7_number.f k a0).bind fun bt288 => (some (bt288.1, bt288.2.1, bt288.2.2.1, bt288.2.2.2.1, bt288.2.2.2.2.1, bt288.2.2.2.2.2.1, bt288.2.2.2.2.2.2))) else (if (bt a0 0) = 34 then ((spillwayref3_Quoted.f k a0).bind fun bt295 => (if (bt295.1.size : Int) > 30 then (some (0, 0, (⟨#[]⟩ : ByteArray), false, 0, 0, 0)) else (some (4, 0, bt295.1, false, 0, 0, bt295.2)))) else ((spillwayref7_Signs.f a0).bind fun bt297 => (some (bt297.1, bt297.2.1, bt297.2.2.1, bt297.2.2.2.1, bt297.2.2.2.2.1, bt297.2.2.2.2.2.1, bt297.2.2.2.2.2.2))))) = some (r1, r2, r3, r4, r5, r6, r7) := H
   have A26 := Aside0.mk A260
   clear A260
   by_cases c27 : t287 = true
   ·subst c27
    have H1 : ((spillwayref7_number.f k a0).bind fun bt288 => (some (bt288.1, bt288.2.1, bt288.2.2.1, bt288.2.2.2.1, bt288.2.2.2.2.1, bt288.2.2.2.2.2.1, bt288.2.2.2.2.2.2))) = some (r1, r2, r3, r4, r5, r6, r7) := by rw [if_pos rfl] at H; exact H
    clear H
    have H := H1
    clear H1
    replace H := Option.bind_eq_some_iff.mp H
    obtain ⟨⟨t288, t289, t290, t291, t292, t293, t294⟩, A280, H⟩ := H
    replace H : (some (t288, t289, t290, t291, t292, t293, t294)) = some (r1, r2, r3, r4, r5, r6, r7) := H
    have A28 := Aside0.mk A280
    clear A280
    simp only [Option.some.injEq, Prod.mk.injEq] at H
    obtain ⟨rfl, rfl, rfl, rfl, rfl, rfl, rfl⟩ := H
    go_enter Tryz.func19, Tryz.ntmps19
    go_wp2_with (first | ((with_reducible refine gate_dst (N := 2) rfl ?_); refine box_event ?hg (N := 2) ?hd (cs := #[.int .i64 0, .int .i64 0, .string (⟨#[]⟩ : ByteArray), .bool false, .int .i64 0, .int .i64 0]) (t := 36) ?hr ?_; (case hd => rfl); (case hg => rfl); (case hr => first | (go_simp; done) | (go_simp; rfl)); intro gb283 hg w29 hbox hb; have n0_ := Aside0.mk (below_step (by repeat (first | (with_reducible first | exact HB.out | apply below_alloc | apply pw_below_drewN | apply below_drew1) | exact HB.out)) hb); have n1_ := Aside0.mk (hbox); have n2_ := Aside0.mk ((by rw [hg]; exact (below_size (by repeat (first | (with_reducible first | exact HB.out | apply below_alloc | apply pw_below_drewN | apply below_drew1) | exact HB.out))) : w.heap.size ≤ gb283)); have n3_ := Aside0.mk ((by rw [hg]; exact (below_size (by repeat (first | (with_reducible first | exact HB.out | apply below_alloc | apply pw_below_drewN | apply below_drew1) | exact HB.out))) : w.heap.size ≤ gb283)); clear HB; have HB := n0_; have BK283 := n1_; have GW283 := n2_; have GE283 := n3_; clear n0_ n1_ n2_ n3_; clear hb hbox hg; have p3 : 0 ≤ (0 : Int) := (by omega); have q3 : 0 < a0.size := (by have : (0 : Int) < (a0.size : Int) := of_decide_eq_true (by first | (with_reducible assumption) | assumption); omega); have hx3 : ∀ h : 0 < a0.size, ((a0[0]'h).toNat : Int) = bt a0 0 := bt_at a0 0; clear p3; have qi3 : (0 < (a0.size : Int)) = True := eq_true (of_decide_eq_true (by first | (with_reducible assumption) | assumption)); replace q3 := eq_true q3) | ((with_reducible refine gate_callee (f := 29) rfl ?_); refine goesL_ (some 12) rfl rfl Tryz.func29 (by kernel_rfl) rfl #[.int .u8 (bt a0 0)] rfl (by (try simp only [List.map_toArray, List.map_cons, List.map_nil]); first | done | rfl | (simp only [List.length_drop, List.length_take]; rfl)) ?_; (with_reducible refine (spillwayref7_letter.calls (bt a0 0) false _ A4.out).mono ?_); rintro e w' ⟨rfl, ⟨nd, rfl⟩⟩; refine ⟨_, rfl, ?_⟩; (try (rw [drewN_self w29]; generalize hq_ : World.drewN w29 _ = w29; have n0_ : Aside0 (w29.heap[gb283]? = some (.cells #[.int .i64 0, .int .i64 0, .string (⟨#[]⟩ : ByteArray), .bool false, .int .i64 0, .int .i64 0] 36 (0, 0))) := ⟨by rw [← hq_]; exact (by (with_reducible repeat (first | refine blk_drewN ?_ _ | refine blk_drew ?_ | refine blk_alloc ?_ _)); exact BK283.out)⟩; have n1_ : Aside0 (Below w.heap.size w w29) := ⟨by rw [← hq_]; exact (by repeat (first | (with_reducible first | exact HB.out | apply below_alloc | apply pw_below_drewN | apply below_drew1 | refine below_set ?_ GE283.out) | exact HB.out))⟩; clear BK283 HB hq_; have BK283 := n0_; have HB := n1_; clear n0_ n1_)); have p25 : 0 ≤ (0 : Int) := (by omega); have q25 : 0 < a0.size := (by have : (0 : Int) < (a0.size : Int) := of_decide_eq_true (by first | (with_reducible assumption) | assumption); omega); have hx25 : ∀ h : 0 < a0.size, ((a0[0]'h).toNat : Int) = bt a0 0 := bt_at a0 0; clear p25; have qi25 : (0 < (a0.size : Int)) = True := eq_true (of_decide_eq_true (by first | (with_reducible assumption) | assumption)); replace q25 := eq_true q25) | ((with_reducible refine gate_callee (f := 30) rfl ?_); refine goesL_ (some 42) rfl rfl Tryz.func30 (by kernel_rfl) rfl #[.int .u8 (bt a0 0)] rfl (by (try simp only [List.map_toArray, List.map_cons, List.map_nil]); first | done | rfl | (simp only [List.length_drop, List.length_take]; rfl)) ?_; (with_reducible refine (spillwayref7_digit.calls (bt a0 0) true _ A26.out).mono ?_); rintro e w' ⟨rfl, ⟨nd, rfl⟩⟩; refine ⟨_, rfl, ?_⟩; (try (rw [drewN_self w29]; generalize hq_ : World.drewN w29 _ = w29; have n0_ : Aside0 (w29.heap[gb283]? = some (.cells #[.int .i64 0, .int .i64 0, .string (⟨#[]⟩ : ByteArray), .bool false, .int .i64 0, .int .i64 0] 36 (0, 0))) := ⟨by rw [← hq_]; exact (by (with_reducible repeat (first | refine blk_drewN ?_ _ | refine blk_drew ?_ | refine blk_alloc ?_ _)); exact BK283.out)⟩; have n1_ : Aside0 (Below w.heap.size w w29) := ⟨by rw [← hq_]; exact (by repeat (first | (with_reducible first | exact HB.out | apply below_alloc | apply pw_below_drewN | apply below_drew1 | refine below_set ?_ GE283.out) | exact HB.out))⟩; clear BK283 HB hq_; have BK283 := n0_; have HB := n1_; clear n0_ n1_))) | ((with_reducible refine gate_callee (f := 31) rfl ?_); refine goesL_ (some 44) rfl rfl Tryz.func31 (by kernel_rfl) rfl #[.string a0] rfl (by (try simp only [List.map_toArray, List.map_cons, List.map_nil]); first | done | rfl | (simp only [List.length_drop, List.length_take]; rfl)) ?_; (with_reducible refine (spillwayref7_number.calls k a0 t288 t289 t290 t291 t292 t293 t294 _ A28.out).mono ?_); rintro e w30 ⟨rfl, hb⟩; refine ⟨_, rfl, ?_⟩; have n0_ := Aside0.mk (blk_below (g := gb283) (o := .cells #[.int .i64 0, .int .i64 0, .string (⟨#[]⟩ : ByteArray), .bool false, .int .i64 0, .int .i64 0] 36 (0, 0)) (by (with_reducible repeat (first | refine blk_drewN ?_ _ | refine blk_drew ?_ | refine blk_alloc ?_ _)); exact BK283.out) hb); have n1_ := Aside0.mk (below_step (by repeat (first | (with_reducible first | exact HB.out | apply below_alloc | apply pw_below_drewN | apply below_drew1 | refine below_set ?_ GE283.out) | exact HB.out)) hb); clear BK283; clear HB; have BK283 := n0_; have HB := n1_; clear n0_ n1_; (try clear hb); (try clear hb2); (try clear hk); (try clear hi); have hcz31_0 : w30.cell? ⟨gb283, 0, none⟩ = some (.int .i64 0) := (blk_cell BK283.out 0).trans rfl; have hcz31_1 : w30.cell? ⟨gb283, 1, none⟩ = some (.int .i64 0) := (blk_cell BK283.out 1).trans rfl; have hcz31_2 : w30.cell? ⟨gb283, 2, none⟩ = some (.string (⟨#[]⟩ : ByteArray)) := (blk_cell BK283.out 2).trans rfl; have hcz31_3 : w30.cell? ⟨gb283, 3, none⟩ = some (.bool false) := (blk_cell BK283.out 3).trans rfl; have hcz31_4 : w30.cell? ⟨gb283, 4, none⟩ = some (.int .i64 0) := (blk_cell BK283.out 4).trans rfl; have hcz31_5 : w30.cell? ⟨gb283, 5, none⟩ = some (.int .i64 0) := (blk_cell BK283.out 5).trans rfl; have hfz31_0 := blk_frozen BK283.out 0; have hfz31_1 := blk_frozen BK283.out 1; have hfz31_2 := blk_frozen BK283.out 2; have hfz31_3 := blk_frozen BK283.out 3; have hfz31_4 := blk_frozen BK283.out 4; have hfz31_5 := blk_frozen BK283.out 5))
    refine bodyPost_ret (results_ct rfl _ _ gb283 36 #[.int .i64 t288, .int .i64 t289, .string t290, .bool t291, .int .i64 t292, .int .i64 t293] (0, 0) _ rfl (by (with_reducible repeat (first | refine blk_drewN ?_ _ | refine blk_drew ?_ | refine blk_alloc ?_ _)); refine blk_put (cs := #[.int .i64 t288, .int .i64 t289, .string t290, .bool t291, .int .i64 t292, .int .i64 0]) ?_ 5 _ rfl; (with_reducible repeat (first | refine blk_drewN ?_ _ | refine blk_drew ?_ | refine blk_alloc ?_ _)); refine blk_put (cs := #[.int .i64 t288, .int .i64 t289, .string t290, .bool t291, .int .i64 0, .int .i64 0]) ?_ 4 _ rfl; (with_reducible repeat (first | refine blk_drewN ?_ _ | refine blk_drew ?_ | refine blk_alloc ?_ _)); refine blk_put (cs := #[.int .i64 t288, .int .i64 t289, .string t290, .bool false, .int .i64 0, .int .i64 0]) ?_ 3 _ rfl; (with_reducible repeat (first | refine blk_drewN ?_ _ | refine blk_drew ?_ | refine blk_alloc ?_ _)); refine blk_put (cs := #[.int .i64 t288, .int .i64 t289, .string (⟨#[]⟩ : ByteArray), .bool false, .int .i64 0, .int .i64 0]) ?_ 2 _ rfl; (with_reducible repeat (first | refine blk_drewN ?_ _ | refine blk_drew ?_ | refine blk_alloc ?_ _)); refine blk_put (cs := #[.int .i64 t288, .int .i64 0, .string (⟨#[]⟩ : ByteArray), .bool false, .int .i64 0, .int .i64 0]) ?_ 1 _ rfl; (with_reducible repeat (first | refine blk_drewN ?_ _ | refine blk_drew ?_ | refine blk_alloc ?_ _)); refine blk_put (cs := #[.int .i64 0, .int .i64 0, .string (⟨#[]⟩ : ByteArray), .bool false, .int .i64 0, .int .i64 0]) ?_ 0 _ rfl; (with_reducible repeat (first | refine blk_drewN ?_ _ | refine blk_drew ?_ | refine blk_alloc ?_ _)); exact BK283.out) Tryz.underlying36 rfl (by kernel_rfl)) rfl ?_
    exact ⟨by first | rfl | (simp [errW_none, errW_some] <;> rfl) | (simp [*, errW_none, errW_some] <;> rfl), by repeat (first | (with_reducible first | exact HB.out | apply below_alloc | apply pw_below_drewN | apply below_drew1 | refine below_set ?_ GE283.out) | exact HB.out)⟩
   ·replace c27 := Bool.eq_false_iff.mpr c27
    subst c27
    have H1 : (if (bt a0 0) = 34 then ((spillwayref3_Quoted.f k a0).bind fun bt295 => (if (bt295.1.size : Int) > 30 then (some (0, 0, (⟨#[]⟩ : ByteArray), false, 0, 0, 0)) else (some (4, 0, bt295.1, false, 0, 0, bt295.2)))) else ((spillwayref7_Signs.f a0).bind fun bt297 => (some (bt297.1, bt297.2.1, bt297.2.2.1, bt297.2.2.2.1, bt297.2.2.2.2.1, bt297.2.2.2.2.2.1, bt297.2.2.2.2.2.2)))) = some (r1, r2, r3, r4, r5, r6, r7) := by rw [if_neg (show ¬ (false = true) by decide)] at H; exact H
    clear H
    have H := H1
    clear H1
    by_cases c33 : (bt a0 0) = 34
    ·rw [if_pos c33] at H
     have c33b0 : ((bt a0 0) == 34) = true := beq_iff_eq.mpr c33
     have c33b1 : ((bt a0 0) != 34) = false := bne_eq_false_iff_eq.mpr c33
     clear c33
     replace H := Option.bind_eq_some_iff.mp H
     obtain ⟨⟨t295, t296⟩, A340, H⟩ := H
     replace H : (if (t295.size : Int) > 30 then (some (0, 0, (⟨#[]⟩ : ByteArray), false, 0, 0, 0)) else (some (4, 0, t295, false, 0, 0, t296))) = some (r1, r2, r3, r4, r5, r6, r7) := H
     have A34 := Aside0.mk A340
     clear A340
     by_cases c35 : (t295.size : Int) > 30
     ·rw [if_pos c35] at H
      have c35b0 : decide (30 < (t295.size : Int)) = true := decide_eq_true c35
      have c35b1 : decide (30 < t295.size) = true := decide_eq_true (by omega)
      clear c35
      simp only [Option.some.injEq, Prod.mk.injEq] at H
      obtain ⟨rfl, rfl, rfl, rfl, rfl, rfl, rfl⟩ := H
      go_enter Tryz.func19, Tryz.ntmps19
      go_wp2_with (first | ((with_reducible refine gate_dst (N := 2) rfl ?_); refine box_event ?hg (N := 2) ?hd (cs := #[.int .i64 0, .int .i64 0, .string (⟨#[]⟩ : ByteArray), .bool false, .int .i64 0, .int .i64 0]) (t := 36) ?hr ?_; (case hd => rfl); (case hg => rfl); (case hr => first | (go_simp; done) | (go_simp; rfl)); intro gb283 hg w36 hbox hb; have n0_ := Aside0.mk (below_step (by repeat (first | (with_reducible first | exact HB.out | apply below_alloc | apply pw_below_drewN | apply below_drew1) | exact HB.out)) hb); have n1_ := Aside0.mk (hbox); have n2_ := Aside0.mk ((by rw [hg]; exact (below_size (by repeat (first | (with_reducible first | exact HB.out | apply below_alloc | apply pw_below_drewN | apply below_drew1) | exact HB.out))) : w.heap.size ≤ gb283)); have n3_ := Aside0.mk ((by rw [hg]; exact (below_size (by repeat (first | (with_reducible first | exact HB.out | apply below_alloc | apply pw_below_drewN | apply below_drew1) | exact HB.out))) : w.heap.size ≤ gb283)); clear HB; have HB := n0_; have BK283 := n1_; have GW283 := n2_; have GE283 := n3_; clear n0_ n1_ n2_ n3_; clear hb hbox hg; have p3 : 0 ≤ (0 : Int) := (by omega); have q3 : 0 < a0.size := (by have : (0 : Int) < (a0.size : Int) := of_decide_eq_true (by first | (with_reducible assumption) | assumption); omega); have hx3 : ∀ h : 0 < a0.size, ((a0[0]'h).toNat : Int) = bt a0 0 := bt_at a0 0; clear p3; have qi3 : (0 < (a0.size : Int)) = True := eq_true (of_decide_eq_true (by first | (with_reducible assumption) | assumption)); replace q3 := eq_true q3) | ((with_reducible refine gate_callee (f := 29) rfl ?_); refine goesL_ (some 12) rfl rfl Tryz.func29 (by kernel_rfl) rfl #[.int .u8 (bt a0 0)] rfl (by (try simp only [List.map_toArray, List.map_cons, List.map_nil]); first | done | rfl | (simp only [List.length_drop, List.length_take]; rfl)) ?_; (with_reducible refine (spillwayref7_letter.calls (bt a0 0) false _ A4.out).mono ?_); rintro e w' ⟨rfl, ⟨nd, rfl⟩⟩; refine ⟨_, rfl, ?_⟩; (try (rw [drewN_self w36]; generalize hq_ : World.drewN w36 _ = w36; have n0_ : Aside0 (w36.heap[gb283]? = some (.cells #[.int .i64 0, .int .i64 0, .string (⟨#[]⟩ : ByteArray), .bool false, .int .i64 0, .int .i64 0] 36 (0, 0))) := ⟨by rw [← hq_]; exact (by (with_reducible repeat (first | refine blk_drewN ?_ _ | refine blk_drew ?_ | refine blk_alloc ?_ _)); exact BK283.out)⟩; have n1_ : Aside0 (Below w.heap.size w w36) := ⟨by rw [← hq_]; exact (by repeat (first | (with_reducible first | exact HB.out | apply below_alloc | apply pw_below_drewN | apply below_drew1 | refine below_set ?_ GE283.out) | exact HB.out))⟩; clear BK283 HB hq_; have BK283 := n0_; have HB := n1_; clear n0_ n1_)); have p25 : 0 ≤ (0 : Int) := (by omega); have q25 : 0 < a0.size := (by have : (0 : Int) < (a0.size : Int) := of_decide_eq_true (by first | (with_reducible assumption) | assumption); omega); have hx25 : ∀ h : 0 < a0.size, ((a0[0]'h).toNat : Int) = bt a0 0 := bt_at a0 0; clear p25; have qi25 : (0 < (a0.size : Int)) = True := eq_true (of_decide_eq_true (by first | (with_reducible assumption) | assumption)); replace q25 := eq_true q25) | ((with_reducible refine gate_callee (f := 30) rfl ?_); refine goesL_ (some 42) rfl rfl Tryz.func30 (by kernel_rfl) rfl #[.int .u8 (bt a0 0)] rfl (by (try simp only [List.map_toArray, List.map_cons, List.map_nil]); first | done | rfl | (simp only [List.length_drop, List.length_take]; rfl)) ?_; (with_reducible refine (spillwayref7_digit.calls (bt a0 0) false _ A26.out).mono ?_); rintro e w' ⟨rfl, ⟨nd, rfl⟩⟩; refine ⟨_, rfl, ?_⟩; (try (rw [drewN_self w36]; generalize hq_ : World.drewN w36 _ = w36; have n0_ : Aside0 (w36.heap[gb283]? = some (.cells #[.int .i64 0, .int .i64 0, .string (⟨#[]⟩ : ByteArray), .bool false, .int .i64 0, .int .i64 0] 36 (0, 0))) := ⟨by rw [← hq_]; exact (by (with_reducible repeat (first | refine blk_drewN ?_ _ | refine blk_drew ?_ | refine blk_alloc ?_ _)); exact BK283.out)⟩; have n1_ : Aside0 (Below w.heap.size w w36) := ⟨by rw [← hq_]; exact (by repeat (first | (with_reducible first | exact HB.out | apply below_alloc | apply pw_below_drewN | apply below_drew1 | refine below_set ?_ GE283.out) | exact HB.out))⟩; clear BK283 HB hq_; have BK283 := n0_; have HB := n1_; clear n0_ n1_)); have p32 : 0 ≤ (0 : Int) := (by omega); have q32 : 0 < a0.size := (by have : (0 : Int) < (a0.size : Int) := of_decide_eq_true (by first | (with_reducible assumption) | assumption); omega); have hx32 : ∀ h : 0 < a0.size, ((a0[0]'h).toNat : Int) = bt a0 0 := bt_at a0 0; clear p32; have qi32 : (0 < (a0.size : Int)) = True := eq_true (of_decide_eq_true (by first | (with_reducible assumption) | assumption)); replace q32 := eq_true q32) | ((with_reducible refine gate_callee (f := 32) rfl ?_); refine goesL_ (some 53) rfl rfl Tryz.func32 (by kernel_rfl) rfl #[.string a0] rfl (by (try simp only [List.map_toArray, List.map_cons, List.map_nil]); first | done | rfl | (simp only [List.length_drop, List.length_take]; rfl)) ?_; (with_reducible refine (spillwayref3_Quoted.calls k a0 t295 t296 _ A34.out).mono ?_); rintro e w37 ⟨rfl, hb⟩; refine ⟨_, rfl, ?_⟩; have n0_ := Aside0.mk (blk_below (g := gb283) (o := .cells #[.int .i64 0, .int .i64 0, .string (⟨#[]⟩ : ByteArray), .bool false, .int .i64 0, .int .i64 0] 36 (0, 0)) (by (with_reducible repeat (first | refine blk_drewN ?_ _ | refine blk_drew ?_ | refine blk_alloc ?_ _)); exact BK283.out) hb); have n1_ := Aside0.mk (below_step (by repeat (first | (with_reducible first | exact HB.out | apply below_alloc | apply pw_below_drewN | apply below_drew1 | refine below_set ?_ GE283.out) | exact HB.out)) hb); clear BK283; clear HB; have BK283 := n0_; have HB := n1_; clear n0_ n1_; (try clear hb); (try clear hb2); (try clear hk); (try clear hi); have hcz38_0 : w37.cell? ⟨gb283, 0, none⟩ = some (.int .i64 0) := (blk_cell BK283.out 0).trans rfl; have hcz38_1 : w37.cell? ⟨gb283, 1, none⟩ = some (.int .i64 0) := (blk_cell BK283.out 1).trans rfl; have hcz38_2 : w37.cell? ⟨gb283, 2, none⟩ = some (.string (⟨#[]⟩ : ByteArray)) := (blk_cell BK283.out 2).trans rfl; have hcz38_3 : w37.cell? ⟨gb283, 3, none⟩ = some (.bool false) := (blk_cell BK283.out 3).trans rfl; have hcz38_4 : w37.cell? ⟨gb283, 4, none⟩ = some (.int .i64 0) := (blk_cell BK283.out 4).trans rfl; have hcz38_5 : w37.cell? ⟨gb283, 5, none⟩ = some (.int .i64 0) := (blk_cell BK283.out 5).trans rfl; have hfz38_0 := blk_frozen BK283.out 0; have hfz38_1 := blk_frozen BK283.out 1; have hfz38_2 := blk_frozen BK283.out 2; have hfz38_3 := blk_frozen BK283.out 3; have hfz38_4 := blk_frozen BK283.out 4; have hfz38_5 := blk_frozen BK283.out 5))
      refine bodyPost_ret (results_ct rfl _ _ gb283 36 #[.int .i64 0, .int .i64 0, .string (⟨#[]⟩ : ByteArray), .bool false, .int .i64 0, .int .i64 0] (0, 0) _ rfl (by (with_reducible repeat (first | refine blk_drewN ?_ _ | refine blk_drew ?_ | refine blk_alloc ?_ _)); refine blk_put (cs := #[.int .i64 0, .int .i64 0, .string (⟨#[]⟩ : ByteArray), .bool false, .int .i64 0, .int .i64 0]) ?_ 5 _ rfl; (with_reducible repeat (first | refine blk_drewN ?_ _ | refine blk_drew ?_ | refine blk_alloc ?_ _)); refine blk_put (cs := #[.int .i64 0, .int .i64 0, .string (⟨#[]⟩ : ByteArray), .bool false, .int .i64 0, .int .i64 0]) ?_ 4 _ rfl; (with_reducible repeat (first | refine blk_drewN ?_ _ | refine blk_drew ?_ | refine blk_alloc ?_ _)); refine blk_put (cs := #[.int .i64 0, .int .i64 0, .string (⟨#[]⟩ : ByteArray), .bool false, .int .i64 0, .int .i64 0]) ?_ 3 _ rfl; (with_reducible repeat (first | refine blk_drewN ?_ _ | refine blk_drew ?_ | refine blk_alloc ?_ _)); refine blk_put (cs := #[.int .i64 0, .int .i64 0, .string (⟨#[]⟩ : ByteArray), .bool false, .int .i64 0, .int .i64 0]) ?_ 2 _ rfl; (with_reducible repeat (first | refine blk_drewN ?_ _ | refine blk_drew ?_ | refine blk_alloc ?_ _)); refine blk_put (cs := #[.int .i64 0, .int .i64 0, .string (⟨#[]⟩ : ByteArray), .bool false, .int .i64 0, .int .i64 0]) ?_ 1 _ rfl; (with_reducible repeat (first | refine blk_drewN ?_ _ | refine blk_drew ?_ | refine blk_alloc ?_ _)); refine blk_put (cs := #[.int .i64 0, .int .i64 0, .string (⟨#[]⟩ : ByteArray), .bool false, .int .i64 0, .int .i64 0]) ?_ 0 _ rfl; (with_reducible repeat (first | refine blk_drewN ?_ _ | refine blk_drew ?_ | refine blk_alloc ?_ _)); exact BK283.out) Tryz.underlying36 rfl (by kernel_rfl)) rfl ?_
      exact ⟨by first | rfl | (simp [errW_none, errW_some] <;> rfl) | (simp [*, errW_none, errW_some] <;> rfl), by repeat (first | (with_reducible first | exact HB.out | apply below_alloc | apply pw_below_drewN | apply below_drew1 | refine below_set ?_ GE283.out) | exact HB.out)⟩
     ·rw [if_neg c35] at H
      have c35b0 : decide (30 < (t295.size : Int)) = false := decide_eq_false c35
      have c35b1 : decide (30 < t295.size) = false := decide_eq_false (by omega)
      clear c35
      simp only [Option.some.injEq, Prod.mk.injEq] at H
      obtain ⟨rfl, rfl, rfl, rfl, rfl, rfl, rfl⟩ := H
      go_enter Tryz.func19, Tryz.ntmps19
      go_wp2_with (first | ((with_reducible refine gate_dst (N := 2) rfl ?_); refine box_event ?hg (N := 2) ?hd (cs := #[.int .i64 0, .int .i64 0, .string (⟨#[]⟩ : ByteArray), .bool false, .int .i64 0, .int .i64 0]) (t := 36) ?hr ?_; (case hd => rfl); (case hg => rfl); (case hr => first | (go_simp; done) | (go_simp; rfl)); intro gb283 hg w39 hbox hb; have n0_ := Aside0.mk (below_step (by repeat (first | (with_reducible first | exact HB.out | apply below_alloc | apply pw_below_drewN | apply below_drew1) | exact HB.out)) hb); have n1_ := Aside0.mk (hbox); have n2_ := Aside0.mk ((by rw [hg]; exact (below_size (by repeat (first | (with_reducible first | exact HB.out | apply below_alloc | apply pw_below_drewN | apply below_drew1) | exact HB.out))) : w.heap.size ≤ gb283)); have n3_ := Aside0.mk ((by rw [hg]; exact (below_size (by repeat (first | (with_reducible first | exact HB.out | apply below_alloc | apply pw_below_drewN | apply below_drew1) | exact HB.out))) : w.heap.size ≤ gb283)); clear HB; have HB := n0_; have BK283 := n1_; have GW283 := n2_; have GE283 := n3_; clear n0_ n1_ n2_ n3_; clear hb hbox hg; have p3 : 0 ≤ (0 : Int) := (by omega); have q3 : 0 < a0.size := (by have : (0 : Int) < (a0.size : Int) := of_decide_eq_true (by first | (with_reducible assumption) | assumption); omega); have hx3 : ∀ h : 0 < a0.size, ((a0[0]'h).toNat : Int) = bt a0 0 := bt_at a0 0; clear p3; have qi3 : (0 < (a0.size : Int)) = True := eq_true (of_decide_eq_true (by first | (with_reducible assumption) | assumption)); replace q3 := eq_true q3) | ((with_reducible refine gate_callee (f := 29) rfl ?_); refine goesL_ (some 12) rfl rfl Tryz.func29 (by kernel_rfl) rfl #[.int .u8 (bt a0 0)] rfl (by (try simp only [List.map_toArray, List.map_cons, List.map_nil]); first | done | rfl | (simp only [List.length_drop, List.length_take]; rfl)) ?_; (with_reducible refine (spillwayref7_letter.calls (bt a0 0) false _ A4.out).mono ?_); rintro e w' ⟨rfl, ⟨nd, rfl⟩⟩; refine ⟨_, rfl, ?_⟩; (try (rw [drewN_self w39]; generalize hq_ : World.drewN w39 _ = w39; have n0_ : Aside0 (w39.heap[gb283]? = some (.cells #[.int .i64 0, .int .i64 0, .string (⟨#[]⟩ : ByteArray), .bool false, .int .i64 0, .int .i64 0] 36 (0, 0))) := ⟨by rw [← hq_]; exact (by (with_reducible repeat (first | refine blk_drewN ?_ _ | refine blk_drew ?_ | refine blk_alloc ?_ _)); exact BK283.out)⟩; have n1_ : Aside0 (Below w.heap.size w w39) := ⟨by rw [← hq_]; exact (by repeat (first | (with_reducible first | exact HB.out | apply below_alloc | apply pw_below_drewN | apply below_drew1 | refine below_set ?_ GE283.out) | exact HB.out))⟩; clear BK283 HB hq_; have BK283 := n0_; have HB := n1_; clear n0_ n1_)); have p25 : 0 ≤ (0 : Int) := (by omega); have q25 : 0 < a0.size := (by have : (0 : Int) < (a0.size : Int) := of_decide_eq_true (by first | (with_reducible assumption) | assumption); omega); have hx25 : ∀ h : 0 < a0.size, ((a0[0]'h).toNat : Int) = bt a0 0 := bt_at a0 0; clear p25; have qi25 : (0 < (a0.size : Int)) = True := eq_true (of_decide_eq_true (by first | (with_reducible assumption) | assumption)); replace q25 := eq_true q25) | ((with_reducible refine gate_callee (f := 30) rfl ?_); refine goesL_ (some 42) rfl rfl Tryz.func30 (by kernel_rfl) rfl #[.int .u8 (bt a0 0)] rfl (by (try simp only [List.map_toArray, List.map_cons, List.map_nil]); first | done | rfl | (simp only [List.length_drop, List.length_take]; rfl)) ?_; (with_reducible refine (spillwayref7_digit.calls (bt a0 0) false _ A26.out).mono ?_); rintro e w' ⟨rfl, ⟨nd, rfl⟩⟩; refine ⟨_, rfl, ?_⟩; (try (rw [drewN_self w39]; generalize hq_ : World.drewN w39 _ = w39; have n0_ : Aside0 (w39.heap[gb283]? = some (.cells #[.int .i64 0, .int .i64 0, .string (⟨#[]⟩ : ByteArray), .bool false, .int .i64 0, .int .i64 0] 36 (0, 0))) := ⟨by rw [← hq_]; exact (by (with_reducible repeat (first | refine blk_drewN ?_ _ | refine blk_drew ?_ | refine blk_alloc ?_ _)); exact BK283.out)⟩; have n1_ : Aside0 (Below w.heap.size w w39) := ⟨by rw [← hq_]; exact (by repeat (first | (with_reducible first | exact HB.out | apply below_alloc | apply pw_below_drewN | apply below_drew1 | refine below_set ?_ GE283.out) | exact HB.out))⟩; clear BK283 HB hq_; have BK283 := n0_; have HB := n1_; clear n0_ n1_)); have p32 : 0 ≤ (0 : Int) := (by omega); have q32 : 0 < a0.size := (by have : (0 : Int) < (a0.size : Int) := of_decide_eq_true (by first | (with_reducible assumption) | assumption); omega); have hx32 : ∀ h : 0 < a0.size, ((a0[0]'h).toNat : Int) = bt a0 0 := bt_at a0 0; clear p32; have qi32 : (0 < (a0.size : Int)) = True := eq_true (of_decide_eq_true (by first | (with_reducible assumption) | assumption)); replace q32 := eq_true q32) | ((with_reducible refine gate_callee (f := 32) rfl ?_); refine goesL_ (some 53) rfl rfl Tryz.func32 (by kernel_rfl) rfl #[.string a0] rfl (by (try simp only [List.map_toArray, List.map_cons, List.map_nil]); first | done | rfl | (simp only [List.length_drop, List.length_take]; rfl)) ?_; (with_reducible refine (spillwayref3_Quoted.calls k a0 t295 t296 _ A34.out).mono ?_); rintro e w40 ⟨rfl, hb⟩; refine ⟨_, rfl, ?_⟩; have n0_ := Aside0.mk (blk_below (g := gb283) (o := .cells #[.int .i64 0, .int .i64 0, .string (⟨#[]⟩ : ByteArray), .bool false, .int .i64 0, .int .i64 0] 36 (0, 0)) (by (with_reducible repeat (first | refine blk_drewN ?_ _ | refine blk_drew ?_ | refine blk_alloc ?_ _)); exact BK283.out) hb); have n1_ := Aside0.mk (below_step (by repeat (first | (with_reducible first | exact HB.out | apply below_alloc | apply pw_below_drewN | apply below_drew1 | refine below_set ?_ GE283.out) | exact HB.out)) hb); clear BK283; clear HB; have BK283 := n0_; have HB := n1_; clear n0_ n1_; (try clear hb); (try clear hb2); (try clear hk); (try clear hi); have hcz41_0 : w40.cell? ⟨gb283, 0, none⟩ = some (.int .i64 0) := (blk_cell BK283.out 0).trans rfl; have hcz41_1 : w40.cell? ⟨gb283, 1, none⟩ = some (.int .i64 0) := (blk_cell BK283.out 1).trans rfl; have hcz41_2 : w40.cell? ⟨gb283, 2, none⟩ = some (.string (⟨#[]⟩ : ByteArray)) := (blk_cell BK283.out 2).trans rfl; have hcz41_3 : w40.cell? ⟨gb283, 3, none⟩ = some (.bool false) := (blk_cell BK283.out 3).trans rfl; have hcz41_4 : w40.cell? ⟨gb283, 4, none⟩ = some (.int .i64 0) := (blk_cell BK283.out 4).trans rfl; have hcz41_5 : w40.cell? ⟨gb283, 5, none⟩ = some (.int .i64 0) := (blk_cell BK283.out 5).trans rfl; have hfz41_0 := blk_frozen BK283.out 0; have hfz41_1 := blk_frozen BK283.out 1; have hfz41_2 := blk_frozen BK283.out 2; have hfz41_3 := blk_frozen BK283.out 3; have hfz41_4 := blk_frozen BK283.out 4; have hfz41_5 := blk_frozen BK283.out 5))
      refine bodyPost_ret (results_ct rfl _ _ gb283 36 #[.int .i64 4, .int .i64 0, .string t295, .bool false, .int .i64 0, .int .i64 0] (0, 0) _ rfl (by (with_reducible repeat (first | refine blk_drewN ?_ _ | refine blk_drew ?_ | refine blk_alloc ?_ _)); refine blk_put (cs := #[.int .i64 4, .int .i64 0, .string t295, .bool false, .int .i64 0, .int .i64 0]) ?_ 5 _ rfl; (with_reducible repeat (first | refine blk_drewN ?_ _ | refine blk_drew ?_ | refine blk_alloc ?_ _)); refine blk_put (cs := #[.int .i64 4, .int .i64 0, .string t295, .bool false, .int .i64 0, .int .i64 0]) ?_ 4 _ rfl; (with_reducible repeat (first | refine blk_drewN ?_ _ | refine blk_drew ?_ | refine blk_alloc ?_ _)); refine blk_put (cs := #[.int .i64 4, .int .i64 0, .string t295, .bool false, .int .i64 0, .int .i64 0]) ?_ 3 _ rfl; (with_reducible repeat (first | refine blk_drewN ?_ _ | refine blk_drew ?_ | refine blk_alloc ?_ _)); refine blk_put (cs := #[.int .i64 4, .int .i64 0, .string (⟨#[]⟩ : ByteArray), .bool false, .int .i64 0, .int .i64 0]) ?_ 2 _ rfl; (with_reducible repeat (first | refine blk_drewN ?_ _ | refine blk_drew ?_ | refine blk_alloc ?_ _)); refine blk_put (cs := #[.int .i64 4, .int .i64 0, .string (⟨#[]⟩ : ByteArray), .bool false, .int .i64 0, .int .i64 0]) ?_ 1 _ rfl; (with_reducible repeat (first | refine blk_drewN ?_ _ | refine blk_drew ?_ | refine blk_alloc ?_ _)); refine blk_put (cs := #[.int .i64 0, .int .i64 0, .string (⟨#[]⟩ : ByteArray), .bool false, .int .i64 0, .int .i64 0]) ?_ 0 _ rfl; (with_reducible repeat (first | refine blk_drewN ?_ _ | refine blk_drew ?_ | refine blk_alloc ?_ _)); exact BK283.out) Tryz.underlying36 rfl (by kernel_rfl)) rfl ?_
      exact ⟨by first | rfl | (simp [errW_none, errW_some] <;> rfl) | (simp [*, errW_none, errW_some] <;> rfl), by repeat (first | (with_reducible first | exact HB.out | apply below_alloc | apply pw_below_drewN | apply below_drew1 | refine below_set ?_ GE283.out) | exact HB.out)⟩
    ·rw [if_neg c33] at H
     have c33b0 : ((bt a0 0) == 34) = false := beq_eq_false_iff_ne.mpr c33
     have c33b1 : ((bt a0 0) != 34) = true := bne_iff_ne.mpr c33
     replace H := Option.bind_eq_some_iff.mp H
     obtain ⟨⟨t297, t298, t299, t300, t301, t302, t303⟩, A420, H⟩ := H
     replace H : (some (t297, t298, t299, t300, t301, t302, t303)) = some (r1, r2, r3, r4, r5, r6, r7) := H
     have A42 := Aside0.mk A420
     clear A420
     simp only [Option.some.injEq, Prod.mk.injEq] at H
     obtain ⟨rfl, rfl, rfl, rfl, rfl, rfl, rfl⟩ := H
     exact token_sign a0 t297 t298 t299 t300 t301 t302 t303 w A4 A26 c2b0 c33b0 A42.out
 ·rw [if_neg c2] at H
  exact absurd H (by simp)

end Go.Proofs.YtnjobjogddjelaaGreatDoor.Print
end

section
namespace Go.Proofs.YtnjobjogddjelaaGreatDoor.Print
open Go.RowKit Go.Proofs.YtnjobjogddjelaaGreatDoorX Go.Proofs.YtnjobjogddjelaaGreatDoorW.PrintWords Go.Proofs.YtnjobjogddjelaaGreatDoorW.PrintLast Go.Proofs.YtnjobjogddjelaaGreatDoorW.PrintMore
attribute [local go_sem] max2_int min2_int max_two min_two max_three min_three max_four min_four

/-! ### spillwayref7_Scan: function 10 -/
mutual
def spillwayref7_Scan.l0 : Nat → ByteArray → List (S36) → Int → Option ((List (S36)) × Int × Int)
 | 0, _, _, _ => none
 | k + 1, x0, x5, x6 => if x6 < (x0.size : Int) then (if 0 ≤ x6 then (if (bt x0 x6) = 32 then (spillwayref7_Scan.j1 k x0 x5 x6 true) else (spillwayref7_Scan.j1 k x0 x5 x6 ((bt x0 x6) == 9))) else (none)) else (if x5.length < 2513169434916 then (some ((x5 ++ [(⟨0, (x0.size : Int), (⟨#[]⟩ : ByteArray), (⟨false, 0⟩ : S34), 0⟩ : S36)]), 0, 0)) else (none))
def spillwayref7_Scan.j1 : Nat → ByteArray → List (S36) → Int → Bool → Option ((List (S36)) × Int × Int)
 | 0, _, _, _, _ => none
 | k + 1, x0, x5, x6, x25 => if x25 = true then (spillwayref7_Scan.l0 k x0 x5 (wrap64 (x6 + 1))) else (if 0 ≤ x6 then (if x6 ≤ (x0.size : Int) then ((spillwayref7_token.f k (x0.extract (x6 : Int).toNat x0.size)).bind fun bt307 => (if bt307.2.2.2.2.2.2 = 0 then (some (([] : List (S36)), x6, 70)) else (if x5.length < 2513169434916 then (spillwayref7_Scan.l0 k x0 (x5 ++ [(⟨bt307.1, x6, bt307.2.2.1, (⟨bt307.2.2.2.1, bt307.2.2.2.2.1⟩ : S34), bt307.2.2.2.2.2.1⟩ : S36)]) (wrap64 (x6 + bt307.2.2.2.2.2.2))) else (none)))) else (none)) else (none))
end
def spillwayref7_Scan.f (k : Nat) (a0 : ByteArray) : Option ((List (S36)) × Int × Int) := if (a0.size : Int) > 600 then (some (([] : List (S36)), 0, 11)) else (spillwayref7_Scan.l0 k a0 ([] : List (S36)) 0)
theorem spillwayref7_Scan.mono_l : ∀ k, (∀ y0 y1 y2, LeO (spillwayref7_Scan.l0 k y0 y1 y2) (spillwayref7_Scan.l0 (k + 1) y0 y1 y2)) ∧ (∀ y0 y1 y2 y3, LeO (spillwayref7_Scan.j1 k y0 y1 y2 y3) (spillwayref7_Scan.j1 (k + 1) y0 y1 y2 y3))
 | 0 => ⟨fun _ _ _ r h => by simp [spillwayref7_Scan.l0] at h, fun _ _ _ _ r h => by simp [spillwayref7_Scan.j1] at h⟩
 | k + 1 => by
  obtain ⟨ih0, ih1⟩ := spillwayref7_Scan.mono_l k
  refine ⟨?_, ?_⟩
  ·intro y0 y1 y2
   unfold spillwayref7_Scan.l0
   repeat' first
   | (with_reducible exact ih0 _ _ _)
   | (with_reducible exact ih1 _ _ _ _)
   | (with_reducible exact spillwayref7_token.mono _ _)
   | (with_reducible exact LeO.refl _)
   | (with_reducible exact LeO.none _)
   | (with_reducible refine LeO.ite ?_ ?_)
   | (with_reducible refine LeO.bind ?_ (fun _ => ?_))
   | exact ih0 _ _ _
   | exact ih1 _ _ _ _
   | exact spillwayref7_token.mono _ _
   | exact LeO.none _
   | refine LeO.ite ?_ ?_
   | refine LeO.bind ?_ (fun _ => ?_)
  ·intro y0 y1 y2 y3
   unfold spillwayref7_Scan.j1
   repeat' first
   | (with_reducible exact ih0 _ _ _)
   | (with_reducible exact ih1 _ _ _ _)
   | (with_reducible exact spillwayref7_token.mono _ _)
   | (with_reducible exact LeO.refl _)
   | (with_reducible exact LeO.none _)
   | (with_reducible refine LeO.ite ?_ ?_)
   | (with_reducible refine LeO.bind ?_ (fun _ => ?_))
   | exact ih0 _ _ _
   | exact ih1 _ _ _ _
   | exact spillwayref7_token.mono _ _
   | exact LeO.none _
   | refine LeO.ite ?_ ?_
   | refine LeO.bind ?_ (fun _ => ?_)
theorem spillwayref7_Scan.mono : ∀ a0 k, LeO (spillwayref7_Scan.f k a0) (spillwayref7_Scan.f (k + 1) a0) := by
 intro a0 k
 obtain ⟨ih0, ih1⟩ := spillwayref7_Scan.mono_l k
 unfold spillwayref7_Scan.f
 repeat' first
   | (with_reducible exact ih0 _ _ _)
   | (with_reducible exact ih1 _ _ _ _)
   | (with_reducible exact spillwayref7_token.mono _ _)
   | (with_reducible exact LeO.refl _)
   | (with_reducible exact LeO.none _)
   | (with_reducible refine LeO.ite ?_ ?_)
   | (with_reducible refine LeO.bind ?_ (fun _ => ?_))
   | exact ih0 _ _ _
   | exact ih1 _ _ _ _
   | exact spillwayref7_token.mono _ _
   | exact LeO.none _
   | refine LeO.ite ?_ ?_
   | refine LeO.bind ?_ (fun _ => ?_)
set_option maxHeartbeats 8000000 in
set_option maxRecDepth 100000 in
theorem spillwayref7_Scan.calls (k : Nat) (a0 : ByteArray) (r1 : List (S36)) (r2 : Int) (r3 : Int) (w : World) (h : spillwayref7_Scan.f k a0 = some (r1, r2, r3)) :
  Calls Tryz.prog 10 #[.string a0] w fun e w' => ∃ v0_ : Value, e = .returned (.tuple #[v0_, .int .i64 r2, .int .i64 r3]) ∧ Kd.R k36 36 w' w.heap.size (fun _ => True) v0_ r1 ∧ Below w.heap.size w w' := by
 have hu36 := Tryz.underlying36
 have HB := Aside0.mk (Below.refl w.heap.size w)
 have H : (if (a0.size : Int) > 600 then (some (([] : List (S36)), 0, 11)) else (spillwayref7_Scan.l0 k a0 ([] : List (S36)) 0)) = some (r1, r2, r3) := h
 clear h
 by_cases c2 : (a0.size : Int) > 600
 ·rw [if_pos c2] at H
  have c2b0 : decide (600 < (a0.size : Int)) = true := decide_eq_true c2
  have c2b1 : decide (600 < a0.size) = true := decide_eq_true (by omega)
  clear c2
  simp only [Option.some.injEq, Prod.mk.injEq] at H
  obtain ⟨rfl, rfl, rfl⟩ := H
  go_enter Tryz.func10, Tryz.ntmps10
  go_wp2
  go_ret3
  exact ⟨_, by first | rfl | (simp [errW_none, errW_some] <;> rfl) | (simp [*, errW_none, errW_some] <;> rfl), by first | exact Kd.R_nil _ _ _ _ _ | exact Kd.N_nil _ _ _ _ _ | exact Kd.V_nil _ _ _ _ _ | exact Kd.Q_nil _ _ _ _ _ | exact Kd.S_nil _ _ _ _ _, by repeat (first | (with_reducible first | exact HB.out | apply below_alloc | apply pw_below_drewN | apply below_drew1) | exact HB.out)⟩
 ·rw [if_neg c2] at H
  have c2b0 : decide (600 < (a0.size : Int)) = false := decide_eq_false c2
  have c2b1 : decide (600 < a0.size) = false := decide_eq_false (by omega)
  clear c2
  have H' := Aside0.mk H
  clear H
  go_enter Tryz.func10, Tryz.ntmps10
  go_wp2
  go_loopg [5, 6] k (fun kq v5 v6 w' => ∃ (x5_1 : List (S36)) (x6_1 : Int), v6 = .int .i64 x6_1 ∧ Aside0 (spillwayref7_Scan.l0 kq a0 x5_1 x6_1 = some (r1, r2, r3)) ∧ Aside0 (kq ≤ k) ∧ Aside0 (Kd.R k36 36 w' w.heap.size (fun _ => True) v5 x5_1) ∧ Aside0 (Below w.heap.size w w'))
  case atStart => exact ⟨(([] : List (S36))), (0), (by first | rfl | (simp; done) | (simp [*]; done)), H', ⟨Nat.le_refl _⟩, ⟨by first | exact Kd.R_nil _ _ _ _ _ | exact Kd.N_nil _ _ _ _ _ | exact Kd.V_nil _ _ _ _ _ | exact Kd.Q_nil _ _ _ _ _ | exact Kd.S_nil _ _ _ _ _⟩, ⟨by repeat (first | (with_reducible first | exact HB.out | apply below_alloc | apply pw_below_drewN | apply below_drew1) | exact HB.out)⟩⟩
  case round =>
   clear H'
   try clear c1
   try clear c2
   try clear c2b0
   try clear c2b1
   try clear p2
   obtain ⟨x5_1, x6_1, rfl, HA, HK1, HO_5, HB⟩ := hrel
   cases gk with
   | zero => exact absurd HA.out (by simp [spillwayref7_Scan.l0])
   | succ k1 =>
    have H := HA.out
    clear HA
    simp only [spillwayref7_Scan.l0] at H
    by_cases c3 : x6_1 < (a0.size : Int)
    ·rw [if_pos c3] at H
     have c3b0 : decide (x6_1 < (a0.size : Int)) = true := decide_eq_true c3
     clear c3
     have HC4 := Aside0.mk H
     clear H
     go_upto_region 6 with (fail)
     go_cut [25] (fun v25 wc => ∃ (kq : Nat) (x25_3 : Bool), v25 = .bool x25_3 ∧ Aside0 (spillwayref7_Scan.j1 kq a0 x5_1 x6_1 x25_3 = some (r1, r2, r3)) ∧ Aside0 (kq ≤ k1) ∧ Aside0 (Kd.R k36 36 wc w.heap.size (fun _ => True) u5 x5_1) ∧ Aside0 (Below w.heap.size w wc))
     case first =>
      have H := HC4.out
      clear HC4
      by_cases c5 : 0 ≤ x6_1
      ·rw [if_pos c5] at H
       have c5b0 : decide (0 ≤ x6_1) = true := decide_eq_true c5
       clear c5
       (first | rw [c5b0] | (simp only [i64_w, i32_w]; rw [c5b0]) | skip)
       by_cases c7 : (bt a0 x6_1) = 32
       ·rw [if_pos c7] at H
        have c7b0 : ((bt a0 x6_1) == 32) = true := beq_iff_eq.mpr c7
        have c7b1 : ((bt a0 x6_1) != 32) = false := bne_eq_false_iff_eq.mpr c7
        clear c7
        have H' := Aside0.mk H
        clear H
        have p6 : 0 ≤ (x6_1 : Int) := of_decide_eq_true (by first | (with_reducible assumption) | assumption)
        have q6 : x6_1 < (a0.size : Int) := of_decide_eq_true (by first | (with_reducible assumption) | assumption)
        have hx6 := bt_at a0 x6_1
        replace p6 := eq_true p6
        replace q6 := eq_true q6
        go_wp2
        go_meet
        case rel => exact ⟨_, (true), (by first | rfl | (simp; done) | (simp [*]; done)), H', ⟨by have := HK1.out; first | omega | exact Nat.le_refl _⟩, ⟨by (with_reducible repeat (first | apply Kd.R_alloc | apply Kd.R_drewN | apply Kd.R_drew)); exact HO_5.out⟩, ⟨by repeat (first | (with_reducible first | exact HB.out | apply below_alloc | apply pw_below_drewN | apply below_drew1) | exact HB.out)⟩⟩
       ·rw [if_neg c7] at H
        have c7b0 : ((bt a0 x6_1) == 32) = false := beq_eq_false_iff_ne.mpr c7
        have c7b1 : ((bt a0 x6_1) != 32) = true := bne_iff_ne.mpr c7
        have H' := Aside0.mk H
        clear H
        have p6 : 0 ≤ (x6_1 : Int) := of_decide_eq_true (by first | (with_reducible assumption) | assumption)
        have q6 : x6_1 < (a0.size : Int) := of_decide_eq_true (by first | (with_reducible assumption) | assumption)
        have hx6 := bt_at a0 x6_1
        replace p6 := eq_true p6
        replace q6 := eq_true q6
        have p8 : 0 ≤ (x6_1 : Int) := of_decide_eq_true (by first | (with_reducible assumption) | assumption)
        have q8 : x6_1 < (a0.size : Int) := of_decide_eq_true (by first | (with_reducible assumption) | assumption)
        have hx8 := bt_at a0 x6_1
        replace p8 := eq_true p8
        replace q8 := eq_true q8
        go_wp2
        go_meet
        case rel => exact ⟨_, (((bt a0 x6_1) == 9)), (by first | rfl | (simp; done) | (simp [*]; done)), H', ⟨by have := HK1.out; first | omega | exact Nat.le_refl _⟩, ⟨by (with_reducible repeat (first | apply Kd.R_alloc | apply Kd.R_drewN | apply Kd.R_drew)); exact HO_5.out⟩, ⟨by repeat (first | (with_reducible first | exact HB.out | apply below_alloc | apply pw_below_drewN | apply below_drew1) | exact HB.out)⟩⟩
      ·rw [if_neg c5] at H
       exact absurd H (by simp)
     case rest =>
      clear HC4
      try clear c1
      try clear c2
      try clear c2b0
      try clear c2b1
      try clear p2
      try clear c3
      try clear c3b0
      try clear c5
      try clear c5b0
      try clear p6
      try clear q6
      try clear hx6
      try clear c7
      try clear c7b0
      try clear c7b1
      try clear p8
      try clear q8
      try clear hx8
      try clear p2
      try clear p6
      try clear p8
      try clear q6
      try clear q8
      obtain ⟨kq, x25_3, rfl, HA, HJ3, HO_5, HB⟩ := hcut
      cases kq with
      | zero => exact absurd HA.out (by simp [spillwayref7_Scan.j1])
      | succ kj3 =>
       have H := HA.out
       clear HA
       simp only [spillwayref7_Scan.j1] at H
       by_cases c9 : x25_3 = true
       ·subst c9
        have H1 : (spillwayref7_Scan.l0 kj3 a0 x5_1 (wrap64 (x6_1 + 1))) = some (r1, r2, r3) := by rw [if_pos rfl] at H; exact H
        clear H
        have H := H1
        clear H1
        have H' := Aside0.mk H
        clear H
        go_wp2
        go_roundg kj3
        case measure => have := HK1.out; have := HJ3.out; omega
        case rel => exact ⟨(x5_1), (wrap64 (x6_1 + 1)), (by first | rfl | (simp; done) | (simp [*]; done)), H', ⟨by have := HK1.out; have := HJ3.out; omega⟩, ⟨by (with_reducible repeat (first | apply Kd.R_alloc | apply Kd.R_drewN | apply Kd.R_drew)); exact HO_5.out⟩, ⟨by repeat (first | (with_reducible first | exact HB.out | apply below_alloc | apply pw_below_drewN | apply below_drew1) | exact HB.out)⟩⟩
       ·replace c9 := Bool.eq_false_iff.mpr c9
        subst c9
        have H1 : (if 0 ≤ x6_1 then (if x6_1 ≤ (a0.size : Int) then ((spillwayref7_token.f kj3 (a0.extract (x6_1 : Int).toNat a0.size)).bind fun bt307 => (if bt307.2.2.2.2.2.2 = 0 then (some (([] : List (S36)), x6_1, 70)) else (if x5_1.length < 2513169434916 then (spillwayref7_Scan.l0 kj3 a0 (x5_1 ++ [(⟨bt307.1, x6_1, bt307.2.2.1, (⟨bt307.2.2.2.1, bt307.2.2.2.2.1⟩ : S34), bt307.2.2.2.2.2.1⟩ : S36)]) (wrap64 (x6_1 + bt307.2.2.2.2.2.2))) else (none)))) else (none)) else (none)) = some (r1, r2, r3) := by rw [if_neg (show ¬ (false = true) by decide)] at H; exact H
        clear H
        have H := H1
        clear H1
        by_cases c10 : 0 ≤ x6_1
        ·rw [if_pos c10] at H
         have c10b0 := eq_true c10
         have c10b1 : decide (0 ≤ x6_1) = true := decide_eq_true c10
         clear c10
         by_cases c11 : x6_1 ≤ (a0.size : Int)
         ·rw [if_pos c11] at H
          have c11b0 := eq_true c11
          have c11b1 : decide (x6_1 ≤ (a0.size : Int)) = true := decide_eq_true c11
          clear c11
          replace H := Option.bind_eq_some_iff.mp H
          obtain ⟨⟨t307, t308, t309, t310, t311, t312, t313⟩, A120, H⟩ := H
          replace H : (if t313 = 0 then (some (([] : List (S36)), x6_1, 70)) else (if x5_1.length < 2513169434916 then (spillwayref7_Scan.l0 kj3 a0 (x5_1 ++ [(⟨t307, x6_1, t309, (⟨t310, t311⟩ : S34), t312⟩ : S36)]) (wrap64 (x6_1 + t313))) else (none))) = some (r1, r2, r3) := H
          have A12 := Aside0.mk A120
          clear A120
          by_cases c13 : t313 = 0
          ·rw [if_pos c13] at H
           have c13b0 : (t313 == 0) = true := beq_iff_eq.mpr c13
           have c13b1 : (t313 != 0) = false := bne_eq_false_iff_eq.mpr c13
           clear c13
           simp only [Option.some.injEq, Prod.mk.injEq] at H
           obtain ⟨rfl, rfl, rfl⟩ := H
           go_wp2_with (first | ((with_reducible refine gate_callee (f := 19) rfl ?_); refine goesL_ (some 32) rfl rfl Tryz.func19 (by kernel_rfl) rfl #[.string (a0.extract (x6_1 : Int).toNat a0.size)] rfl (by (try simp only [List.map_toArray, List.map_cons, List.map_nil]); first | done | rfl | (simp only [List.length_drop, List.length_take]; rfl)) ?_; (with_reducible refine (spillwayref7_token.calls kj3 (a0.extract (x6_1 : Int).toNat a0.size) t307 t308 t309 t310 t311 t312 t313 _ A12.out).mono ?_); rintro e w14 ⟨rfl, hb⟩; refine ⟨_, rfl, ?_⟩; have n0_ := Aside0.mk (Kd.R_below (by (with_reducible repeat (first | apply Kd.R_alloc | apply Kd.R_drewN | apply Kd.R_drew)); exact HO_5.out) hb); have n1_ := Aside0.mk (below_step (by repeat (first | (with_reducible first | exact HB.out | apply below_alloc | apply pw_below_drewN | apply below_drew1) | exact HB.out)) hb); clear HO_5; clear HB; have HO_5 := n0_; have HB := n1_; clear n0_ n1_; (try clear hb); (try clear hb2); (try clear hk); (try clear hi)) | ((with_reducible refine gate_dst (N := 7) rfl ?_); refine box_event ?hg (N := 7) ?hd (cs := #[.int .i64 0, .int .i64 0, .string (⟨#[]⟩ : ByteArray), .bool false, .int .i64 0, .int .i64 0]) (t := 36) ?hr ?_; (case hd => rfl); (case hg => rfl); (case hr => first | (go_simp; done) | (go_simp; rfl)); intro gb314 hg w15 hbox hb; have n0_ := Aside0.mk (Kd.R_below (Kd.R_elderB (by (with_reducible repeat (first | apply Kd.R_alloc | apply Kd.R_drewN | apply Kd.R_drew)); exact HO_5.out) gb314 (Nat.le_of_eq hg.symm)) hb); have n1_ := Aside0.mk (below_step (by repeat (first | (with_reducible first | exact HB.out | apply below_alloc | apply pw_below_drewN | apply below_drew1) | exact HB.out)) hb); have n2_ := Aside0.mk (hbox); have n3_ := Aside0.mk ((by rw [hg]; exact (below_size (by repeat (first | (with_reducible first | exact HB.out | apply below_alloc | apply pw_below_drewN | apply below_drew1) | exact HB.out))) : w.heap.size ≤ gb314)); have n4_ := Aside0.mk ((by rw [hg]; exact (below_size (by repeat (first | (with_reducible first | exact HB.out | apply below_alloc | apply pw_below_drewN | apply below_drew1) | exact HB.out))) : w.heap.size ≤ gb314)); clear HO_5; clear HB; have HO_5 := n0_; have HB := n1_; have BK314 := n2_; have GW314 := n3_; have GE314 := n4_; clear n0_ n1_ n2_ n3_ n4_; clear hb hbox hg; have hcz16_0 : w15.cell? ⟨gb314, 0, none⟩ = some (.int .i64 0) := (blk_cell BK314.out 0).trans rfl; have hcz16_1 : w15.cell? ⟨gb314, 1, none⟩ = some (.int .i64 0) := (blk_cell BK314.out 1).trans rfl; have hcz16_2 : w15.cell? ⟨gb314, 2, none⟩ = some (.string (⟨#[]⟩ : ByteArray)) := (blk_cell BK314.out 2).trans rfl; have hcz16_3 : w15.cell? ⟨gb314, 3, none⟩ = some (.bool false) := (blk_cell BK314.out 3).trans rfl; have hcz16_4 : w15.cell? ⟨gb314, 4, none⟩ = some (.int .i64 0) := (blk_cell BK314.out 4).trans rfl; have hcz16_5 : w15.cell? ⟨gb314, 5, none⟩ = some (.int .i64 0) := (blk_cell BK314.out 5).trans rfl; have hfz16_0 := blk_frozen BK314.out 0; have hfz16_1 := blk_frozen BK314.out 1; have hfz16_2 := blk_frozen BK314.out 2; have hfz16_3 := blk_frozen BK314.out 3; have hfz16_4 := blk_frozen BK314.out 4; have hfz16_5 := blk_frozen BK314.out 5))
           go_ret3
           exact ⟨_, by first | rfl | (simp [errW_none, errW_some] <;> rfl) | (simp [*, errW_none, errW_some] <;> rfl), by first | exact Kd.R_nil _ _ _ _ _ | exact Kd.N_nil _ _ _ _ _ | exact Kd.V_nil _ _ _ _ _ | exact Kd.Q_nil _ _ _ _ _ | exact Kd.S_nil _ _ _ _ _, by repeat (first | (with_reducible first | exact HB.out | apply below_alloc | apply pw_below_drewN | apply below_drew1 | refine below_set ?_ GE314.out) | exact HB.out)⟩
          ·rw [if_neg c13] at H
           have c13b0 : (t313 == 0) = false := beq_eq_false_iff_ne.mpr c13
           have c13b1 : (t313 != 0) = true := bne_iff_ne.mpr c13
           by_cases c17 : x5_1.length < 2513169434916
           ·rw [if_pos c17] at H
            have LMc17 := Aside0.mk c17
            clear c17
            obtain ⟨y315, hy315⟩ : ∃ y_ : List (S36), y_ = (x5_1 ++ [(⟨t307, x6_1, t309, (⟨t310, t311⟩ : S34), t312⟩ : S36)]) := ⟨_, rfl⟩
            replace H : (spillwayref7_Scan.l0 kj3 a0 y315 (wrap64 (x6_1 + t313))) = some (r1, r2, r3) := by first | (rw [hy315]; with_reducible exact H) | (have H2_ := (Option.bind_some _ _).symm.trans H; rw [hy315]; with_reducible exact H2_) | (have H2_ := (Option.bind_some _ _).symm.trans H; with_reducible exact H2_) | with_reducible exact H | (rw [hy315]; exact H) | exact H
            have Ny315 := Aside0.mk hy315
            clear hy315
            have H' := Aside0.mk H
            clear H
            go_wp2_with (first | ((with_reducible refine gate_callee (f := 19) rfl ?_); refine goesL_ (some 32) rfl rfl Tryz.func19 (by kernel_rfl) rfl #[.string (a0.extract (x6_1 : Int).toNat a0.size)] rfl (by (try simp only [List.map_toArray, List.map_cons, List.map_nil]); first | done | rfl | (simp only [List.length_drop, List.length_take]; rfl)) ?_; (with_reducible refine (spillwayref7_token.calls kj3 (a0.extract (x6_1 : Int).toNat a0.size) t307 t308 t309 t310 t311 t312 t313 _ A12.out).mono ?_); rintro e w18 ⟨rfl, hb⟩; refine ⟨_, rfl, ?_⟩; have n0_ := Aside0.mk (Kd.R_below (by (with_reducible repeat (first | apply Kd.R_alloc | apply Kd.R_drewN | apply Kd.R_drew)); exact HO_5.out) hb); have n1_ := Aside0.mk (below_step (by repeat (first | (with_reducible first | exact HB.out | apply below_alloc | apply pw_below_drewN | apply below_drew1) | exact HB.out)) hb); clear HO_5; clear HB; have HO_5 := n0_; have HB := n1_; clear n0_ n1_; (try clear hb); (try clear hb2); (try clear hk); (try clear hi)) | ((with_reducible refine gate_dst (N := 7) rfl ?_); refine box_event ?hg (N := 7) ?hd (cs := #[.int .i64 0, .int .i64 0, .string (⟨#[]⟩ : ByteArray), .bool false, .int .i64 0, .int .i64 0]) (t := 36) ?hr ?_; (case hd => rfl); (case hg => rfl); (case hr => first | (go_simp; done) | (go_simp; rfl)); intro gb314 hg w19 hbox hb; have n0_ := Aside0.mk (Kd.R_below (Kd.R_elderB (by (with_reducible repeat (first | apply Kd.R_alloc | apply Kd.R_drewN | apply Kd.R_drew)); exact HO_5.out) gb314 (Nat.le_of_eq hg.symm)) hb); have n1_ := Aside0.mk (below_step (by repeat (first | (with_reducible first | exact HB.out | apply below_alloc | apply pw_below_drewN | apply below_drew1) | exact HB.out)) hb); have n2_ := Aside0.mk (hbox); have n3_ := Aside0.mk ((by rw [hg]; exact (below_size (by repeat (first | (with_reducible first | exact HB.out | apply below_alloc | apply pw_below_drewN | apply below_drew1) | exact HB.out))) : w.heap.size ≤ gb314)); have n4_ := Aside0.mk ((by rw [hg]; exact (below_size (by repeat (first | (with_reducible first | exact HB.out | apply below_alloc | apply pw_below_drewN | apply below_drew1) | exact HB.out))) : w.heap.size ≤ gb314)); clear HO_5; clear HB; have HO_5 := n0_; have HB := n1_; have BK314 := n2_; have GW314 := n3_; have GE314 := n4_; clear n0_ n1_ n2_ n3_ n4_; clear hb hbox hg) | ((with_reducible refine gate_ (.store 36 (.tmp 7) (.tmp 33)) rfl ?_); refine row_event (x := .tmp 7) (y := .tmp 33) (t := 36) (g := gb314) (cells := #[.int .i64 t307, .int .i64 t308, .string t309, .bool t310, .int .i64 t311, .int .i64 t312]) (old := #[.int .i64 0, .int .i64 0, .string (⟨#[]⟩ : ByteArray), .bool false, .int .i64 0, .int .i64 0]) (e := 36) rfl rfl rfl rfl rfl BK314.out (by kernel_rfl) rfl (by first | kernel_rfl | (simp [Value.oneCell']; done)) ?_; intro w91 hw_; have n0_ := Aside0.mk (show w91.heap[gb314]? = some (.cells #[.int .i64 t307, .int .i64 t308, .string t309, .bool t310, .int .i64 t311, .int .i64 t312] 36 (0, 0)) by rw [hw_]; exact setRow_heap _ _ #[.int .i64 0, .int .i64 0, .string (⟨#[]⟩ : ByteArray), .bool false, .int .i64 0, .int .i64 0] _ _ _ BK314.out); have n1_ := Aside0.mk (show Below w.heap.size w w91 by rw [hw_]; exact below_setRow HB.out GE314.out _); have n2_ := Aside0.mk (R_row HO_5.out (g := gb314) (fun _ hk => hk.2) #[.int .i64 t307, .int .i64 t308, .string t309, .bool t310, .int .i64 t311, .int .i64 t312]); rw [← hw_] at n2_; clear hw_ BK314 HB HO_5; have BK314 := n0_; have HB := n1_; have HO_5 := n2_; clear n0_ n1_ n2_) | ((with_reducible refine gate_ (.store 3 (.tmp 39) (.tmp 38)) rfl ?_); refine cell_event (x := .tmp 39) (y := .tmp 38) (t := 3) (g := gb314) (i := 1) (old := #[.int .i64 t307, .int .i64 t308, .string t309, .bool t310, .int .i64 t311, .int .i64 t312]) (new := #[.int .i64 t307, .int .i64 x6_1, .string t309, .bool t310, .int .i64 t311, .int .i64 t312]) (e := 36) rfl rfl rfl rfl rfl rfl rfl BK314.out (by kernel_rfl) (show 1 < 6 by decide) rfl ?_; intro w92 hw_; have n0_ := Aside0.mk (show w92.heap[gb314]? = some (.cells #[.int .i64 t307, .int .i64 x6_1, .string t309, .bool t310, .int .i64 t311, .int .i64 t312] 36 (0, 0)) by rw [hw_]; exact setRow_heap _ _ #[.int .i64 t307, .int .i64 t308, .string t309, .bool t310, .int .i64 t311, .int .i64 t312] _ _ _ BK314.out); have n1_ := Aside0.mk (show Below w.heap.size w w92 by rw [hw_]; exact below_setRow HB.out GE314.out _); have n2_ := Aside0.mk (R_row HO_5.out (g := gb314) (fun _ hk => hk.2) #[.int .i64 t307, .int .i64 x6_1, .string t309, .bool t310, .int .i64 t311, .int .i64 t312]); rw [← hw_] at n2_; clear hw_ BK314 HB HO_5; have BK314 := n0_; have HB := n1_; have HO_5 := n2_; clear n0_ n1_ n2_; have hcy0 : w92.cell? ⟨gb314, 0, none⟩ = some (.int .i64 t307) := (blk_cell BK314.out 0).trans rfl; have hcy1 : w92.cell? ⟨gb314, 1, none⟩ = some (.int .i64 x6_1) := (blk_cell BK314.out 1).trans rfl; have hcy2 : w92.cell? ⟨gb314, 2, none⟩ = some (.string t309) := (blk_cell BK314.out 2).trans rfl; have hcy3 : w92.cell? ⟨gb314, 3, none⟩ = some (.bool t310) := (blk_cell BK314.out 3).trans rfl; have hcy4 : w92.cell? ⟨gb314, 4, none⟩ = some (.int .i64 t311) := (blk_cell BK314.out 4).trans rfl; have hcy5 : w92.cell? ⟨gb314, 5, none⟩ = some (.int .i64 t312) := (blk_cell BK314.out 5).trans rfl) | ((with_reducible refine gate_builtin (b := .append) (xs := #[.tmp 40, .tmp 42]) rfl ?_); at_builtin; refine Kd.R_append k36 (w0 := w) w.heap.size rfl (.tmp 40) (.tmp 42) 23 36 (.agg #[(.int .i64 0), (.int .i64 0), (.string ⟨#[]⟩), (.bool false), (.int .i64 0), (.int .i64 0)]) 56 rfl Tryz.underlying23 info36 rfl (by decide) (by omega) u5 x5_1 (⟨t307, x6_1, t309, (⟨t310, t311⟩ : S34), t312⟩ : S36) [.int .i64 t307, .int .i64 x6_1, .string t309, .bool t310, .int .i64 t311, .int .i64 t312] (fun k_ => k_ ≠ gb314) (fun _ => False) rfl (by first | (go_simp; done) | (go_simp; rfl)) ?aP (fun _ hk => hk.elim) ?aF ?aO ?aB ?aS ?aL ?_; (case aP => exact k36_mkM _ _ _ (⟨t307, x6_1, t309, (⟨t310, t311⟩ : S34), t312⟩ : S36)); (case aB => exact HB.out); (case aF => exact (fun k_ hk => Kd.freshB (g := gb314) (o := .cells #[.int .i64 t307, .int .i64 x6_1, .string t309, .bool t310, .int .i64 t311, .int .i64 t312] 36 (0, 0)) BK314.out k_ hk)); (case aO => exact Kd.R_mono HO_5.out (fun _ hk => hk.2)); (case aS => exact below_size HB.out); (case aL => have := LMc17.out; omega); intro v206 w93 ho hb hg hat; rw [← Ny315.out] at ho; have n0_ := Aside0.mk hb; have n1_ := Aside0.mk ho; clear BK314 HB HO_5; have HB := n0_; have HO207 := n1_; clear n0_ n1_ hb ho hg hat))
            go_roundg kj3
            case measure => have := HK1.out; have := HJ3.out; omega
            case rel => exact ⟨(y315), (wrap64 (x6_1 + t313)), (by first | rfl | (simp; done) | (simp [*]; done)), H', ⟨by have := HK1.out; have := HJ3.out; omega⟩, ⟨by (with_reducible repeat (first | apply Kd.R_alloc | apply Kd.R_drewN | apply Kd.R_drew)); exact Kd.R_mono HO207.out (fun _ hk => trivial)⟩, ⟨by repeat (first | (with_reducible first | exact HB.out | apply below_alloc | apply pw_below_drewN | apply below_drew1 | refine below_set ?_ GE314.out) | exact HB.out)⟩⟩
           ·rw [if_neg c17] at H
            exact absurd H (by simp)
         ·rw [if_neg c11] at H
          exact absurd H (by simp)
        ·rw [if_neg c10] at H
         exact absurd H (by simp)
    ·rw [if_neg c3] at H
     have c3b0 : decide (x6_1 < (a0.size : Int)) = false := decide_eq_false c3
     clear c3
     by_cases c22 : x5_1.length < 2513169434916
     ·rw [if_pos c22] at H
      have LMc22 := Aside0.mk c22
      clear c22
      obtain ⟨y304, hy304⟩ : ∃ y_ : List (S36), y_ = (x5_1 ++ [(⟨0, (a0.size : Int), (⟨#[]⟩ : ByteArray), (⟨false, 0⟩ : S34), 0⟩ : S36)]) := ⟨_, rfl⟩
      replace H : (some (y304, 0, 0)) = some (r1, r2, r3) := by first | (rw [hy304]; with_reducible exact H) | (have H2_ := (Option.bind_some _ _).symm.trans H; rw [hy304]; with_reducible exact H2_) | (have H2_ := (Option.bind_some _ _).symm.trans H; with_reducible exact H2_) | with_reducible exact H | (rw [hy304]; exact H) | exact H
      have Ny304 := Aside0.mk hy304
      clear hy304
      simp only [Option.some.injEq, Prod.mk.injEq] at H
      obtain ⟨rfl, rfl, rfl⟩ := H
      go_wp2_with (first | ((with_reducible refine gate_builtin (b := .append) (xs := #[.tmp 47, .tmp 51]) rfl ?_); at_builtin; refine Kd.R_append k36 (w0 := w) w.heap.size rfl (.tmp 47) (.tmp 51) 23 36 (.agg #[(.int .i64 0), (.int .i64 0), (.string ⟨#[]⟩), (.bool false), (.int .i64 0), (.int .i64 0)]) 56 rfl Tryz.underlying23 info36 rfl (by decide) (by omega) u5 x5_1 (⟨0, (a0.size : Int), (⟨#[]⟩ : ByteArray), (⟨false, 0⟩ : S34), 0⟩ : S36) [.int .i64 0, .int .i64 (a0.size : Int), .string (⟨#[]⟩ : ByteArray), .bool false, .int .i64 0, .int .i64 0] (fun _ => True) (fun _ => False) rfl rfl ?aP (fun _ hk => hk.elim) ?aF ?aO ?aB ?aS ?aL ?_; (case aP => exact k36_mkM _ _ _ (⟨0, (a0.size : Int), (⟨#[]⟩ : ByteArray), (⟨false, 0⟩ : S34), 0⟩ : S36)); (case aB => exact (by repeat (first | (with_reducible first | exact HB.out | apply below_alloc | apply pw_below_drewN | apply below_drew1) | exact HB.out))); (case aF => exact (fun _ _ => trivial)); (case aO => exact (by (with_reducible repeat (first | apply Kd.R_alloc | apply Kd.R_drewN | apply Kd.R_drew)); exact HO_5.out)); (case aS => exact (below_size (by repeat (first | (with_reducible first | exact HB.out | apply below_alloc | apply pw_below_drewN | apply below_drew1) | exact HB.out)))); (case aL => have := LMc22.out; omega); intro v305 w23 ho hb hg hat; rw [← Ny304.out] at ho; have n0_ := Aside0.mk (hb); have n1_ := Aside0.mk (ho); clear HB; clear HO_5; have HB := n0_; have HO306 := n1_; clear n0_ n1_; clear ho hb hg hat))
      go_ret3
      exact ⟨_, by first | rfl | (simp [errW_none, errW_some] <;> rfl) | (simp [*, errW_none, errW_some] <;> rfl), by (with_reducible repeat (first | apply Kd.R_alloc | apply Kd.R_drewN | apply Kd.R_drew)); exact HO306.out, by repeat (first | (with_reducible first | exact HB.out | apply below_alloc | apply pw_below_drewN | apply below_drew1) | exact HB.out)⟩
     ·rw [if_neg c22] at H
      exact absurd H (by simp)

end Go.Proofs.YtnjobjogddjelaaGreatDoor.Print
end

section
namespace Go.Proofs.YtnjobjogddjelaaGreatDoor.PureN
open Go.RowKit Go.Proofs.YtnjobjogddjelaaGreatDoor.Print Go.Proofs.YtnjobjogddjelaaGreatDoor.Pure Go.Proofs.YtnjobjogddjelaaGreatDoorW.PrintWords Go.Proofs.YtnjobjogddjelaaGreatDoorW.PrintLast Go.Proofs.YtnjobjogddjelaaGreatDoorW.PrintMore

/-! The document's signs. -/
theorem rletter_eq (c : UInt8) : spillwayref7_letter.f (c.toNat : Int) = some (isL c) := letter_eq c
theorem rdigit_eq (c : UInt8) : spillwayref7_digit.f (c.toNat : Int) = some (isD c) := digit_eq c
theorem sF2 (x c : UInt8) (r : List UInt8) (ts : List ByteArray) : signF (⟨#[x, 61]⟩ :: ts) ⟨(c :: r).toArray⟩ = if r.head? = some 61 ∧ c = x then (5, 0, ⟨#[x, 61]⟩, false, 0, 0, 2) else signF ts ⟨(c :: r).toArray⟩ := by
 have e : (⟨#[x, 61]⟩ : ByteArray).toList = [x, 61] := toList_list [x, 61]
 have es : (⟨#[x, 61]⟩ : ByteArray).size = 2 := rfl
 rw [signF, e, if_neg (by simp), es, ext_take, toList_list, size_list]
 cases r with
 | nil => simp
 | cons d r =>
  rw [if_pos (by simp)]
  by_cases h : d = 61 ∧ c = x
  ·have h1 : (c :: d :: r).take 2 = [x, 61] := by rw [h.1, h.2]; rfl
   have h2 : (d :: r).head? = some 61 ∧ c = x := ⟨by rw [h.1]; rfl, h.2⟩
   rw [if_pos h1, if_pos h2]
   rfl
  ·have h1 : ¬ (c :: d :: r).take 2 = [x, 61] := fun e => h ⟨(List.cons.inj (List.cons.inj e).2).1, (List.cons.inj e).1⟩
   have h2 : ¬ ((d :: r).head? = some 61 ∧ c = x) := fun e => h ⟨Option.some.inj e.1, e.2⟩
   rw [if_neg h1, if_neg h2]
theorem sF1 (x c : UInt8) (r : List UInt8) (ts : List ByteArray) : signF (⟨#[x]⟩ :: ts) ⟨(c :: r).toArray⟩ = if c = x then (5, 0, ⟨#[x]⟩, false, 0, 0, 1) else signF ts ⟨(c :: r).toArray⟩ := by
 have e : (⟨#[x]⟩ : ByteArray).toList = [x] := toList_list [x]
 have es : (⟨#[x]⟩ : ByteArray).size = 1 := rfl
 rw [signF, e, if_neg (by simp), es, ext_take, toList_list, size_list, if_pos (by simp)]
 by_cases h : c = x
 ·have h1 : (c :: r).take 1 = [x] := by rw [h]; rfl
  rw [if_pos h1, if_pos h]
  rfl
 ·have h1 : ¬ (c :: r).take 1 = [x] := fun e => h (List.cons.inj e).1
  rw [if_neg h1, if_neg h]
theorem sF0 (s : ByteArray) (ts : List ByteArray) : signF (⟨#[]⟩ :: ts) s = signF ts s := by
 rw [signF, if_pos (toList_list [])]
theorem signs_eq (c : UInt8) (r : List UInt8) : signF signT ⟨(c :: r).toArray⟩ = outR (readSign (c :: r)) := by
 unfold signT
 rw [sF2, sF2, sF2, sF2, sF2, sF2, sF1, sF1, sF1, sF1, sF1, sF1, sF1, sF1, sF1, sF1, sF1, sF1, sF1, sF1, sF0, sF0, signF]
 unfold readSign signLen
 simp only
 by_cases h : r.head? = some 61
 ·obtain ⟨r', rfl⟩ : ∃ r', r = 61 :: r' := by
   cases r with
   | nil => simp at h
   | cons d r' => simp at h; exact ⟨r', by rw [h]⟩
  simp only [List.head?_cons, true_and]
  by_cases h2 : c ∈ twos
  ·rw [if_pos h2]
   unfold twos at h2
   simp only [List.mem_cons, List.not_mem_nil, or_false] at h2
   rcases h2 with rfl | rfl | rfl | rfl | rfl | rfl <;> rfl
  ·rw [if_neg h2]
   have h2' := h2
   unfold twos at h2'
   simp only [List.mem_cons, List.not_mem_nil, or_false, not_or] at h2'
   obtain ⟨a1, a2, a3, a4, a5, a6⟩ := h2'
   rw [if_neg a1, if_neg a2, if_neg a3, if_neg a4, if_neg a5, if_neg a6]
   by_cases h3 : c ∈ ones
   ·rw [if_pos h3]
    unfold ones at h3
    simp only [List.mem_cons, List.not_mem_nil, or_false] at h3
    rcases h3 with rfl | rfl | rfl | rfl | rfl | rfl | rfl | rfl | rfl | rfl | rfl | rfl | rfl | rfl <;> first | rfl | exact absurd rfl a2 | exact absurd rfl a4 | exact absurd rfl a5 | exact absurd rfl a6
   ·rw [if_neg h3]
    unfold ones at h3
    simp only [List.mem_cons, List.not_mem_nil, or_false, not_or] at h3
    obtain ⟨b1, b2, b3, b4, b5, b6, b7, b8, b9, b10, b11, b12, b13, b14⟩ := h3
    rw [if_neg b1, if_neg b2, if_neg b3, if_neg b4, if_neg b5, if_neg b6, if_neg b7, if_neg b8, if_neg b9, if_neg b10, if_neg b11, if_neg b12, if_neg b13, if_neg b14, if_pos rfl]
    rfl
 ·simp only [h, false_and, if_false]
  by_cases h3 : c ∈ ones
  ·rw [if_pos h3]
   unfold ones at h3
   simp only [List.mem_cons, List.not_mem_nil, or_false] at h3
   rcases h3 with rfl | rfl | rfl | rfl | rfl | rfl | rfl | rfl | rfl | rfl | rfl | rfl | rfl | rfl <;> rfl
  ·rw [if_neg h3]
   unfold ones at h3
   simp only [List.mem_cons, List.not_mem_nil, or_false, not_or] at h3
   obtain ⟨b1, b2, b3, b4, b5, b6, b7, b8, b9, b10, b11, b12, b13, b14⟩ := h3
   rw [if_neg b1, if_neg b2, if_neg b3, if_neg b4, if_neg b5, if_neg b6, if_neg b7, if_neg b8, if_neg b9, if_neg b10, if_neg b11, if_neg b12, if_neg b13, if_neg b14, if_pos rfl]
   rfl
/-! A text in quotes. -/
def nums (l : List UInt8) : List Int := l.map fun c => (c.toNat : Int)
theorem str_nums (l : List UInt8) : strOfNums (nums l) = ⟨l.toArray⟩ := by
 unfold strOfNums nums
 rw [List.map_map]
 congr 2
 conv => rhs; rw [← List.map_id l]
 apply List.map_congr_left
 intro c _
 simp
def quoO (acc : List UInt8) (i : Nat) (m : List UInt8) : ByteArray × Int :=
 match unq m with
 | some y => if (10 : UInt8) ∈ y.1 then (⟨#[]⟩, 0) else (⟨(acc ++ y.1).toArray⟩, ((i + y.2 : Nat) : Int))
 | none => (⟨#[]⟩, 0)
theorem quo_ord (acc : List UInt8) (i : Nat) (c : UInt8) (m : List UInt8) (h : ¬ (c = 34 ∨ c = 92)) (h10 : c ≠ 10) : quoO acc i (c :: m) = quoO (acc ++ [c]) (i + 1) m := by
 unfold quoO
 rw [unq_ord c m h]
 cases unq m with
 | none => rfl
 | some y =>
  simp only [Option.map_some, List.mem_cons, List.append_assoc, List.singleton_append]
  have : ¬ (10 : UInt8) = c := fun e => h10 e.symm
  simp only [this, false_or]
  split
  ·rfl
  ·rw [show i + (y.2 + 1) = i + 1 + y.2 by omega]
theorem quo_nl (acc : List UInt8) (i : Nat) (m : List UInt8) : quoO acc i (10 :: m) = (⟨#[]⟩, 0) := by
 unfold quoO
 rw [unq_ord 10 m (by decide)]
 cases unq m with
 | none => rfl
 | some y => simp
theorem quo_esc (acc : List UInt8) (i : Nat) (d : UInt8) (m : List UInt8) (h : d = 34 ∨ d = 92) : quoO acc i (92 :: d :: m) = quoO (acc ++ [d]) (i + 2) m := by
 unfold quoO
 rw [unq_esc d m, if_pos h]
 cases unq m with
 | none => rfl
 | some y =>
  simp only [Option.map_some, List.mem_cons, List.append_assoc, List.singleton_append]
  have : ¬ (10 : UInt8) = d := by rcases h with rfl | rfl <;> decide
  simp only [this, false_or]
  split
  ·rfl
  ·rw [show i + (y.2 + 2) = i + 2 + y.2 by omega]
theorem quo_bad (acc : List UInt8) (i : Nat) (d : UInt8) (m : List UInt8) (h : ¬ (d = 34 ∨ d = 92)) : quoO acc i (92 :: d :: m) = (⟨#[]⟩, 0) := by
 unfold quoO
 rw [unq_esc d m, if_neg h]
theorem quo_34 (acc : List UInt8) (i : Nat) (m : List UInt8) : quoO acc i (34 :: m) = (⟨acc.toArray⟩, ((i + 1 : Nat) : Int)) := by
 unfold quoO
 rw [unq_34]
 simp
theorem ne_int (c : UInt8) (n : Nat) (hn : n < 256) (h : c ≠ UInt8.ofNat n) : ¬ (c.toNat : Int) = (n : Int) := fun e => h ((Print.toNat_is c n hn).1 e)
theorem eq_int (c : UInt8) (n : Nat) (hn : n < 256) (h : c = UInt8.ofNat n) : (c.toNat : Int) = (n : Int) := (Print.toNat_is c n hn).2 h
theorem quoted_l0 (l : List UInt8) (hl : l.length ≤ 700) : ∀ (d k i : Nat) (acc : List UInt8), l.length - i ≤ d → i ≤ l.length → d < k → acc.length ≤ i →
  spillwayref3_Quoted.l0 k ⟨l.toArray⟩ (nums acc) (i : Int) = some (quoO acc i (l.drop i)) := by
 intro d
 induction d with
 | zero =>
  intro k i acc h1 h2 hk ha
  obtain ⟨k, rfl⟩ : ∃ m, k = m + 1 := ⟨k - 1, by omega⟩
  rw [spillwayref3_Quoted.l0, size_list, if_neg (by omega), List.drop_eq_nil_of_le (by omega)]
  rfl
 | succ d ih =>
  intro k i acc h1 h2 hk ha
  obtain ⟨k, rfl⟩ : ∃ m, k = m + 1 := ⟨k - 1, by omega⟩
  by_cases hi : i < l.length
  ·have hd := drop_cons l i hi
   have hbt := bt_list l i hi
   have happ : ∀ c : UInt8, nums acc ++ [(c.toNat : Int)] = nums (acc ++ [c]) := fun c => by simp [nums]
   have hnl : (nums acc).length < 140737488355328 := by simp only [nums, List.length_map]; omega
   rw [spillwayref3_Quoted.l0, size_list, if_pos (by omega), if_pos (by omega), hbt, hd]
   generalize l[i] = c at hd hbt ⊢
   by_cases c34 : c = 34
   ·rw [if_pos (show (c.toNat : Int) = 34 from eq_int c 34 (by omega) c34), str_nums, w1 i (by omega), c34, quo_34]
   ·rw [if_neg (show ¬ (c.toNat : Int) = 34 from ne_int c 34 (by omega) c34)]
    by_cases c92 : c = 92
    ·rw [if_pos (show (c.toNat : Int) = 92 from eq_int c 92 (by omega) c92), w1 i (by omega)]
     by_cases hi2 : i + 1 < l.length
     ·have hd2 := drop_cons l (i + 1) hi2
      have hbt2 := bt_list l (i + 1) hi2
      rw [if_neg (by omega), if_pos (by omega), if_pos (by omega), hbt2, hd2, c92]
      generalize l[i + 1] = e at hd2 hbt2 ⊢
      have step : spillwayref3_Quoted.l0 k ⟨l.toArray⟩ (nums acc ++ [(e.toNat : Int)]) (wrap64 (((i + 1 : Nat) : Int) + 1)) = some (quoO (acc ++ [e]) (i + 2) (l.drop (i + 1 + 1))) := by
       rw [happ, w1 (i + 1) (by omega)]
       exact ih k (i + 2) (acc ++ [e]) (by omega) (by omega) (by omega) (by rw [List.length_append, List.length_singleton]; omega)
      by_cases e34 : e = 34
      ·rw [if_pos (show (e.toNat : Int) = 34 from eq_int e 34 (by omega) e34), if_pos hnl, step, quo_esc _ _ _ _ (Or.inl e34)]
      ·rw [if_neg (show ¬ (e.toNat : Int) = 34 from ne_int e 34 (by omega) e34)]
       by_cases e92 : e = 92
       ·rw [if_pos (show (e.toNat : Int) = 92 from eq_int e 92 (by omega) e92), if_pos hnl, step, quo_esc _ _ _ _ (Or.inr e92)]
       ·rw [if_neg (show ¬ (e.toNat : Int) = 92 from ne_int e 92 (by omega) e92), quo_bad _ _ _ _ (fun h => h.elim e34 e92)]
     ·rw [if_pos (by omega), List.drop_eq_nil_of_le (by omega), c92]
      rfl
    ·rw [if_neg (show ¬ (c.toNat : Int) = 92 from ne_int c 92 (by omega) c92)]
     by_cases c10 : c = 10
     ·rw [if_pos (show (c.toNat : Int) = 10 from eq_int c 10 (by omega) c10), c10, quo_nl]
     ·rw [if_neg (show ¬ (c.toNat : Int) = 10 from ne_int c 10 (by omega) c10), if_pos hnl, happ, w1 i (by omega), quo_ord _ _ _ _ (fun h => h.elim c34 c92) c10]
      exact ih k (i + 1) (acc ++ [c]) (by omega) (by omega) (by omega) (by rw [List.length_append, List.length_singleton]; omega)
  ·rw [spillwayref3_Quoted.l0, size_list, if_neg (by omega), List.drop_eq_nil_of_le (by omega)]
   rfl
theorem quoted_eq (r : List UInt8) (k : Nat) (hl : (34 :: r).length ≤ 700) (hk : 702 < k) : spillwayref3_Quoted.f k ⟨(34 :: r).toArray⟩ = some (quoO [] 1 r) := by
 obtain ⟨k, rfl⟩ : ∃ m, k = m + 1 := ⟨k - 1, by omega⟩
 have hb0 : bt ⟨(34 :: r).toArray⟩ 0 = 34 := bt_list (34 :: r) 0 (by simp)
 unfold spillwayref3_Quoted.f
 rw [toList_list, if_neg (by simp), size_list, if_pos (by rw [List.length_cons]; omega), hb0, spillwayref3_Quoted.j0, if_neg (by simp)]
 have := quoted_l0 (34 :: r) hl (34 :: r).length k 1 [] (by omega) (by simp) (by omega) (by simp)
 exact this
end Go.Proofs.YtnjobjogddjelaaGreatDoor.PureN
end

section
namespace Go.Proofs.YtnjobjogddjelaaGreatDoor.PureN
open Go.RowKit Go.Proofs.YtnjobjogddjelaaGreatDoor.Print Go.Proofs.YtnjobjogddjelaaGreatDoor.Pure Go.Proofs.YtnjobjogddjelaaGreatDoorW.PrintWords Go.Proofs.YtnjobjogddjelaaGreatDoorW.PrintLast Go.Proofs.YtnjobjogddjelaaGreatDoorW.PrintMore

/-! The document's names, numbers, the whole. -/
def idO (l : List UInt8) (n : Nat) : Out := if n ≤ 20 then (1, 0, ⟨(l.take n).toArray⟩, false, 0, 0, (n : Int)) else zeroO
theorem idc_split (c : UInt8) : idc c = (isL c || isD c) := rfl
theorem rid_l0 (l : List UInt8) (hl : l.length ≤ 700) : ∀ (d k i : Nat), i + d = l.length → d < k → spillwayref7_token.l0 k ⟨l.toArray⟩ (i : Int) = some (idO l (i + ((l.drop i).takeWhile idc).length))
 | 0, k, i, h, hk => by
  obtain ⟨k, rfl⟩ : ∃ m, k = m + 1 := ⟨k - 1, by omega⟩
  rw [spillwayref7_token.l0, size_list, if_neg (by omega), List.drop_eq_nil_of_le (by omega)]
  simp only [List.takeWhile_nil, List.length_nil, Nat.add_zero]
  unfold idO
  by_cases h20 : i ≤ 20
  ·rw [if_neg (by omega), if_pos (by omega), if_pos (by omega), if_pos h20, Int.toNat_natCast, ext_take]
  ·rw [if_pos (by omega), if_neg h20]
   rfl
 | d + 1, k, i, h, hk => by
  obtain ⟨k, rfl⟩ : ∃ m, k = m + 1 := ⟨k - 1, by omega⟩
  have hi : i < l.length := by omega
  have hrec : idc l[i] = true → spillwayref7_token.l0 k ⟨l.toArray⟩ (wrap64 ((i : Int) + 1)) = some (idO l (i + ((l.drop i).takeWhile idc).length)) := by
   intro hc
   rw [w1 i (by omega), rid_l0 l hl d k (i + 1) (by omega) (by omega), drop_cons l i hi, List.takeWhile_cons, if_pos hc, List.length_cons]
   congr 2
   omega
  rw [spillwayref7_token.l0, size_list, if_pos (by omega), if_pos (by omega), bt_list l i hi, rletter_eq, Option.bind_some]
  cases c1 : isL l[i]
  ·simp only [Bool.false_eq_true, if_false]
   rw [rdigit_eq, Option.bind_some]
   cases c2 : isD l[i]
   ·simp only [Bool.false_eq_true, if_false]
    have hf : idc l[i] = false := by rw [idc_split, c1, c2]; rfl
    rw [drop_cons l i hi, List.takeWhile_cons, hf]
    simp only [Bool.false_eq_true, if_false, List.length_nil, Nat.add_zero]
    unfold idO
    by_cases h20 : i ≤ 20
    ·rw [if_neg (by omega), if_pos (by omega), if_pos h20, Int.toNat_natCast, ext_take]
    ·rw [if_pos (by omega), if_neg h20]
     rfl
   ·simp only [if_true]
    exact hrec (by rw [idc_split, c1, c2]; rfl)
  ·simp only [if_true]
   exact hrec (by rw [idc_split, c1]; rfl)
theorem rid_eq (l : List UInt8) (k : Nat) (hl : l.length ≤ 700) (hk : 700 < k) : spillwayref7_token.l0 k ⟨l.toArray⟩ 0 = some (outR (readId l)) := by
 have := rid_l0 l hl l.length k 0 (by omega) (by omega)
 rw [show ((0 : Nat) : Int) = 0 from rfl] at this
 rw [this]
 unfold idO readId
 simp only [Nat.zero_add, List.drop_zero]
 by_cases h : (l.takeWhile idc).length ≤ 20
 ·rw [if_pos h, if_pos h, take_tw]
  rfl
 ·rw [if_neg h, if_neg h]
  rfl
/-! Whole numbers. -/
theorem whole_l0 (d : List UInt8) (hd : d.all isD = true) (hl : d.length ≤ 3) : ∀ (m k i : Nat), i + m = d.length → m < k → spillwayref2_Whole.l0 k ⟨d.toArray⟩ ((valN (d.take i) : Nat) : Int) (i : Int) = some ((valN d : Nat) : Int)
 | 0, k, i, h, hk => by
  obtain ⟨k, rfl⟩ : ∃ m, k = m + 1 := ⟨k - 1, by omega⟩
  rw [spillwayref2_Whole.l0, size_list, if_neg (by omega), List.take_of_length_le (by omega)]
 | m + 1, k, i, h, hk => by
  obtain ⟨k, rfl⟩ : ∃ m, k = m + 1 := ⟨k - 1, by omega⟩
  have hi : i < d.length := by omega
  have hc : isD d[i] = true := List.all_eq_true.1 hd _ (List.getElem_mem hi)
  have hc2 : 48 ≤ d[i].toNat ∧ d[i].toNat ≤ 57 := by
   unfold isD at hc
   simpa using hc
  have hv : valN (d.take (i + 1)) = valN (d.take i) * 10 + (d[i].toNat - 48) := by
   rw [List.take_succ_eq_append_getElem hi, valN_append, val_one]
   rfl
  have hlt := valN_lt (d.take i) (by rw [List.all_eq_true] at hd ⊢; intro c hc; exact hd c (List.mem_of_mem_take hc))
  have hpow : 10 ^ (d.take i).length ≤ 10 ^ 3 := Nat.pow_le_pow_right (by omega) (by rw [List.length_take]; omega)
  have hlt2 : valN (d.take i) < 1000 := by omega
  clear hlt hpow
  have step : wrap64 (wrap64 (10 * ((valN (d.take i) : Nat) : Int)) + ((d[i].toNat : Int) - 48) % 256) = ((valN (d.take (i + 1)) : Nat) : Int) := by
   rw [hv]
   generalize valN (d.take i) = v at hlt2
   generalize d[i].toNat = c at hc2
   clear hv hc hd
   have e : wrap64 (10 * (v : Int)) = 10 * v := by unfold wrap64; omega
   rw [e]
   clear e
   unfold wrap64
   omega
  rw [spillwayref2_Whole.l0, size_list, if_pos (by omega), if_pos (by omega), bt_list d i hi, step, w1 i (by omega)]
  exact whole_l0 d hd hl m k (i + 1) (by omega) (by omega)
theorem whole_eq (d : List UInt8) (k : Nat) (hd : d.all isD = true) (hk : 1005 < k) (hl : d.length ≤ 700) (h1 : d ≠ []) :
  spillwayref2_Whole.f k ⟨d.toArray⟩ 3 = some (if d.length ≤ 3 ∧ (d.length = 1 ∨ d.head? ≠ some 48) then ((valN d : Nat) : Int) else -1) := by
 obtain ⟨k, rfl⟩ : ∃ m, k = m + 1 := ⟨k - 1, by omega⟩
 have hlen : 0 < d.length := by cases d with | nil => exact absurd rfl h1 | cons a b => simp
 have htw : d.takeWhile isD = d := takeWhile_all d (List.all_eq_true.1 hd)
 have hdig := rdigits_eq (k + 1) d (by omega) (by omega)
 rw [htw] at hdig
 have hbad : spillwayref2_Whole.j0 (k + 1) ⟨d.toArray⟩ true = some (-1) := by rw [spillwayref2_Whole.j0, if_pos rfl]
 have hgood : d.length ≤ 3 → spillwayref2_Whole.j0 (k + 1) ⟨d.toArray⟩ (((d.length : Int)) != (d.length : Int)) = some ((valN d : Nat) : Int) := by
  intro h3
  rw [show (((d.length : Int)) != (d.length : Int)) = false by simp, spillwayref2_Whole.j0, if_neg (by simp)]
  have := whole_l0 d hd h3 d.length k 0 (by omega) (by omega)
  exact this
 unfold spillwayref2_Whole.f
 rw [size_list, if_neg (by omega)]
 by_cases h3 : d.length ≤ 3
 ·rw [if_neg (by omega)]
  by_cases h2 : 1 < d.length
  ·rw [if_pos (by omega), if_pos (by omega)]
   have hb := head_bt d hlen
   by_cases h48 : d.head? = some 48
   ·rw [if_pos (hb.2 h48), hbad, if_neg]
    rintro ⟨_, h | h⟩
    ·omega
    ·exact h h48
   ·rw [if_neg (fun e => h48 (hb.1 e)), hdig, Option.bind_some, hgood h3, if_pos ⟨h3, Or.inr h48⟩]
  ·rw [if_neg (by omega), hdig, Option.bind_some, hgood h3, if_pos ⟨h3, Or.inl (by omega)⟩]
 ·rw [if_pos (by omega), hbad, if_neg (fun h => h3 h.1)]
/-- A number as read; else nothing. -/
theorem rnum_at (l : List UInt8) (n k : Nat) (hl : l.length ≤ 620) (hn : n ≤ l.length) (hk : 1600 < k) :
  ((spillwayref2_Parse.f k ((⟨l.toArray⟩ : ByteArray).extract 0 (n : Int).toNat)).bind fun bt262 => (if bt262.2.2 = true then (if bt262.1 = true then (some zeroO) else (some ((2, 0, (⟨#[]⟩ : ByteArray), bt262.1, bt262.2.1, 0, (n : Int)) : Out))) else (some zeroO))) = some (numO l n) := by
 rw [Int.toNat_natCast, ext_take, refparse_eq k (l.take n) (by rw [List.length_take]; omega) hk, Option.bind_some, ← numP l n]
 unfold refS
 by_cases h : (parseS (l.take n)).2.2 = 0
 ·simp only [h, beq_self_eq_true, if_true]
 ·simp only [h, if_false]
  rw [if_neg (by simpa using h)]
theorem rnum_l1 (l : List UInt8) (hl : l.length ≤ 600) : ∀ (d k i : Nat), i + d = l.length → d + 1602 < k → spillwayref7_number.l1 k ⟨l.toArray⟩ (i : Int) = some (numO l (i + ((l.drop i).takeWhile isD).length))
 | 0, k, i, h, hk => by
  obtain ⟨k, rfl⟩ : ∃ m, k = m + 1 := ⟨k - 1, by omega⟩
  rw [spillwayref7_number.l1, size_list, if_neg (by omega), List.drop_eq_nil_of_le (by omega)]
  simp only [List.takeWhile_nil, List.length_nil, Nat.add_zero]
  rw [if_pos (by omega), if_pos (by omega)]
  exact rnum_at l i k (by omega) (by omega) (by omega)
 | d + 1, k, i, h, hk => by
  obtain ⟨k, rfl⟩ : ∃ m, k = m + 1 := ⟨k - 1, by omega⟩
  have hi : i < l.length := by omega
  rw [spillwayref7_number.l1, size_list, if_pos (by omega), if_pos (by omega), bt_list l i hi, rdigit_eq, Option.bind_some, drop_cons l i hi, List.takeWhile_cons]
  cases c2 : isD l[i]
  ·simp only [Bool.false_eq_true, if_false, List.length_nil, Nat.add_zero]
   rw [if_pos (by omega)]
   exact rnum_at l i k (by omega) (by omega) (by omega)
  ·simp only [if_true, List.length_cons]
   rw [w1 i (by omega), rnum_l1 l hl d k (i + 1) (by omega) (by omega)]
   congr 2
   omega
theorem rnum_l0 (l : List UInt8) (hl : l.length ≤ 600) (R : Nat → Option Out) (hR : ∀ k, 2250 < k → spillwayref7_number.j1 k ⟨l.toArray⟩ (((l.takeWhile isD).length : Nat) : Int) = R 0) :
  ∀ (d k i : Nat), i + d = l.length → d + 2260 < k → i + ((l.drop i).takeWhile isD).length = (l.takeWhile isD).length → spillwayref7_number.l0 k ⟨l.toArray⟩ (i : Int) = R 0
 | 0, k, i, h, hk, hw => by
  obtain ⟨k, rfl⟩ : ∃ m, k = m + 1 := ⟨k - 1, by omega⟩
  rw [spillwayref7_number.l0, size_list, if_neg (by omega)]
  rw [List.drop_eq_nil_of_le (by omega)] at hw
  rw [← hR k (by omega), ← hw]
  rfl
 | d + 1, k, i, h, hk, hw => by
  obtain ⟨k, rfl⟩ : ∃ m, k = m + 1 := ⟨k - 1, by omega⟩
  have hi : i < l.length := by omega
  rw [spillwayref7_number.l0, size_list, if_pos (by omega), if_pos (by omega), bt_list l i hi, rdigit_eq, Option.bind_some]
  rw [drop_cons l i hi, List.takeWhile_cons] at hw
  cases c2 : isD l[i]
  ·rw [c2] at hw
   simp only [Bool.false_eq_true, if_false, List.length_nil, Nat.add_zero] at hw ⊢
   rw [← hR k (by omega), ← hw]
  ·rw [c2] at hw
   simp only [if_true, List.length_cons] at hw ⊢
   rw [w1 i (by omega)]
   exact rnum_l0 l hl R hR d k (i + 1) (by omega) (by omega) (by omega)
theorem durW (d : List UInt8) (n : Nat) (h1 : d ≠ []) : (if (if d.length ≤ 3 ∧ (d.length = 1 ∨ d.head? ≠ some 48) then ((valN d : Nat) : Int) else -1) < 1 then (some zeroO) else (if (if d.length ≤ 3 ∧ (d.length = 1 ∨ d.head? ≠ some 48) then ((valN d : Nat) : Int) else -1) > 100 then (some zeroO) else (some ((3, 0, (⟨#[]⟩ : ByteArray), false, 0, (if d.length ≤ 3 ∧ (d.length = 1 ∨ d.head? ≠ some 48) then ((valN d : Nat) : Int) else -1), ((n + 1 : Nat) : Int)) : Out)))) = some (durO d n) := by
 unfold durO durS
 have hz : d.length = 1 → d.head? = some 48 → valN d = 0 := by
  intro hl hh
  match d, hl with
  | [c], _ =>
   have : c = 48 := by simpa using hh
   rw [this]
   rfl
 generalize valN d = v at hz
 by_cases h : d.length ≤ 3 ∧ (d.length = 1 ∨ d.head? ≠ some 48)
 ·rw [if_pos h]
  by_cases hv : 1 ≤ v ∧ v ≤ 100
  ·rw [if_neg (by omega), if_neg (by omega), if_pos]
   refine ⟨h.1, ?_, hv.1, hv.2⟩
   rcases h.2 with h | h
   ·intro hh
    have := hz h hh
    omega
   ·exact h
  ·have hn : ¬ (d.length ≤ 3 ∧ d.head? ≠ some 48 ∧ 1 ≤ v ∧ v ≤ 100) := fun e => hv e.2.2
   rw [if_neg hn]
   by_cases h2 : v < 1
   ·rw [if_pos (by omega)]
   ·rw [if_neg (by omega), if_pos (by omega)]
 ·rw [if_neg h, if_pos (by omega), if_neg]
  rintro ⟨a, b, _, _⟩
  exact h ⟨a, Or.inr b⟩
theorem rnumber_eq (l : List UInt8) (k : Nat) (hl : l.length ≤ 600) (hk : 2900 < k) (h1 : l.takeWhile isD ≠ []) : spillwayref7_number.f k ⟨l.toArray⟩ = some (outR (readNum l)) := by
 unfold spillwayref7_number.f
 have hw := tw_le (p := isD) l
 have hs := List.takeWhile_append_dropWhile (p := isD) (l := l)
 have hlen := congrArg List.length hs
 rw [List.length_append] at hlen
 refine rnum_l0 l hl (fun _ => some (outR (readNum l))) ?_ l.length k 0 (by omega) (by omega) (by simp)
 intro k hk
 obtain ⟨k, rfl⟩ : ∃ m, k = m + 1 + 1 + 1 := ⟨k - 3, by omega⟩
 have hnumO : ∀ n, outR ((rdNum (l.take n)).map fun v => ((⟨2, 0, [], v, 0⟩ : Tok), n)) = numO l n := by
  intro n
  unfold numO
  cases rdNum (l.take n) <;> rfl
 have hj3 : spillwayref7_number.j3 (k + 1) ⟨l.toArray⟩ (((l.takeWhile isD).length : Nat) : Int) false = some (numO l (l.takeWhile isD).length) := by
  rw [spillwayref7_number.j3, if_neg (by simp), if_pos (by omega), size_list, if_pos (by omega)]
  exact rnum_at l _ k (by omega) hw (by omega)
 unfold readNum
 rw [spillwayref7_number.j1, size_list]
 cases hr : l.dropWhile isD with
 | nil =>
  rw [hr, List.length_nil] at hlen
  have hp : numLen l = (l.takeWhile isD).length := by unfold numLen; rw [hr]; rfl
  rw [if_neg (by omega), List.head?_nil, if_neg (by simp), hp, hnumO, spillwayref7_number.j2, if_neg (by simp), size_list, w1 _ (by omega), if_neg (by omega), hj3]
 | cons c r =>
  rw [hr, List.length_cons] at hlen
  have hlt : (l.takeWhile isD).length < l.length := by omega
  have hat : l[(l.takeWhile isD).length] = c := by
   have : (l.takeWhile isD ++ l.dropWhile isD)[(l.takeWhile isD).length]'(by rw [hs]; exact hlt) = c := by
    rw [List.getElem_append_right (Nat.le_refl _)]
    simp [hr]
   simpa [hs] using this
  have hbt := bt_list l _ hlt
  rw [hat] at hbt
  have hdrop : l.drop ((l.takeWhile isD).length + 1) = r := by
   have := congrArg (List.drop ((l.takeWhile isD).length + 1)) hs
   rw [List.drop_append, List.drop_eq_nil_of_le (by omega), List.nil_append, hr, show (l.takeWhile isD).length + 1 - (l.takeWhile isD).length = 1 by omega] at this
   exact this.symm
  rw [if_pos (by omega), if_pos (by omega), hbt, List.head?_cons, spillwayref7_number.j2]
  by_cases h116 : c = 116
  ·have hb : (((c.toNat : Int)) == 116) = true := by rw [h116]; rfl
   rw [hb, if_pos rfl, if_pos (by omega), size_list, if_pos (by omega), if_pos (by rw [h116]), Int.toNat_natCast, ext_take, take_tw, whole_eq _ _ (tw_D l) (by omega) (by omega) h1, Option.bind_some, w1 _ (by omega)]
   refine (durW _ _ h1).trans ?_
   unfold durO
   cases durS (l.takeWhile isD) <;> rfl
  ·have hb : (((c.toNat : Int)) == 116) = false := beq_eq_false_iff_ne.mpr (fun e => h116 ((Print.toNat_is c 116 (by omega)).1 e))
   rw [hb, if_neg (by simp), if_neg (show ¬ some c = some 116 by simpa using h116), size_list, w1 _ (by omega)]
   have hp : numLen l = (l.takeWhile isD).length + part (c :: r) := by unfold numLen; rw [hr]
   cases r with
   | nil =>
    have hpart : part [c] = 0 := by rw [part, if_neg (fun h => h.2 rfl)]
    rw [List.length_nil] at hlen
    rw [if_neg (by omega), hp, hpart, hnumO, hj3]
    rfl
   | cons e r =>
    rw [List.length_cons] at hlen
    have hlt2 : (l.takeWhile isD).length + 1 < l.length := by omega
    have hat2 : l[(l.takeWhile isD).length + 1] = e := by
     have := drop_cons l _ hlt2
     rw [hdrop] at this
     exact (List.cons.inj this).1.symm
    have hbt2 := bt_list l _ hlt2
    rw [hat2] at hbt2
    rw [if_pos (by omega), if_pos (by omega), if_pos (by omega), hbt]
    by_cases h46 : c = 46
    ·rw [if_pos (show (c.toNat : Int) = 46 by rw [h46]; rfl), if_pos (by omega), hbt2, rdigit_eq, Option.bind_some]
     cases he : isD e
     ·have hz : (List.takeWhile isD (e :: r)).length = 0 := by rw [List.takeWhile_cons, he]; rfl
      have hpart : part (c :: e :: r) = 0 := by rw [part, if_neg (fun h => h.2 hz)]
      rw [hp, hpart, hnumO, hj3]
      rfl
     ·have hz : (List.takeWhile isD (e :: r)).length ≠ 0 := by rw [List.takeWhile_cons, he]; simp
      have hpart : part (c :: e :: r) = 1 + (List.takeWhile isD (e :: r)).length := by rw [part, if_pos ⟨h46, hz⟩]
      rw [spillwayref7_number.j3, if_pos rfl, w1 _ (by omega), rnum_l1 l hl (l.length - ((l.takeWhile isD).length + 1)) k _ (by omega) (by omega), hdrop, hp, hpart, hnumO]
      congr 2
      omega
    ·rw [if_neg (show ¬ (c.toNat : Int) = 46 from ne_int c 46 (by omega) h46)]
     have hpart : part (c :: e :: r) = 0 := by rw [part, if_neg (fun h => h46 h.1)]
     rw [hp, hpart, hnumO, hj3]
     rfl

/-! The token, the scan. -/
def Rel (q : Out) : Option (Tok × Nat) → Prop
 | some x => q = outR (some x)
 | none => q.2.2.2.2.2.2 = 0
theorem rel_of (x : Option (Tok × Nat)) : Rel (outR x) x := by
 cases x with
 | none => rfl
 | some x => rfl
theorem quo_rel (r : List UInt8) : ∃ q, (if ((quoO [] 1 r).1.size : Int) > 30 then (some zeroO) else (some ((4, 0, (quoO [] 1 r).1, false, 0, 0, (quoO [] 1 r).2) : Out))) = some q ∧ Rel q (readText r) := by
 unfold quoO readText
 cases unq r with
 | none => exact ⟨_, rfl, rfl⟩
 | some y =>
  simp only
  by_cases h10 : (10 : UInt8) ∈ y.1
  ·have hn : ¬ (y.1.length ≤ 30 ∧ ¬ (10 : UInt8) ∈ y.1) := fun h => h.2 h10
   rw [if_pos h10, if_neg hn]
   exact ⟨_, rfl, rfl⟩
  ·rw [if_neg h10]
   simp only [List.nil_append]
   rw [size_list]
   by_cases h30 : y.1.length ≤ 30
   ·rw [if_neg (by omega), if_pos ⟨h30, h10⟩]
    refine ⟨_, rfl, ?_⟩
    show _ = _
    rw [Nat.add_comm 1 y.2]
    rfl
   ·rw [if_pos (by omega), if_neg (fun h => h30 h.1)]
    exact ⟨_, rfl, rfl⟩
theorem token_eq (c : UInt8) (r : List UInt8) (k : Nat) (hl : (c :: r).length ≤ 600) (hk : 2900 < k) : ∃ q, spillwayref7_token.f k ⟨(c :: r).toArray⟩ = some q ∧ Rel q (readS (c :: r)) := by
 have hb0 : bt ⟨(c :: r).toArray⟩ 0 = (c.toNat : Int) := bt_list (c :: r) 0 (by simp)
 unfold spillwayref7_token.f
 rw [size_list, if_pos (by rw [List.length_cons]; omega), hb0, rletter_eq, Option.bind_some, readS]
 cases h1 : isL c
 ·simp only [Bool.false_eq_true, if_false]
  rw [rdigit_eq, Option.bind_some]
  cases h2 : isD c
  ·simp only [Bool.false_eq_true, if_false]
   by_cases h3 : c = 34
   ·rw [if_pos (show (c.toNat : Int) = 34 by rw [h3]; rfl), if_pos h3]
    subst h3
    rw [quoted_eq r k (by omega) (by omega), Option.bind_some]
    exact quo_rel r
   ·have hne : ¬ (c.toNat : Int) = 34 := fun e => h3 ((Print.toNat_is c 34 (by omega)).1 e)
    rw [if_neg hne, if_neg h3]
    unfold spillwayref7_Signs.f
    rw [Option.bind_some, signs_eq c r]
    exact ⟨_, rfl, rel_of _⟩
  ·simp only [if_true]
   rw [rnumber_eq (c :: r) k hl hk (by rw [List.takeWhile_cons, if_pos h2]; simp), Option.bind_some]
   exact ⟨_, rfl, rel_of _⟩
 ·simp only [if_true]
  rw [rid_eq (c :: r) k (by omega) (by omega)]
  exact ⟨_, rfl, rel_of _⟩
theorem rscan_l0 (l : List UInt8) (hl : l.length ≤ 600) : ∀ (d k i : Nat) (acc : List S36), l.length - i ≤ d → i ≤ l.length → 2 * d + 3000 < k → acc.length ≤ i →
  spillwayref7_Scan.l0 k ⟨l.toArray⟩ acc (i : Int) = some (scanO acc (scanS i (l.drop i))) := by
 intro d
 induction d with
 | zero =>
  intro k i acc h1 h2 hk ha
  obtain ⟨k, rfl⟩ : ∃ m, k = m + 1 := ⟨k - 1, by omega⟩
  rw [spillwayref7_Scan.l0, size_list, if_neg (by omega), if_pos (by omega), List.drop_eq_nil_of_le (by omega), scanS_nil]
  have : i = l.length := by omega
  rw [← this]
  rfl
 | succ d ih =>
  intro k i acc h1 h2 hk ha
  by_cases hi : i < l.length
  ·obtain ⟨k, rfl⟩ : ∃ m, k = m + 1 + 1 := ⟨k - 2, by omega⟩
   have hd := drop_cons l i hi
   have hbt := bt_list l i hi
   rw [spillwayref7_Scan.l0, size_list, if_pos (by omega), if_pos (by omega), hbt]
   generalize l[i] = c at hd hbt ⊢
   have hb := blank_eq c
   have hstep : (if (c.toNat : Int) = 32 then spillwayref7_Scan.j1 (k + 1) ⟨l.toArray⟩ acc (i : Int) true else spillwayref7_Scan.j1 (k + 1) ⟨l.toArray⟩ acc (i : Int) ((c.toNat : Int) == 9)) = spillwayref7_Scan.j1 (k + 1) ⟨l.toArray⟩ acc (i : Int) (blank c) := by
    rw [← hb]
    by_cases h32 : (c.toNat : Int) = 32
    ·rw [if_pos h32, decide_eq_true h32]
     rfl
    ·rw [if_neg h32, decide_eq_false h32]
     rfl
   rw [hstep, hd, spillwayref7_Scan.j1]
   cases hbl : blank c
   ·rw [if_neg (by simp), if_pos (by omega), size_list, if_pos (by omega), Int.toNat_natCast, extract_list, hd]
    have hlen : (c :: l.drop (i + 1)).length = l.length - i := by rw [← hd, List.length_drop]
    obtain ⟨q, hq, hrel⟩ := token_eq c (l.drop (i + 1)) k (by rw [hlen]; omega) (by omega)
    rw [hq, Option.bind_some]
    cases hr : readS (c :: l.drop (i + 1)) with
    | none =>
     rw [hr] at hrel
     have hrel : q.2.2.2.2.2.2 = 0 := hrel
     rw [scanS_bad i c _ hbl hr, if_pos hrel]
     rfl
    | some x =>
     rw [hr] at hrel
     have hrel : q = outR (some x) := hrel
     subst hrel
     have hp := readS_pos _ x hr
     rw [hlen] at hp
     rw [scanS_good i c _ x hr]
     show (if (x.2 : Int) = 0 then _ else _) = _
     rw [if_neg (by omega), if_pos (by omega)]
     show spillwayref7_Scan.l0 k ⟨l.toArray⟩ (acc ++ [toS { x.1 with place := (i : Int) }]) (wrap64 ((i : Int) + (x.2 : Int))) = _
     have hw : wrap64 ((i : Int) + (x.2 : Int)) = ((i + x.2 : Nat) : Int) := w_nat _ _ (by omega)
     clear hstep hb hbl hr hbt hq
     rw [hw, ih k (i + x.2) _ (by omega) (by omega) (by omega) (by rw [List.length_append, List.length_singleton]; omega), List.drop_drop]
     rw [show i + 1 + (x.2 - 1) = i + x.2 by omega]
     cases scanS (i + x.2) (l.drop (i + x.2)) with
     | error j => rfl
     | ok ts =>
      unfold scanO
      simp
   ·rw [if_pos rfl, w1 i (by omega), ih k (i + 1) acc (by omega) (by omega) (by omega) (by omega), scanS_blank i c _ hbl]
  ·obtain ⟨k, rfl⟩ : ∃ m, k = m + 1 := ⟨k - 1, by omega⟩
   rw [spillwayref7_Scan.l0, size_list, if_neg (by omega), if_pos (by omega), List.drop_eq_nil_of_le (by omega), scanS_nil]
   have : i = l.length := by omega
   rw [← this]
   rfl
theorem refscan_eq (l : List UInt8) (k : Nat) (hk : 4300 < k) : spillwayref7_Scan.f k ⟨l.toArray⟩ = some (scanW l) := by
 unfold spillwayref7_Scan.f scanW
 rw [size_list]
 by_cases h : 600 < l.length
 ·rw [if_pos (by omega), if_pos h]
 ·rw [if_neg (by omega), if_neg h]
  exact rscan_l0 l (by omega) l.length k 0 [] (by omega) (by omega) (by omega) (by simp)
end Go.Proofs.YtnjobjogddjelaaGreatDoor.PureN
end

section
namespace Go.Proofs.YtnjobjogddjelaaGreatDoor.Print
open Go.RowKit Go.Proofs.YtnjobjogddjelaaGreatDoorX Go.Proofs.YtnjobjogddjelaaGreatDoorW.PrintWords Go.Proofs.YtnjobjogddjelaaGreatDoorW.PrintLast Go.Proofs.YtnjobjogddjelaaGreatDoorW.PrintMore
attribute [local go_sem] max2_int min2_int max_two min_two max_three min_three max_four min_four

/-! ### lex_one: function 20 -/
def lex_one.f (a0_0 : Int) (a0_1 : Int) (a0_2 : ByteArray) (a0_3 : Bool) (a0_4 : Int) (a0_5 : Int) : Option (ByteArray) := if a0_0 = 2 then ((fix_Print.f a0_3 a0_4).bind fun t216 => (some t216)) else (if a0_0 = 3 then ((strconv_Itoa.f (mx a0_5 0)).bind fun t217 => (if t217.size + 1 ≤ 9223372036854775807 then (some (t217 ++ (⟨#[116]⟩ : ByteArray))) else (none))) else (if a0_0 = 4 then ((label_Quote.f a0_2).bind fun t218 => (some t218)) else (if a0_0 = 1 then (some a0_2) else (if a0_0 = 5 then (some a0_2) else (some (⟨#[]⟩ : ByteArray))))))
set_option maxHeartbeats 8000000 in
set_option maxRecDepth 100000 in
theorem lex_one.calls (a0_0 : Int) (a0_1 : Int) (a0_2 : ByteArray) (a0_3 : Bool) (a0_4 : Int) (a0_5 : Int) (r : ByteArray) (w : World) (hg_ : LaidW w) (h : lex_one.f a0_0 a0_1 a0_2 a0_3 a0_4 a0_5 = some r) :
  Calls Tryz.prog 20 #[.agg #[.int .i64 a0_0, .int .i64 a0_1, .string a0_2, .bool a0_3, .int .i64 a0_4, .int .i64 a0_5]] w fun e w' => e = .returned (.string r) ∧ Below w.heap.size w w' := by
 have HLW := Aside0.mk hg_
 clear hg_
 have hu36 := Tryz.underlying36
 have hu34 := Tryz.underlying34
 have HB := Aside0.mk (Below.refl w.heap.size w)
 have H : (if a0_0 = 2 then ((fix_Print.f a0_3 a0_4).bind fun t216 => (some t216)) else (if a0_0 = 3 then ((strconv_Itoa.f (mx a0_5 0)).bind fun t217 => (if t217.size + 1 ≤ 9223372036854775807 then (some (t217 ++ (⟨#[116]⟩ : ByteArray))) else (none))) else (if a0_0 = 4 then ((label_Quote.f a0_2).bind fun t218 => (some t218)) else (if a0_0 = 1 then (some a0_2) else (if a0_0 = 5 then (some a0_2) else (some (⟨#[]⟩ : ByteArray))))))) = some r := h
 clear h
 by_cases c2 : a0_0 = 2
 ·rw [if_pos c2] at H
  have c2b0 : (a0_0 == 2) = true := beq_iff_eq.mpr c2
  have c2b1 : (a0_0 != 2) = false := bne_eq_false_iff_eq.mpr c2
  clear c2
  replace H := Option.bind_eq_some_iff.mp H
  obtain ⟨t216, A30, H⟩ := H
  replace H : (some t216) = some r := H
  have A3 := Aside0.mk A30
  clear A30
  obtain rfl := Option.some.inj H
  go_enter Tryz.func20, Tryz.ntmps20
  go_wp2_with (first | ((with_reducible refine gate_dst (N := 1) rfl ?_); refine box_event ?hg (N := 1) ?hd (cs := #[.int .i64 a0_0, .int .i64 a0_1, .string a0_2, .bool a0_3, .int .i64 a0_4, .int .i64 a0_5]) (t := 36) ?hr ?_; (case hd => rfl); (case hg => rfl); (case hr => first | (go_simp; done) | (go_simp; rfl)); intro gb215 hg w4 hbox hb; have n0_ := Aside0.mk (below_step (by repeat (first | (with_reducible first | exact HB.out | apply below_alloc | apply pw_below_drewN | apply below_drew1) | exact HB.out)) hb); have n1_ := Aside0.mk (hbox); have n2_ := Aside0.mk ((by rw [hg]; exact (below_size (by repeat (first | (with_reducible first | exact HB.out | apply below_alloc | apply pw_below_drewN | apply below_drew1) | exact HB.out))) : w.heap.size ≤ gb215)); have n3_ := Aside0.mk ((by rw [hg]; exact (below_size (by repeat (first | (with_reducible first | exact HB.out | apply below_alloc | apply pw_below_drewN | apply below_drew1) | exact HB.out))) : w.heap.size ≤ gb215)); clear HB; have HB := n0_; have BK215 := n1_; have GW215 := n2_; have GE215 := n3_; clear n0_ n1_ n2_ n3_; clear hb hbox hg; have hcz5_0 : w4.cell? ⟨gb215, 0, none⟩ = some (.int .i64 a0_0) := (blk_cell BK215.out 0).trans rfl; have hcz5_1 : w4.cell? ⟨gb215, 1, none⟩ = some (.int .i64 a0_1) := (blk_cell BK215.out 1).trans rfl; have hcz5_2 : w4.cell? ⟨gb215, 2, none⟩ = some (.string a0_2) := (blk_cell BK215.out 2).trans rfl; have hcz5_3 : w4.cell? ⟨gb215, 3, none⟩ = some (.bool a0_3) := (blk_cell BK215.out 3).trans rfl; have hcz5_4 : w4.cell? ⟨gb215, 4, none⟩ = some (.int .i64 a0_4) := (blk_cell BK215.out 4).trans rfl; have hcz5_5 : w4.cell? ⟨gb215, 5, none⟩ = some (.int .i64 a0_5) := (blk_cell BK215.out 5).trans rfl; have hfz5_0 := blk_frozen BK215.out 0; have hfz5_1 := blk_frozen BK215.out 1; have hfz5_2 := blk_frozen BK215.out 2; have hfz5_3 := blk_frozen BK215.out 3; have hfz5_4 := blk_frozen BK215.out 4; have hfz5_5 := blk_frozen BK215.out 5) | ((with_reducible refine gate_callee (f := 33) rfl ?_); refine goesL_ (some 9) rfl rfl Tryz.func33 (by kernel_rfl) rfl #[.agg #[.bool a0_3, .int .i64 a0_4]] rfl (by (try simp only [List.map_toArray, List.map_cons, List.map_nil]); first | done | rfl | (simp only [List.length_drop, List.length_take]; rfl)) ?_; (with_reducible refine (fix_Print.calls a0_3 a0_4 t216 _ ?side1 A3.out).mono ?_); (case side1 => exact LaidW.below HLW.out (by repeat (first | (with_reducible first | exact HB.out | apply below_alloc | apply pw_below_drewN | apply below_drew1) | exact HB.out | (refine below_set ?_ (Aside0.out ?hge); (case hge => assumption))))); rintro e w6 ⟨rfl, hb⟩; refine ⟨_, rfl, ?_⟩; have n0_ := Aside0.mk (blk_below (g := gb215) (o := .cells #[.int .i64 a0_0, .int .i64 a0_1, .string a0_2, .bool a0_3, .int .i64 a0_4, .int .i64 a0_5] 36 (0, 0)) (by (with_reducible repeat (first | refine blk_drewN ?_ _ | refine blk_drew ?_ | refine blk_alloc ?_ _)); exact BK215.out) hb); have n1_ := Aside0.mk (below_step (by repeat (first | (with_reducible first | exact HB.out | apply below_alloc | apply pw_below_drewN | apply below_drew1 | refine below_set ?_ GE215.out) | exact HB.out)) hb); clear BK215; clear HB; have BK215 := n0_; have HB := n1_; clear n0_ n1_; (try clear hb); (try clear hb2); (try clear hk); (try clear hi)))
  go_ret
  exact ⟨by first | rfl | (simp [errW_none, errW_some] <;> rfl) | (simp [*, errW_none, errW_some] <;> rfl), by repeat (first | (with_reducible first | exact HB.out | apply below_alloc | apply pw_below_drewN | apply below_drew1 | refine below_set ?_ GE215.out) | exact HB.out)⟩
 ·rw [if_neg c2] at H
  have c2b0 : (a0_0 == 2) = false := beq_eq_false_iff_ne.mpr c2
  have c2b1 : (a0_0 != 2) = true := bne_iff_ne.mpr c2
  by_cases c7 : a0_0 = 3
  ·rw [if_pos c7] at H
   have c7b0 : (a0_0 == 3) = true := beq_iff_eq.mpr c7
   have c7b1 : (a0_0 != 3) = false := bne_eq_false_iff_eq.mpr c7
   clear c7
   obtain ⟨ji8, hji8⟩ : ∃ j_ : Int, (mx a0_5 0) = j_ := ⟨_, rfl⟩
   replace H : ((strconv_Itoa.f (ji8)).bind fun t217 => (if t217.size + 1 ≤ 9223372036854775807 then (some (t217 ++ (⟨#[116]⟩ : ByteArray))) else (none))) = some r := by first | (rw [hji8] at H; exact H) | (simp only [hji8] at H ⊢; exact H)
   (try (have hji8l : 0 ≤ ji8 := by (rw [← hji8]; unfold mx; (repeat' split) <;> omega)))
   (try (have hji8m : 0 ≤ ji8 := by omega))
   have hji8_ : (if a0_5 < 0 then 0 else a0_5) = ji8 := hji8
   replace H := Option.bind_eq_some_iff.mp H
   obtain ⟨t217, A90, H⟩ := H
   replace H : (if t217.size + 1 ≤ 9223372036854775807 then (some (t217 ++ (⟨#[116]⟩ : ByteArray))) else (none)) = some r := H
   have A9 := Aside0.mk A90
   clear A90
   by_cases c10 : t217.size + 1 ≤ 9223372036854775807
   ·rw [if_pos c10] at H
    have c10b0 := eq_true c10
    have c10b1 : decide (t217.size + 1 ≤ 9223372036854775807) = true := decide_eq_true c10
    try have c10b2 : (9223372036854775807 < t217.size + 1) = False := eq_false (Nat.not_lt.2 c10)
    obtain rfl := Option.some.inj H
    go_enter Tryz.func20, Tryz.ntmps20
    go_wp2_with (first | ((with_reducible refine gate_dst (N := 1) rfl ?_); refine box_event ?hg (N := 1) ?hd (cs := #[.int .i64 a0_0, .int .i64 a0_1, .string a0_2, .bool a0_3, .int .i64 a0_4, .int .i64 a0_5]) (t := 36) ?hr ?_; (case hd => rfl); (case hg => rfl); (case hr => first | (go_simp; done) | (go_simp; rfl)); intro gb215 hg w11 hbox hb; have n0_ := Aside0.mk (below_step (by repeat (first | (with_reducible first | exact HB.out | apply below_alloc | apply pw_below_drewN | apply below_drew1) | exact HB.out)) hb); have n1_ := Aside0.mk (hbox); have n2_ := Aside0.mk ((by rw [hg]; exact (below_size (by repeat (first | (with_reducible first | exact HB.out | apply below_alloc | apply pw_below_drewN | apply below_drew1) | exact HB.out))) : w.heap.size ≤ gb215)); have n3_ := Aside0.mk ((by rw [hg]; exact (below_size (by repeat (first | (with_reducible first | exact HB.out | apply below_alloc | apply pw_below_drewN | apply below_drew1) | exact HB.out))) : w.heap.size ≤ gb215)); clear HB; have HB := n0_; have BK215 := n1_; have GW215 := n2_; have GE215 := n3_; clear n0_ n1_ n2_ n3_; clear hb hbox hg; have hcz12_0 : w11.cell? ⟨gb215, 0, none⟩ = some (.int .i64 a0_0) := (blk_cell BK215.out 0).trans rfl; have hcz12_1 : w11.cell? ⟨gb215, 1, none⟩ = some (.int .i64 a0_1) := (blk_cell BK215.out 1).trans rfl; have hcz12_2 : w11.cell? ⟨gb215, 2, none⟩ = some (.string a0_2) := (blk_cell BK215.out 2).trans rfl; have hcz12_3 : w11.cell? ⟨gb215, 3, none⟩ = some (.bool a0_3) := (blk_cell BK215.out 3).trans rfl; have hcz12_4 : w11.cell? ⟨gb215, 4, none⟩ = some (.int .i64 a0_4) := (blk_cell BK215.out 4).trans rfl; have hcz12_5 : w11.cell? ⟨gb215, 5, none⟩ = some (.int .i64 a0_5) := (blk_cell BK215.out 5).trans rfl; have hfz12_0 := blk_frozen BK215.out 0; have hfz12_1 := blk_frozen BK215.out 1; have hfz12_2 := blk_frozen BK215.out 2; have hfz12_3 := blk_frozen BK215.out 3; have hfz12_4 := blk_frozen BK215.out 4; have hfz12_5 := blk_frozen BK215.out 5) | ((with_reducible refine gate_callee (f := 34) rfl ?_); refine goesL_ (some 15) rfl rfl Tryz.func34 (by kernel_rfl) rfl #[.int .i64 ji8] rfl (by (try simp only [List.map_toArray, List.map_cons, List.map_nil]); first | done | (simp only [hji8]; rfl) | rfl | (simp only [List.length_drop, List.length_take]; rfl)) ?_; (with_reducible refine (strconv_Itoa.calls ji8 t217 _ ?side1 A9.out).mono ?_); (case side1 => exact LaidW.below HLW.out (by repeat (first | (with_reducible first | exact HB.out | apply below_alloc | apply pw_below_drewN | apply below_drew1) | exact HB.out | (refine below_set ?_ (Aside0.out ?hge); (case hge => assumption))))); rintro e w13 ⟨rfl, hb⟩; refine ⟨_, rfl, ?_⟩; have n0_ := Aside0.mk (blk_below (g := gb215) (o := .cells #[.int .i64 a0_0, .int .i64 a0_1, .string a0_2, .bool a0_3, .int .i64 a0_4, .int .i64 a0_5] 36 (0, 0)) (by (with_reducible repeat (first | refine blk_drewN ?_ _ | refine blk_drew ?_ | refine blk_alloc ?_ _)); exact BK215.out) hb); have n1_ := Aside0.mk (below_step (by repeat (first | (with_reducible first | exact HB.out | apply below_alloc | apply pw_below_drewN | apply below_drew1 | refine below_set ?_ GE215.out) | exact HB.out)) hb); clear BK215; clear HB; have BK215 := n0_; have HB := n1_; clear n0_ n1_; (try clear hb); (try clear hb2); (try clear hk); (try clear hi)))
    go_ret
    exact ⟨by first | rfl | (simp [errW_none, errW_some] <;> rfl) | (simp only [← hji8]; first | rfl | (simp [errW_none, errW_some] <;> rfl)) | (simp [*, errW_none, errW_some] <;> rfl), by repeat (first | (with_reducible first | exact HB.out | apply below_alloc | apply pw_below_drewN | apply below_drew1 | refine below_set ?_ GE215.out) | exact HB.out)⟩
   ·rw [if_neg c10] at H
    exact absurd H (by simp)
  ·rw [if_neg c7] at H
   have c7b0 : (a0_0 == 3) = false := beq_eq_false_iff_ne.mpr c7
   have c7b1 : (a0_0 != 3) = true := bne_iff_ne.mpr c7
   by_cases c14 : a0_0 = 4
   ·rw [if_pos c14] at H
    have c14b0 : (a0_0 == 4) = true := beq_iff_eq.mpr c14
    have c14b1 : (a0_0 != 4) = false := bne_eq_false_iff_eq.mpr c14
    clear c14
    replace H := Option.bind_eq_some_iff.mp H
    obtain ⟨t218, A150, H⟩ := H
    replace H : (some t218) = some r := H
    have A15 := Aside0.mk A150
    clear A150
    obtain rfl := Option.some.inj H
    go_enter Tryz.func20, Tryz.ntmps20
    go_wp2_with (first | ((with_reducible refine gate_dst (N := 1) rfl ?_); refine box_event ?hg (N := 1) ?hd (cs := #[.int .i64 a0_0, .int .i64 a0_1, .string a0_2, .bool a0_3, .int .i64 a0_4, .int .i64 a0_5]) (t := 36) ?hr ?_; (case hd => rfl); (case hg => rfl); (case hr => first | (go_simp; done) | (go_simp; rfl)); intro gb215 hg w16 hbox hb; have n0_ := Aside0.mk (below_step (by repeat (first | (with_reducible first | exact HB.out | apply below_alloc | apply pw_below_drewN | apply below_drew1) | exact HB.out)) hb); have n1_ := Aside0.mk (hbox); have n2_ := Aside0.mk ((by rw [hg]; exact (below_size (by repeat (first | (with_reducible first | exact HB.out | apply below_alloc | apply pw_below_drewN | apply below_drew1) | exact HB.out))) : w.heap.size ≤ gb215)); have n3_ := Aside0.mk ((by rw [hg]; exact (below_size (by repeat (first | (with_reducible first | exact HB.out | apply below_alloc | apply pw_below_drewN | apply below_drew1) | exact HB.out))) : w.heap.size ≤ gb215)); clear HB; have HB := n0_; have BK215 := n1_; have GW215 := n2_; have GE215 := n3_; clear n0_ n1_ n2_ n3_; clear hb hbox hg; have hcz17_0 : w16.cell? ⟨gb215, 0, none⟩ = some (.int .i64 a0_0) := (blk_cell BK215.out 0).trans rfl; have hcz17_1 : w16.cell? ⟨gb215, 1, none⟩ = some (.int .i64 a0_1) := (blk_cell BK215.out 1).trans rfl; have hcz17_2 : w16.cell? ⟨gb215, 2, none⟩ = some (.string a0_2) := (blk_cell BK215.out 2).trans rfl; have hcz17_3 : w16.cell? ⟨gb215, 3, none⟩ = some (.bool a0_3) := (blk_cell BK215.out 3).trans rfl; have hcz17_4 : w16.cell? ⟨gb215, 4, none⟩ = some (.int .i64 a0_4) := (blk_cell BK215.out 4).trans rfl; have hcz17_5 : w16.cell? ⟨gb215, 5, none⟩ = some (.int .i64 a0_5) := (blk_cell BK215.out 5).trans rfl; have hfz17_0 := blk_frozen BK215.out 0; have hfz17_1 := blk_frozen BK215.out 1; have hfz17_2 := blk_frozen BK215.out 2; have hfz17_3 := blk_frozen BK215.out 3; have hfz17_4 := blk_frozen BK215.out 4; have hfz17_5 := blk_frozen BK215.out 5) | ((with_reducible refine gate_callee (f := 35) rfl ?_); refine goesL_ (some 21) rfl rfl Tryz.func35 (by kernel_rfl) rfl #[.string a0_2] rfl (by (try simp only [List.map_toArray, List.map_cons, List.map_nil]); first | done | rfl | (simp only [List.length_drop, List.length_take]; rfl)) ?_; (with_reducible refine (label_Quote.calls a0_2 t218 _ A15.out).mono ?_); rintro e w18 ⟨rfl, hb⟩; refine ⟨_, rfl, ?_⟩; have n0_ := Aside0.mk (blk_below (g := gb215) (o := .cells #[.int .i64 a0_0, .int .i64 a0_1, .string a0_2, .bool a0_3, .int .i64 a0_4, .int .i64 a0_5] 36 (0, 0)) (by (with_reducible repeat (first | refine blk_drewN ?_ _ | refine blk_drew ?_ | refine blk_alloc ?_ _)); exact BK215.out) hb); have n1_ := Aside0.mk (below_step (by repeat (first | (with_reducible first | exact HB.out | apply below_alloc | apply pw_below_drewN | apply below_drew1 | refine below_set ?_ GE215.out) | exact HB.out)) hb); clear BK215; clear HB; have BK215 := n0_; have HB := n1_; clear n0_ n1_; (try clear hb); (try clear hb2); (try clear hk); (try clear hi)))
    go_ret
    exact ⟨by first | rfl | (simp [errW_none, errW_some] <;> rfl) | (simp [*, errW_none, errW_some] <;> rfl), by repeat (first | (with_reducible first | exact HB.out | apply below_alloc | apply pw_below_drewN | apply below_drew1 | refine below_set ?_ GE215.out) | exact HB.out)⟩
   ·rw [if_neg c14] at H
    have c14b0 : (a0_0 == 4) = false := beq_eq_false_iff_ne.mpr c14
    have c14b1 : (a0_0 != 4) = true := bne_iff_ne.mpr c14
    by_cases c19 : a0_0 = 1
    ·rw [if_pos c19] at H
     have c19b0 : (a0_0 == 1) = true := beq_iff_eq.mpr c19
     have c19b1 : (a0_0 != 1) = false := bne_eq_false_iff_eq.mpr c19
     clear c19
     obtain rfl := Option.some.inj H
     go_enter Tryz.func20, Tryz.ntmps20
     go_wp2_with (first | ((with_reducible refine gate_dst (N := 1) rfl ?_); refine box_event ?hg (N := 1) ?hd (cs := #[.int .i64 a0_0, .int .i64 a0_1, .string a0_2, .bool a0_3, .int .i64 a0_4, .int .i64 a0_5]) (t := 36) ?hr ?_; (case hd => rfl); (case hg => rfl); (case hr => first | (go_simp; done) | (go_simp; rfl)); intro gb215 hg w20 hbox hb; have n0_ := Aside0.mk (below_step (by repeat (first | (with_reducible first | exact HB.out | apply below_alloc | apply pw_below_drewN | apply below_drew1) | exact HB.out)) hb); have n1_ := Aside0.mk (hbox); have n2_ := Aside0.mk ((by rw [hg]; exact (below_size (by repeat (first | (with_reducible first | exact HB.out | apply below_alloc | apply pw_below_drewN | apply below_drew1) | exact HB.out))) : w.heap.size ≤ gb215)); have n3_ := Aside0.mk ((by rw [hg]; exact (below_size (by repeat (first | (with_reducible first | exact HB.out | apply below_alloc | apply pw_below_drewN | apply below_drew1) | exact HB.out))) : w.heap.size ≤ gb215)); clear HB; have HB := n0_; have BK215 := n1_; have GW215 := n2_; have GE215 := n3_; clear n0_ n1_ n2_ n3_; clear hb hbox hg; have hcz21_0 : w20.cell? ⟨gb215, 0, none⟩ = some (.int .i64 a0_0) := (blk_cell BK215.out 0).trans rfl; have hcz21_1 : w20.cell? ⟨gb215, 1, none⟩ = some (.int .i64 a0_1) := (blk_cell BK215.out 1).trans rfl; have hcz21_2 : w20.cell? ⟨gb215, 2, none⟩ = some (.string a0_2) := (blk_cell BK215.out 2).trans rfl; have hcz21_3 : w20.cell? ⟨gb215, 3, none⟩ = some (.bool a0_3) := (blk_cell BK215.out 3).trans rfl; have hcz21_4 : w20.cell? ⟨gb215, 4, none⟩ = some (.int .i64 a0_4) := (blk_cell BK215.out 4).trans rfl; have hcz21_5 : w20.cell? ⟨gb215, 5, none⟩ = some (.int .i64 a0_5) := (blk_cell BK215.out 5).trans rfl; have hfz21_0 := blk_frozen BK215.out 0; have hfz21_1 := blk_frozen BK215.out 1; have hfz21_2 := blk_frozen BK215.out 2; have hfz21_3 := blk_frozen BK215.out 3; have hfz21_4 := blk_frozen BK215.out 4; have hfz21_5 := blk_frozen BK215.out 5))
     go_ret
     exact ⟨by first | rfl | (simp [errW_none, errW_some] <;> rfl) | (simp [*, errW_none, errW_some] <;> rfl), by repeat (first | (with_reducible first | exact HB.out | apply below_alloc | apply pw_below_drewN | apply below_drew1 | refine below_set ?_ GE215.out) | exact HB.out)⟩
    ·rw [if_neg c19] at H
     have c19b0 : (a0_0 == 1) = false := beq_eq_false_iff_ne.mpr c19
     have c19b1 : (a0_0 != 1) = true := bne_iff_ne.mpr c19
     by_cases c22 : a0_0 = 5
     ·rw [if_pos c22] at H
      have c22b0 : (a0_0 == 5) = true := beq_iff_eq.mpr c22
      have c22b1 : (a0_0 != 5) = false := bne_eq_false_iff_eq.mpr c22
      clear c22
      obtain rfl := Option.some.inj H
      go_enter Tryz.func20, Tryz.ntmps20
      go_wp2_with (first | ((with_reducible refine gate_dst (N := 1) rfl ?_); refine box_event ?hg (N := 1) ?hd (cs := #[.int .i64 a0_0, .int .i64 a0_1, .string a0_2, .bool a0_3, .int .i64 a0_4, .int .i64 a0_5]) (t := 36) ?hr ?_; (case hd => rfl); (case hg => rfl); (case hr => first | (go_simp; done) | (go_simp; rfl)); intro gb215 hg w23 hbox hb; have n0_ := Aside0.mk (below_step (by repeat (first | (with_reducible first | exact HB.out | apply below_alloc | apply pw_below_drewN | apply below_drew1) | exact HB.out)) hb); have n1_ := Aside0.mk (hbox); have n2_ := Aside0.mk ((by rw [hg]; exact (below_size (by repeat (first | (with_reducible first | exact HB.out | apply below_alloc | apply pw_below_drewN | apply below_drew1) | exact HB.out))) : w.heap.size ≤ gb215)); have n3_ := Aside0.mk ((by rw [hg]; exact (below_size (by repeat (first | (with_reducible first | exact HB.out | apply below_alloc | apply pw_below_drewN | apply below_drew1) | exact HB.out))) : w.heap.size ≤ gb215)); clear HB; have HB := n0_; have BK215 := n1_; have GW215 := n2_; have GE215 := n3_; clear n0_ n1_ n2_ n3_; clear hb hbox hg; have hcz24_0 : w23.cell? ⟨gb215, 0, none⟩ = some (.int .i64 a0_0) := (blk_cell BK215.out 0).trans rfl; have hcz24_1 : w23.cell? ⟨gb215, 1, none⟩ = some (.int .i64 a0_1) := (blk_cell BK215.out 1).trans rfl; have hcz24_2 : w23.cell? ⟨gb215, 2, none⟩ = some (.string a0_2) := (blk_cell BK215.out 2).trans rfl; have hcz24_3 : w23.cell? ⟨gb215, 3, none⟩ = some (.bool a0_3) := (blk_cell BK215.out 3).trans rfl; have hcz24_4 : w23.cell? ⟨gb215, 4, none⟩ = some (.int .i64 a0_4) := (blk_cell BK215.out 4).trans rfl; have hcz24_5 : w23.cell? ⟨gb215, 5, none⟩ = some (.int .i64 a0_5) := (blk_cell BK215.out 5).trans rfl; have hfz24_0 := blk_frozen BK215.out 0; have hfz24_1 := blk_frozen BK215.out 1; have hfz24_2 := blk_frozen BK215.out 2; have hfz24_3 := blk_frozen BK215.out 3; have hfz24_4 := blk_frozen BK215.out 4; have hfz24_5 := blk_frozen BK215.out 5))
      go_ret
      exact ⟨by first | rfl | (simp [errW_none, errW_some] <;> rfl) | (simp [*, errW_none, errW_some] <;> rfl), by repeat (first | (with_reducible first | exact HB.out | apply below_alloc | apply pw_below_drewN | apply below_drew1 | refine below_set ?_ GE215.out) | exact HB.out)⟩
     ·rw [if_neg c22] at H
      have c22b0 : (a0_0 == 5) = false := beq_eq_false_iff_ne.mpr c22
      have c22b1 : (a0_0 != 5) = true := bne_iff_ne.mpr c22
      obtain rfl := Option.some.inj H
      go_enter Tryz.func20, Tryz.ntmps20
      go_wp2_with (first | ((with_reducible refine gate_dst (N := 1) rfl ?_); refine box_event ?hg (N := 1) ?hd (cs := #[.int .i64 a0_0, .int .i64 a0_1, .string a0_2, .bool a0_3, .int .i64 a0_4, .int .i64 a0_5]) (t := 36) ?hr ?_; (case hd => rfl); (case hg => rfl); (case hr => first | (go_simp; done) | (go_simp; rfl)); intro gb215 hg w25 hbox hb; have n0_ := Aside0.mk (below_step (by repeat (first | (with_reducible first | exact HB.out | apply below_alloc | apply pw_below_drewN | apply below_drew1) | exact HB.out)) hb); have n1_ := Aside0.mk (hbox); have n2_ := Aside0.mk ((by rw [hg]; exact (below_size (by repeat (first | (with_reducible first | exact HB.out | apply below_alloc | apply pw_below_drewN | apply below_drew1) | exact HB.out))) : w.heap.size ≤ gb215)); have n3_ := Aside0.mk ((by rw [hg]; exact (below_size (by repeat (first | (with_reducible first | exact HB.out | apply below_alloc | apply pw_below_drewN | apply below_drew1) | exact HB.out))) : w.heap.size ≤ gb215)); clear HB; have HB := n0_; have BK215 := n1_; have GW215 := n2_; have GE215 := n3_; clear n0_ n1_ n2_ n3_; clear hb hbox hg; have hcz26_0 : w25.cell? ⟨gb215, 0, none⟩ = some (.int .i64 a0_0) := (blk_cell BK215.out 0).trans rfl; have hcz26_1 : w25.cell? ⟨gb215, 1, none⟩ = some (.int .i64 a0_1) := (blk_cell BK215.out 1).trans rfl; have hcz26_2 : w25.cell? ⟨gb215, 2, none⟩ = some (.string a0_2) := (blk_cell BK215.out 2).trans rfl; have hcz26_3 : w25.cell? ⟨gb215, 3, none⟩ = some (.bool a0_3) := (blk_cell BK215.out 3).trans rfl; have hcz26_4 : w25.cell? ⟨gb215, 4, none⟩ = some (.int .i64 a0_4) := (blk_cell BK215.out 4).trans rfl; have hcz26_5 : w25.cell? ⟨gb215, 5, none⟩ = some (.int .i64 a0_5) := (blk_cell BK215.out 5).trans rfl; have hfz26_0 := blk_frozen BK215.out 0; have hfz26_1 := blk_frozen BK215.out 1; have hfz26_2 := blk_frozen BK215.out 2; have hfz26_3 := blk_frozen BK215.out 3; have hfz26_4 := blk_frozen BK215.out 4; have hfz26_5 := blk_frozen BK215.out 5))
      go_ret
      exact ⟨by first | rfl | (simp [errW_none, errW_some] <;> rfl) | (simp [*, errW_none, errW_some] <;> rfl), by repeat (first | (with_reducible first | exact HB.out | apply below_alloc | apply pw_below_drewN | apply below_drew1 | refine below_set ?_ GE215.out) | exact HB.out)⟩

end Go.Proofs.YtnjobjogddjelaaGreatDoor.Print
end

section
namespace Go.Proofs.YtnjobjogddjelaaGreatDoor.Print
open Go.RowKit Go.Proofs.YtnjobjogddjelaaGreatDoorX Go.Proofs.YtnjobjogddjelaaGreatDoorW.PrintWords Go.Proofs.YtnjobjogddjelaaGreatDoorW.PrintLast Go.Proofs.YtnjobjogddjelaaGreatDoorW.PrintMore
attribute [local go_sem] max2_int min2_int max_two min_two max_three min_three max_four min_four

/-! ### lex_Print: function 12 -/
def lex_Print.l0 : Nat → List ByteArray → List (S36) → Int → Int → Option (ByteArray)
 | 0, _, _, _, _ => none
 | k + 1, x3, x7, x8, x9 => if x9 < x8 then (if 0 ≤ x9 then (if x9 < (x7.length : Int) then ((lex_one.f ((rd_T36 x7 x9).f0) ((rd_T36 x7 x9).f1) ((rd_T36 x7 x9).f2) ((rd_T36 x7 x9).f3.f0) ((rd_T36 x7 x9).f3.f1) ((rd_T36 x7 x9).f4)).bind fun t221 => (if t221.toList = ([] : List UInt8) then (lex_Print.l0 k x3 x7 x8 (wrap64 (x9 + 1))) else (if x3.length < 8796093022208 then (lex_Print.l0 k (x3 ++ [t221]) x7 x8 (wrap64 (x9 + 1))) else (none)))) else (none)) else (none)) else ((strings_Join.f x3 (⟨#[32]⟩ : ByteArray)).bind fun t225 => (some t225))
def lex_Print.f (k : Nat) (l0 : List (S36)) : Option (ByteArray) := lex_Print.l0 k ([] : List ByteArray) l0 (l0.length : Int) 0
theorem lex_Print.mono_l : ∀ k, (∀ y0 y1 y2 y3, LeO (lex_Print.l0 k y0 y1 y2 y3) (lex_Print.l0 (k + 1) y0 y1 y2 y3))
 | 0 => fun _ _ _ _ r h => by simp [lex_Print.l0] at h
 | k + 1 => by
  have ih0 := lex_Print.mono_l k
  ·intro y0 y1 y2 y3
   unfold lex_Print.l0
   repeat' first
   | (with_reducible exact ih0 _ _ _ _)
   | (with_reducible exact LeO.refl _)
   | (with_reducible exact LeO.none _)
   | (with_reducible refine LeO.ite ?_ ?_)
   | (with_reducible refine LeO.bind ?_ (fun _ => ?_))
   | exact ih0 _ _ _ _
   | exact LeO.none _
   | refine LeO.ite ?_ ?_
   | refine LeO.bind ?_ (fun _ => ?_)
theorem lex_Print.mono : ∀ a0 k, LeO (lex_Print.f k a0) (lex_Print.f (k + 1) a0) := by
 intro a0 k
 have ih0 := lex_Print.mono_l k
 unfold lex_Print.f
 repeat' first
   | (with_reducible exact ih0 _ _ _ _)
   | (with_reducible exact LeO.refl _)
   | (with_reducible exact LeO.none _)
   | (with_reducible refine LeO.ite ?_ ?_)
   | (with_reducible refine LeO.bind ?_ (fun _ => ?_))
   | exact ih0 _ _ _ _
   | exact LeO.none _
   | refine LeO.ite ?_ ?_
   | refine LeO.bind ?_ (fun _ => ?_)
set_option maxHeartbeats 8000000 in
set_option maxRecDepth 100000 in
theorem lex_Print.calls (k : Nat) (A0 : Option Addr) (c0 : Nat) (l0 : List (S36)) (r : ByteArray) (w : World) (hr0 : Kd.C k36 w A0 l0.length l0) (hc0 : l0.length ≤ c0) (hg_ : LaidW w) (h : lex_Print.f k l0 = some r) :
  Calls Tryz.prog 12 #[.slice A0 l0.length c0] w fun e w' => e = .returned (.string r) ∧ Below w.heap.size w w' := by
 have HLW := Aside0.mk hg_
 clear hg_
 have hu36 := Tryz.underlying36
 have HR0 := Aside0.mk hr0
 have HC0 := Aside0.mk hc0
 clear hr0 hc0
 have HB := Aside0.mk (Below.refl w.heap.size w)
 have H : (lex_Print.l0 k ([] : List ByteArray) l0 (l0.length : Int) 0) = some r := h
 clear h
 have H' := Aside0.mk H
 clear H
 go_enter Tryz.func12, Tryz.ntmps12
 go_wp2
 go_loopg [3, 9] k (fun kq v3 v9 w' => ∃ (x3_1 : List ByteArray) (x9_1 : Int), v9 = .int .i64 x9_1 ∧ Aside0 (lex_Print.l0 kq x3_1 l0 (l0.length : Int) x9_1 = some r) ∧ Aside0 (kq ≤ k) ∧ Aside0 (Kd.R Kd.string 9 w' w.heap.size (fun _ => True) v3 x3_1) ∧ Aside0 (Below w.heap.size w w'))
 case atStart => exact ⟨(([] : List ByteArray)), (0), (by first | rfl | (simp; done) | (simp [*]; done)), H', ⟨Nat.le_refl _⟩, ⟨by first | exact Kd.R_nil _ _ _ _ _ | exact Kd.N_nil _ _ _ _ _ | exact Kd.V_nil _ _ _ _ _ | exact Kd.Q_nil _ _ _ _ _ | exact Kd.S_nil _ _ _ _ _⟩, ⟨by repeat (first | (with_reducible first | exact HB.out | apply below_alloc | apply pw_below_drewN | apply below_drew1) | exact HB.out)⟩⟩
 case round =>
  clear H'
  try clear c1
  obtain ⟨x3_1, x9_1, rfl, HA, HK1, HO_3, HB⟩ := hrel
  cases gk with
  | zero => exact absurd HA.out (by simp [lex_Print.l0])
  | succ k1 =>
   have H := HA.out
   clear HA
   simp only [lex_Print.l0] at H
   by_cases c2 : x9_1 < (l0.length : Int)
   ·rw [if_pos c2] at H
    have c2b0 : decide (x9_1 < (l0.length : Int)) = true := decide_eq_true c2
    clear c2
    by_cases c3 : 0 ≤ x9_1
    ·rw [if_pos c3] at H
     have c3b0 : decide (0 ≤ x9_1) = true := decide_eq_true c3
     clear c3
     by_cases c4 : x9_1 < (l0.length : Int)
     ·rw [if_pos c4] at H
      have c4b0 : decide (x9_1 < (l0.length : Int)) = true := decide_eq_true c4
      clear c4
      replace H := Option.bind_eq_some_iff.mp H
      obtain ⟨t221, A50, H⟩ := H
      replace H : (if t221.toList = ([] : List UInt8) then (lex_Print.l0 k1 x3_1 l0 (l0.length : Int) (wrap64 (x9_1 + 1))) else (if x3_1.length < 8796093022208 then (lex_Print.l0 k1 (x3_1 ++ [t221]) l0 (l0.length : Int) (wrap64 (x9_1 + 1))) else (none))) = some r := H
      have A5 := Aside0.mk A50
      clear A50
      by_cases c6 : t221.toList = ([] : List UInt8)
      ·rw [if_pos c6] at H
       have c6b0 : (t221.toList == ([] : List UInt8)) = true := beq_iff_eq.mpr c6
       have c6b1 : (t221.toList != ([] : List UInt8)) = false := bne_eq_false_iff_eq.mpr c6
       clear c6
       have H' := Aside0.mk H
       clear H
       have p219 : 0 ≤ (x9_1 : Int) := of_decide_eq_true (by first | (with_reducible assumption) | assumption)
       have q219 : x9_1 < (l0.length : Int) := of_decide_eq_true (by first | (with_reducible assumption) | assumption)
       obtain ⟨ad219, e219, hx219_0, hx219_1, hx219_2, hx219_3, hx219_4, hx219_5⟩ := at_T36 HR0.out x9_1 p219 q219
       cases e219
       replace hx219_0 := (HB.out.cell (World.block_lt_of_cell? w _ hx219_0)).trans hx219_0
       replace hx219_1 := (HB.out.cell (World.block_lt_of_cell? w _ hx219_1)).trans hx219_1
       replace hx219_2 := (HB.out.cell (World.block_lt_of_cell? w _ hx219_2)).trans hx219_2
       replace hx219_3 := (HB.out.cell (World.block_lt_of_cell? w _ hx219_3)).trans hx219_3
       replace hx219_4 := (HB.out.cell (World.block_lt_of_cell? w _ hx219_4)).trans hx219_4
       replace hx219_5 := (HB.out.cell (World.block_lt_of_cell? w _ hx219_5)).trans hx219_5
       replace p219 := eq_true p219
       replace q219 := eq_true q219
       go_wp2_with (first | ((with_reducible refine gate_dst (N := 5) rfl ?_); refine box_event ?hg (N := 5) ?hd (cs := #[.int .i64 0, .int .i64 0, .string (⟨#[]⟩ : ByteArray), .bool false, .int .i64 0, .int .i64 0]) (t := 36) ?hr ?_; (case hd => rfl); (case hg => rfl); (case hr => first | (go_simp; done) | (go_simp; rfl)); intro gb220 hg w7 hbox hb; have n0_ := Aside0.mk (Kd.R_below (by (with_reducible repeat (first | apply Kd.R_alloc | apply Kd.R_drewN | apply Kd.R_drew)); exact HO_3.out) hb); have n1_ := Aside0.mk (below_step (by repeat (first | (with_reducible first | exact HB.out | apply below_alloc | apply pw_below_drewN | apply below_drew1) | exact HB.out)) hb); have n2_ := Aside0.mk (hbox); have n3_ := Aside0.mk ((by rw [hg]; exact (below_size (by repeat (first | (with_reducible first | exact HB.out | apply below_alloc | apply pw_below_drewN | apply below_drew1) | exact HB.out))) : w.heap.size ≤ gb220)); have n4_ := Aside0.mk ((by rw [hg]; exact (below_size (by repeat (first | (with_reducible first | exact HB.out | apply below_alloc | apply pw_below_drewN | apply below_drew1) | exact HB.out))) : w.heap.size ≤ gb220)); clear HO_3; clear HB; have HO_3 := n0_; have HB := n1_; have BK220 := n2_; have GW220 := n3_; have GE220 := n4_; clear n0_ n1_ n2_ n3_ n4_; clear hb hbox hg; have hcz8_0 : w7.cell? ⟨gb220, 0, none⟩ = some (.int .i64 0) := (blk_cell BK220.out 0).trans rfl; have hcz8_1 : w7.cell? ⟨gb220, 1, none⟩ = some (.int .i64 0) := (blk_cell BK220.out 1).trans rfl; have hcz8_2 : w7.cell? ⟨gb220, 2, none⟩ = some (.string (⟨#[]⟩ : ByteArray)) := (blk_cell BK220.out 2).trans rfl; have hcz8_3 : w7.cell? ⟨gb220, 3, none⟩ = some (.bool false) := (blk_cell BK220.out 3).trans rfl; have hcz8_4 : w7.cell? ⟨gb220, 4, none⟩ = some (.int .i64 0) := (blk_cell BK220.out 4).trans rfl; have hcz8_5 : w7.cell? ⟨gb220, 5, none⟩ = some (.int .i64 0) := (blk_cell BK220.out 5).trans rfl; have hfz8_0 := blk_frozen BK220.out 0; have hfz8_1 := blk_frozen BK220.out 1; have hfz8_2 := blk_frozen BK220.out 2; have hfz8_3 := blk_frozen BK220.out 3; have hfz8_4 := blk_frozen BK220.out 4; have hfz8_5 := blk_frozen BK220.out 5) | ((with_reducible refine gate_callee (f := 20) rfl ?_); refine goesL_ (some 14) rfl rfl Tryz.func20 (by kernel_rfl) rfl #[.agg #[.int .i64 ((rd_T36 l0 x9_1).f0), .int .i64 ((rd_T36 l0 x9_1).f1), .string ((rd_T36 l0 x9_1).f2), .bool ((rd_T36 l0 x9_1).f3.f0), .int .i64 ((rd_T36 l0 x9_1).f3.f1), .int .i64 ((rd_T36 l0 x9_1).f4)]] rfl (by (try simp only [List.map_toArray, List.map_cons, List.map_nil]); first | done | rfl | (simp only [List.length_drop, List.length_take]; rfl)) ?_; (with_reducible refine (lex_one.calls ((rd_T36 l0 x9_1).f0) ((rd_T36 l0 x9_1).f1) ((rd_T36 l0 x9_1).f2) ((rd_T36 l0 x9_1).f3.f0) ((rd_T36 l0 x9_1).f3.f1) ((rd_T36 l0 x9_1).f4) t221 _ ?side1 A5.out).mono ?_); (case side1 => exact LaidW.below HLW.out (by repeat (first | (with_reducible first | exact HB.out | apply below_alloc | apply pw_below_drewN | apply below_drew1) | exact HB.out | (refine below_set ?_ (Aside0.out ?hge); (case hge => assumption))))); rintro e w9 ⟨rfl, hb⟩; refine ⟨_, rfl, ?_⟩; have n0_ := Aside0.mk (Kd.R_below (by (with_reducible repeat (first | apply Kd.R_alloc | apply Kd.R_drewN | apply Kd.R_drew)); exact (Kd.R_mono (Kd.R_far (p := ⟨gb220, 5, none⟩) (Kd.R_far (p := ⟨gb220, 4, none⟩) (Kd.R_far (p := ⟨gb220, 3, none⟩) (Kd.R_far (p := ⟨gb220, 2, none⟩) (Kd.R_far (p := ⟨gb220, 1, none⟩) (Kd.R_far (p := ⟨gb220, 0, none⟩) (Kd.R_types HO_3.out BK220.out (by decide)) (fun _ hk => hk.2) (.int .i64 ((rd_T36 l0 x9_1).f0))) (fun _ hk => hk.2) (.int .i64 ((rd_T36 l0 x9_1).f1))) (fun _ hk => hk.2) (.string ((rd_T36 l0 x9_1).f2))) (fun _ hk => hk.2) (.bool ((rd_T36 l0 x9_1).f3.f0))) (fun _ hk => hk.2) (.int .i64 ((rd_T36 l0 x9_1).f3.f1))) (fun _ hk => hk.2) (.int .i64 ((rd_T36 l0 x9_1).f4))) (fun _ h_ => h_.1))) hb); have n1_ := Aside0.mk (blk_below (g := gb220) (o := .cells #[.int .i64 ((rd_T36 l0 x9_1).f0), .int .i64 ((rd_T36 l0 x9_1).f1), .string ((rd_T36 l0 x9_1).f2), .bool ((rd_T36 l0 x9_1).f3.f0), .int .i64 ((rd_T36 l0 x9_1).f3.f1), .int .i64 ((rd_T36 l0 x9_1).f4)] 36 (0, 0)) (by (with_reducible repeat (first | refine blk_drewN ?_ _ | refine blk_drew ?_ | refine blk_alloc ?_ _)); refine blk_put (cs := #[.int .i64 ((rd_T36 l0 x9_1).f0), .int .i64 ((rd_T36 l0 x9_1).f1), .string ((rd_T36 l0 x9_1).f2), .bool ((rd_T36 l0 x9_1).f3.f0), .int .i64 ((rd_T36 l0 x9_1).f3.f1), .int .i64 0]) ?_ 5 _ rfl; (with_reducible repeat (first | refine blk_drewN ?_ _ | refine blk_drew ?_ | refine blk_alloc ?_ _)); refine blk_put (cs := #[.int .i64 ((rd_T36 l0 x9_1).f0), .int .i64 ((rd_T36 l0 x9_1).f1), .string ((rd_T36 l0 x9_1).f2), .bool ((rd_T36 l0 x9_1).f3.f0), .int .i64 0, .int .i64 0]) ?_ 4 _ rfl; (with_reducible repeat (first | refine blk_drewN ?_ _ | refine blk_drew ?_ | refine blk_alloc ?_ _)); refine blk_put (cs := #[.int .i64 ((rd_T36 l0 x9_1).f0), .int .i64 ((rd_T36 l0 x9_1).f1), .string ((rd_T36 l0 x9_1).f2), .bool false, .int .i64 0, .int .i64 0]) ?_ 3 _ rfl; (with_reducible repeat (first | refine blk_drewN ?_ _ | refine blk_drew ?_ | refine blk_alloc ?_ _)); refine blk_put (cs := #[.int .i64 ((rd_T36 l0 x9_1).f0), .int .i64 ((rd_T36 l0 x9_1).f1), .string (⟨#[]⟩ : ByteArray), .bool false, .int .i64 0, .int .i64 0]) ?_ 2 _ rfl; (with_reducible repeat (first | refine blk_drewN ?_ _ | refine blk_drew ?_ | refine blk_alloc ?_ _)); refine blk_put (cs := #[.int .i64 ((rd_T36 l0 x9_1).f0), .int .i64 0, .string (⟨#[]⟩ : ByteArray), .bool false, .int .i64 0, .int .i64 0]) ?_ 1 _ rfl; (with_reducible repeat (first | refine blk_drewN ?_ _ | refine blk_drew ?_ | refine blk_alloc ?_ _)); refine blk_put (cs := #[.int .i64 0, .int .i64 0, .string (⟨#[]⟩ : ByteArray), .bool false, .int .i64 0, .int .i64 0]) ?_ 0 _ rfl; (with_reducible repeat (first | refine blk_drewN ?_ _ | refine blk_drew ?_ | refine blk_alloc ?_ _)); exact BK220.out) hb); have n2_ := Aside0.mk (below_step (by repeat (first | (with_reducible first | exact HB.out | apply below_alloc | apply pw_below_drewN | apply below_drew1 | refine below_set ?_ GE220.out) | exact HB.out)) hb); clear HO_3; clear BK220; clear HB; have HO_3 := n0_; have BK220 := n1_; have HB := n2_; clear n0_ n1_ n2_; (try clear hb); (try clear hb2); (try clear hk); (try clear hi)))
       go_roundg k1
       case measure => have := HK1.out; omega
       case rel => exact ⟨(x3_1), (wrap64 (x9_1 + 1)), (by first | rfl | (simp; done) | (simp [*]; done)), H', ⟨by have := HK1.out; omega⟩, ⟨by (with_reducible repeat (first | apply Kd.R_alloc | apply Kd.R_drewN | apply Kd.R_drew)); exact HO_3.out⟩, ⟨by repeat (first | (with_reducible first | exact HB.out | apply below_alloc | apply pw_below_drewN | apply below_drew1 | refine below_set ?_ GE220.out) | exact HB.out)⟩⟩
      ·rw [if_neg c6] at H
       have c6b0 : (t221.toList == ([] : List UInt8)) = false := beq_eq_false_iff_ne.mpr c6
       have c6b1 : (t221.toList != ([] : List UInt8)) = true := bne_iff_ne.mpr c6
       by_cases c10 : x3_1.length < 8796093022208
       ·rw [if_pos c10] at H
        have LMc10 := Aside0.mk c10
        clear c10
        obtain ⟨y222, hy222⟩ : ∃ y_ : List ByteArray, y_ = (x3_1 ++ [t221]) := ⟨_, rfl⟩
        replace H : (lex_Print.l0 k1 y222 l0 (l0.length : Int) (wrap64 (x9_1 + 1))) = some r := by first | (rw [hy222]; with_reducible exact H) | (have H2_ := (Option.bind_some _ _).symm.trans H; rw [hy222]; with_reducible exact H2_) | (have H2_ := (Option.bind_some _ _).symm.trans H; with_reducible exact H2_) | with_reducible exact H | (rw [hy222]; exact H) | exact H
        have Ny222 := Aside0.mk hy222
        clear hy222
        have H' := Aside0.mk H
        clear H
        have p219 : 0 ≤ (x9_1 : Int) := of_decide_eq_true (by first | (with_reducible assumption) | assumption)
        have q219 : x9_1 < (l0.length : Int) := of_decide_eq_true (by first | (with_reducible assumption) | assumption)
        obtain ⟨ad219, e219, hx219_0, hx219_1, hx219_2, hx219_3, hx219_4, hx219_5⟩ := at_T36 HR0.out x9_1 p219 q219
        cases e219
        replace hx219_0 := (HB.out.cell (World.block_lt_of_cell? w _ hx219_0)).trans hx219_0
        replace hx219_1 := (HB.out.cell (World.block_lt_of_cell? w _ hx219_1)).trans hx219_1
        replace hx219_2 := (HB.out.cell (World.block_lt_of_cell? w _ hx219_2)).trans hx219_2
        replace hx219_3 := (HB.out.cell (World.block_lt_of_cell? w _ hx219_3)).trans hx219_3
        replace hx219_4 := (HB.out.cell (World.block_lt_of_cell? w _ hx219_4)).trans hx219_4
        replace hx219_5 := (HB.out.cell (World.block_lt_of_cell? w _ hx219_5)).trans hx219_5
        replace p219 := eq_true p219
        replace q219 := eq_true q219
        go_wp2_with (first | ((with_reducible refine gate_dst (N := 5) rfl ?_); refine box_event ?hg (N := 5) ?hd (cs := #[.int .i64 0, .int .i64 0, .string (⟨#[]⟩ : ByteArray), .bool false, .int .i64 0, .int .i64 0]) (t := 36) ?hr ?_; (case hd => rfl); (case hg => rfl); (case hr => first | (go_simp; done) | (go_simp; rfl)); intro gb220 hg w11 hbox hb; have n0_ := Aside0.mk (Kd.R_below (by (with_reducible repeat (first | apply Kd.R_alloc | apply Kd.R_drewN | apply Kd.R_drew)); exact HO_3.out) hb); have n1_ := Aside0.mk (below_step (by repeat (first | (with_reducible first | exact HB.out | apply below_alloc | apply pw_below_drewN | apply below_drew1) | exact HB.out)) hb); have n2_ := Aside0.mk (hbox); have n3_ := Aside0.mk ((by rw [hg]; exact (below_size (by repeat (first | (with_reducible first | exact HB.out | apply below_alloc | apply pw_below_drewN | apply below_drew1) | exact HB.out))) : w.heap.size ≤ gb220)); have n4_ := Aside0.mk ((by rw [hg]; exact (below_size (by repeat (first | (with_reducible first | exact HB.out | apply below_alloc | apply pw_below_drewN | apply below_drew1) | exact HB.out))) : w.heap.size ≤ gb220)); clear HO_3; clear HB; have HO_3 := n0_; have HB := n1_; have BK220 := n2_; have GW220 := n3_; have GE220 := n4_; clear n0_ n1_ n2_ n3_ n4_; clear hb hbox hg; have hcz12_0 : w11.cell? ⟨gb220, 0, none⟩ = some (.int .i64 0) := (blk_cell BK220.out 0).trans rfl; have hcz12_1 : w11.cell? ⟨gb220, 1, none⟩ = some (.int .i64 0) := (blk_cell BK220.out 1).trans rfl; have hcz12_2 : w11.cell? ⟨gb220, 2, none⟩ = some (.string (⟨#[]⟩ : ByteArray)) := (blk_cell BK220.out 2).trans rfl; have hcz12_3 : w11.cell? ⟨gb220, 3, none⟩ = some (.bool false) := (blk_cell BK220.out 3).trans rfl; have hcz12_4 : w11.cell? ⟨gb220, 4, none⟩ = some (.int .i64 0) := (blk_cell BK220.out 4).trans rfl; have hcz12_5 : w11.cell? ⟨gb220, 5, none⟩ = some (.int .i64 0) := (blk_cell BK220.out 5).trans rfl; have hfz12_0 := blk_frozen BK220.out 0; have hfz12_1 := blk_frozen BK220.out 1; have hfz12_2 := blk_frozen BK220.out 2; have hfz12_3 := blk_frozen BK220.out 3; have hfz12_4 := blk_frozen BK220.out 4; have hfz12_5 := blk_frozen BK220.out 5) | ((with_reducible refine gate_callee (f := 20) rfl ?_); refine goesL_ (some 14) rfl rfl Tryz.func20 (by kernel_rfl) rfl #[.agg #[.int .i64 ((rd_T36 l0 x9_1).f0), .int .i64 ((rd_T36 l0 x9_1).f1), .string ((rd_T36 l0 x9_1).f2), .bool ((rd_T36 l0 x9_1).f3.f0), .int .i64 ((rd_T36 l0 x9_1).f3.f1), .int .i64 ((rd_T36 l0 x9_1).f4)]] rfl (by (try simp only [List.map_toArray, List.map_cons, List.map_nil]); first | done | rfl | (simp only [List.length_drop, List.length_take]; rfl)) ?_; (with_reducible refine (lex_one.calls ((rd_T36 l0 x9_1).f0) ((rd_T36 l0 x9_1).f1) ((rd_T36 l0 x9_1).f2) ((rd_T36 l0 x9_1).f3.f0) ((rd_T36 l0 x9_1).f3.f1) ((rd_T36 l0 x9_1).f4) t221 _ ?side1 A5.out).mono ?_); (case side1 => exact LaidW.below HLW.out (by repeat (first | (with_reducible first | exact HB.out | apply below_alloc | apply pw_below_drewN | apply below_drew1) | exact HB.out | (refine below_set ?_ (Aside0.out ?hge); (case hge => assumption))))); rintro e w13 ⟨rfl, hb⟩; refine ⟨_, rfl, ?_⟩; have n0_ := Aside0.mk (Kd.R_below (by (with_reducible repeat (first | apply Kd.R_alloc | apply Kd.R_drewN | apply Kd.R_drew)); exact (Kd.R_mono (Kd.R_far (p := ⟨gb220, 5, none⟩) (Kd.R_far (p := ⟨gb220, 4, none⟩) (Kd.R_far (p := ⟨gb220, 3, none⟩) (Kd.R_far (p := ⟨gb220, 2, none⟩) (Kd.R_far (p := ⟨gb220, 1, none⟩) (Kd.R_far (p := ⟨gb220, 0, none⟩) (Kd.R_types HO_3.out BK220.out (by decide)) (fun _ hk => hk.2) (.int .i64 ((rd_T36 l0 x9_1).f0))) (fun _ hk => hk.2) (.int .i64 ((rd_T36 l0 x9_1).f1))) (fun _ hk => hk.2) (.string ((rd_T36 l0 x9_1).f2))) (fun _ hk => hk.2) (.bool ((rd_T36 l0 x9_1).f3.f0))) (fun _ hk => hk.2) (.int .i64 ((rd_T36 l0 x9_1).f3.f1))) (fun _ hk => hk.2) (.int .i64 ((rd_T36 l0 x9_1).f4))) (fun _ h_ => h_.1))) hb); have n1_ := Aside0.mk (blk_below (g := gb220) (o := .cells #[.int .i64 ((rd_T36 l0 x9_1).f0), .int .i64 ((rd_T36 l0 x9_1).f1), .string ((rd_T36 l0 x9_1).f2), .bool ((rd_T36 l0 x9_1).f3.f0), .int .i64 ((rd_T36 l0 x9_1).f3.f1), .int .i64 ((rd_T36 l0 x9_1).f4)] 36 (0, 0)) (by (with_reducible repeat (first | refine blk_drewN ?_ _ | refine blk_drew ?_ | refine blk_alloc ?_ _)); refine blk_put (cs := #[.int .i64 ((rd_T36 l0 x9_1).f0), .int .i64 ((rd_T36 l0 x9_1).f1), .string ((rd_T36 l0 x9_1).f2), .bool ((rd_T36 l0 x9_1).f3.f0), .int .i64 ((rd_T36 l0 x9_1).f3.f1), .int .i64 0]) ?_ 5 _ rfl; (with_reducible repeat (first | refine blk_drewN ?_ _ | refine blk_drew ?_ | refine blk_alloc ?_ _)); refine blk_put (cs := #[.int .i64 ((rd_T36 l0 x9_1).f0), .int .i64 ((rd_T36 l0 x9_1).f1), .string ((rd_T36 l0 x9_1).f2), .bool ((rd_T36 l0 x9_1).f3.f0), .int .i64 0, .int .i64 0]) ?_ 4 _ rfl; (with_reducible repeat (first | refine blk_drewN ?_ _ | refine blk_drew ?_ | refine blk_alloc ?_ _)); refine blk_put (cs := #[.int .i64 ((rd_T36 l0 x9_1).f0), .int .i64 ((rd_T36 l0 x9_1).f1), .string ((rd_T36 l0 x9_1).f2), .bool false, .int .i64 0, .int .i64 0]) ?_ 3 _ rfl; (with_reducible repeat (first | refine blk_drewN ?_ _ | refine blk_drew ?_ | refine blk_alloc ?_ _)); refine blk_put (cs := #[.int .i64 ((rd_T36 l0 x9_1).f0), .int .i64 ((rd_T36 l0 x9_1).f1), .string (⟨#[]⟩ : ByteArray), .bool false, .int .i64 0, .int .i64 0]) ?_ 2 _ rfl; (with_reducible repeat (first | refine blk_drewN ?_ _ | refine blk_drew ?_ | refine blk_alloc ?_ _)); refine blk_put (cs := #[.int .i64 ((rd_T36 l0 x9_1).f0), .int .i64 0, .string (⟨#[]⟩ : ByteArray), .bool false, .int .i64 0, .int .i64 0]) ?_ 1 _ rfl; (with_reducible repeat (first | refine blk_drewN ?_ _ | refine blk_drew ?_ | refine blk_alloc ?_ _)); refine blk_put (cs := #[.int .i64 0, .int .i64 0, .string (⟨#[]⟩ : ByteArray), .bool false, .int .i64 0, .int .i64 0]) ?_ 0 _ rfl; (with_reducible repeat (first | refine blk_drewN ?_ _ | refine blk_drew ?_ | refine blk_alloc ?_ _)); exact BK220.out) hb); have n2_ := Aside0.mk (below_step (by repeat (first | (with_reducible first | exact HB.out | apply below_alloc | apply pw_below_drewN | apply below_drew1 | refine below_set ?_ GE220.out) | exact HB.out)) hb); clear HO_3; clear BK220; clear HB; have HO_3 := n0_; have BK220 := n1_; have HB := n2_; clear n0_ n1_ n2_; (try clear hb); (try clear hb2); (try clear hk); (try clear hi)) | ((with_reducible refine gate_builtin (b := .append) (xs := #[.tmp 17, .tmp 19]) rfl ?_); at_builtin; refine Kd.R_append Kd.string (w0 := w) w.heap.size rfl (.tmp 17) (.tmp 19) 50 9 (.string ⟨#[]⟩) 16 rfl Tryz.underlying50 info9 rfl (by decide) (by omega) u3 x3_1 t221 [.string t221] (fun _ => True) (fun _ => False) rfl rfl ?aP (fun _ hk => hk.elim) ?aF ?aO ?aB ?aS ?aL ?_; (case aP => exact rfl); (case aB => exact (by repeat (first | (with_reducible first | exact HB.out | apply below_alloc | apply pw_below_drewN | apply below_drew1 | refine below_set ?_ GE220.out) | exact HB.out))); (case aF => exact (fun _ _ => trivial)); (case aO => exact (by (with_reducible repeat (first | apply Kd.R_alloc | apply Kd.R_drewN | apply Kd.R_drew)); exact HO_3.out)); (case aS => exact (below_size (by repeat (first | (with_reducible first | exact HB.out | apply below_alloc | apply pw_below_drewN | apply below_drew1 | refine below_set ?_ GE220.out) | exact HB.out)))); (case aL => have := LMc10.out; omega); intro v223 w14 ho hb hg hat; rw [← Ny222.out] at ho; have n0_ := Aside0.mk (blk_grown (g := gb220) (o := .cells #[.int .i64 ((rd_T36 l0 x9_1).f0), .int .i64 ((rd_T36 l0 x9_1).f1), .string ((rd_T36 l0 x9_1).f2), .bool ((rd_T36 l0 x9_1).f3.f0), .int .i64 ((rd_T36 l0 x9_1).f3.f1), .int .i64 ((rd_T36 l0 x9_1).f4)] 36 (0, 0)) (by (with_reducible repeat (first | refine blk_drewN ?_ _ | refine blk_drew ?_ | refine blk_alloc ?_ _)); exact BK220.out) hg (Kd.R_ne HO_3.out BK220.out (by decide))); have n1_ := Aside0.mk (hb); have n2_ := Aside0.mk (ho); clear BK220; clear HB; clear HO_3; have BK220 := n0_; have HB := n1_; have HO224 := n2_; clear n0_ n1_ n2_; clear ho hb hg hat))
        go_roundg k1
        case measure => have := HK1.out; omega
        case rel => exact ⟨(y222), (wrap64 (x9_1 + 1)), (by first | rfl | (simp; done) | (simp [*]; done)), H', ⟨by have := HK1.out; omega⟩, ⟨by (with_reducible repeat (first | apply Kd.R_alloc | apply Kd.R_drewN | apply Kd.R_drew)); exact HO224.out⟩, ⟨by repeat (first | (with_reducible first | exact HB.out | apply below_alloc | apply pw_below_drewN | apply below_drew1 | refine below_set ?_ GE220.out) | exact HB.out)⟩⟩
       ·rw [if_neg c10] at H
        exact absurd H (by simp)
     ·rw [if_neg c4] at H
      exact absurd H (by simp)
    ·rw [if_neg c3] at H
     exact absurd H (by simp)
   ·rw [if_neg c2] at H
    have c2b0 : decide (x9_1 < (l0.length : Int)) = false := decide_eq_false c2
    clear c2
    replace H := Option.bind_eq_some_iff.mp H
    obtain ⟨t225, A150, H⟩ := H
    replace H : (some t225) = some r := H
    have A15 := Aside0.mk A150
    clear A150
    obtain rfl := Option.some.inj H
    obtain ⟨Ao16, co16, eo16⟩ := Kd.R_slice HO_3.out
    subst eo16
    go_wp2_with (first | ((with_reducible refine gate_callee (f := 21) rfl ?_); refine goesL_ (some 23) rfl rfl Tryz.func21 (by kernel_rfl) rfl #[.slice Ao16 x3_1.length co16, .string (⟨#[32]⟩ : ByteArray)] rfl (by (try simp only [List.map_toArray, List.map_cons, List.map_nil]); first | done | rfl | (simp only [List.length_drop, List.length_take]; rfl)) ?_; (with_reducible refine (strings_Join.calls _ _ x3_1 (⟨#[32]⟩ : ByteArray) t225 _ ?side1 ?side2 A15.out).mono ?_); (case side1 => repeat (first | exact (Kd.R_reads' HO_3.out).2.2 | (with_reducible refine Kd.C_alloc ?_ _) | (with_reducible refine Kd.C_drewN ?_ _) | (with_reducible refine Kd.C_drew ?_))); (case side2 => exact (Kd.R_reads' HO_3.out).2.1); rintro e w17 ⟨rfl, hb⟩; refine ⟨_, rfl, ?_⟩; have n0_ := Aside0.mk (Kd.R_below (by (with_reducible repeat (first | apply Kd.R_alloc | apply Kd.R_drewN | apply Kd.R_drew)); exact HO_3.out) hb); have n1_ := Aside0.mk (below_step (by repeat (first | (with_reducible first | exact HB.out | apply below_alloc | apply pw_below_drewN | apply below_drew1) | exact HB.out)) hb); clear HO_3; clear HB; have HO_3 := n0_; have HB := n1_; clear n0_ n1_; (try clear hb); (try clear hb2); (try clear hk); (try clear hi)))
    go_ret
    exact ⟨by first | rfl | (simp [errW_none, errW_some] <;> rfl) | (simp [*, errW_none, errW_some] <;> rfl), by repeat (first | (with_reducible first | exact HB.out | apply below_alloc | apply pw_below_drewN | apply below_drew1) | exact HB.out)⟩

end Go.Proofs.YtnjobjogddjelaaGreatDoor.Print
end
