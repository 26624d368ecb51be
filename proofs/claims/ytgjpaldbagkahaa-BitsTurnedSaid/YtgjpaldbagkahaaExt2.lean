import Derived.Test.YtgjpaldbagkahaaPrint2
import Derived.Test.YtgjpaldbagkahaaPrint4
import Derived.Test.YtgjpaldbagkahaaPrint6
import Derived.Test.YtgjpaldbagkahaaPrint7
import Derived.Test.YtgjpaldbagkahaaPrint9
import Derived.Lib.SlBytesConst
namespace Go.Proofs.Ytgjpaldbagkahaa.Print
open Go.RowKit Go.Proofs.YtgjpaldbagkahaaX Go.Proofs.YtgjpaldbagkahaaW.PrintWords Go.Proofs.YtgjpaldbagkahaaW.PrintLast Go.Proofs.YtgjpaldbagkahaaW.PrintMore
attribute [local go_sem] max2_int min2_int max_two min_two max_three min_three max_four min_four
set_option linter.unusedVariables false
set_option linter.unusedSimpArgs false

/-! 'known': all its tests hold -/
theorem k_get : bits_Get.f 20 [1, 2, 3] 2 = some (513, [3], 0) := by kernel_rfl
theorem k_sum : bits_Sum.f 200 [49, 50, 51, 52, 53, 54, 55, 56, 57] = some 3421780262 := by kernel_rfl
theorem k_join : bits_Join.f 20 [[97], [], [98, 99]] = some [97, 98, 99] := by kernel_rfl
theorem k_put : bits_Put.f 20 [] 258 3 = some [2, 1, 0] := by kernel_rfl

theorem drawn_below {w w' : World} (h : Drawn0 w w') : Below w.heap.size w w' := by
  obtain ⟨n, rfl⟩ := h
  exact pw_below_drewN (Below.refl _ _) n
theorem kc_two (W : World) (X : Obj) (C : Array Value) (n c : Nat) :
    (convert 22 22 (.slice (some ⟨W.heap.size + 1, 0, none⟩) n c)).run Try.prog ((W.alloc X).alloc (.cells C 5)) = .ok (.slice (some ⟨W.heap.size + 1, 0, none⟩) n c) ((W.alloc X).alloc (.cells C 5 (C.size, C.size + 1))) := by
  have h := Lib.run_convert_bytes_const (P := Try.prog) (W.alloc X) 22 5 C n c Try.underlying22 Try.underlying5
  have hz : (W.alloc X).heap.size = W.heap.size + 1 := by show (W.heap.push X).size = _; simp
  rw [hz] at h
  exact h
def spillwaylaw1_known.f : Option (Bool) := some true
set_option maxHeartbeats 400000 in
set_option maxRecDepth 100000 in
theorem spillwaylaw1_known.calls (r : Bool) (w : World) (h : spillwaylaw1_known.f = some r) :
    Calls Try.prog 9 #[] w fun e w' => e = .returned (.bool r) ∧ Below w.heap.size w w' := by
  obtain rfl : true = r := Option.some.inj h
  clear h
  have HB := Aside0.mk (Below.refl w.heap.size w)
  have kc := fun (W : World) (C : Array Value) (n c : Nat) => Lib.run_convert_bytes_const (P := Try.prog) W 22 5 C n c Try.underlying22 Try.underlying5
  have kc2 := kc_two
  go_enter Try.func9, Try.ntmps9
  go_wp2_with (fail)
  refine (bits_Get.calls 20 (fun k => k < _) _ _ [1, 2, 3] 2 513 [3] 0 _ (V_of_C (lit_reads _ [1, 2, 3] 5 (0, 0) (by simp)) (by simp) 5 _) k_get).mono ?_
  rintro e w1 ⟨v1, rfl, ho, hb⟩
  obtain ⟨A1, c1, e1⟩ := Kd.V_slice ho
  subst e1
  have n0 := Aside0.mk (below_step (by repeat (first | (with_reducible first | exact HB.out | apply below_alloc | apply pw_below_drewN | apply below_drew1) | exact HB.out)) hb)
  clear HB ho hb
  have HB := n0
  clear n0
  go_wp2_with (fail)
  refine (bits_Sum.calls 200 _ _ [49, 50, 51, 52, 53, 54, 55, 56, 57] 3421780262 _ (lit_reads _ [49, 50, 51, 52, 53, 54, 55, 56, 57] 5 (9, 10) (by simp)) (by simp) k_sum).mono ?_
  rintro e w2 ⟨rfl, hd⟩
  have n0 := Aside0.mk (below_step (by repeat (first | (with_reducible first | exact HB.out | apply below_alloc | apply pw_below_drewN | apply below_drew1) | exact HB.out)) (drawn_below hd))
  clear HB hd
  have HB := n0
  clear n0
  go_wp2_with (fail)
  refine (bits_Join.calls 20 _ 3 [[97], [], [98, 99]] [97, 98, 99] _ (lit_rows_at _ _ [_, _, _] [[97], [], [98, 99]] 22 (0, 0) ?hg (by decide) ?hr) (Nat.le_refl _) k_join).mono ?_
  case hg => simp
  case hr =>
    intro j l hj
    match j, hj with
    | 0, hj => obtain rfl := Option.some.inj hj; exact ⟨_, 1, rfl, Nat.le_refl _, Kd.C_alloc (lit_reads_at _ _ [97] 5 (1, 2) rfl (by simp)) _⟩
    | 1, hj => obtain rfl := Option.some.inj hj; exact ⟨_, _, rfl, Nat.le_refl _, Kd.C_nil _ _⟩
    | 2, hj => obtain rfl := Option.some.inj hj; exact ⟨_, 2, rfl, Nat.le_refl _, lit_reads_at _ _ [98, 99] 5 (2, 3) (by simp) (by simp)⟩
    | n + 3, hj => simp at hj
  rintro e w3 ⟨v3, rfl, ho, hb⟩
  obtain ⟨A3, c3, e3⟩ := Kd.R_slice ho
  subst e3
  have hs3 : (convert 22 9 (.slice A3 3 c3)).run Try.prog w3 = .ok (.string ⟨#[97, 98, 99]⟩) w3 := own_string (P := Try.prog) Try.underlying22 Try.underlying5 Try.underlying9 (Kd.own_of_R ho)
  have n0 := Aside0.mk (below_step (by repeat (first | (with_reducible first | exact HB.out | apply below_alloc | apply pw_below_drewN | apply below_drew1) | exact HB.out)) hb)
  clear HB ho hb
  have HB := n0
  clear n0
  go_wp2_with (fail)
  refine (bits_Put.calls 20 (fun _ => False) (.slice none 0 0) [] 258 3 [2, 1, 0] _ _ (Below.refl _ _) (Kd.R_nil _ _ _ _ _) k_put).mono ?_
  rintro e w4 ⟨v4, rfl, ho, hb, hkp⟩
  obtain ⟨A4, c4, e4⟩ := Kd.R_slice ho
  subst e4
  have hs4 : (convert 22 9 (.slice A4 3 c4)).run Try.prog w4 = .ok (.string ⟨#[2, 1, 0]⟩) w4 := own_string (P := Try.prog) Try.underlying22 Try.underlying5 Try.underlying9 (Kd.own_of_R ho)
  have n0 := Aside0.mk (below_step (by repeat (first | (with_reducible first | exact HB.out | apply below_alloc | apply pw_below_drewN | apply below_drew1) | exact HB.out)) hb)
  clear HB ho hb hkp
  have HB := n0
  clear n0
  go_wp2
  go_ret
  exact ⟨rfl, by repeat (first | (with_reducible first | exact HB.out | apply below_alloc | apply pw_below_drewN | apply below_drew1) | exact HB.out)⟩

/-! ### spillwayref1_Text: function 20 -/
def spillwayref1_Text.f (k : Nat) (l0 : List Int) (a1 : ByteArray) : Option (List Int) := if (a1.size : Int) > 65535 then (if 0 ≤ 65535 then (if 65535 ≤ (a1.size : Int) then ((spillwayref1_Put.f k l0 (IntKind.u64.wrap (((a1.extract 0 65535).size : Int))) 2).bind fun t152 => (if t152.length + (a1.extract 0 65535).size < 140737488355328 then (some (t152 ++ bytesOf (a1.extract 0 65535))) else (none))) else (none)) else (none)) else ((spillwayref1_Put.f k l0 (IntKind.u64.wrap ((a1.size : Int))) 2).bind fun t158 => (if t158.length + a1.size < 140737488355328 then (some (t158 ++ bytesOf a1)) else (none)))
theorem spillwayref1_Text.mono : ∀ a0 a1 k, LeO (spillwayref1_Text.f k a0 a1) (spillwayref1_Text.f (k + 1) a0 a1) := by
  intro a0 a1 k
  unfold spillwayref1_Text.f
  repeat' first
      | (with_reducible exact spillwayref1_Put.mono _ _ _ _)
      | (with_reducible exact LeO.refl _)
      | (with_reducible exact LeO.none _)
      | (with_reducible refine LeO.ite ?_ ?_)
      | (with_reducible refine LeO.bind ?_ (fun _ => ?_))
      | exact spillwayref1_Put.mono _ _ _ _
      | exact LeO.none _
      | refine LeO.ite ?_ ?_
      | refine LeO.bind ?_ (fun _ => ?_)
set_option maxHeartbeats 8000000 in
set_option maxRecDepth 100000 in
theorem spillwayref1_Text.calls (k : Nat) (P0_ : Nat → Prop) (u9000_ : Value) (l0 : List Int) (a1 : ByteArray) (r : List Int) (w0 w : World) (hB : Below w0.heap.size w0 w) (ho0 : Kd.R (Kd.int .u8) 5 w w0.heap.size P0_ u9000_ l0) (h : spillwayref1_Text.f k l0 a1 = some r) :
    Calls Try.prog 20 #[u9000_, .string a1] w fun e w' => ∃ v0_ : Value, e = .returned (v0_) ∧ Kd.R (Kd.int .u8) 5 w' w0.heap.size (fun k_ => (P0_ k_ ∨ w.heap.size ≤ k_)) v0_ r ∧ Below w0.heap.size w0 w' ∧ Kept w w' (fun k_ => P0_ k_) := by
  have HO0 := Aside0.mk (show Kd.R (Kd.int .u8) 5 w w0.heap.size (fun k_ => (P0_ k_ ∨ w.heap.size ≤ k_)) u9000_ l0 from Kd.R_mono ho0 (fun k_ hk => (.inl hk)))
  have HK := Aside0.mk (Kept.refl w (fun k_ => P0_ k_))
  have HW0 := Aside0.mk hB.size
  have HB := Aside0.mk hB
  clear hB
  have H : (if (a1.size : Int) > 65535 then (if 0 ≤ 65535 then (if 65535 ≤ (a1.size : Int) then ((spillwayref1_Put.f k l0 (IntKind.u64.wrap (((a1.extract 0 65535).size : Int))) 2).bind fun t152 => (if t152.length + (a1.extract 0 65535).size < 140737488355328 then (some (t152 ++ bytesOf (a1.extract 0 65535))) else (none))) else (none)) else (none)) else ((spillwayref1_Put.f k l0 (IntKind.u64.wrap ((a1.size : Int))) 2).bind fun t158 => (if t158.length + a1.size < 140737488355328 then (some (t158 ++ bytesOf a1)) else (none)))) = some r := h
  clear h
  by_cases c3 : (a1.size : Int) > 65535
  · rw [if_pos c3] at H
    have c3b0 : decide (65535 < (a1.size : Int)) = true := decide_eq_true c3
    have c3b1 : decide (65535 < a1.size) = true := decide_eq_true (by omega)
    clear c3
    obtain ⟨s1, hs1⟩ : ∃ s1, a1.extract 0 65535 = s1 := ⟨_, rfl⟩
    rw [hs1] at H
    by_cases c4 : 0 ≤ 65535
    · rw [if_pos c4] at H
      have c4b0 := eq_true c4
      have c4b1 : decide (0 ≤ 65535) = true := decide_eq_true c4
      clear c4
      by_cases c5 : 65535 ≤ (a1.size : Int)
      · rw [if_pos c5] at H
        have c5b0 := eq_true c5
        have c5b1 : decide (65535 ≤ (a1.size : Int)) = true := decide_eq_true c5
        clear c5
        replace H := Option.bind_eq_some_iff.mp H
        obtain ⟨t152, A60, H⟩ := H
        replace H : (if t152.length + s1.size < 140737488355328 then (some (t152 ++ bytesOf s1)) else (none)) = some r := H
        have A6 := Aside0.mk A60
        clear A60
        by_cases c7 : t152.length + s1.size < 140737488355328
        · rw [if_pos c7] at H
          have LMc7 := Aside0.mk c7
          clear c7
          obtain ⟨y155, hy155⟩ : ∃ y_ : List Int, y_ = (t152 ++ bytesOf s1) := ⟨_, rfl⟩
          replace H : (some y155) = some r := by first | (rw [hy155]; with_reducible exact H) | (have H2_ := (Option.bind_some _ _).symm.trans H; rw [hy155]; with_reducible exact H2_) | (have H2_ := (Option.bind_some _ _).symm.trans H; with_reducible exact H2_) | with_reducible exact H | (rw [hy155]; exact H) | exact H
          have Ny155 := Aside0.mk hy155
          clear hy155
          obtain rfl := Option.some.inj H
          obtain ⟨Ao8, co8, eo8⟩ := Kd.R_slice HO0.out
          subst eo8
          go_enter Try.func20, Try.ntmps20
          go_wp2_with (first | ((with_reducible refine gate_callee (f := 15) rfl ?_); refine goesL_ (some 14) rfl rfl Try.func15 (by kernel_rfl) rfl #[.slice Ao8 l0.length co8, .int .u64 (IntKind.u64.wrap ((s1.size : Int))), .int .i64 2] rfl (by (try simp only [List.map_toArray, List.map_cons, List.map_nil]); first | done | rfl | (simp only [List.length_drop, List.length_take]; rfl)) ?_; (with_reducible refine (spillwayref1_Put.calls k (fun k_ => some k_ = (.slice Ao8 l0.length co8 : Value).ownBlock) (.slice Ao8 l0.length co8) l0 (IntKind.u64.wrap ((s1.size : Int))) 2 t152 w0 _ ?side1 ?side2 A6.out).mono ?_); (case side1 => repeat (first | (with_reducible first | exact HB.out | apply below_alloc | apply pw_below_drewN | apply below_drew1) | exact HB.out)); (case side2 => exact Kd.R_tight rfl HO0.out); rintro e w9 ⟨v153, rfl, ho0, hb, hkp⟩; refine ⟨_, rfl, ?_⟩; have n0_ := Aside0.mk (Kd.R_mono (ok' := fun k_ => (P0_ k_ ∨ w.heap.size ≤ k_)) ho0 (fun k_ hk_ => Or.elim hk_ (fun hs_ => (HO0.out.1 k_ (hs_).symm)) (fun hn_ => (.inr (Nat.le_trans (by first | exact HK.out.1 | exact (show Kept w _ (fun k_ => P0_ k_) from by repeat (first | (with_reducible first | exact HK.out | apply Kept.alloc | apply Kept.drewN | apply Kept.drew) | exact HK.out)).1) hn_))))); have n1_ := Aside0.mk (Kept.then_ (S := (fun k_ => P0_ k_)) (by repeat (first | (with_reducible first | exact HK.out | apply Kept.alloc | apply Kept.drewN | apply Kept.drew) | exact HK.out)) hkp (fun k_ hs_ => (fun e_ => (HO0.out.1 k_ e_.symm)) hs_)); have n2_ := Aside0.mk (hb); clear HK; clear HB; clear HO0; have HO154 := n0_; have HK := n1_; have HB := n2_; clear n0_ n1_ n2_; (try clear hb); (try clear hkp); (try clear ho0)) | (at_builtin; refine append_str_at (w0 := w0) w0.heap.size rfl (.tmp 14) _ 22 9 5 rfl Try.underlying22 Try.underlying9 info5 v153 t152 s1 (fun k_ => (P0_ k_ ∨ w.heap.size ≤ k_)) rfl rfl ?aF ?aO ?aB ?aS ?aL ?_; (case aB => exact (by repeat (first | (with_reducible first | exact HB.out | apply below_alloc | apply pw_below_drewN | apply below_drew1) | exact HB.out))); (case aF => exact (fun k_ hk => (.inr (Nat.le_trans (by first | exact HK.out.1 | exact (show Kept w _ (fun k_ => P0_ k_) from by repeat (first | (with_reducible first | exact HK.out | apply Kept.alloc | apply Kept.drewN | apply Kept.drew) | exact HK.out)).1) hk)))); (case aO => exact (by (with_reducible repeat (first | apply Kd.R_alloc | apply Kd.R_drewN | apply Kd.R_drew)); exact HO154.out)); (case aS => exact (below_size (by repeat (first | (with_reducible first | exact HB.out | apply below_alloc | apply pw_below_drewN | apply below_drew1) | exact HB.out)))); (case aL => have := LMc7.out; omega); intro v156 w10 ho hb hg hat; rw [← Ny155.out] at ho; have n0_ := Aside0.mk (hb); have n1_ := Aside0.mk (Kept.of_grown (S := (fun k_ => P0_ k_)) hg (by repeat (first | (with_reducible first | exact HK.out | apply Kept.alloc | apply Kept.drewN | apply Kept.drew) | exact HK.out)) (fun k_ e_ => (HO154.out.1 k_ e_))); have n2_ := Aside0.mk (ho); clear HB; clear HK; clear HO154; have HB := n0_; have HK := n1_; have HO157 := n2_; clear n0_ n1_ n2_; clear ho hb hg hat))
          go_ret
          exact ⟨_, by first | rfl | (simp [errW_none, errW_some] <;> rfl) | (simp [*, errW_none, errW_some] <;> rfl), by (with_reducible repeat (first | apply Kd.R_alloc | apply Kd.R_drewN | apply Kd.R_drew)); exact HO157.out, by repeat (first | (with_reducible first | exact HB.out | apply below_alloc | apply pw_below_drewN | apply below_drew1) | exact HB.out), by repeat (first | (with_reducible first | exact HK.out | apply Kept.alloc | apply Kept.drewN | apply Kept.drew) | exact HK.out)⟩
        · rw [if_neg c7] at H
          exact absurd H (by simp)
      · rw [if_neg c5] at H
        exact absurd H (by simp)
    · rw [if_neg c4] at H
      exact absurd H (by simp)
  · rw [if_neg c3] at H
    have c3b0 : decide (65535 < (a1.size : Int)) = false := decide_eq_false c3
    have c3b1 : decide (65535 < a1.size) = false := decide_eq_false (by omega)
    clear c3
    replace H := Option.bind_eq_some_iff.mp H
    obtain ⟨t158, A110, H⟩ := H
    replace H : (if t158.length + a1.size < 140737488355328 then (some (t158 ++ bytesOf a1)) else (none)) = some r := H
    have A11 := Aside0.mk A110
    clear A110
    by_cases c12 : t158.length + a1.size < 140737488355328
    · rw [if_pos c12] at H
      have LMc12 := Aside0.mk c12
      clear c12
      obtain ⟨y161, hy161⟩ : ∃ y_ : List Int, y_ = (t158 ++ bytesOf a1) := ⟨_, rfl⟩
      replace H : (some y161) = some r := by first | (rw [hy161]; with_reducible exact H) | (have H2_ := (Option.bind_some _ _).symm.trans H; rw [hy161]; with_reducible exact H2_) | (have H2_ := (Option.bind_some _ _).symm.trans H; with_reducible exact H2_) | with_reducible exact H | (rw [hy161]; exact H) | exact H
      have Ny161 := Aside0.mk hy161
      clear hy161
      obtain rfl := Option.some.inj H
      obtain ⟨Ao13, co13, eo13⟩ := Kd.R_slice HO0.out
      subst eo13
      go_enter Try.func20, Try.ntmps20
      go_wp2_with (first | ((with_reducible refine gate_callee (f := 15) rfl ?_); refine goesL_ (some 14) rfl rfl Try.func15 (by kernel_rfl) rfl #[.slice Ao13 l0.length co13, .int .u64 (IntKind.u64.wrap ((a1.size : Int))), .int .i64 2] rfl (by (try simp only [List.map_toArray, List.map_cons, List.map_nil]); first | done | rfl | (simp only [List.length_drop, List.length_take]; rfl)) ?_; (with_reducible refine (spillwayref1_Put.calls k (fun k_ => some k_ = (.slice Ao13 l0.length co13 : Value).ownBlock) (.slice Ao13 l0.length co13) l0 (IntKind.u64.wrap ((a1.size : Int))) 2 t158 w0 _ ?side1 ?side2 A11.out).mono ?_); (case side1 => repeat (first | (with_reducible first | exact HB.out | apply below_alloc | apply pw_below_drewN | apply below_drew1) | exact HB.out)); (case side2 => exact Kd.R_tight rfl HO0.out); rintro e w14 ⟨v159, rfl, ho0, hb, hkp⟩; refine ⟨_, rfl, ?_⟩; have n0_ := Aside0.mk (Kd.R_mono (ok' := fun k_ => (P0_ k_ ∨ w.heap.size ≤ k_)) ho0 (fun k_ hk_ => Or.elim hk_ (fun hs_ => (HO0.out.1 k_ (hs_).symm)) (fun hn_ => (.inr (Nat.le_trans (by first | exact HK.out.1 | exact (show Kept w _ (fun k_ => P0_ k_) from by repeat (first | (with_reducible first | exact HK.out | apply Kept.alloc | apply Kept.drewN | apply Kept.drew) | exact HK.out)).1) hn_))))); have n1_ := Aside0.mk (Kept.then_ (S := (fun k_ => P0_ k_)) (by repeat (first | (with_reducible first | exact HK.out | apply Kept.alloc | apply Kept.drewN | apply Kept.drew) | exact HK.out)) hkp (fun k_ hs_ => (fun e_ => (HO0.out.1 k_ e_.symm)) hs_)); have n2_ := Aside0.mk (hb); clear HK; clear HB; clear HO0; have HO160 := n0_; have HK := n1_; have HB := n2_; clear n0_ n1_ n2_; (try clear hb); (try clear hkp); (try clear ho0)) | (at_builtin; refine append_str_at (w0 := w0) w0.heap.size rfl (.tmp 14) _ 22 9 5 rfl Try.underlying22 Try.underlying9 info5 v159 t158 a1 (fun k_ => (P0_ k_ ∨ w.heap.size ≤ k_)) rfl rfl ?aF ?aO ?aB ?aS ?aL ?_; (case aB => exact (by repeat (first | (with_reducible first | exact HB.out | apply below_alloc | apply pw_below_drewN | apply below_drew1) | exact HB.out))); (case aF => exact (fun k_ hk => (.inr (Nat.le_trans (by first | exact HK.out.1 | exact (show Kept w _ (fun k_ => P0_ k_) from by repeat (first | (with_reducible first | exact HK.out | apply Kept.alloc | apply Kept.drewN | apply Kept.drew) | exact HK.out)).1) hk)))); (case aO => exact (by (with_reducible repeat (first | apply Kd.R_alloc | apply Kd.R_drewN | apply Kd.R_drew)); exact HO160.out)); (case aS => exact (below_size (by repeat (first | (with_reducible first | exact HB.out | apply below_alloc | apply pw_below_drewN | apply below_drew1) | exact HB.out)))); (case aL => have := LMc12.out; omega); intro v162 w15 ho hb hg hat; rw [← Ny161.out] at ho; have n0_ := Aside0.mk (hb); have n1_ := Aside0.mk (Kept.of_grown (S := (fun k_ => P0_ k_)) hg (by repeat (first | (with_reducible first | exact HK.out | apply Kept.alloc | apply Kept.drewN | apply Kept.drew) | exact HK.out)) (fun k_ e_ => (HO160.out.1 k_ e_))); have n2_ := Aside0.mk (ho); clear HB; clear HK; clear HO160; have HB := n0_; have HK := n1_; have HO163 := n2_; clear n0_ n1_ n2_; clear ho hb hg hat))
      go_ret
      exact ⟨_, by first | rfl | (simp [errW_none, errW_some] <;> rfl) | (simp [*, errW_none, errW_some] <;> rfl), by (with_reducible repeat (first | apply Kd.R_alloc | apply Kd.R_drewN | apply Kd.R_drew)); exact HO163.out, by repeat (first | (with_reducible first | exact HB.out | apply below_alloc | apply pw_below_drewN | apply below_drew1) | exact HB.out), by repeat (first | (with_reducible first | exact HK.out | apply Kept.alloc | apply Kept.drewN | apply Kept.drew) | exact HK.out)⟩
    · rw [if_neg c12] at H
      exact absurd H (by simp)


/-! ### bits_Text: function 17, by hand -/
/-- A row of bytes that a conversion made reads as the string's bytes. -/
theorem conv_reads (w : World) (s : ByteArray) (hs : s.size ≤ 9223372036854775807) :
    Kd.C (Kd.int .u8) (Lib.bytesWorld w 5 s) (some ⟨w.heap.size, 0, none⟩) s.size (bytesOf s) := by
  refine ⟨bytesOf_length s, hs, fun _ => ⟨_, rfl, fun j p hj => ⟨[.int .u8 p], rfl, rfl, fun i u hu => ?_⟩⟩⟩
  have hj' : j < (bytesOf s).length := (List.getElem?_eq_some_iff.1 hj).1
  rw [bytesOf_length] at hj'
  cases i with
  | succ i => simp at hu
  | zero =>
    simp only [List.getElem?_cons_zero, Option.some.injEq] at hu
    subst hu
    have hc := Lib.bytesWorld_cell w 5 s j hj'
    have hj2 : j < s.data.toList.length := by rw [data_length]; exact hj'
    have hp : p = ((s.data.toList.getD j 0).toNat : Int) := by
      have h2 := (List.getElem?_eq_some_iff.1 hj).2
      rw [← h2]
      simp only [bytesOf, List.getElem_map, List.getD_eq_getElem?_getD, List.getElem?_eq_getElem hj2, Option.getD_some]
    rw [hp, add_at, show (Kd.int .u8).sz = 1 from rfl, Nat.mul_one, Nat.zero_add, Nat.add_zero]
    exact hc
theorem conv_below (w : World) (s : ByteArray) : Below w.heap.size w (Lib.bytesWorld w 5 s) :=
  ⟨rfl, rfl, rfl, by rw [Lib.bytesWorld_size]; omega, fun k hk => Lib.bytesWorld_at_old w 5 s k hk⟩
def cutTo (s : ByteArray) : ByteArray := if 65535 < s.size then s.extract 0 65535 else s.extract 0 s.size
def bits_Text.f (k : Nat) (l0 : List Int) (a1 : ByteArray) : Option (List Int) :=
  (bits_Put.f k l0 (IntKind.u64.wrap ((cutTo a1).size : Int)) 2).bind fun t => if (cutTo a1).size < 140737488355328 then bits_Join.f k [t, bytesOf (cutTo a1)] else none
theorem bits_Text.mono : ∀ a0 a1 k, LeO (bits_Text.f k a0 a1) (bits_Text.f (k + 1) a0 a1) := by
  intro a0 a1 k
  unfold bits_Text.f
  refine LeO.bind (bits_Put.mono _ _ _ _) (fun _ => LeO.ite (bits_Join.mono _ _) (LeO.none _))
set_option maxHeartbeats 400000 in
set_option maxRecDepth 100000 in
theorem bits_Text.calls (k : Nat) (P0_ : Nat → Prop) (u9000_ : Value) (l0 : List Int) (a1 : ByteArray) (r : List Int) (w0 w : World) (hB : Below w0.heap.size w0 w) (ho0 : Kd.R (Kd.int .u8) 5 w w0.heap.size P0_ u9000_ l0) (h : bits_Text.f k l0 a1 = some r) :
    Calls Try.prog 17 #[u9000_, .string a1] w fun e w' => ∃ v0_ : Value, e = .returned (v0_) ∧ Kd.R (Kd.int .u8) 5 w' w0.heap.size (fun k_ => (P0_ k_ ∨ w.heap.size ≤ k_)) v0_ r ∧ Below w0.heap.size w0 w' ∧ Kept w w' (fun k_ => P0_ k_) := by
  have HO := Aside0.mk ho0
  have HB := Aside0.mk hB
  unfold bits_Text.f at h
  obtain ⟨t, ht, h⟩ := Option.bind_eq_some_iff.mp h
  by_cases hsz : (cutTo a1).size < 140737488355328
  · rw [if_pos hsz] at h
    have HT := Aside0.mk ht
    have HJ := Aside0.mk h
    have HSZ := Aside0.mk hsz
    clear ho0 hB ht h hsz
    have hconv := fun (W : World) (s : ByteArray) => Lib.run_convert_string_bytes (P := Try.prog) W 9 22 5 s Try.underlying9 Try.underlying22 Try.underlying5
    obtain ⟨s1, hs1⟩ : ∃ s1, cutTo a1 = s1 := ⟨_, rfl⟩
    rw [hs1] at HT HJ HSZ
    unfold cutTo at hs1
    by_cases hc : 65535 < a1.size
    all_goals
      first | rw [if_pos hc] at hs1 | rw [if_neg hc] at hs1
      first
        | have hmn : (if (65535 : Int) < (a1.size : Int) then 65535 else (a1.size : Int)) = 65535 := if_pos (by omega)
        | have hmn : (if (65535 : Int) < (a1.size : Int) then 65535 else (a1.size : Int)) = (a1.size : Int) := if_neg (by omega)
      go_enter Try.func17, Try.ntmps17
      go_wp2_with (fail)
      refine (bits_Put.calls k P0_ u9000_ l0 _ 2 t w0 w HB.out HO.out HT.out).mono ?_
      rintro e w1 ⟨v1, rfl, ho, hb, hkp⟩
      obtain ⟨A1, c1, e1⟩ := Kd.R_slice ho
      subst e1
      have HR := Aside0.mk (Kd.R_reads' ho).2
      have HB1 := Aside0.mk hb
      have HK1 := Aside0.mk hkp
      clear ho hb hkp h
      go_wp2_with (fail)
      refine (bits_Join.calls k _ 2 [t, bytesOf s1] r _ (lit_rows_at _ _ [_, _] [t, bytesOf s1] 22 (0, 0) rfl (by simp) ?hr) (Nat.le_refl _) HJ.out).mono ?_
      case hr =>
        intro j l hj
        match j, hj with
        | 0, hj => obtain rfl := Option.some.inj hj; exact ⟨_, _, rfl, HR.out.1, Kd.C_below HR.out.2 (conv_below w1 s1)⟩
        | 1, hj => obtain rfl := Option.some.inj hj; exact ⟨_, _, by rw [bytesOf_length]; rfl, by rw [bytesOf_length]; exact grownCap_ge w1 s1.size 0 5, by have h := conv_reads w1 s1 (by have := HSZ.out; omega); rw [bytesOf_length]; exact h⟩
        | n + 2, hj => simp at hj
      rintro e w3 ⟨v3, rfl, ho, hb⟩
      have HO3 := Aside0.mk ho
      have HB3 := Aside0.mk (below_step (below_alloc (conv_below w1 s1) _) hb)
      have HZ := Aside0.mk (Nat.le_trans HK1.out.1 (below_size (below_alloc (conv_below w1 s1) (.cells #[Value.slice A1 t.length c1, Value.slice (some ⟨w1.heap.size, 0, none⟩) s1.size (grownCap w1 s1.size 0 5)] 22))))
      clear ho hb
      go_wp2
      go_ret
      exact ⟨_, rfl, Kd.R_lower (Kd.R_mono (Kd.R_bound HO3.out) (fun k hk => .inr (Nat.le_trans HZ.out hk.2.1))) (Nat.le_trans HB.out.size HZ.out), below_then HB1.out HB1.out.size HB3.out, Kept.below HK1.out HB3.out⟩
  · rw [if_neg hsz] at h
    exact absurd h (by simp)

end Go.Proofs.Ytgjpaldbagkahaa.Print
