/- A part of the proof of ExpoKinds: what the functions that the law reaches come to. -/
import Derived.Test.YtfgffjchphignaaGreatDoorC01
import Derived.Test.YtfgffjchphignaaGreatDoorC05
set_option linter.unusedVariables false
set_option linter.unusedSimpArgs false
section
namespace Go.Proofs.YtfgffjchphignaaGreatDoor.Print
open Go.RowKit Go.Proofs.YtfgffjchphignaaGreatDoorX Go.Proofs.YtfgffjchphignaaGreatDoorW.PrintWords Go.Proofs.YtfgffjchphignaaGreatDoorW.PrintLast Go.Proofs.YtfgffjchphignaaGreatDoorW.PrintMore
attribute [local go_sem] max2_int min2_int max_two min_two max_three min_three max_four min_four

/-! ### spillwayref3_Cmp: function 77 -/
mutual
def spillwayref3_Cmp.l0 : Nat → List (S60) → List (S60) → Int → Option (Int)
 | 0, _, _, _ => none
 | k + 1, x0, x1, x5 => if x5 < (x0.length : Int) then (spillwayref3_Cmp.j1 k x0 x1 x5 (decide (x5 < (x1.length : Int)))) else (spillwayref3_Cmp.j1 k x0 x1 x5 false)
def spillwayref3_Cmp.j1 : Nat → List (S60) → List (S60) → Int → Bool → Option (Int)
 | 0, _, _, _, _ => none
 | k + 1, x0, x1, x5, x16 => if x16 = true then (if 0 ≤ x5 then (if x5 < (x0.length : Int) then (if x5 < (x1.length : Int) then ((spillwayref3_less.f ((rd_T60 x0 x5).f0) ((rd_T60 x1 x5).f0)).bind fun t283 => (if t283 = 0 then ((spillwayref3_less.f ((rd_T60 x0 x5).f1) ((rd_T60 x1 x5).f1)).bind fun t286 => (if t286 = 0 then (spillwayref3_Cmp.l0 k x0 x1 (wrap64 (x5 + 1))) else (some t286))) else (some t283))) else (none)) else (none)) else (none)) else (if (x0.length : Int) < (x1.length : Int) then (some (-1)) else (if (x0.length : Int) > (x1.length : Int) then (some 1) else (some 0)))
end
def spillwayref3_Cmp.f (k : Nat) (l0 : List (S60)) (l1 : List (S60)) : Option (Int) := spillwayref3_Cmp.l0 k l0 l1 0
theorem spillwayref3_Cmp.mono_l : ∀ k, (∀ y0 y1 y2, LeO (spillwayref3_Cmp.l0 k y0 y1 y2) (spillwayref3_Cmp.l0 (k + 1) y0 y1 y2)) ∧ (∀ y0 y1 y2 y3, LeO (spillwayref3_Cmp.j1 k y0 y1 y2 y3) (spillwayref3_Cmp.j1 (k + 1) y0 y1 y2 y3))
 | 0 => ⟨fun _ _ _ r h => by simp [spillwayref3_Cmp.l0] at h, fun _ _ _ _ r h => by simp [spillwayref3_Cmp.j1] at h⟩
 | k + 1 => by
  obtain ⟨ih0, ih1⟩ := spillwayref3_Cmp.mono_l k
  refine ⟨?_, ?_⟩
  ·intro y0 y1 y2
   unfold spillwayref3_Cmp.l0
   repeat' first
   | (with_reducible exact ih0 _ _ _)
   | (with_reducible exact ih1 _ _ _ _)
   | (with_reducible exact LeO.refl _)
   | (with_reducible exact LeO.none _)
   | (with_reducible refine LeO.ite ?_ ?_)
   | (with_reducible refine LeO.bind ?_ (fun _ => ?_))
   | exact ih0 _ _ _
   | exact ih1 _ _ _ _
   | exact LeO.none _
   | refine LeO.ite ?_ ?_
   | refine LeO.bind ?_ (fun _ => ?_)
  ·intro y0 y1 y2 y3
   unfold spillwayref3_Cmp.j1
   repeat' first
   | (with_reducible exact ih0 _ _ _)
   | (with_reducible exact ih1 _ _ _ _)
   | (with_reducible exact LeO.refl _)
   | (with_reducible exact LeO.none _)
   | (with_reducible refine LeO.ite ?_ ?_)
   | (with_reducible refine LeO.bind ?_ (fun _ => ?_))
   | exact ih0 _ _ _
   | exact ih1 _ _ _ _
   | exact LeO.none _
   | refine LeO.ite ?_ ?_
   | refine LeO.bind ?_ (fun _ => ?_)
theorem spillwayref3_Cmp.mono : ∀ a0 a1 k, LeO (spillwayref3_Cmp.f k a0 a1) (spillwayref3_Cmp.f (k + 1) a0 a1) := by
 intro a0 a1 k
 obtain ⟨ih0, ih1⟩ := spillwayref3_Cmp.mono_l k
 unfold spillwayref3_Cmp.f
 repeat' first
   | (with_reducible exact ih0 _ _ _)
   | (with_reducible exact ih1 _ _ _ _)
   | (with_reducible exact LeO.refl _)
   | (with_reducible exact LeO.none _)
   | (with_reducible refine LeO.ite ?_ ?_)
   | (with_reducible refine LeO.bind ?_ (fun _ => ?_))
   | exact ih0 _ _ _
   | exact ih1 _ _ _ _
   | exact LeO.none _
   | refine LeO.ite ?_ ?_
   | refine LeO.bind ?_ (fun _ => ?_)
set_option maxHeartbeats 8000000 in
set_option maxRecDepth 100000 in
theorem spillwayref3_Cmp.calls (k : Nat) (A0 : Option Addr) (c0 : Nat) (l0 : List (S60)) (A1 : Option Addr) (c1 : Nat) (l1 : List (S60)) (r : Int) (w : World) (hr0 : Kd.C k60 w A0 l0.length l0) (hc0 : l0.length ≤ c0) (hr1 : Kd.C k60 w A1 l1.length l1) (hc1 : l1.length ≤ c1) (h : spillwayref3_Cmp.f k l0 l1 = some r) :
  Calls Tryz.prog 77 #[.slice A0 l0.length c0, .slice A1 l1.length c1] w fun e w' => e = .returned (.int .i64 r) ∧ Drawn0 w w' := by
 have HR0 := Aside0.mk hr0
 have HC0 := Aside0.mk hc0
 clear hr0 hc0
 have HR1 := Aside0.mk hr1
 have HC1 := Aside0.mk hc1
 clear hr1 hc1
 have H : (spillwayref3_Cmp.l0 k l0 l1 0) = some r := h
 clear h
 have H' := Aside0.mk H
 clear H
 go_enter Tryz.func77, Tryz.ntmps77
 go_wp2
 repeat (go_quiet (fail); try go_wp2)
 go_loopg [5] k (fun kq v5 w' => ∃ (x5_1 : Int), v5 = .int .i64 x5_1 ∧ Aside0 (spillwayref3_Cmp.l0 kq l0 l1 x5_1 = some r) ∧ Aside0 (kq ≤ k) ∧ Drawn0 w w')
 case atStart => exact ⟨(0), (by first | rfl | (simp; done) | (simp [*]; done)), H', ⟨Nat.le_refl _⟩, by repeat (first | exact Drawn0.refl _ | apply Drawn0.step)⟩
 case round =>
  clear H'
  try clear c1
  try clear p2
  obtain ⟨x5_1, rfl, HA, HK1, ⟨m1, rfl⟩⟩ := hrel
  cases gk with
  | zero => exact absurd HA.out (by simp [spillwayref3_Cmp.l0])
  | succ k1 =>
   have H := HA.out
   clear HA
   simp only [spillwayref3_Cmp.l0] at H
   have HC3 := Aside0.mk H
   clear H
   go_upto_region 2 with (fail)
   repeat (go_quiet (fail); go_upto_region 2 with (fail))
   go_cut [16] (fun v16 wc => ∃ (kq : Nat) (x16_2 : Bool), v16 = .bool x16_2 ∧ Aside0 (spillwayref3_Cmp.j1 kq l0 l1 x5_1 x16_2 = some r) ∧ Aside0 (kq ≤ k1) ∧ Drawn0 w wc)
   case first =>
    have H := HC3.out
    clear HC3
    by_cases c4 : x5_1 < (l0.length : Int)
    ·rw [if_pos c4] at H
     have c4b0 : decide (x5_1 < (l0.length : Int)) = true := decide_eq_true c4
     clear c4
     (first | rw [c4b0] | (simp only [i64_w, i32_w]; rw [c4b0]) | skip)
     have H' := Aside0.mk H
     clear H
     go_wp2
     repeat (go_quiet (fail); try go_wp2)
     go_meet
     case rel => exact ⟨_, (decide (x5_1 < (l1.length : Int))), (by first | rfl | (simp; done) | (simp [*]; done)), H', ⟨by have := HK1.out; first | omega | exact Nat.le_refl _⟩, by repeat (first | exact Drawn0.refl _ | apply Drawn0.step)⟩
    ·rw [if_neg c4] at H
     have c4b0 : decide (x5_1 < (l0.length : Int)) = false := decide_eq_false c4
     clear c4
     (first | rw [c4b0] | (simp only [i64_w, i32_w]; rw [c4b0]) | skip)
     have H' := Aside0.mk H
     clear H
     go_wp2
     repeat (go_quiet (fail); try go_wp2)
     go_meet
     case rel => exact ⟨_, (false), (by first | rfl | (simp; done) | (simp [*]; done)), H', ⟨by have := HK1.out; first | omega | exact Nat.le_refl _⟩, by repeat (first | exact Drawn0.refl _ | apply Drawn0.step)⟩
   case rest =>
    clear HC3
    try clear c1
    try clear p2
    try clear c4
    try clear c4b0
    try clear p2
    obtain ⟨kq, x16_2, rfl, HA, HJ2, ⟨mc2, rfl⟩⟩ := hcut
    cases kq with
    | zero => exact absurd HA.out (by simp [spillwayref3_Cmp.j1])
    | succ kj2 =>
     have H := HA.out
     clear HA
     simp only [spillwayref3_Cmp.j1] at H
     by_cases c5 : x16_2 = true
     ·subst c5
      have H1 : (if 0 ≤ x5_1 then (if x5_1 < (l0.length : Int) then (if x5_1 < (l1.length : Int) then ((spillwayref3_less.f ((rd_T60 l0 x5_1).f0) ((rd_T60 l1 x5_1).f0)).bind fun t283 => (if t283 = 0 then ((spillwayref3_less.f ((rd_T60 l0 x5_1).f1) ((rd_T60 l1 x5_1).f1)).bind fun t286 => (if t286 = 0 then (spillwayref3_Cmp.l0 kj2 l0 l1 (wrap64 (x5_1 + 1))) else (some t286))) else (some t283))) else (none)) else (none)) else (none)) = some r := by rw [if_pos rfl] at H; exact H
      clear H
      have H := H1
      clear H1
      by_cases c6 : 0 ≤ x5_1
      ·rw [if_pos c6] at H
       have c6b0 : decide (0 ≤ x5_1) = true := decide_eq_true c6
       clear c6
       by_cases c7 : x5_1 < (l0.length : Int)
       ·rw [if_pos c7] at H
        have c7b0 : decide (x5_1 < (l0.length : Int)) = true := decide_eq_true c7
        clear c7
        by_cases c8 : x5_1 < (l1.length : Int)
        ·rw [if_pos c8] at H
         have c8b0 : decide (x5_1 < (l1.length : Int)) = true := decide_eq_true c8
         clear c8
         replace H := Option.bind_eq_some_iff.mp H
         obtain ⟨t283, A90, H⟩ := H
         replace H : (if t283 = 0 then ((spillwayref3_less.f ((rd_T60 l0 x5_1).f1) ((rd_T60 l1 x5_1).f1)).bind fun t286 => (if t286 = 0 then (spillwayref3_Cmp.l0 kj2 l0 l1 (wrap64 (x5_1 + 1))) else (some t286))) else (some t283)) = some r := H
         have A9 := Aside0.mk A90
         clear A90
         by_cases c10 : t283 = 0
         ·rw [if_pos c10] at H
          have c10b0 : (t283 == 0) = true := beq_iff_eq.mpr c10
          have c10b1 : (t283 != 0) = false := bne_eq_false_iff_eq.mpr c10
          clear c10
          replace H := Option.bind_eq_some_iff.mp H
          obtain ⟨t286, A110, H⟩ := H
          replace H : (if t286 = 0 then (spillwayref3_Cmp.l0 kj2 l0 l1 (wrap64 (x5_1 + 1))) else (some t286)) = some r := H
          have A11 := Aside0.mk A110
          clear A110
          by_cases c12 : t286 = 0
          ·rw [if_pos c12] at H
           have c12b0 : (t286 == 0) = true := beq_iff_eq.mpr c12
           have c12b1 : (t286 != 0) = false := bne_eq_false_iff_eq.mpr c12
           clear c12
           have H' := Aside0.mk H
           clear H
           have p281 : 0 ≤ (x5_1 : Int) := of_decide_eq_true (by first | (with_reducible assumption) | assumption)
           have q281 : x5_1 < (l0.length : Int) := of_decide_eq_true (by first | (with_reducible assumption) | assumption)
           obtain ⟨ad281, e281, hx281_0, hx281_1⟩ := at_T60 HR0.out x5_1 p281 q281
           cases e281
           replace p281 := eq_true p281
           replace q281 := eq_true q281
           have p282 : 0 ≤ (x5_1 : Int) := of_decide_eq_true (by first | (with_reducible assumption) | assumption)
           have q282 : x5_1 < (l1.length : Int) := of_decide_eq_true (by first | (with_reducible assumption) | assumption)
           obtain ⟨ad282, e282, hx282_0, hx282_1⟩ := at_T60 HR1.out x5_1 p282 q282
           cases e282
           replace p282 := eq_true p282
           replace q282 := eq_true q282
           go_wp2_with (first | (go_at_call 114; (with_reducible refine (spillwayref3_less.calls ((rd_T60 l0 x5_1).f0) ((rd_T60 l1 x5_1).f0) t283 _ A9.out).mono ?_); rintro e w' ⟨rfl, ⟨nd, rfl⟩⟩; (try first | exact ⟨rfl, _, World.drewN_drewN _ _ _⟩ | exact ⟨rfl, _, Eq.trans (World.drewN_drewN _ _ _) (congrArg (World.drewN _) (Nat.add_assoc _ _ _))⟩); have p284 : 0 ≤ (x5_1 : Int) := of_decide_eq_true (by first | (with_reducible assumption) | assumption); have q284 : x5_1 < (l0.length : Int) := of_decide_eq_true (by first | (with_reducible assumption) | assumption); obtain ⟨ad284, e284, hx284_0, hx284_1⟩ := at_T60 HR0.out x5_1 p284 q284; obtain rfl : ad281 = ad284 := (by injection e284); replace p284 := eq_true p284; replace q284 := eq_true q284; have p285 : 0 ≤ (x5_1 : Int) := of_decide_eq_true (by first | (with_reducible assumption) | assumption); have q285 : x5_1 < (l1.length : Int) := of_decide_eq_true (by first | (with_reducible assumption) | assumption); obtain ⟨ad285, e285, hx285_0, hx285_1⟩ := at_T60 HR1.out x5_1 p285 q285; obtain rfl : ad282 = ad285 := (by injection e285); replace p285 := eq_true p285; replace q285 := eq_true q285) | (go_at_call 114; (with_reducible refine (spillwayref3_less.calls ((rd_T60 l0 x5_1).f1) ((rd_T60 l1 x5_1).f1) t286 _ A11.out).mono ?_); rintro e w' ⟨rfl, ⟨nd, rfl⟩⟩; (try first | exact ⟨rfl, _, World.drewN_drewN _ _ _⟩ | exact ⟨rfl, _, Eq.trans (World.drewN_drewN _ _ _) (congrArg (World.drewN _) (Nat.add_assoc _ _ _))⟩)))
           repeat (go_quiet (first | (go_at_call 114; (with_reducible refine (spillwayref3_less.calls ((rd_T60 l0 x5_1).f0) ((rd_T60 l1 x5_1).f0) t283 _ A9.out).mono ?_); rintro e w' ⟨rfl, ⟨nd, rfl⟩⟩; (try first | exact ⟨rfl, _, World.drewN_drewN _ _ _⟩ | exact ⟨rfl, _, Eq.trans (World.drewN_drewN _ _ _) (congrArg (World.drewN _) (Nat.add_assoc _ _ _))⟩); have p284 : 0 ≤ (x5_1 : Int) := of_decide_eq_true (by first | (with_reducible assumption) | assumption); have q284 : x5_1 < (l0.length : Int) := of_decide_eq_true (by first | (with_reducible assumption) | assumption); obtain ⟨ad284, e284, hx284_0, hx284_1⟩ := at_T60 HR0.out x5_1 p284 q284; obtain rfl : ad281 = ad284 := (by injection e284); replace p284 := eq_true p284; replace q284 := eq_true q284; have p285 : 0 ≤ (x5_1 : Int) := of_decide_eq_true (by first | (with_reducible assumption) | assumption); have q285 : x5_1 < (l1.length : Int) := of_decide_eq_true (by first | (with_reducible assumption) | assumption); obtain ⟨ad285, e285, hx285_0, hx285_1⟩ := at_T60 HR1.out x5_1 p285 q285; obtain rfl : ad282 = ad285 := (by injection e285); replace p285 := eq_true p285; replace q285 := eq_true q285) | (go_at_call 114; (with_reducible refine (spillwayref3_less.calls ((rd_T60 l0 x5_1).f1) ((rd_T60 l1 x5_1).f1) t286 _ A11.out).mono ?_); rintro e w' ⟨rfl, ⟨nd, rfl⟩⟩; (try first | exact ⟨rfl, _, World.drewN_drewN _ _ _⟩ | exact ⟨rfl, _, Eq.trans (World.drewN_drewN _ _ _) (congrArg (World.drewN _) (Nat.add_assoc _ _ _))⟩))); try go_wp2_with (first | (go_at_call 114; (with_reducible refine (spillwayref3_less.calls ((rd_T60 l0 x5_1).f0) ((rd_T60 l1 x5_1).f0) t283 _ A9.out).mono ?_); rintro e w' ⟨rfl, ⟨nd, rfl⟩⟩; (try first | exact ⟨rfl, _, World.drewN_drewN _ _ _⟩ | exact ⟨rfl, _, Eq.trans (World.drewN_drewN _ _ _) (congrArg (World.drewN _) (Nat.add_assoc _ _ _))⟩); have p284 : 0 ≤ (x5_1 : Int) := of_decide_eq_true (by first | (with_reducible assumption) | assumption); have q284 : x5_1 < (l0.length : Int) := of_decide_eq_true (by first | (with_reducible assumption) | assumption); obtain ⟨ad284, e284, hx284_0, hx284_1⟩ := at_T60 HR0.out x5_1 p284 q284; obtain rfl : ad281 = ad284 := (by injection e284); replace p284 := eq_true p284; replace q284 := eq_true q284; have p285 : 0 ≤ (x5_1 : Int) := of_decide_eq_true (by first | (with_reducible assumption) | assumption); have q285 : x5_1 < (l1.length : Int) := of_decide_eq_true (by first | (with_reducible assumption) | assumption); obtain ⟨ad285, e285, hx285_0, hx285_1⟩ := at_T60 HR1.out x5_1 p285 q285; obtain rfl : ad282 = ad285 := (by injection e285); replace p285 := eq_true p285; replace q285 := eq_true q285) | (go_at_call 114; (with_reducible refine (spillwayref3_less.calls ((rd_T60 l0 x5_1).f1) ((rd_T60 l1 x5_1).f1) t286 _ A11.out).mono ?_); rintro e w' ⟨rfl, ⟨nd, rfl⟩⟩; (try first | exact ⟨rfl, _, World.drewN_drewN _ _ _⟩ | exact ⟨rfl, _, Eq.trans (World.drewN_drewN _ _ _) (congrArg (World.drewN _) (Nat.add_assoc _ _ _))⟩))))
           go_roundg kj2
           case measure => have := HK1.out; have := HJ2.out; omega
           case rel => exact ⟨(wrap64 (x5_1 + 1)), (by first | rfl | (simp; done) | (simp [*]; done)), H', ⟨by have := HK1.out; have := HJ2.out; omega⟩, by repeat (first | exact Drawn0.refl _ | apply Drawn0.step)⟩
          ·rw [if_neg c12] at H
           have c12b0 : (t286 == 0) = false := beq_eq_false_iff_ne.mpr c12
           have c12b1 : (t286 != 0) = true := bne_iff_ne.mpr c12
           obtain rfl := Option.some.inj H
           have p281 : 0 ≤ (x5_1 : Int) := of_decide_eq_true (by first | (with_reducible assumption) | assumption)
           have q281 : x5_1 < (l0.length : Int) := of_decide_eq_true (by first | (with_reducible assumption) | assumption)
           obtain ⟨ad281, e281, hx281_0, hx281_1⟩ := at_T60 HR0.out x5_1 p281 q281
           cases e281
           replace p281 := eq_true p281
           replace q281 := eq_true q281
           have p282 : 0 ≤ (x5_1 : Int) := of_decide_eq_true (by first | (with_reducible assumption) | assumption)
           have q282 : x5_1 < (l1.length : Int) := of_decide_eq_true (by first | (with_reducible assumption) | assumption)
           obtain ⟨ad282, e282, hx282_0, hx282_1⟩ := at_T60 HR1.out x5_1 p282 q282
           cases e282
           replace p282 := eq_true p282
           replace q282 := eq_true q282
           go_wp2_with (first | (go_at_call 114; (with_reducible refine (spillwayref3_less.calls ((rd_T60 l0 x5_1).f0) ((rd_T60 l1 x5_1).f0) t283 _ A9.out).mono ?_); rintro e w' ⟨rfl, ⟨nd, rfl⟩⟩; (try first | exact ⟨rfl, _, World.drewN_drewN _ _ _⟩ | exact ⟨rfl, _, Eq.trans (World.drewN_drewN _ _ _) (congrArg (World.drewN _) (Nat.add_assoc _ _ _))⟩); have p284 : 0 ≤ (x5_1 : Int) := of_decide_eq_true (by first | (with_reducible assumption) | assumption); have q284 : x5_1 < (l0.length : Int) := of_decide_eq_true (by first | (with_reducible assumption) | assumption); obtain ⟨ad284, e284, hx284_0, hx284_1⟩ := at_T60 HR0.out x5_1 p284 q284; obtain rfl : ad281 = ad284 := (by injection e284); replace p284 := eq_true p284; replace q284 := eq_true q284; have p285 : 0 ≤ (x5_1 : Int) := of_decide_eq_true (by first | (with_reducible assumption) | assumption); have q285 : x5_1 < (l1.length : Int) := of_decide_eq_true (by first | (with_reducible assumption) | assumption); obtain ⟨ad285, e285, hx285_0, hx285_1⟩ := at_T60 HR1.out x5_1 p285 q285; obtain rfl : ad282 = ad285 := (by injection e285); replace p285 := eq_true p285; replace q285 := eq_true q285) | (go_at_call 114; (with_reducible refine (spillwayref3_less.calls ((rd_T60 l0 x5_1).f1) ((rd_T60 l1 x5_1).f1) t286 _ A11.out).mono ?_); rintro e w' ⟨rfl, ⟨nd, rfl⟩⟩; (try first | exact ⟨rfl, _, World.drewN_drewN _ _ _⟩ | exact ⟨rfl, _, Eq.trans (World.drewN_drewN _ _ _) (congrArg (World.drewN _) (Nat.add_assoc _ _ _))⟩)))
           repeat (go_quiet (first | (go_at_call 114; (with_reducible refine (spillwayref3_less.calls ((rd_T60 l0 x5_1).f0) ((rd_T60 l1 x5_1).f0) t283 _ A9.out).mono ?_); rintro e w' ⟨rfl, ⟨nd, rfl⟩⟩; (try first | exact ⟨rfl, _, World.drewN_drewN _ _ _⟩ | exact ⟨rfl, _, Eq.trans (World.drewN_drewN _ _ _) (congrArg (World.drewN _) (Nat.add_assoc _ _ _))⟩); have p284 : 0 ≤ (x5_1 : Int) := of_decide_eq_true (by first | (with_reducible assumption) | assumption); have q284 : x5_1 < (l0.length : Int) := of_decide_eq_true (by first | (with_reducible assumption) | assumption); obtain ⟨ad284, e284, hx284_0, hx284_1⟩ := at_T60 HR0.out x5_1 p284 q284; obtain rfl : ad281 = ad284 := (by injection e284); replace p284 := eq_true p284; replace q284 := eq_true q284; have p285 : 0 ≤ (x5_1 : Int) := of_decide_eq_true (by first | (with_reducible assumption) | assumption); have q285 : x5_1 < (l1.length : Int) := of_decide_eq_true (by first | (with_reducible assumption) | assumption); obtain ⟨ad285, e285, hx285_0, hx285_1⟩ := at_T60 HR1.out x5_1 p285 q285; obtain rfl : ad282 = ad285 := (by injection e285); replace p285 := eq_true p285; replace q285 := eq_true q285) | (go_at_call 114; (with_reducible refine (spillwayref3_less.calls ((rd_T60 l0 x5_1).f1) ((rd_T60 l1 x5_1).f1) t286 _ A11.out).mono ?_); rintro e w' ⟨rfl, ⟨nd, rfl⟩⟩; (try first | exact ⟨rfl, _, World.drewN_drewN _ _ _⟩ | exact ⟨rfl, _, Eq.trans (World.drewN_drewN _ _ _) (congrArg (World.drewN _) (Nat.add_assoc _ _ _))⟩))); try go_wp2_with (first | (go_at_call 114; (with_reducible refine (spillwayref3_less.calls ((rd_T60 l0 x5_1).f0) ((rd_T60 l1 x5_1).f0) t283 _ A9.out).mono ?_); rintro e w' ⟨rfl, ⟨nd, rfl⟩⟩; (try first | exact ⟨rfl, _, World.drewN_drewN _ _ _⟩ | exact ⟨rfl, _, Eq.trans (World.drewN_drewN _ _ _) (congrArg (World.drewN _) (Nat.add_assoc _ _ _))⟩); have p284 : 0 ≤ (x5_1 : Int) := of_decide_eq_true (by first | (with_reducible assumption) | assumption); have q284 : x5_1 < (l0.length : Int) := of_decide_eq_true (by first | (with_reducible assumption) | assumption); obtain ⟨ad284, e284, hx284_0, hx284_1⟩ := at_T60 HR0.out x5_1 p284 q284; obtain rfl : ad281 = ad284 := (by injection e284); replace p284 := eq_true p284; replace q284 := eq_true q284; have p285 : 0 ≤ (x5_1 : Int) := of_decide_eq_true (by first | (with_reducible assumption) | assumption); have q285 : x5_1 < (l1.length : Int) := of_decide_eq_true (by first | (with_reducible assumption) | assumption); obtain ⟨ad285, e285, hx285_0, hx285_1⟩ := at_T60 HR1.out x5_1 p285 q285; obtain rfl : ad282 = ad285 := (by injection e285); replace p285 := eq_true p285; replace q285 := eq_true q285) | (go_at_call 114; (with_reducible refine (spillwayref3_less.calls ((rd_T60 l0 x5_1).f1) ((rd_T60 l1 x5_1).f1) t286 _ A11.out).mono ?_); rintro e w' ⟨rfl, ⟨nd, rfl⟩⟩; (try first | exact ⟨rfl, _, World.drewN_drewN _ _ _⟩ | exact ⟨rfl, _, Eq.trans (World.drewN_drewN _ _ _) (congrArg (World.drewN _) (Nat.add_assoc _ _ _))⟩))))
           go_ret
           exact ⟨by first | rfl | (simp; done) | (simp [*]; done), by repeat (first | exact Drawn0.refl _ | apply Drawn0.step)⟩
         ·rw [if_neg c10] at H
          have c10b0 : (t283 == 0) = false := beq_eq_false_iff_ne.mpr c10
          have c10b1 : (t283 != 0) = true := bne_iff_ne.mpr c10
          obtain rfl := Option.some.inj H
          have p281 : 0 ≤ (x5_1 : Int) := of_decide_eq_true (by first | (with_reducible assumption) | assumption)
          have q281 : x5_1 < (l0.length : Int) := of_decide_eq_true (by first | (with_reducible assumption) | assumption)
          obtain ⟨ad281, e281, hx281_0, hx281_1⟩ := at_T60 HR0.out x5_1 p281 q281
          cases e281
          replace p281 := eq_true p281
          replace q281 := eq_true q281
          have p282 : 0 ≤ (x5_1 : Int) := of_decide_eq_true (by first | (with_reducible assumption) | assumption)
          have q282 : x5_1 < (l1.length : Int) := of_decide_eq_true (by first | (with_reducible assumption) | assumption)
          obtain ⟨ad282, e282, hx282_0, hx282_1⟩ := at_T60 HR1.out x5_1 p282 q282
          cases e282
          replace p282 := eq_true p282
          replace q282 := eq_true q282
          go_wp2_with (first | (go_at_call 114; (with_reducible refine (spillwayref3_less.calls ((rd_T60 l0 x5_1).f0) ((rd_T60 l1 x5_1).f0) t283 _ A9.out).mono ?_); rintro e w' ⟨rfl, ⟨nd, rfl⟩⟩; (try first | exact ⟨rfl, _, World.drewN_drewN _ _ _⟩ | exact ⟨rfl, _, Eq.trans (World.drewN_drewN _ _ _) (congrArg (World.drewN _) (Nat.add_assoc _ _ _))⟩)))
          repeat (go_quiet (first | (go_at_call 114; (with_reducible refine (spillwayref3_less.calls ((rd_T60 l0 x5_1).f0) ((rd_T60 l1 x5_1).f0) t283 _ A9.out).mono ?_); rintro e w' ⟨rfl, ⟨nd, rfl⟩⟩; (try first | exact ⟨rfl, _, World.drewN_drewN _ _ _⟩ | exact ⟨rfl, _, Eq.trans (World.drewN_drewN _ _ _) (congrArg (World.drewN _) (Nat.add_assoc _ _ _))⟩))); try go_wp2_with (first | (go_at_call 114; (with_reducible refine (spillwayref3_less.calls ((rd_T60 l0 x5_1).f0) ((rd_T60 l1 x5_1).f0) t283 _ A9.out).mono ?_); rintro e w' ⟨rfl, ⟨nd, rfl⟩⟩; (try first | exact ⟨rfl, _, World.drewN_drewN _ _ _⟩ | exact ⟨rfl, _, Eq.trans (World.drewN_drewN _ _ _) (congrArg (World.drewN _) (Nat.add_assoc _ _ _))⟩))))
          go_ret
          exact ⟨by first | rfl | (simp; done) | (simp [*]; done), by repeat (first | exact Drawn0.refl _ | apply Drawn0.step)⟩
        ·rw [if_neg c8] at H
         exact absurd H (by simp)
       ·rw [if_neg c7] at H
        exact absurd H (by simp)
      ·rw [if_neg c6] at H
       exact absurd H (by simp)
     ·replace c5 := Bool.eq_false_iff.mpr c5
      subst c5
      have H1 : (if (l0.length : Int) < (l1.length : Int) then (some (-1)) else (if (l0.length : Int) > (l1.length : Int) then (some 1) else (some 0))) = some r := by rw [if_neg (show ¬ (false = true) by decide)] at H; exact H
      clear H
      have H := H1
      clear H1
      by_cases c13 : (l0.length : Int) < (l1.length : Int)
      ·rw [if_pos c13] at H
       have c13b0 : decide ((l0.length : Int) < (l1.length : Int)) = true := decide_eq_true c13
       have c13b1 : decide (l0.length < l1.length) = true := decide_eq_true (Int.ofNat_lt.mp c13)
       clear c13
       obtain rfl := Option.some.inj H
       go_wp2
       repeat (go_quiet (fail); try go_wp2)
       go_ret
       exact ⟨by first | rfl | (simp; done) | (simp [*]; done), by repeat (first | exact Drawn0.refl _ | apply Drawn0.step)⟩
      ·rw [if_neg c13] at H
       have c13b0 : decide ((l0.length : Int) < (l1.length : Int)) = false := decide_eq_false c13
       have c13b1 : decide (l0.length < l1.length) = false := decide_eq_false (fun h => c13 (Int.ofNat_lt.mpr h))
       clear c13
       by_cases c14 : (l0.length : Int) > (l1.length : Int)
       ·rw [if_pos c14] at H
        have c14b0 : decide ((l1.length : Int) < (l0.length : Int)) = true := decide_eq_true c14
        have c14b1 : decide (l1.length < l0.length) = true := decide_eq_true (Int.ofNat_lt.mp c14)
        clear c14
        obtain rfl := Option.some.inj H
        go_wp2
        repeat (go_quiet (fail); try go_wp2)
        go_ret
        exact ⟨by first | rfl | (simp; done) | (simp [*]; done), by repeat (first | exact Drawn0.refl _ | apply Drawn0.step)⟩
       ·rw [if_neg c14] at H
        have c14b0 : decide ((l1.length : Int) < (l0.length : Int)) = false := decide_eq_false c14
        have c14b1 : decide (l1.length < l0.length) = false := decide_eq_false (fun h => c14 (Int.ofNat_lt.mpr h))
        clear c14
        obtain rfl := Option.some.inj H
        go_wp2
        repeat (go_quiet (fail); try go_wp2)
        go_ret
        exact ⟨by first | rfl | (simp; done) | (simp [*]; done), by repeat (first | exact Drawn0.refl _ | apply Drawn0.step)⟩

end Go.Proofs.YtfgffjchphignaaGreatDoor.Print
end

section
namespace Go.Proofs.YtfgffjchphignaaGreatDoor.Print
open Go.RowKit Go.Proofs.YtfgffjchphignaaGreatDoorX Go.Proofs.YtfgffjchphignaaGreatDoorW.PrintWords Go.Proofs.YtfgffjchphignaaGreatDoorW.PrintLast Go.Proofs.YtfgffjchphignaaGreatDoorW.PrintMore
attribute [local go_sem] max2_int min2_int max_two min_two max_three min_three max_four min_four

/-! ### spillwayref3_Same: function 42 -/
def spillwayref3_Same.f (k : Nat) (l0 : List (S60)) (l1 : List (S60)) : Option (Bool) := (spillwayref3_Cmp.f k l0 l1).bind fun t287 => (some (t287 == 0))
theorem spillwayref3_Same.mono : ∀ a0 a1 k, LeO (spillwayref3_Same.f k a0 a1) (spillwayref3_Same.f (k + 1) a0 a1) := by
 intro a0 a1 k
 unfold spillwayref3_Same.f
 repeat' first
   | (with_reducible exact spillwayref3_Cmp.mono _ _ _)
   | (with_reducible exact LeO.refl _)
   | (with_reducible exact LeO.none _)
   | (with_reducible refine LeO.ite ?_ ?_)
   | (with_reducible refine LeO.bind ?_ (fun _ => ?_))
   | exact spillwayref3_Cmp.mono _ _ _
   | exact LeO.none _
   | refine LeO.ite ?_ ?_
   | refine LeO.bind ?_ (fun _ => ?_)
set_option maxHeartbeats 8000000 in
set_option maxRecDepth 100000 in
theorem spillwayref3_Same.calls (k : Nat) (A0 : Option Addr) (c0 : Nat) (l0 : List (S60)) (A1 : Option Addr) (c1 : Nat) (l1 : List (S60)) (r : Bool) (w : World) (hr0 : Kd.C k60 w A0 l0.length l0) (hc0 : l0.length ≤ c0) (hr1 : Kd.C k60 w A1 l1.length l1) (hc1 : l1.length ≤ c1) (h : spillwayref3_Same.f k l0 l1 = some r) :
  Calls Tryz.prog 42 #[.slice A0 l0.length c0, .slice A1 l1.length c1] w fun e w' => e = .returned (.bool r) ∧ Drawn0 w w' := by
 have HR0 := Aside0.mk hr0
 have HC0 := Aside0.mk hc0
 clear hr0 hc0
 have HR1 := Aside0.mk hr1
 have HC1 := Aside0.mk hc1
 clear hr1 hc1
 have H : ((spillwayref3_Cmp.f k l0 l1).bind fun t287 => (some (t287 == 0))) = some r := h
 clear h
 replace H := Option.bind_eq_some_iff.mp H
 obtain ⟨t287, A30, H⟩ := H
 replace H : (some (t287 == 0)) = some r := H
 have A3 := Aside0.mk A30
 clear A30
 obtain rfl := Option.some.inj H
 go_enter Tryz.func42, Tryz.ntmps42
 go_wp2_with (first | ((with_reducible refine gate_callee (f := 77) rfl ?_); refine goesL_ (some 7) rfl rfl Tryz.func77 (by kernel_rfl) rfl #[.slice A0 l0.length c0, .slice A1 l1.length c1] rfl (by (try simp only [List.map_toArray, List.map_cons, List.map_nil]); first | done | rfl | (simp only [List.length_drop, List.length_take]; rfl)) ?_; (with_reducible refine (spillwayref3_Cmp.calls k _ _ l0 _ _ l1 t287 _ ?side1 ?side2 ?side3 ?side4 A3.out).mono ?_); (case side1 => repeat (first | exact HR0.out | (with_reducible refine Kd.C_alloc ?_ _) | (with_reducible refine Kd.C_drewN ?_ _) | (with_reducible refine Kd.C_drew ?_))); (case side2 => exact HC0.out); (case side3 => repeat (first | exact HR1.out | (with_reducible refine Kd.C_alloc ?_ _) | (with_reducible refine Kd.C_drewN ?_ _) | (with_reducible refine Kd.C_drew ?_))); (case side4 => exact HC1.out); rintro e w' ⟨rfl, ⟨nd, rfl⟩⟩; refine ⟨_, rfl, ?_⟩))
 go_ret
 exact ⟨by first | rfl | (simp; done) | (simp [*]; done), by repeat (first | exact Drawn0.refl _ | apply Drawn0.step)⟩

end Go.Proofs.YtfgffjchphignaaGreatDoor.Print
end

section
namespace Go.Proofs.YtfgffjchphignaaGreatDoor.Print
open Go.RowKit Go.Proofs.YtfgffjchphignaaGreatDoorX Go.Proofs.YtfgffjchphignaaGreatDoorW.PrintWords Go.Proofs.YtfgffjchphignaaGreatDoorW.PrintLast Go.Proofs.YtfgffjchphignaaGreatDoorW.PrintMore
attribute [local go_sem] max2_int min2_int max_two min_two max_three min_three max_four min_four

attribute [local go_sem high] eqA32
/-! ### spillwaylaw6_same: function 15 -/
def spillwaylaw6_same.f (k : Nat) (l0_0 : List (S60)) (a0_1 : Bool) (a0_2 : Int) (a0_3 : Int) (a0_4 : Bool) (a0_5 : Int) (l1_0 : List (S60)) (a1_1 : Bool) (a1_2 : Int) (a1_3 : Int) (a1_4 : Bool) (a1_5 : Int) : Option (Bool) := (spillwayref3_Same.f k l0_0 l1_0).bind fun t290 => (if t290 = true then (if (a0_1 == a1_1 && (a0_2 == a1_2)) = true then (if a0_3 = a1_3 then (if (a0_4 == a1_4) = true then (some (a0_5 == a1_5)) else (none)) else (none)) else (none)) else (none))
theorem spillwaylaw6_same.mono : ∀ a0 a1 a2 a3 a4 a5 a6 a7 a8 a9 a10 a11 k, LeO (spillwaylaw6_same.f k a0 a1 a2 a3 a4 a5 a6 a7 a8 a9 a10 a11) (spillwaylaw6_same.f (k + 1) a0 a1 a2 a3 a4 a5 a6 a7 a8 a9 a10 a11) := by
 intro a0 a1 a2 a3 a4 a5 a6 a7 a8 a9 a10 a11 k
 unfold spillwaylaw6_same.f
 repeat' first
   | (with_reducible exact spillwayref3_Same.mono _ _ _)
   | (with_reducible exact LeO.refl _)
   | (with_reducible exact LeO.none _)
   | (with_reducible refine LeO.ite ?_ ?_)
   | (with_reducible refine LeO.bind ?_ (fun _ => ?_))
   | exact spillwayref3_Same.mono _ _ _
   | exact LeO.none _
   | refine LeO.ite ?_ ?_
   | refine LeO.bind ?_ (fun _ => ?_)
set_option maxHeartbeats 8000000 in
set_option maxRecDepth 100000 in
theorem spillwaylaw6_same.calls (k : Nat) (A0_0 : Option Addr) (c0_0 : Nat) (l0_0 : List (S60)) (a0_1 : Bool) (a0_2 : Int) (a0_3 : Int) (a0_4 : Bool) (a0_5 : Int) (A1_0 : Option Addr) (c1_0 : Nat) (l1_0 : List (S60)) (a1_1 : Bool) (a1_2 : Int) (a1_3 : Int) (a1_4 : Bool) (a1_5 : Int) (r : Bool) (w : World) (hr0_0 : Kd.C k60 w A0_0 l0_0.length l0_0) (hc0_0 : l0_0.length ≤ c0_0) (hr1_0 : Kd.C k60 w A1_0 l1_0.length l1_0) (hc1_0 : l1_0.length ≤ c1_0) (h : spillwaylaw6_same.f k l0_0 a0_1 a0_2 a0_3 a0_4 a0_5 l1_0 a1_1 a1_2 a1_3 a1_4 a1_5 = some r) :
  Calls Tryz.prog 15 #[.agg #[.slice A0_0 l0_0.length c0_0, .bool a0_1, .int .i64 a0_2, .int .i64 a0_3, .bool a0_4, .int .i64 a0_5], .agg #[.slice A1_0 l1_0.length c1_0, .bool a1_1, .int .i64 a1_2, .int .i64 a1_3, .bool a1_4, .int .i64 a1_5]] w fun e w' => e = .returned (.bool r) ∧ Below w.heap.size w w' := by
 have hu34 := Tryz.underlying34
 have hu32 := Tryz.underlying32
 have HR0_0 := Aside0.mk hr0_0
 have HC0_0 := Aside0.mk hc0_0
 clear hr0_0 hc0_0
 have HR1_0 := Aside0.mk hr1_0
 have HC1_0 := Aside0.mk hc1_0
 clear hr1_0 hc1_0
 have HB := Aside0.mk (Below.refl w.heap.size w)
 have H : ((spillwayref3_Same.f k l0_0 l1_0).bind fun t290 => (if t290 = true then (if (a0_1 == a1_1 && (a0_2 == a1_2)) = true then (if a0_3 = a1_3 then (if (a0_4 == a1_4) = true then (some (a0_5 == a1_5)) else (none)) else (none)) else (none)) else (none))) = some r := h
 clear h
 replace H := Option.bind_eq_some_iff.mp H
 obtain ⟨t290, A30, H⟩ := H
 replace H : (if t290 = true then (if (a0_1 == a1_1 && (a0_2 == a1_2)) = true then (if a0_3 = a1_3 then (if (a0_4 == a1_4) = true then (some (a0_5 == a1_5)) else (none)) else (none)) else (none)) else (none)) = some r := H
 have A3 := Aside0.mk A30
 clear A30
 by_cases c4 : t290 = true
 ·subst c4
  have H1 : (if (a0_1 == a1_1 && (a0_2 == a1_2)) = true then (if a0_3 = a1_3 then (if (a0_4 == a1_4) = true then (some (a0_5 == a1_5)) else (none)) else (none)) else (none)) = some r := by rw [if_pos rfl] at H; exact H
  clear H
  have H := H1
  clear H1
  by_cases c5 : (a0_1 == a1_1 && (a0_2 == a1_2)) = true
  ·rw [if_pos c5] at H
   have c5b0 : (a0_1 == a1_1 && (a0_2 == a1_2)) = true := c5
   (try (have c5b1 : decide (a0_1 = a1_1 && (a0_2 == a1_2)) = true := by simpa using c5))
   (try (have c5b2 : (a0_1 == a1_1 && (a0_2 == a1_2)) = true := by simpa using c5))
   clear c5
   by_cases c6 : a0_3 = a1_3
   ·rw [if_pos c6] at H
    have c6b0 : (a0_3 == a1_3) = true := beq_iff_eq.mpr c6
    have c6b1 : (a0_3 != a1_3) = false := bne_eq_false_iff_eq.mpr c6
    clear c6
    by_cases c7 : (a0_4 == a1_4) = true
    ·rw [if_pos c7] at H
     have c7b0 : (a0_4 == a1_4) = true := c7
     (try (have c7b1 : decide (a0_4 = a1_4) = true := by simpa using c7))
     (try (have c7b2 : (a0_4 == a1_4) = true := by simpa using c7))
     clear c7
     obtain rfl := Option.some.inj H
     go_enter Tryz.func15, Tryz.ntmps15
     go_wp2_with (first | ((with_reducible refine gate_dst (N := 2) rfl ?_); refine box_event ?hg (N := 2) ?hd (cs := #[.slice A0_0 l0_0.length c0_0, .bool a0_1, .int .i64 a0_2, .int .i64 a0_3, .bool a0_4, .int .i64 a0_5]) (t := 34) ?hr ?_; (case hd => rfl); (case hg => rfl); (case hr => first | (go_simp; done) | (go_simp; rfl)); intro gb288 hg w8 hbox hb; have n0_ := Aside0.mk (below_step (by repeat (first | (with_reducible first | exact HB.out | apply below_alloc | apply pw_below_drewN | apply below_drew1) | exact HB.out)) hb); have n1_ := Aside0.mk (hbox); have n2_ := Aside0.mk ((by rw [hg]; exact (below_size (by repeat (first | (with_reducible first | exact HB.out | apply below_alloc | apply pw_below_drewN | apply below_drew1) | exact HB.out))) : w.heap.size ≤ gb288)); have n3_ := Aside0.mk ((by rw [hg]; exact (below_size (by repeat (first | (with_reducible first | exact HB.out | apply below_alloc | apply pw_below_drewN | apply below_drew1) | exact HB.out))) : w.heap.size ≤ gb288)); clear HB; have HB := n0_; have BK288 := n1_; have GW288 := n2_; have GE288 := n3_; clear n0_ n1_ n2_ n3_; clear hb hbox hg) | ((with_reducible refine gate_dst (N := 3) rfl ?_); refine box_event ?hg (N := 3) ?hd (cs := #[.slice A1_0 l1_0.length c1_0, .bool a1_1, .int .i64 a1_2, .int .i64 a1_3, .bool a1_4, .int .i64 a1_5]) (t := 34) ?hr ?_; (case hd => rfl); (case hg => rfl); (case hr => first | (go_simp; done) | (go_simp; rfl)); intro gb289 hg w9 hbox hb; have n0_ := Aside0.mk (blk_below (g := gb288) (o := .cells #[.slice A0_0 l0_0.length c0_0, .bool a0_1, .int .i64 a0_2, .int .i64 a0_3, .bool a0_4, .int .i64 a0_5] 34 (0, 0)) (by (with_reducible repeat (first | refine blk_drewN ?_ _ | refine blk_drew ?_ | refine blk_alloc ?_ _)); exact BK288.out) hb); have n1_ := Aside0.mk (below_step (by repeat (first | (with_reducible first | exact HB.out | apply below_alloc | apply pw_below_drewN | apply below_drew1 | refine below_set ?_ GE288.out) | exact HB.out)) hb); have n2_ := Aside0.mk (hbox); have n3_ := Aside0.mk ((by rw [hg]; exact (below_size (by repeat (first | (with_reducible first | exact HB.out | apply below_alloc | apply pw_below_drewN | apply below_drew1 | refine below_set ?_ GE288.out) | exact HB.out))) : w.heap.size ≤ gb289)); have n4_ := Aside0.mk ((by rw [hg]; exact (below_size (by repeat (first | (with_reducible first | exact HB.out | apply below_alloc | apply pw_below_drewN | apply below_drew1 | refine below_set ?_ GE288.out) | exact HB.out))) : w.heap.size ≤ gb289)); have n5_ := Aside0.mk ((by rw [hg]; exact Nat.ne_of_lt (blk_lt (g := gb288) (o := .cells #[.slice A0_0 l0_0.length c0_0, .bool a0_1, .int .i64 a0_2, .int .i64 a0_3, .bool a0_4, .int .i64 a0_5] 34 (0, 0)) (by (with_reducible repeat (first | refine blk_drewN ?_ _ | refine blk_drew ?_ | refine blk_alloc ?_ _)); exact BK288.out)) : gb288 ≠ gb289)); have n6_ := Aside0.mk ((by rw [hg]; exact Nat.ne_of_gt (blk_lt (g := gb288) (o := .cells #[.slice A0_0 l0_0.length c0_0, .bool a0_1, .int .i64 a0_2, .int .i64 a0_3, .bool a0_4, .int .i64 a0_5] 34 (0, 0)) (by (with_reducible repeat (first | refine blk_drewN ?_ _ | refine blk_drew ?_ | refine blk_alloc ?_ _)); exact BK288.out)) : gb289 ≠ gb288)); clear BK288; clear HB; have BK288 := n0_; have HB := n1_; have BK289 := n2_; have GW289 := n3_; have GE289 := n4_; have NB288_289 := n5_; have NB289_288 := n6_; clear n0_ n1_ n2_ n3_ n4_ n5_ n6_; clear hb hbox hg; have hnb10 := NB288_289.out; have hnc10 := NB289_288.out; have hcz11_0 : w9.cell? ⟨gb288, 0, none⟩ = some (.slice A0_0 l0_0.length c0_0) := (blk_cell BK288.out 0).trans rfl; have hcz11_1 : w9.cell? ⟨gb288, 1, none⟩ = some (.bool a0_1) := (blk_cell BK288.out 1).trans rfl; have hcz11_2 : w9.cell? ⟨gb288, 2, none⟩ = some (.int .i64 a0_2) := (blk_cell BK288.out 2).trans rfl; have hcz11_3 : w9.cell? ⟨gb288, 3, none⟩ = some (.int .i64 a0_3) := (blk_cell BK288.out 3).trans rfl; have hcz11_4 : w9.cell? ⟨gb288, 4, none⟩ = some (.bool a0_4) := (blk_cell BK288.out 4).trans rfl; have hcz11_5 : w9.cell? ⟨gb288, 5, none⟩ = some (.int .i64 a0_5) := (blk_cell BK288.out 5).trans rfl; have hfz11_0 := blk_frozen BK288.out 0; have hfz11_1 := blk_frozen BK288.out 1; have hfz11_2 := blk_frozen BK288.out 2; have hfz11_3 := blk_frozen BK288.out 3; have hfz11_4 := blk_frozen BK288.out 4; have hfz11_5 := blk_frozen BK288.out 5; have hcz12_0 : w9.cell? ⟨gb289, 0, none⟩ = some (.slice A1_0 l1_0.length c1_0) := (blk_cell BK289.out 0).trans rfl; have hcz12_1 : w9.cell? ⟨gb289, 1, none⟩ = some (.bool a1_1) := (blk_cell BK289.out 1).trans rfl; have hcz12_2 : w9.cell? ⟨gb289, 2, none⟩ = some (.int .i64 a1_2) := (blk_cell BK289.out 2).trans rfl; have hcz12_3 : w9.cell? ⟨gb289, 3, none⟩ = some (.int .i64 a1_3) := (blk_cell BK289.out 3).trans rfl; have hcz12_4 : w9.cell? ⟨gb289, 4, none⟩ = some (.bool a1_4) := (blk_cell BK289.out 4).trans rfl; have hcz12_5 : w9.cell? ⟨gb289, 5, none⟩ = some (.int .i64 a1_5) := (blk_cell BK289.out 5).trans rfl; have hfz12_0 := blk_frozen BK289.out 0; have hfz12_1 := blk_frozen BK289.out 1; have hfz12_2 := blk_frozen BK289.out 2; have hfz12_3 := blk_frozen BK289.out 3; have hfz12_4 := blk_frozen BK289.out 4; have hfz12_5 := blk_frozen BK289.out 5) | ((with_reducible refine gate_callee (f := 42) rfl ?_); refine goesL_ (some 9) rfl rfl Tryz.func42 (by kernel_rfl) rfl #[.slice A0_0 l0_0.length c0_0, .slice A1_0 l1_0.length c1_0] rfl (by (try simp only [List.map_toArray, List.map_cons, List.map_nil]); first | done | rfl | (simp only [List.length_drop, List.length_take]; rfl)) ?_; (with_reducible refine (spillwayref3_Same.calls k _ _ l0_0 _ _ l1_0 true _ ?side1 ?side2 ?side3 ?side4 A3.out).mono ?_); (case side1 => repeat (first | exact (Kd.C_below HR0_0.out HB.out) | (with_reducible refine Kd.C_alloc ?_ _) | (with_reducible refine Kd.C_drewN ?_ _) | (with_reducible refine Kd.C_drew ?_))); (case side2 => exact HC0_0.out); (case side3 => repeat (first | exact (Kd.C_below HR1_0.out HB.out) | (with_reducible refine Kd.C_alloc ?_ _) | (with_reducible refine Kd.C_drewN ?_ _) | (with_reducible refine Kd.C_drew ?_))); (case side4 => exact HC1_0.out); rintro e w' ⟨rfl, ⟨nd, rfl⟩⟩; refine ⟨_, rfl, ?_⟩))
     go_ret
     exact ⟨by first | rfl | (simp [errW_none, errW_some] <;> rfl) | (simp [*, errW_none, errW_some] <;> rfl), by repeat (first | (with_reducible first | exact HB.out | apply below_alloc | apply pw_below_drewN | apply below_drew1 | refine below_set ?_ GE288.out | refine below_set ?_ GE289.out) | exact HB.out)⟩
    ·rw [if_neg c7] at H
     exact absurd H (by simp)
   ·rw [if_neg c6] at H
    exact absurd H (by simp)
  ·rw [if_neg c5] at H
   exact absurd H (by simp)
 ·replace c4 := Bool.eq_false_iff.mpr c4
  subst c4
  have H1 : (none) = some r := by rw [if_neg (show ¬ (false = true) by decide)] at H; exact H
  clear H
  have H := H1
  clear H1
  exact absurd H (by simp)

end Go.Proofs.YtfgffjchphignaaGreatDoor.Print
end

section
namespace Go.Proofs.YtfgffjchphignaaGreatDoor.Print
open Go.RowKit Go.Proofs.YtfgffjchphignaaGreatDoorX Go.Proofs.YtfgffjchphignaaGreatDoorW.PrintWords Go.Proofs.YtfgffjchphignaaGreatDoorW.PrintLast Go.Proofs.YtfgffjchphignaaGreatDoorW.PrintMore
attribute [local go_sem] max2_int min2_int max_two min_two max_three min_three max_four min_four

/-! ### spillwaylaw6_sames: function 14 -/
def spillwaylaw6_sames.l0 : Nat → List (S34) → List (S34) → Int → Option (Bool)
 | 0, _, _, _ => none
 | k + 1, x0, x1, x5 => if x5 < (x0.length : Int) then (if 0 ≤ x5 then (if x5 < (x1.length : Int) then ((spillwaylaw6_same.f k ((rd_T34 x0 x5).f0) ((rd_T34 x0 x5).f1.f0) ((rd_T34 x0 x5).f1.f1) ((rd_T34 x0 x5).f2) ((rd_T34 x0 x5).f3) ((rd_T34 x0 x5).f4) ((rd_T34 x1 x5).f0) ((rd_T34 x1 x5).f1.f0) ((rd_T34 x1 x5).f1.f1) ((rd_T34 x1 x5).f2) ((rd_T34 x1 x5).f3) ((rd_T34 x1 x5).f4)).bind fun t293 => (if t293 = true then (spillwaylaw6_sames.l0 k x0 x1 (wrap64 (x5 + 1))) else (none))) else (none)) else (none)) else (some true)
def spillwaylaw6_sames.f (k : Nat) (l0 : List (S34)) (l1 : List (S34)) : Option (Bool) := if (l0.length : Int) = (l1.length : Int) then (spillwaylaw6_sames.l0 k l0 l1 0) else (none)
theorem spillwaylaw6_sames.mono_l : ∀ k, (∀ y0 y1 y2, LeO (spillwaylaw6_sames.l0 k y0 y1 y2) (spillwaylaw6_sames.l0 (k + 1) y0 y1 y2))
 | 0 => fun _ _ _ r h => by simp [spillwaylaw6_sames.l0] at h
 | k + 1 => by
  have ih0 := spillwaylaw6_sames.mono_l k
  ·intro y0 y1 y2
   unfold spillwaylaw6_sames.l0
   repeat' first
   | (with_reducible exact ih0 _ _ _)
   | (with_reducible exact spillwaylaw6_same.mono _ _ _ _ _ _ _ _ _ _ _ _ _)
   | (with_reducible exact LeO.refl _)
   | (with_reducible exact LeO.none _)
   | (with_reducible refine LeO.ite ?_ ?_)
   | (with_reducible refine LeO.bind ?_ (fun _ => ?_))
   | exact ih0 _ _ _
   | exact spillwaylaw6_same.mono _ _ _ _ _ _ _ _ _ _ _ _ _
   | exact LeO.none _
   | refine LeO.ite ?_ ?_
   | refine LeO.bind ?_ (fun _ => ?_)
theorem spillwaylaw6_sames.mono : ∀ a0 a1 k, LeO (spillwaylaw6_sames.f k a0 a1) (spillwaylaw6_sames.f (k + 1) a0 a1) := by
 intro a0 a1 k
 have ih0 := spillwaylaw6_sames.mono_l k
 unfold spillwaylaw6_sames.f
 repeat' first
   | (with_reducible exact ih0 _ _ _)
   | (with_reducible exact spillwaylaw6_same.mono _ _ _ _ _ _ _ _ _ _ _ _ _)
   | (with_reducible exact LeO.refl _)
   | (with_reducible exact LeO.none _)
   | (with_reducible refine LeO.ite ?_ ?_)
   | (with_reducible refine LeO.bind ?_ (fun _ => ?_))
   | exact ih0 _ _ _
   | exact spillwaylaw6_same.mono _ _ _ _ _ _ _ _ _ _ _ _ _
   | exact LeO.none _
   | refine LeO.ite ?_ ?_
   | refine LeO.bind ?_ (fun _ => ?_)
def spillwaylaw6_sames.T6 : Bool × List (List Nat × List Nat) := (true, [([], []), ([], []), ([0, 1], [0, 1]), ([2], [2]), ([], []), ([], []), ([4, 5], [4, 5]), ([6], [6]), ([3, 7], [3, 7]), ([8], [8])])
def spillwaylaw6_sames.B6 : List Nat := [0, 0, 3, 7, 0, 0, 48, 112, 255, 511]
theorem spillwaylaw6_sames.tab6 : rtab .any (opsOf Tryz.f14 6) = spillwaylaw6_sames.T6 := by kernel_rfl
theorem spillwaylaw6_sames.bits6 : waitsOk spillwaylaw6_sames.T6.2 spillwaylaw6_sames.B6 = true := by kernel_rfl
set_option maxHeartbeats 8000000 in
set_option maxRecDepth 100000 in
theorem spillwaylaw6_sames.calls (k : Nat) (A0 : Option Addr) (c0 : Nat) (l0 : List (S34)) (A1 : Option Addr) (c1 : Nat) (l1 : List (S34)) (r : Bool) (w : World) (hr0 : Kd.C k34 w A0 l0.length l0) (hc0 : l0.length ≤ c0) (hr1 : Kd.C k34 w A1 l1.length l1) (hc1 : l1.length ≤ c1) (h : spillwaylaw6_sames.f k l0 l1 = some r) :
  Calls Tryz.prog 14 #[.slice A0 l0.length c0, .slice A1 l1.length c1] w fun e w' => e = .returned (.bool r) ∧ Below w.heap.size w w' := by
 have hu34 := Tryz.underlying34
 have HR0 := Aside0.mk hr0
 have HC0 := Aside0.mk hc0
 clear hr0 hc0
 have HR1 := Aside0.mk hr1
 have HC1 := Aside0.mk hc1
 clear hr1 hc1
 have HB := Aside0.mk (Below.refl w.heap.size w)
 have H : (if (l0.length : Int) = (l1.length : Int) then (spillwaylaw6_sames.l0 k l0 l1 0) else (none)) = some r := h
 clear h
 by_cases c3 : (l0.length : Int) = (l1.length : Int)
 ·rw [if_pos c3] at H
  have c3b0 : ((l0.length : Int) == (l1.length : Int)) = true := beq_iff_eq.mpr c3
  have c3b1 : ((l0.length : Int) != (l1.length : Int)) = false := bne_eq_false_iff_eq.mpr c3
  have c3b2 : (l0.length == l1.length) = true := by first | simpa using c3 | (simp at c3 ⊢; omega)
  clear c3
  have H' := Aside0.mk H
  clear H
  go_enter Tryz.func14, Tryz.ntmps14
  go_wp2
  go_loopg [5] k (fun kq v5 w' => ∃ (x5_1 : Int), v5 = .int .i64 x5_1 ∧ Aside0 (spillwaylaw6_sames.l0 kq l0 l1 x5_1 = some r) ∧ Aside0 (kq ≤ k) ∧ Aside0 (Below w.heap.size w w'))
  case atStart => exact ⟨(0), (by first | rfl | (simp; done) | (simp [*]; done)), H', ⟨Nat.le_refl _⟩, ⟨by repeat (first | (with_reducible first | exact HB.out | apply below_alloc | apply pw_below_drewN | apply below_drew1) | exact HB.out)⟩⟩
  case round =>
   clear H'
   try clear c1
   try clear p2
   try clear c3
   try clear c3b0
   try clear c3b1
   try clear c3b2
   obtain ⟨x5_1, rfl, HA, HK1, HB⟩ := hrel
   cases gk with
   | zero => exact absurd HA.out (by simp [spillwaylaw6_sames.l0])
   | succ k1 =>
    have H := HA.out
    clear HA
    simp only [spillwaylaw6_sames.l0] at H
    by_cases c4 : x5_1 < (l0.length : Int)
    ·rw [if_pos c4] at H
     have c4b0 : decide (x5_1 < (l0.length : Int)) = true := decide_eq_true c4
     clear c4
     by_cases c5 : 0 ≤ x5_1
     ·rw [if_pos c5] at H
      have c5b0 : decide (0 ≤ x5_1) = true := decide_eq_true c5
      clear c5
      by_cases c6 : x5_1 < (l1.length : Int)
      ·rw [if_pos c6] at H
       have c6b0 : decide (x5_1 < (l1.length : Int)) = true := decide_eq_true c6
       clear c6
       replace H := Option.bind_eq_some_iff.mp H
       obtain ⟨t293, A70, H⟩ := H
       replace H : (if t293 = true then (spillwaylaw6_sames.l0 k1 l0 l1 (wrap64 (x5_1 + 1))) else (none)) = some r := H
       have A7 := Aside0.mk A70
       clear A70
       by_cases c8 : t293 = true
       ·subst c8
        have H1 : (spillwaylaw6_sames.l0 k1 l0 l1 (wrap64 (x5_1 + 1))) = some r := by rw [if_pos rfl] at H; exact H
        clear H
        have H := H1
        clear H1
        have H' := Aside0.mk H
        clear H
        try go_wp2
        have n0_ := Aside0.mk (below_drew1 HB.out)
        clear HB
        have HB := n0_
        clear n0_
        have p291 : 0 ≤ (x5_1 : Int) := of_decide_eq_true (by first | (with_reducible assumption) | assumption)
        have q291 : x5_1 < (l0.length : Int) := of_decide_eq_true (by first | (with_reducible assumption) | assumption)
        obtain ⟨ad291, A291_0, c291_0, e291, hx291_0, hx291_1, hx291_2, hx291_3, hx291_4, hx291_5, hl291_0, hi291_0⟩ := at_T34 HR0.out x5_1 p291 q291
        have hw291_5 := hx291_5
        have hw291_4 := hx291_4
        have hw291_3 := hx291_3
        have hw291_2 := hx291_2
        have hw291_1 := hx291_1
        have hw291_0 := hx291_0
        cases e291
        replace hx291_0 := (HB.out.cell (World.block_lt_of_cell? w _ hx291_0)).trans hx291_0
        replace hx291_1 := (HB.out.cell (World.block_lt_of_cell? w _ hx291_1)).trans hx291_1
        replace hx291_2 := (HB.out.cell (World.block_lt_of_cell? w _ hx291_2)).trans hx291_2
        replace hx291_3 := (HB.out.cell (World.block_lt_of_cell? w _ hx291_3)).trans hx291_3
        replace hx291_4 := (HB.out.cell (World.block_lt_of_cell? w _ hx291_4)).trans hx291_4
        replace hx291_5 := (HB.out.cell (World.block_lt_of_cell? w _ hx291_5)).trans hx291_5
        have HR291_0 := Aside0.mk hi291_0
        have HC291_0 := Aside0.mk hl291_0
        clear hi291_0 hl291_0
        replace p291 := eq_true p291
        replace q291 := eq_true q291
        have p292 : 0 ≤ (x5_1 : Int) := of_decide_eq_true (by first | (with_reducible assumption) | assumption)
        have q292 : x5_1 < (l1.length : Int) := of_decide_eq_true (by first | (with_reducible assumption) | assumption)
        obtain ⟨ad292, A292_0, c292_0, e292, hx292_0, hx292_1, hx292_2, hx292_3, hx292_4, hx292_5, hl292_0, hi292_0⟩ := at_T34 HR1.out x5_1 p292 q292
        have hw292_5 := hx292_5
        have hw292_4 := hx292_4
        have hw292_3 := hx292_3
        have hw292_2 := hx292_2
        have hw292_1 := hx292_1
        have hw292_0 := hx292_0
        cases e292
        replace hx292_0 := (HB.out.cell (World.block_lt_of_cell? w _ hx292_0)).trans hx292_0
        replace hx292_1 := (HB.out.cell (World.block_lt_of_cell? w _ hx292_1)).trans hx292_1
        replace hx292_2 := (HB.out.cell (World.block_lt_of_cell? w _ hx292_2)).trans hx292_2
        replace hx292_3 := (HB.out.cell (World.block_lt_of_cell? w _ hx292_3)).trans hx292_3
        replace hx292_4 := (HB.out.cell (World.block_lt_of_cell? w _ hx292_4)).trans hx292_4
        replace hx292_5 := (HB.out.cell (World.block_lt_of_cell? w _ hx292_5)).trans hx292_5
        have HR292_0 := Aside0.mk hi292_0
        have HC292_0 := Aside0.mk hl292_0
        clear hi292_0 hl292_0
        replace p292 := eq_true p292
        replace q292 := eq_true q292
        refine start_ (n := 10) (S := fun w' => w'.cell? (ad291.add ((x5_1).toNat * 6)) = some (.slice A291_0 ((rd_T34 l0 x5_1).f0).length c291_0) ∧ w'.cell? ⟨(ad291.add ((x5_1).toNat * 6)).block, (ad291.add ((x5_1).toNat * 6)).off + 1, none⟩ = some (.bool ((rd_T34 l0 x5_1).f1.f0)) ∧ w'.cell? ⟨(ad291.add ((x5_1).toNat * 6)).block, (ad291.add ((x5_1).toNat * 6)).off + 2, none⟩ = some (.int .i64 ((rd_T34 l0 x5_1).f1.f1)) ∧ w'.cell? ⟨(ad291.add ((x5_1).toNat * 6)).block, (ad291.add ((x5_1).toNat * 6)).off + 3, none⟩ = some (.int .i64 ((rd_T34 l0 x5_1).f2)) ∧ w'.cell? ⟨(ad291.add ((x5_1).toNat * 6)).block, (ad291.add ((x5_1).toNat * 6)).off + 4, none⟩ = some (.bool ((rd_T34 l0 x5_1).f3)) ∧ w'.cell? ⟨(ad291.add ((x5_1).toNat * 6)).block, (ad291.add ((x5_1).toNat * 6)).off + 5, none⟩ = some (.int .i64 ((rd_T34 l0 x5_1).f4)) ∧ w'.cell? (ad292.add ((x5_1).toNat * 6)) = some (.slice A292_0 ((rd_T34 l1 x5_1).f0).length c292_0) ∧ w'.cell? ⟨(ad292.add ((x5_1).toNat * 6)).block, (ad292.add ((x5_1).toNat * 6)).off + 1, none⟩ = some (.bool ((rd_T34 l1 x5_1).f1.f0)) ∧ w'.cell? ⟨(ad292.add ((x5_1).toNat * 6)).block, (ad292.add ((x5_1).toNat * 6)).off + 2, none⟩ = some (.int .i64 ((rd_T34 l1 x5_1).f1.f1)) ∧ w'.cell? ⟨(ad292.add ((x5_1).toNat * 6)).block, (ad292.add ((x5_1).toNat * 6)).off + 3, none⟩ = some (.int .i64 ((rd_T34 l1 x5_1).f2)) ∧ w'.cell? ⟨(ad292.add ((x5_1).toNat * 6)).block, (ad292.add ((x5_1).toNat * 6)).off + 4, none⟩ = some (.bool ((rd_T34 l1 x5_1).f3)) ∧ w'.cell? ⟨(ad292.add ((x5_1).toNat * 6)).block, (ad292.add ((x5_1).toNat * 6)).off + 5, none⟩ = some (.int .i64 ((rd_T34 l1 x5_1).f4))) (ds := []) #[false, false, false, false, false, false, false, false, false, false] (by kernel_rfl) rfl rfl ⟨((HB.out.cell (World.block_lt_of_cell? w _ hw291_0)).trans hw291_0), ((HB.out.cell (World.block_lt_of_cell? w _ hw291_1)).trans hw291_1), ((HB.out.cell (World.block_lt_of_cell? w _ hw291_2)).trans hw291_2), ((HB.out.cell (World.block_lt_of_cell? w _ hw291_3)).trans hw291_3), ((HB.out.cell (World.block_lt_of_cell? w _ hw291_4)).trans hw291_4), ((HB.out.cell (World.block_lt_of_cell? w _ hw291_5)).trans hw291_5), ((HB.out.cell (World.block_lt_of_cell? w _ hw292_0)).trans hw292_0), ((HB.out.cell (World.block_lt_of_cell? w _ hw292_1)).trans hw292_1), ((HB.out.cell (World.block_lt_of_cell? w _ hw292_2)).trans hw292_2), ((HB.out.cell (World.block_lt_of_cell? w _ hw292_3)).trans hw292_3), ((HB.out.cell (World.block_lt_of_cell? w _ hw292_4)).trans hw292_4), ((HB.out.cell (World.block_lt_of_cell? w _ hw292_5)).trans hw292_5)⟩ (fun hHeld => ?_); refine with_tabW spillwaylaw6_sames.tab6 spillwaylaw6_sames.bits6 (fun HT_ HW_ => ?_)
        generalize wr.drew = w9 at HB HR291_0 HR292_0 hx291_0 hx291_1 hx291_2 hx291_3 hx291_4 hx291_5 hx292_0 hx292_1 hx292_2 hx292_3 hx292_4 hx292_5 hHeld ⊢
        refine pure_ (i := 0) (N := some 17) (v := ?_) (a' := ?_) #[true, false, false, false, false, false, false, false, false, false] rfl rfl (any_of HT_.out (by kernel_rfl)) (fun _ _ _ h => h) (Or.inl ⟨by rfl, ?_⟩) ?_ ?_
        rotate_left
        ·intro w'
         go_simp
         with_reducible rfl
        rotate_left
        ·simp only [Act.put, List.setIfInBounds_toArray, List.set_cons_zero, List.set_cons_succ, i64_w, i32_w]
         rfl
        refine pure_ (i := 1) (N := some 18) (v := ?_) (a' := ?_) #[true, true, false, false, false, false, false, false, false, false] rfl rfl (any_of HT_.out (by kernel_rfl)) (fun _ _ _ h => h) (Or.inl ⟨by rfl, ?_⟩) ?_ ?_
        rotate_left
        ·intro w'
         go_simp
         with_reducible rfl
        rotate_left
        ·simp only [Act.put, List.setIfInBounds_toArray, List.set_cons_zero, List.set_cons_succ, i64_w, i32_w]
         rfl
        refine pure_ (i := 2) (N := some 19) (v := ?_) (a' := ?_) #[true, true, true, false, false, false, false, false, false, false] rfl rfl (any_of HT_.out (by kernel_rfl)) (fun _ _ _ h => h) (Or.inl ⟨by rfl, ?_⟩) ?_ ?_
        rotate_left
        ·intro w'
         go_simp
         with_reducible rfl
        rotate_left
        ·simp only [Act.put, List.setIfInBounds_toArray, List.set_cons_zero, List.set_cons_succ, i64_w, i32_w]
         rfl
        refine pure_ (i := 4) (N := some 21) (v := ?_) (a' := ?_) #[true, true, true, false, true, false, false, false, false, false] rfl rfl (any_of HT_.out (by kernel_rfl)) (fun _ _ _ h => h) (Or.inl ⟨by rfl, ?_⟩) ?_ ?_
        rotate_left
        ·intro w'
         go_simp
         with_reducible rfl
        rotate_left
        ·simp only [Act.put, List.setIfInBounds_toArray, List.set_cons_zero, List.set_cons_succ, i64_w, i32_w]
         rfl
        refine pure_ (i := 5) (N := some 22) (v := ?_) (a' := ?_) #[true, true, true, false, true, true, false, false, false, false] rfl rfl (any_of HT_.out (by kernel_rfl)) (fun _ _ _ h => h) (Or.inl ⟨by rfl, ?_⟩) ?_ ?_
        rotate_left
        ·intro w'
         go_simp
         with_reducible rfl
        rotate_left
        ·simp only [Act.put, List.setIfInBounds_toArray, List.set_cons_zero, List.set_cons_succ, i64_w, i32_w]
         rfl
        refine pure_ (i := 6) (N := some 23) (v := ?_) (a' := ?_) #[true, true, true, false, true, true, true, false, false, false] rfl rfl (any_of HT_.out (by kernel_rfl)) (fun _ _ _ h => h) (Or.inl ⟨by rfl, ?_⟩) ?_ ?_
        rotate_left
        ·intro w'
         go_simp
         with_reducible rfl
        rotate_left
        ·simp only [Act.put, List.setIfInBounds_toArray, List.set_cons_zero, List.set_cons_succ, i64_w, i32_w]
         rfl
        refine take_ (i := 3) (N := some 20) (v := ?_) (a' := ?_) #[true, true, true, true, true, true, true, false, false, false] rfl rfl (take_ofW HT_.out HW_.out (by kernel_rfl)) (fun _ _ _ h => h) (Or.inl ⟨by rfl, ?_⟩) hHeld ?_ ?_
        rotate_left
        ·rintro w' ⟨s0, s1, s2, s3, s4, s5, s6, s7, s8, s9, s10, s11⟩
         go_simp
         with_reducible rfl
        rotate_left
        ·simp only [Act.put, List.setIfInBounds_toArray, List.set_cons_zero, List.set_cons_succ, i64_w, i32_w]
         rfl
        refine take_ (i := 7) (N := some 24) (v := ?_) (a' := ?_) #[true, true, true, true, true, true, true, true, false, false] rfl rfl (take_ofW HT_.out HW_.out (by kernel_rfl)) (fun _ _ _ h => h) (Or.inl ⟨by rfl, ?_⟩) hHeld ?_ ?_
        rotate_left
        ·rintro w' ⟨s0, s1, s2, s3, s4, s5, s6, s7, s8, s9, s10, s11⟩
         go_simp
         with_reducible rfl
        rotate_left
        ·simp only [Act.put, List.setIfInBounds_toArray, List.set_cons_zero, List.set_cons_succ, i64_w, i32_w]
         rfl
        refine one_ (i := 8) (N := some 25) #[true, true, true, true, true, true, true, true, true, false] rfl rfl (one_of HT_.out (by kernel_rfl)) (by decide) (fun K hK => ?_)
        refine goes_ Tryz.func15 (by kernel_rfl) rfl #[.agg #[.slice A291_0 ((rd_T34 l0 x5_1).f0).length c291_0, .bool ((rd_T34 l0 x5_1).f1.f0), .int .i64 ((rd_T34 l0 x5_1).f1.f1), .int .i64 ((rd_T34 l0 x5_1).f2), .bool ((rd_T34 l0 x5_1).f3), .int .i64 ((rd_T34 l0 x5_1).f4)], .agg #[.slice A292_0 ((rd_T34 l1 x5_1).f0).length c292_0, .bool ((rd_T34 l1 x5_1).f1.f0), .int .i64 ((rd_T34 l1 x5_1).f1.f1), .int .i64 ((rd_T34 l1 x5_1).f2), .bool ((rd_T34 l1 x5_1).f3), .int .i64 ((rd_T34 l1 x5_1).f4)]] (by rfl) rfl rfl (by (try simp only [List.map_toArray, List.map_cons, List.map_nil]); first | done | rfl | (simp only [List.length_drop, List.length_take]; rfl)) ?_
        with_reducible refine (spillwaylaw6_same.calls k1 _ _ ((rd_T34 l0 x5_1).f0) ((rd_T34 l0 x5_1).f1.f0) ((rd_T34 l0 x5_1).f1.f1) ((rd_T34 l0 x5_1).f2) ((rd_T34 l0 x5_1).f3) ((rd_T34 l0 x5_1).f4) _ _ ((rd_T34 l1 x5_1).f0) ((rd_T34 l1 x5_1).f1.f0) ((rd_T34 l1 x5_1).f1.f1) ((rd_T34 l1 x5_1).f2) ((rd_T34 l1 x5_1).f3) ((rd_T34 l1 x5_1).f4) true _ ?side1 ?side2 ?side3 ?side4 A7.out).mono ?_
        (case side1 => repeat (first | exact (Kd.C_below HR291_0.out HB.out) | (with_reducible refine Kd.C_alloc ?_ _) | (with_reducible refine Kd.C_drewN ?_ _) | (with_reducible refine Kd.C_drew ?_)))
        (case side2 => exact HC291_0.out)
        (case side3 => repeat (first | exact (Kd.C_below HR292_0.out HB.out) | (with_reducible refine Kd.C_alloc ?_ _) | (with_reducible refine Kd.C_drewN ?_ _) | (with_reducible refine Kd.C_drew ?_)))
        (case side4 => exact HC292_0.out)
        rintro e w10 ⟨rfl, hb⟩
        refine ⟨_, rfl, ?_⟩
        have n0_ := Aside0.mk (below_step (by repeat (first | (with_reducible first | exact HB.out | apply below_alloc | apply pw_below_drewN | apply below_drew1) | exact HB.out)) hb)
        clear HB
        have HB := n0_
        clear n0_
        (try clear hb)
        (try clear hb2)
        (try clear hk)
        (try clear hi)
        refine hK.out _ _ ⟨((HB.out.cell (World.block_lt_of_cell? w _ hw291_0)).trans hw291_0), ((HB.out.cell (World.block_lt_of_cell? w _ hw291_1)).trans hw291_1), ((HB.out.cell (World.block_lt_of_cell? w _ hw291_2)).trans hw291_2), ((HB.out.cell (World.block_lt_of_cell? w _ hw291_3)).trans hw291_3), ((HB.out.cell (World.block_lt_of_cell? w _ hw291_4)).trans hw291_4), ((HB.out.cell (World.block_lt_of_cell? w _ hw291_5)).trans hw291_5), ((HB.out.cell (World.block_lt_of_cell? w _ hw292_0)).trans hw292_0), ((HB.out.cell (World.block_lt_of_cell? w _ hw292_1)).trans hw292_1), ((HB.out.cell (World.block_lt_of_cell? w _ hw292_2)).trans hw292_2), ((HB.out.cell (World.block_lt_of_cell? w _ hw292_3)).trans hw292_3), ((HB.out.cell (World.block_lt_of_cell? w _ hw292_4)).trans hw292_4), ((HB.out.cell (World.block_lt_of_cell? w _ hw292_5)).trans hw292_5)⟩ (fun hHeld => ?_)
        clear hK K
        refine norm_ (a' := ?_) ?_ ?_
        rotate_left
        ·show Act.put _ (some 25) _ = _
         simp only [Act.put, List.setIfInBounds_toArray, List.set_cons_zero, List.set_cons_succ, i64_w, i32_w]
         rfl
        refine pure_ (i := 9) (N := some 26) (v := ?_) (a' := ?_) #[true, true, true, true, true, true, true, true, true, true] rfl rfl (any_of HT_.out (by kernel_rfl)) (fun _ _ _ h => h) (Or.inl ⟨by rfl, ?_⟩) ?_ ?_
        rotate_left
        ·intro w'
         go_simp
         with_reducible rfl
        rotate_left
        ·simp only [Act.put, List.setIfInBounds_toArray, List.set_cons_zero, List.set_cons_succ, i64_w, i32_w]
         rfl
        refine done_ (done_of HT_.out (by kernel_rfl)) ?_
        try go_wp2
        go_roundg k1
        case measure => have := HK1.out; omega
        case rel => exact ⟨(wrap64 (x5_1 + 1)), (by first | rfl | (simp; done) | (simp [*]; done)), H', ⟨by have := HK1.out; omega⟩, ⟨by repeat (first | (with_reducible first | exact HB.out | apply below_alloc | apply pw_below_drewN | apply below_drew1) | exact HB.out)⟩⟩
       ·replace c8 := Bool.eq_false_iff.mpr c8
        subst c8
        have H1 : (none) = some r := by rw [if_neg (show ¬ (false = true) by decide)] at H; exact H
        clear H
        have H := H1
        clear H1
        exact absurd H (by simp)
      ·rw [if_neg c6] at H
       exact absurd H (by simp)
     ·rw [if_neg c5] at H
      exact absurd H (by simp)
    ·rw [if_neg c4] at H
     have c4b0 : decide (x5_1 < (l0.length : Int)) = false := decide_eq_false c4
     clear c4
     obtain rfl := Option.some.inj H
     go_wp2
     go_ret
     exact ⟨by first | rfl | (simp [errW_none, errW_some] <;> rfl) | (simp [*, errW_none, errW_some] <;> rfl), by repeat (first | (with_reducible first | exact HB.out | apply below_alloc | apply pw_below_drewN | apply below_drew1) | exact HB.out)⟩
 ·rw [if_neg c3] at H
  exact absurd H (by simp)

end Go.Proofs.YtfgffjchphignaaGreatDoor.Print
end

section
namespace Go.Proofs.YtfgffjchphignaaGreatDoor.PureN
open Go.RowKit Go.Proofs.YtfgffjchphignaaGreatDoor.Print Go.Proofs.YtfgffjchphignaaGreatDoorW.PrintWords Go.Proofs.YtfgffjchphignaaGreatDoorW.PrintLast

/-! What is compared with itself is the same. -/
end Go.Proofs.YtfgffjchphignaaGreatDoor.PureN
end

section
namespace Go.Proofs.YtfgffjchphignaaGreatDoor.PureN
open Go.RowKit Go.Proofs.YtfgffjchphignaaGreatDoor.Print Go.Proofs.YtfgffjchphignaaGreatDoorW.PrintWords Go.Proofs.YtfgffjchphignaaGreatDoorW.PrintLast

/-! ExpoLines, in plain Lean. -/
theorem known_isL : spillwaylaw6_known.f 4000 = some true := by decide +kernel
theorem runB_snoc (s : List UInt8) : ∀ (l : List (List UInt8)) (B : Bod) (i : Int), runB B i (l ++ [s]) = stepB (runB B i l) (i + l.length) s
 | [], B, i => by simp [runB]
 | a :: l, B, i => by
  rw [List.cons_append, runB, runB_snoc s l, runB]
  congr 1
  rw [List.length_cons]
  push_cast
  omega
theorem lines_cut (s : List UInt8) (r : List UInt8) (h : (10 : UInt8) ∉ s) : ∀ cur, linesS cur (s ++ 10 :: r) = (cur ++ s) :: linesS [] r := by
 induction s with
 | nil => intro cur; rw [List.nil_append, linesS, if_pos rfl, List.append_nil]
 | cons c s ih =>
  intro cur
  rw [List.cons_append, linesS, if_neg (fun e => h (by rw [e]; exact List.mem_cons_self)), ih (fun hm => h (List.mem_cons_of_mem _ hm)), List.append_assoc]
  rfl
theorem lines_flat : ∀ (L : List (List UInt8)), (∀ s ∈ L, (10 : UInt8) ∉ s) → linesS [] (L.flatMap (· ++ [10])) = L ++ [[]]
 | [], _ => rfl
 | s :: L, h => by
  rw [List.flatMap_cons, List.append_assoc, List.singleton_append, lines_cut s _ (h s List.mem_cons_self), lines_flat L (fun t ht => h t (List.mem_cons_of_mem _ ht))]
  rfl
abbrev b0 : Bod := ⟨[], [], []⟩
structure InvL (l0 : List ByteArray) (i : Nat) (body : ByteArray) (B : Bod) : Prop where
 bd : body.data.toList = ((l0.take i).map (·.data.toList)).flatMap (· ++ [10])
 run : B = runB b0 1 ((l0.take i).map (·.data.toList))
 of : B.of = []
 ok : ∀ s ∈ (l0.take i).map (·.data.toList), s.length ≤ 150 ∧ (10 : UInt8) ∉ s
 lab : ∀ x ∈ B.out, x.labels.length ≤ 10
 len : B.out.length ≤ i ∧ B.bad.length ≤ i
end Go.Proofs.YtfgffjchphignaaGreatDoor.PureN
end

section
namespace Go.Proofs.YtfgffjchphignaaGreatDoor.PureN
open Go.RowKit Go.Proofs.YtfgffjchphignaaGreatDoor.Print Go.Proofs.YtfgffjchphignaaGreatDoorW.PrintWords Go.Proofs.YtfgffjchphignaaGreatDoorW.PrintLast

/-! ExpoKinds, in plain Lean. -/
def nmL (m : Int) : List UInt8 := if m = 0 then [97] else if m = 1 then [98] else [99]
def lineB (b : Int) : List UInt8 :=
 if b / 3 % 2 = 0 then [35, 32, 84, 89, 80, 69, 32] ++ nmL (b % 3) ++ [32] ++ kindT (b / 6 % 3) else nmL (b % 3) ++ [32, 49]
structure KInv (s : KSt) (B : Bod) : Prop where
 g0 : kget B.of [97] = s.k0
 g1 : kget B.of [98] = s.k1
 g2 : kget B.of [99] = s.k2
 bad : B.bad = []
 out : B.out.map (·.kind) = s.want
theorem typ00 : typeS [35, 32, 84, 89, 80, 69, 32, 97, 32, 117, 110, 116, 121, 112, 101, 100] = some ([97], 0) := by decide +kernel
theorem typ01 : typeS [35, 32, 84, 89, 80, 69, 32, 97, 32, 99, 111, 117, 110, 116, 101, 114] = some ([97], 1) := by decide +kernel
theorem typ02 : typeS [35, 32, 84, 89, 80, 69, 32, 97, 32, 103, 97, 117, 103, 101] = some ([97], 2) := by decide +kernel
theorem typ10 : typeS [35, 32, 84, 89, 80, 69, 32, 98, 32, 117, 110, 116, 121, 112, 101, 100] = some ([98], 0) := by decide +kernel
theorem typ11 : typeS [35, 32, 84, 89, 80, 69, 32, 98, 32, 99, 111, 117, 110, 116, 101, 114] = some ([98], 1) := by decide +kernel
theorem typ12 : typeS [35, 32, 84, 89, 80, 69, 32, 98, 32, 103, 97, 117, 103, 101] = some ([98], 2) := by decide +kernel
theorem typ20 : typeS [35, 32, 84, 89, 80, 69, 32, 99, 32, 117, 110, 116, 121, 112, 101, 100] = some ([99], 0) := by decide +kernel
theorem typ21 : typeS [35, 32, 84, 89, 80, 69, 32, 99, 32, 99, 111, 117, 110, 116, 101, 114] = some ([99], 1) := by decide +kernel
theorem typ22 : typeS [35, 32, 84, 89, 80, 69, 32, 99, 32, 103, 97, 117, 103, 101] = some ([99], 2) := by decide +kernel
theorem lin0 : lineS [97, 32, 49] = .ok ⟨[(NL, [97])], false, 1000000, 0, false, 0⟩ := by kernel_rfl
theorem lin1 : lineS [98, 32, 49] = .ok ⟨[(NL, [98])], false, 1000000, 0, false, 0⟩ := by kernel_rfl
theorem lin2' : lineS [99, 32, 49] = .ok ⟨[(NL, [99])], false, 1000000, 0, false, 0⟩ := by kernel_rfl
theorem kget_same (K : Kinds) (n : List UInt8) (k : Int) : kget (kset K n k) n = k := by
 unfold kget kset
 rw [List.find?_cons_of_pos (by simp)]
 rfl
theorem kget_other (K : Kinds) (n m : List UInt8) (k : Int) (h : n ≠ m) : kget (kset K n k) m = kget K m := by
 unfold kget kset
 rw [List.find?_cons_of_neg (by simpa using h)]
theorem knd_typ {s : KSt} {B : Bod} (h : KInv s B) (i : Int) (r : List UInt8) (n : List UInt8) (k : Int) (ht : typeS (35 :: r) = some (n, k)) :
  stepB B i (35 :: r) = { B with of := kset B.of n k } := by
 unfold stepB
 simp only [if_true, ht]
theorem knd_lin {s : KSt} {B : Bod} (h : KInv s B) (i : Int) (c : UInt8) (hc : c ≠ 35) (n : List UInt8) (hl : lineS [c, 32, 49] = .ok ⟨[(NL, n)], false, 1000000, 0, false, 0⟩) :
  stepB B i [c, 32, 49] = { B with out := B.out ++ [⟨[(NL, n)], false, 1000000, 0, false, kget B.of n⟩] } := by
 unfold stepB
 simp only [if_neg hc, hl]
 rfl
theorem KInv.of {s : KSt} {B B' : Bod} {i : Int} {x : List UInt8} (e : stepB B i x = B') (h : KInv s B') : KInv s (stepB B i x) := e ▸ h
theorem knd_step {s : KSt} {B : Bod} (h : KInv s B) (b : Int) (i : Int) (hb : 0 ≤ b) : KInv (s.step b) (stepB B i (lineB b)) ∧ (s.step b).body.data.toList = s.body.data.toList ++ (lineB b ++ [10]) := by
 have h3 : b % 3 = 0 ∨ b % 3 = 1 ∨ b % 3 = 2 := by omega
 have h6 : b / 6 % 3 = 0 ∨ b / 6 % 3 = 1 ∨ b / 6 % 3 = 2 := by omega
 by_cases hf : b / 3 % 2 = 0
 ·unfold KSt.step lineB
  rw [if_pos hf, if_pos hf]
  rcases h3 with h3 | h3 | h3 <;> rcases h6 with h6 | h6 | h6 <;> rw [h3, h6]
  ·exact ⟨by have e := knd_typ h i _ _ _ typ00; exact KInv.of e ⟨kget_same _ _ _, (kget_other _ _ _ _ (by decide)).trans h.g1, (kget_other _ _ _ _ (by decide)).trans h.g2, h.bad, h.out⟩, by simp [ByteArray.data_append]; rfl⟩
  ·exact ⟨by have e := knd_typ h i _ _ _ typ01; exact KInv.of e ⟨kget_same _ _ _, (kget_other _ _ _ _ (by decide)).trans h.g1, (kget_other _ _ _ _ (by decide)).trans h.g2, h.bad, h.out⟩, by simp [ByteArray.data_append]; rfl⟩
  ·exact ⟨by have e := knd_typ h i _ _ _ typ02; exact KInv.of e ⟨kget_same _ _ _, (kget_other _ _ _ _ (by decide)).trans h.g1, (kget_other _ _ _ _ (by decide)).trans h.g2, h.bad, h.out⟩, by simp [ByteArray.data_append]; rfl⟩
  ·exact ⟨by have e := knd_typ h i _ _ _ typ10; exact KInv.of e ⟨(kget_other _ _ _ _ (by decide)).trans h.g0, kget_same _ _ _, (kget_other _ _ _ _ (by decide)).trans h.g2, h.bad, h.out⟩, by simp [ByteArray.data_append]; rfl⟩
  ·exact ⟨by have e := knd_typ h i _ _ _ typ11; exact KInv.of e ⟨(kget_other _ _ _ _ (by decide)).trans h.g0, kget_same _ _ _, (kget_other _ _ _ _ (by decide)).trans h.g2, h.bad, h.out⟩, by simp [ByteArray.data_append]; rfl⟩
  ·exact ⟨by have e := knd_typ h i _ _ _ typ12; exact KInv.of e ⟨(kget_other _ _ _ _ (by decide)).trans h.g0, kget_same _ _ _, (kget_other _ _ _ _ (by decide)).trans h.g2, h.bad, h.out⟩, by simp [ByteArray.data_append]; rfl⟩
  ·exact ⟨by have e := knd_typ h i _ _ _ typ20; exact KInv.of e ⟨(kget_other _ _ _ _ (by decide)).trans h.g0, (kget_other _ _ _ _ (by decide)).trans h.g1, kget_same _ _ _, h.bad, h.out⟩, by simp [ByteArray.data_append]; rfl⟩
  ·exact ⟨by have e := knd_typ h i _ _ _ typ21; exact KInv.of e ⟨(kget_other _ _ _ _ (by decide)).trans h.g0, (kget_other _ _ _ _ (by decide)).trans h.g1, kget_same _ _ _, h.bad, h.out⟩, by simp [ByteArray.data_append]; rfl⟩
  ·exact ⟨by have e := knd_typ h i _ _ _ typ22; exact KInv.of e ⟨(kget_other _ _ _ _ (by decide)).trans h.g0, (kget_other _ _ _ _ (by decide)).trans h.g1, kget_same _ _ _, h.bad, h.out⟩, by simp [ByteArray.data_append]; rfl⟩
 ·unfold KSt.step lineB
  rw [if_neg hf, if_neg hf]
  rcases h3 with h3 | h3 | h3 <;> rw [h3]
  ·exact ⟨by have e := knd_lin h i 97 (by decide) _ lin0; exact KInv.of e ⟨h.g0, h.g1, h.g2, h.bad, by rw [List.map_append, h.out]; show _ ++ [kget B.of [97]] = _; rw [h.g0]; rfl⟩, by simp [ByteArray.data_append]; rfl⟩
  ·exact ⟨by have e := knd_lin h i 98 (by decide) _ lin1; exact KInv.of e ⟨h.g0, h.g1, h.g2, h.bad, by rw [List.map_append, h.out]; show _ ++ [kget B.of [98]] = _; rw [h.g1]; rfl⟩, by simp [ByteArray.data_append]; rfl⟩
  ·exact ⟨by have e := knd_lin h i 99 (by decide) _ lin2'; exact KInv.of e ⟨h.g0, h.g1, h.g2, h.bad, by rw [List.map_append, h.out]; show _ ++ [kget B.of [99]] = _; rw [h.g2]; rfl⟩, by simp [ByteArray.data_append]; rfl⟩
theorem knd_fold : ∀ (l : List Int) (s : KSt) (B : Bod) (i : Int), KInv s B → (∀ b ∈ l, 0 ≤ b ∧ b ≤ 255) →
  KInv (l.foldl KSt.step s) (runB B i (l.map lineB)) ∧ (l.foldl KSt.step s).body.data.toList = s.body.data.toList ++ (l.map lineB).flatMap (· ++ [10])
 | [], s, B, i, h, _ => ⟨h, by simp⟩
 | b :: l, s, B, i, h, hb => by
  obtain ⟨h1, h2⟩ := knd_step h b i (hb b List.mem_cons_self).1
  obtain ⟨h3, h4⟩ := knd_fold l (s.step b) (stepB B i (lineB b)) (i + 1) h1 (fun c hc => hb c (List.mem_cons_of_mem _ hc))
  refine ⟨h3, ?_⟩
  rw [List.foldl_cons, h4, h2, List.map_cons, List.flatMap_cons, List.append_assoc]
theorem lineB_ok (b : Int) : (10 : UInt8) ∉ lineB b ∧ (lineB b).length ≤ 20 := by
 unfold lineB nmL kindT
 repeat' split
 all_goals decide
theorem flat_len20 : ∀ (L : List (List UInt8)), (∀ s ∈ L, s.length ≤ 20) → (L.flatMap (· ++ [10])).length ≤ 21 * L.length
 | [], _ => by simp
 | s :: L, h => by
  have h1 := h s List.mem_cons_self
  have h2 := flat_len20 L (fun t ht => h t (List.mem_cons_of_mem _ ht))
  simp only [List.flatMap_cons, List.length_append, List.length_cons, List.length_nil]
  omega
theorem ExpoKinds (l : List Int) (hb : ∀ v ∈ l, 0 ≤ v ∧ v ≤ 255) (hl : l.length ≤ 40) : ∃ out, expo_Parse.f (l.foldl KSt.step kst0).body = some (out, []) ∧ out.map (·.f4) = (l.foldl KSt.step kst0).want := by
 obtain ⟨h1, h2⟩ := knd_fold l kst0 b0 1 ⟨rfl, rfl, rfl, rfl, rfl⟩ hb
 have h3 : (l.foldl KSt.step kst0).body.data.toList = (l.map lineB).flatMap (· ++ [10]) := h2
 have hlen : (l.foldl KSt.step kst0).body.data.toList.length ≤ 3000 := by
  have := flat_len20 (l.map lineB) (by
   intro s hs
   obtain ⟨b, _, rfl⟩ := List.mem_map.1 hs
   exact (lineB_ok b).2)
  rw [List.length_map] at this
  rw [h3]
  omega
 have hlines : linesS [] (l.foldl KSt.step kst0).body.data.toList = l.map lineB ++ [[]] := by
  rw [h3]
  refine lines_flat _ ?_
  intro s hs
  obtain ⟨b, _, rfl⟩ := List.mem_map.1 hs
  exact (lineB_ok b).1
 have hst : ∀ (B : Bod) (i : Int), stepB B i [] = B := fun _ _ => rfl
 refine ⟨(runB b0 1 (l.map lineB)).out.map scrS, ?_, ?_⟩
 ·unfold expo_Parse.f scrapeS
  rw [if_neg (by omega), hlines, runB_snoc, hst, h1.bad]
  rfl
 ·rw [List.map_map, ← h1.out]
  rfl
theorem kinds_calls (A0 : Option Addr) (c0 : Nat) (l : List Int) (w : World) (hr0 : Kd.C (Kd.int .u8) w A0 l.length l) (hc0 : l.length ≤ c0) (hb : ∀ v ∈ l, 0 ≤ v ∧ v ≤ 255) (hg_ : LaidW w) :
  Calls Tryz.prog 5 #[.slice A0 l.length c0] w fun e w' => e = .returned (.bool true) ∧ Below w.heap.size w w' :=
 kinds_walk A0 c0 l w hr0 hc0 hb hg_ known_isL (fun hl => ExpoKinds l hb hl)
end Go.Proofs.YtfgffjchphignaaGreatDoor.PureN
end
