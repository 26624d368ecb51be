/- A part of the proof of ExpoTells: what the functions that the law reaches come to. -/
import Derived.Test.YtfgffjchphignaaGreatDoorC01
import Derived.Test.YtfgffjchphignaaGreatDoorC03
import Derived.Laws.Cover1
set_option linter.unusedVariables false
set_option linter.unusedSimpArgs false
section
namespace Go.Proofs.YtfgffjchphignaaGreatDoor.Print
open Go.RowKit Go.Proofs.YtfgffjchphignaaGreatDoorX Go.Proofs.YtfgffjchphignaaGreatDoorW.PrintWords Go.Proofs.YtfgffjchphignaaGreatDoorW.PrintLast Go.Proofs.YtfgffjchphignaaGreatDoorW.PrintMore
/-! ### spillwayref3_Cmp: function 77 -/
mutual
def spillwayref3_Cmp.l0 : Nat → List (S60) → List (S60) → Int → Option (Int)
 | 0,_,_,_=>none
 | k + 1,x0,x1,x5=>if x5 < (x0.length : Int) then (spillwayref3_Cmp.j1 k x0 x1 x5 (decide (x5 < (x1.length : Int)))) else (spillwayref3_Cmp.j1 k x0 x1 x5 false)
def spillwayref3_Cmp.j1 : Nat → List (S60) → List (S60) → Int → Bool → Option (Int)
 | 0,_,_,_,_=>none
 | k + 1,x0,x1,x5,x16=>if x16 = true then (if 0 ≤ x5 then (if x5 < (x0.length : Int) then (if x5 < (x1.length : Int) then ((spillwayref3_less.f ((rd_T60 x0 x5).f0) ((rd_T60 x1 x5).f0)).bind fun t283=>(if t283 = 0 then ((spillwayref3_less.f ((rd_T60 x0 x5).f1) ((rd_T60 x1 x5).f1)).bind fun t286=>(if t286 = 0 then (spillwayref3_Cmp.l0 k x0 x1 (wrap64 (x5 + 1))) else (some t286))) else (some t283))) else (none)) else (none)) else (none)) else (if (x0.length : Int) < (x1.length : Int) then (some (-1)) else (if (x0.length : Int) > (x1.length : Int) then (some 1) else (some 0)))
end
def spillwayref3_Cmp.f (k : Nat) (l0 : List (S60)) (l1 : List (S60)) : Option (Int):=spillwayref3_Cmp.l0 k l0 l1 0
set_option maxHeartbeats 8000000 in
set_option maxRecDepth 100000 in
theorem spillwayref3_Cmp.calls (k : Nat) (A0 : Option Addr) (c0 : Nat) (l0 : List (S60)) (A1 : Option Addr) (c1 : Nat) (l1 : List (S60)) (r : Int) (w : World) (hr0 : Kd.C k60 w A0 l0.length l0) (hc0 : l0.length ≤ c0) (hr1 : Kd.C k60 w A1 l1.length l1) (hc1 : l1.length ≤ c1) (h : spillwayref3_Cmp.f k l0 l1 = some r) :
  Calls Tryz.prog 77 #[.slice A0 l0.length c0,.slice A1 l1.length c1] w fun e w'=>e = .returned (.int .i64 r) ∧ Drawn0 w w':=by
 have HR0:=Aside0.mk hr0
 have HC0:=Aside0.mk hc0
 clear hr0 hc0
 have HR1:=Aside0.mk hr1
 have HC1:=Aside0.mk hc1
 clear hr1 hc1
 have H : (spillwayref3_Cmp.l0 k l0 l1 0) = some r:=h
 clear h
 have H':=Aside0.mk H
 clear H
 go_enter Tryz.func77,Tryz.ntmps77
 go_wp2
 repeat (go_quiet (fail);try go_wp2)
 go_loopg [5] k (fun kq v5 w'=>∃ (x5_1 : Int),v5 = .int .i64 x5_1 ∧ Aside0 (spillwayref3_Cmp.l0 kq l0 l1 x5_1 = some r) ∧ Aside0 (kq ≤ k) ∧ Drawn0 w w')
 case atStart=>exact ⟨(0),(by first|rfl|(simp;done)|(simp [*];done)),H',⟨Nat.le_refl _⟩,by repeat (first|exact Drawn0.refl _|apply Drawn0.step)⟩
 clear H'
 try clear c1
 try clear p2
 obtain ⟨x5_1,rfl,HA,HK1,⟨m1,rfl⟩⟩:=hrel
 cases gk with
 | zero=>exact absurd HA.out (by simp [spillwayref3_Cmp.l0])
 | succ k1 =>
  have H:=HA.out
  clear HA
  simp only [spillwayref3_Cmp.l0] at H
  have HC3:=Aside0.mk H
  clear H
  go_upto_region 2 with (fail)
  repeat (go_quiet (fail);go_upto_region 2 with (fail))
  go_cut [16] (fun v16 wc=>∃ (kq : Nat) (x16_2 : Bool),v16 = .bool x16_2 ∧ Aside0 (spillwayref3_Cmp.j1 kq l0 l1 x5_1 x16_2 = some r) ∧ Aside0 (kq ≤ k1) ∧ Drawn0 w wc)
  case first =>
   have H:=HC3.out
   clear HC3
   by_cases c4 : x5_1 < (l0.length : Int)
   ·rw [if_pos c4] at H
    have c4b0 : decide (x5_1 < (l0.length : Int)) = true:=decide_eq_true c4
    clear c4
    (first|rw [c4b0]|(simp only [i64_w,i32_w];rw [c4b0])|skip)
    have H':=Aside0.mk H
    clear H
    go_wp2
    repeat (go_quiet (fail);try go_wp2)
    go_meet
    case rel=>exact ⟨_,(decide (x5_1 < (l1.length : Int))),(by first|rfl|(simp;done)|(simp [*];done)),H',⟨by have:=HK1.out;first|omega|exact Nat.le_refl _⟩,by repeat (first|exact Drawn0.refl _|apply Drawn0.step)⟩
   rw [if_neg c4] at H
   have c4b0 : decide (x5_1 < (l0.length : Int)) = false:=decide_eq_false c4
   clear c4
   (first|rw [c4b0]|(simp only [i64_w,i32_w];rw [c4b0])|skip)
   have H':=Aside0.mk H
   clear H
   go_wp2
   repeat (go_quiet (fail);try go_wp2)
   go_meet
   case rel=>exact ⟨_,(false),(by first|rfl|(simp;done)|(simp [*];done)),H',⟨by have:=HK1.out;first|omega|exact Nat.le_refl _⟩,by repeat (first|exact Drawn0.refl _|apply Drawn0.step)⟩
  clear HC3
  try clear c1
  try clear p2
  try clear c4
  try clear c4b0
  try clear p2
  obtain ⟨kq,x16_2,rfl,HA,HJ2,⟨mc2,rfl⟩⟩:=hcut
  cases kq with
  | zero=>exact absurd HA.out (by simp [spillwayref3_Cmp.j1])
  | succ kj2 =>
   have H:=HA.out
   clear HA
   simp only [spillwayref3_Cmp.j1] at H
   by_cases c5 : x16_2 = true
   ·subst c5
    have H1 : (if 0 ≤ x5_1 then (if x5_1 < (l0.length : Int) then (if x5_1 < (l1.length : Int) then ((spillwayref3_less.f ((rd_T60 l0 x5_1).f0) ((rd_T60 l1 x5_1).f0)).bind fun t283=>(if t283 = 0 then ((spillwayref3_less.f ((rd_T60 l0 x5_1).f1) ((rd_T60 l1 x5_1).f1)).bind fun t286=>(if t286 = 0 then (spillwayref3_Cmp.l0 kj2 l0 l1 (wrap64 (x5_1 + 1))) else (some t286))) else (some t283))) else (none)) else (none)) else (none)) = some r:=by rw [if_pos rfl] at H;exact H
    clear H
    have H:=H1
    clear H1
    by_cases c6 : 0 ≤ x5_1
    ·rw [if_pos c6] at H
     have c6b0 : decide (0 ≤ x5_1) = true:=decide_eq_true c6
     clear c6
     by_cases c7 : x5_1 < (l0.length : Int)
     ·rw [if_pos c7] at H
      have c7b0 : decide (x5_1 < (l0.length : Int)) = true:=decide_eq_true c7
      clear c7
      by_cases c8 : x5_1 < (l1.length : Int)
      ·rw [if_pos c8] at H
       have c8b0 : decide (x5_1 < (l1.length : Int)) = true:=decide_eq_true c8
       clear c8
       replace H:=Option.bind_eq_some_iff.mp H
       obtain ⟨t283,A90,H⟩:=H
       replace H : (if t283 = 0 then ((spillwayref3_less.f ((rd_T60 l0 x5_1).f1) ((rd_T60 l1 x5_1).f1)).bind fun t286=>(if t286 = 0 then (spillwayref3_Cmp.l0 kj2 l0 l1 (wrap64 (x5_1 + 1))) else (some t286))) else (some t283)) = some r:=H
       have A9:=Aside0.mk A90
       clear A90
       by_cases c10 : t283 = 0
       ·rw [if_pos c10] at H
        have c10b0 : (t283 == 0) = true:=beq_iff_eq.mpr c10
        have c10b1 : (t283 != 0) = false:=bne_eq_false_iff_eq.mpr c10
        clear c10
        replace H:=Option.bind_eq_some_iff.mp H
        obtain ⟨t286,A110,H⟩:=H
        replace H : (if t286 = 0 then (spillwayref3_Cmp.l0 kj2 l0 l1 (wrap64 (x5_1 + 1))) else (some t286)) = some r:=H
        have A11:=Aside0.mk A110
        clear A110
        by_cases c12 : t286 = 0
        ·rw [if_pos c12] at H
         have c12b0 : (t286 == 0) = true:=beq_iff_eq.mpr c12
         have c12b1 : (t286 != 0) = false:=bne_eq_false_iff_eq.mpr c12
         clear c12
         have H':=Aside0.mk H
         clear H
         have p281 : 0 ≤ (x5_1 : Int):=of_decide_eq_true (by first|(with_reducible assumption)|assumption)
         have q281 : x5_1 < (l0.length : Int):=of_decide_eq_true (by first|(with_reducible assumption)|assumption)
         obtain ⟨ad281,e281,hx281_0,hx281_1⟩:=at_T60 HR0.out x5_1 p281 q281
         cases e281
         replace p281:=eq_true p281
         replace q281:=eq_true q281
         have p282 : 0 ≤ (x5_1 : Int):=of_decide_eq_true (by first|(with_reducible assumption)|assumption)
         have q282 : x5_1 < (l1.length : Int):=of_decide_eq_true (by first|(with_reducible assumption)|assumption)
         obtain ⟨ad282,e282,hx282_0,hx282_1⟩:=at_T60 HR1.out x5_1 p282 q282
         cases e282
         replace p282:=eq_true p282
         replace q282:=eq_true q282
         go_wp2_with (first|(go_at_call 114;(with_reducible refine (spillwayref3_less.calls ((rd_T60 l0 x5_1).f0) ((rd_T60 l1 x5_1).f0) t283 _ A9.out).mono ?_);rintro e w' ⟨rfl,⟨nd,rfl⟩⟩;(try first|exact ⟨rfl,_,World.drewN_drewN _ _ _⟩|exact ⟨rfl,_,Eq.trans (World.drewN_drewN _ _ _) (congrArg (World.drewN _) (Nat.add_assoc _ _ _))⟩);have p284 : 0 ≤ (x5_1 : Int):=of_decide_eq_true (by first|(with_reducible assumption)|assumption);have q284 : x5_1 < (l0.length : Int):=of_decide_eq_true (by first|(with_reducible assumption)|assumption);obtain ⟨ad284,e284,hx284_0,hx284_1⟩:=at_T60 HR0.out x5_1 p284 q284;obtain rfl : ad281 = ad284:=(by injection e284);replace p284:=eq_true p284;replace q284:=eq_true q284;have p285 : 0 ≤ (x5_1 : Int):=of_decide_eq_true (by first|(with_reducible assumption)|assumption);have q285 : x5_1 < (l1.length : Int):=of_decide_eq_true (by first|(with_reducible assumption)|assumption);obtain ⟨ad285,e285,hx285_0,hx285_1⟩:=at_T60 HR1.out x5_1 p285 q285;obtain rfl : ad282 = ad285:=(by injection e285);replace p285:=eq_true p285;replace q285:=eq_true q285)|(go_at_call 114;(with_reducible refine (spillwayref3_less.calls ((rd_T60 l0 x5_1).f1) ((rd_T60 l1 x5_1).f1) t286 _ A11.out).mono ?_);rintro e w' ⟨rfl,⟨nd,rfl⟩⟩;(try first|exact ⟨rfl,_,World.drewN_drewN _ _ _⟩|exact ⟨rfl,_,Eq.trans (World.drewN_drewN _ _ _) (congrArg (World.drewN _) (Nat.add_assoc _ _ _))⟩)))
         repeat (go_quiet (first|(go_at_call 114;(with_reducible refine (spillwayref3_less.calls ((rd_T60 l0 x5_1).f0) ((rd_T60 l1 x5_1).f0) t283 _ A9.out).mono ?_);rintro e w' ⟨rfl,⟨nd,rfl⟩⟩;(try first|exact ⟨rfl,_,World.drewN_drewN _ _ _⟩|exact ⟨rfl,_,Eq.trans (World.drewN_drewN _ _ _) (congrArg (World.drewN _) (Nat.add_assoc _ _ _))⟩);have p284 : 0 ≤ (x5_1 : Int):=of_decide_eq_true (by first|(with_reducible assumption)|assumption);have q284 : x5_1 < (l0.length : Int):=of_decide_eq_true (by first|(with_reducible assumption)|assumption);obtain ⟨ad284,e284,hx284_0,hx284_1⟩:=at_T60 HR0.out x5_1 p284 q284;obtain rfl : ad281 = ad284:=(by injection e284);replace p284:=eq_true p284;replace q284:=eq_true q284;have p285 : 0 ≤ (x5_1 : Int):=of_decide_eq_true (by first|(with_reducible assumption)|assumption);have q285 : x5_1 < (l1.length : Int):=of_decide_eq_true (by first|(with_reducible assumption)|assumption);obtain ⟨ad285,e285,hx285_0,hx285_1⟩:=at_T60 HR1.out x5_1 p285 q285;obtain rfl : ad282 = ad285:=(by injection e285);replace p285:=eq_true p285;replace q285:=eq_true q285)|(go_at_call 114;(with_reducible refine (spillwayref3_less.calls ((rd_T60 l0 x5_1).f1) ((rd_T60 l1 x5_1).f1) t286 _ A11.out).mono ?_);rintro e w' ⟨rfl,⟨nd,rfl⟩⟩;(try first|exact ⟨rfl,_,World.drewN_drewN _ _ _⟩|exact ⟨rfl,_,Eq.trans (World.drewN_drewN _ _ _) (congrArg (World.drewN _) (Nat.add_assoc _ _ _))⟩)));try go_wp2_with (first|(go_at_call 114;(with_reducible refine (spillwayref3_less.calls ((rd_T60 l0 x5_1).f0) ((rd_T60 l1 x5_1).f0) t283 _ A9.out).mono ?_);rintro e w' ⟨rfl,⟨nd,rfl⟩⟩;(try first|exact ⟨rfl,_,World.drewN_drewN _ _ _⟩|exact ⟨rfl,_,Eq.trans (World.drewN_drewN _ _ _) (congrArg (World.drewN _) (Nat.add_assoc _ _ _))⟩);have p284 : 0 ≤ (x5_1 : Int):=of_decide_eq_true (by first|(with_reducible assumption)|assumption);have q284 : x5_1 < (l0.length : Int):=of_decide_eq_true (by first|(with_reducible assumption)|assumption);obtain ⟨ad284,e284,hx284_0,hx284_1⟩:=at_T60 HR0.out x5_1 p284 q284;obtain rfl : ad281 = ad284:=(by injection e284);replace p284:=eq_true p284;replace q284:=eq_true q284;have p285 : 0 ≤ (x5_1 : Int):=of_decide_eq_true (by first|(with_reducible assumption)|assumption);have q285 : x5_1 < (l1.length : Int):=of_decide_eq_true (by first|(with_reducible assumption)|assumption);obtain ⟨ad285,e285,hx285_0,hx285_1⟩:=at_T60 HR1.out x5_1 p285 q285;obtain rfl : ad282 = ad285:=(by injection e285);replace p285:=eq_true p285;replace q285:=eq_true q285)|(go_at_call 114;(with_reducible refine (spillwayref3_less.calls ((rd_T60 l0 x5_1).f1) ((rd_T60 l1 x5_1).f1) t286 _ A11.out).mono ?_);rintro e w' ⟨rfl,⟨nd,rfl⟩⟩;(try first|exact ⟨rfl,_,World.drewN_drewN _ _ _⟩|exact ⟨rfl,_,Eq.trans (World.drewN_drewN _ _ _) (congrArg (World.drewN _) (Nat.add_assoc _ _ _))⟩))))
         go_roundg kj2
         case measure=>have:=HK1.out;have:=HJ2.out;omega
         case rel=>exact ⟨(wrap64 (x5_1 + 1)),(by first|rfl|(simp;done)|(simp [*];done)),H',⟨by have:=HK1.out;have:=HJ2.out;omega⟩,by repeat (first|exact Drawn0.refl _|apply Drawn0.step)⟩
        rw [if_neg c12] at H
        have c12b0 : (t286 == 0) = false:=beq_eq_false_iff_ne.mpr c12
        have c12b1 : (t286 != 0) = true:=bne_iff_ne.mpr c12
        obtain rfl:=Option.some.inj H
        have p281 : 0 ≤ (x5_1 : Int):=of_decide_eq_true (by first|(with_reducible assumption)|assumption)
        have q281 : x5_1 < (l0.length : Int):=of_decide_eq_true (by first|(with_reducible assumption)|assumption)
        obtain ⟨ad281,e281,hx281_0,hx281_1⟩:=at_T60 HR0.out x5_1 p281 q281
        cases e281
        replace p281:=eq_true p281
        replace q281:=eq_true q281
        have p282 : 0 ≤ (x5_1 : Int):=of_decide_eq_true (by first|(with_reducible assumption)|assumption)
        have q282 : x5_1 < (l1.length : Int):=of_decide_eq_true (by first|(with_reducible assumption)|assumption)
        obtain ⟨ad282,e282,hx282_0,hx282_1⟩:=at_T60 HR1.out x5_1 p282 q282
        cases e282
        replace p282:=eq_true p282
        replace q282:=eq_true q282
        go_wp2_with (first|(go_at_call 114;(with_reducible refine (spillwayref3_less.calls ((rd_T60 l0 x5_1).f0) ((rd_T60 l1 x5_1).f0) t283 _ A9.out).mono ?_);rintro e w' ⟨rfl,⟨nd,rfl⟩⟩;(try first|exact ⟨rfl,_,World.drewN_drewN _ _ _⟩|exact ⟨rfl,_,Eq.trans (World.drewN_drewN _ _ _) (congrArg (World.drewN _) (Nat.add_assoc _ _ _))⟩);have p284 : 0 ≤ (x5_1 : Int):=of_decide_eq_true (by first|(with_reducible assumption)|assumption);have q284 : x5_1 < (l0.length : Int):=of_decide_eq_true (by first|(with_reducible assumption)|assumption);obtain ⟨ad284,e284,hx284_0,hx284_1⟩:=at_T60 HR0.out x5_1 p284 q284;obtain rfl : ad281 = ad284:=(by injection e284);replace p284:=eq_true p284;replace q284:=eq_true q284;have p285 : 0 ≤ (x5_1 : Int):=of_decide_eq_true (by first|(with_reducible assumption)|assumption);have q285 : x5_1 < (l1.length : Int):=of_decide_eq_true (by first|(with_reducible assumption)|assumption);obtain ⟨ad285,e285,hx285_0,hx285_1⟩:=at_T60 HR1.out x5_1 p285 q285;obtain rfl : ad282 = ad285:=(by injection e285);replace p285:=eq_true p285;replace q285:=eq_true q285)|(go_at_call 114;(with_reducible refine (spillwayref3_less.calls ((rd_T60 l0 x5_1).f1) ((rd_T60 l1 x5_1).f1) t286 _ A11.out).mono ?_);rintro e w' ⟨rfl,⟨nd,rfl⟩⟩;(try first|exact ⟨rfl,_,World.drewN_drewN _ _ _⟩|exact ⟨rfl,_,Eq.trans (World.drewN_drewN _ _ _) (congrArg (World.drewN _) (Nat.add_assoc _ _ _))⟩)))
        repeat (go_quiet (first|(go_at_call 114;(with_reducible refine (spillwayref3_less.calls ((rd_T60 l0 x5_1).f0) ((rd_T60 l1 x5_1).f0) t283 _ A9.out).mono ?_);rintro e w' ⟨rfl,⟨nd,rfl⟩⟩;(try first|exact ⟨rfl,_,World.drewN_drewN _ _ _⟩|exact ⟨rfl,_,Eq.trans (World.drewN_drewN _ _ _) (congrArg (World.drewN _) (Nat.add_assoc _ _ _))⟩);have p284 : 0 ≤ (x5_1 : Int):=of_decide_eq_true (by first|(with_reducible assumption)|assumption);have q284 : x5_1 < (l0.length : Int):=of_decide_eq_true (by first|(with_reducible assumption)|assumption);obtain ⟨ad284,e284,hx284_0,hx284_1⟩:=at_T60 HR0.out x5_1 p284 q284;obtain rfl : ad281 = ad284:=(by injection e284);replace p284:=eq_true p284;replace q284:=eq_true q284;have p285 : 0 ≤ (x5_1 : Int):=of_decide_eq_true (by first|(with_reducible assumption)|assumption);have q285 : x5_1 < (l1.length : Int):=of_decide_eq_true (by first|(with_reducible assumption)|assumption);obtain ⟨ad285,e285,hx285_0,hx285_1⟩:=at_T60 HR1.out x5_1 p285 q285;obtain rfl : ad282 = ad285:=(by injection e285);replace p285:=eq_true p285;replace q285:=eq_true q285)|(go_at_call 114;(with_reducible refine (spillwayref3_less.calls ((rd_T60 l0 x5_1).f1) ((rd_T60 l1 x5_1).f1) t286 _ A11.out).mono ?_);rintro e w' ⟨rfl,⟨nd,rfl⟩⟩;(try first|exact ⟨rfl,_,World.drewN_drewN _ _ _⟩|exact ⟨rfl,_,Eq.trans (World.drewN_drewN _ _ _) (congrArg (World.drewN _) (Nat.add_assoc _ _ _))⟩)));try go_wp2_with (first|(go_at_call 114;(with_reducible refine (spillwayref3_less.calls ((rd_T60 l0 x5_1).f0) ((rd_T60 l1 x5_1).f0) t283 _ A9.out).mono ?_);rintro e w' ⟨rfl,⟨nd,rfl⟩⟩;(try first|exact ⟨rfl,_,World.drewN_drewN _ _ _⟩|exact ⟨rfl,_,Eq.trans (World.drewN_drewN _ _ _) (congrArg (World.drewN _) (Nat.add_assoc _ _ _))⟩);have p284 : 0 ≤ (x5_1 : Int):=of_decide_eq_true (by first|(with_reducible assumption)|assumption);have q284 : x5_1 < (l0.length : Int):=of_decide_eq_true (by first|(with_reducible assumption)|assumption);obtain ⟨ad284,e284,hx284_0,hx284_1⟩:=at_T60 HR0.out x5_1 p284 q284;obtain rfl : ad281 = ad284:=(by injection e284);replace p284:=eq_true p284;replace q284:=eq_true q284;have p285 : 0 ≤ (x5_1 : Int):=of_decide_eq_true (by first|(with_reducible assumption)|assumption);have q285 : x5_1 < (l1.length : Int):=of_decide_eq_true (by first|(with_reducible assumption)|assumption);obtain ⟨ad285,e285,hx285_0,hx285_1⟩:=at_T60 HR1.out x5_1 p285 q285;obtain rfl : ad282 = ad285:=(by injection e285);replace p285:=eq_true p285;replace q285:=eq_true q285)|(go_at_call 114;(with_reducible refine (spillwayref3_less.calls ((rd_T60 l0 x5_1).f1) ((rd_T60 l1 x5_1).f1) t286 _ A11.out).mono ?_);rintro e w' ⟨rfl,⟨nd,rfl⟩⟩;(try first|exact ⟨rfl,_,World.drewN_drewN _ _ _⟩|exact ⟨rfl,_,Eq.trans (World.drewN_drewN _ _ _) (congrArg (World.drewN _) (Nat.add_assoc _ _ _))⟩))))
        go_ret
        exact ⟨by first|rfl|(simp;done)|(simp [*];done),by repeat (first|exact Drawn0.refl _|apply Drawn0.step)⟩
       rw [if_neg c10] at H
       have c10b0 : (t283 == 0) = false:=beq_eq_false_iff_ne.mpr c10
       have c10b1 : (t283 != 0) = true:=bne_iff_ne.mpr c10
       obtain rfl:=Option.some.inj H
       have p281 : 0 ≤ (x5_1 : Int):=of_decide_eq_true (by first|(with_reducible assumption)|assumption)
       have q281 : x5_1 < (l0.length : Int):=of_decide_eq_true (by first|(with_reducible assumption)|assumption)
       obtain ⟨ad281,e281,hx281_0,hx281_1⟩:=at_T60 HR0.out x5_1 p281 q281
       cases e281
       replace p281:=eq_true p281
       replace q281:=eq_true q281
       have p282 : 0 ≤ (x5_1 : Int):=of_decide_eq_true (by first|(with_reducible assumption)|assumption)
       have q282 : x5_1 < (l1.length : Int):=of_decide_eq_true (by first|(with_reducible assumption)|assumption)
       obtain ⟨ad282,e282,hx282_0,hx282_1⟩:=at_T60 HR1.out x5_1 p282 q282
       cases e282
       replace p282:=eq_true p282
       replace q282:=eq_true q282
       go_wp2_with (first|(go_at_call 114;(with_reducible refine (spillwayref3_less.calls ((rd_T60 l0 x5_1).f0) ((rd_T60 l1 x5_1).f0) t283 _ A9.out).mono ?_);rintro e w' ⟨rfl,⟨nd,rfl⟩⟩;(try first|exact ⟨rfl,_,World.drewN_drewN _ _ _⟩|exact ⟨rfl,_,Eq.trans (World.drewN_drewN _ _ _) (congrArg (World.drewN _) (Nat.add_assoc _ _ _))⟩)))
       repeat (go_quiet (first|(go_at_call 114;(with_reducible refine (spillwayref3_less.calls ((rd_T60 l0 x5_1).f0) ((rd_T60 l1 x5_1).f0) t283 _ A9.out).mono ?_);rintro e w' ⟨rfl,⟨nd,rfl⟩⟩;(try first|exact ⟨rfl,_,World.drewN_drewN _ _ _⟩|exact ⟨rfl,_,Eq.trans (World.drewN_drewN _ _ _) (congrArg (World.drewN _) (Nat.add_assoc _ _ _))⟩)));try go_wp2_with (first|(go_at_call 114;(with_reducible refine (spillwayref3_less.calls ((rd_T60 l0 x5_1).f0) ((rd_T60 l1 x5_1).f0) t283 _ A9.out).mono ?_);rintro e w' ⟨rfl,⟨nd,rfl⟩⟩;(try first|exact ⟨rfl,_,World.drewN_drewN _ _ _⟩|exact ⟨rfl,_,Eq.trans (World.drewN_drewN _ _ _) (congrArg (World.drewN _) (Nat.add_assoc _ _ _))⟩))))
       go_ret
       exact ⟨by first|rfl|(simp;done)|(simp [*];done),by repeat (first|exact Drawn0.refl _|apply Drawn0.step)⟩
      rw [if_neg c8] at H
      exact absurd H (by simp)
     rw [if_neg c7] at H
     exact absurd H (by simp)
    rw [if_neg c6] at H
    exact absurd H (by simp)
   replace c5:=Bool.eq_false_iff.mpr c5
   subst c5
   have H1 : (if (l0.length : Int) < (l1.length : Int) then (some (-1)) else (if (l0.length : Int) > (l1.length : Int) then (some 1) else (some 0))) = some r:=by rw [if_neg (show ¬ (false = true) by decide)] at H;exact H
   clear H
   have H:=H1
   clear H1
   by_cases c13 : (l0.length : Int) < (l1.length : Int)
   ·rw [if_pos c13] at H
    have c13b0 : decide ((l0.length : Int) < (l1.length : Int)) = true:=decide_eq_true c13
    have c13b1 : decide (l0.length < l1.length) = true:=decide_eq_true (Int.ofNat_lt.mp c13)
    clear c13
    obtain rfl:=Option.some.inj H
    go_wp2
    repeat (go_quiet (fail);try go_wp2)
    go_ret
    exact ⟨by first|rfl|(simp;done)|(simp [*];done),by repeat (first|exact Drawn0.refl _|apply Drawn0.step)⟩
   rw [if_neg c13] at H
   have c13b0 : decide ((l0.length : Int) < (l1.length : Int)) = false:=decide_eq_false c13
   have c13b1 : decide (l0.length < l1.length) = false:=decide_eq_false (fun h=>c13 (Int.ofNat_lt.mpr h))
   clear c13
   by_cases c14 : (l0.length : Int) > (l1.length : Int)
   ·rw [if_pos c14] at H
    have c14b0 : decide ((l1.length : Int) < (l0.length : Int)) = true:=decide_eq_true c14
    have c14b1 : decide (l1.length < l0.length) = true:=decide_eq_true (Int.ofNat_lt.mp c14)
    clear c14
    obtain rfl:=Option.some.inj H
    go_wp2
    repeat (go_quiet (fail);try go_wp2)
    go_ret
    exact ⟨by first|rfl|(simp;done)|(simp [*];done),by repeat (first|exact Drawn0.refl _|apply Drawn0.step)⟩
   rw [if_neg c14] at H
   have c14b0 : decide ((l1.length : Int) < (l0.length : Int)) = false:=decide_eq_false c14
   have c14b1 : decide (l1.length < l0.length) = false:=decide_eq_false (fun h=>c14 (Int.ofNat_lt.mpr h))
   clear c14
   obtain rfl:=Option.some.inj H
   go_wp2
   repeat (go_quiet (fail);try go_wp2)
   go_ret
   exact ⟨by first|rfl|(simp;done)|(simp [*];done),by repeat (first|exact Drawn0.refl _|apply Drawn0.step)⟩
/-! ### spillwayref3_Same: function 42 -/
def spillwayref3_Same.f (k : Nat) (l0 : List (S60)) (l1 : List (S60)) : Option (Bool):=(spillwayref3_Cmp.f k l0 l1).bind fun t287=>(some (t287 == 0))
set_option maxHeartbeats 8000000 in
set_option maxRecDepth 100000 in
theorem spillwayref3_Same.calls (k : Nat) (A0 : Option Addr) (c0 : Nat) (l0 : List (S60)) (A1 : Option Addr) (c1 : Nat) (l1 : List (S60)) (r : Bool) (w : World) (hr0 : Kd.C k60 w A0 l0.length l0) (hc0 : l0.length ≤ c0) (hr1 : Kd.C k60 w A1 l1.length l1) (hc1 : l1.length ≤ c1) (h : spillwayref3_Same.f k l0 l1 = some r) :
  Calls Tryz.prog 42 #[.slice A0 l0.length c0,.slice A1 l1.length c1] w fun e w'=>e = .returned (.bool r) ∧ Drawn0 w w':=by
 have HR0:=Aside0.mk hr0
 have HC0:=Aside0.mk hc0
 clear hr0 hc0
 have HR1:=Aside0.mk hr1
 have HC1:=Aside0.mk hc1
 clear hr1 hc1
 have H : ((spillwayref3_Cmp.f k l0 l1).bind fun t287=>(some (t287 == 0))) = some r:=h
 clear h
 replace H:=Option.bind_eq_some_iff.mp H
 obtain ⟨t287,A30,H⟩:=H
 replace H : (some (t287 == 0)) = some r:=H
 have A3:=Aside0.mk A30
 clear A30
 obtain rfl:=Option.some.inj H
 go_enter Tryz.func42,Tryz.ntmps42
 go_wp2_with (first|((with_reducible refine gate_callee (f:=77) rfl ?_);refine goesL_ (some 7) rfl rfl Tryz.func77 (by kernel_rfl) rfl #[.slice A0 l0.length c0,.slice A1 l1.length c1] rfl (by (try simp only [List.map_toArray,List.map_cons,List.map_nil]);first|done|rfl|(simp only [List.length_drop,List.length_take];rfl)) ?_;(with_reducible refine (spillwayref3_Cmp.calls k _ _ l0 _ _ l1 t287 _ ?side1 ?side2 ?side3 ?side4 A3.out).mono ?_);(case side1=>repeat (first|exact HR0.out|(with_reducible refine Kd.C_alloc ?_ _)|(with_reducible refine Kd.C_drewN ?_ _)|(with_reducible refine Kd.C_drew ?_)));(case side2=>exact HC0.out);(case side3=>repeat (first|exact HR1.out|(with_reducible refine Kd.C_alloc ?_ _)|(with_reducible refine Kd.C_drewN ?_ _)|(with_reducible refine Kd.C_drew ?_)));(case side4=>exact HC1.out);rintro e w' ⟨rfl,⟨nd,rfl⟩⟩;refine ⟨_,rfl,?_⟩))
 go_ret
 exact ⟨by first|rfl|(simp;done)|(simp [*];done),by repeat (first|exact Drawn0.refl _|apply Drawn0.step)⟩
end Go.Proofs.YtfgffjchphignaaGreatDoor.Print
end
section
namespace Go.Proofs.YtfgffjchphignaaGreatDoor.Print
open Go.RowKit Go.Proofs.YtfgffjchphignaaGreatDoorX Go.Proofs.YtfgffjchphignaaGreatDoorW.PrintWords Go.Proofs.YtfgffjchphignaaGreatDoorW.PrintLast Go.Proofs.YtfgffjchphignaaGreatDoorW.PrintMore
attribute [local go_sem high] eqA32
/-! ### spillwaylaw6_same: function 15 -/
def spillwaylaw6_same.f (k : Nat) (l0_0 : List (S60)) (a0_1 : Bool) (a0_2 : Int) (a0_3 : Int) (a0_4 : Bool) (a0_5 : Int) (l1_0 : List (S60)) (a1_1 : Bool) (a1_2 : Int) (a1_3 : Int) (a1_4 : Bool) (a1_5 : Int) : Option (Bool):=(spillwayref3_Same.f k l0_0 l1_0).bind fun t290=>(if t290 = true then (if (a0_1 == a1_1 && (a0_2 == a1_2)) = true then (if a0_3 = a1_3 then (if (a0_4 == a1_4) = true then (some (a0_5 == a1_5)) else (none)) else (none)) else (none)) else (none))
set_option maxHeartbeats 8000000 in
set_option maxRecDepth 100000 in
theorem spillwaylaw6_same.calls (k : Nat) (A0_0 : Option Addr) (c0_0 : Nat) (l0_0 : List (S60)) (a0_1 : Bool) (a0_2 : Int) (a0_3 : Int) (a0_4 : Bool) (a0_5 : Int) (A1_0 : Option Addr) (c1_0 : Nat) (l1_0 : List (S60)) (a1_1 : Bool) (a1_2 : Int) (a1_3 : Int) (a1_4 : Bool) (a1_5 : Int) (r : Bool) (w : World) (hr0_0 : Kd.C k60 w A0_0 l0_0.length l0_0) (hc0_0 : l0_0.length ≤ c0_0) (hr1_0 : Kd.C k60 w A1_0 l1_0.length l1_0) (hc1_0 : l1_0.length ≤ c1_0) (h : spillwaylaw6_same.f k l0_0 a0_1 a0_2 a0_3 a0_4 a0_5 l1_0 a1_1 a1_2 a1_3 a1_4 a1_5 = some r) :
  Calls Tryz.prog 15 #[.agg #[.slice A0_0 l0_0.length c0_0,.bool a0_1,.int .i64 a0_2,.int .i64 a0_3,.bool a0_4,.int .i64 a0_5],.agg #[.slice A1_0 l1_0.length c1_0,.bool a1_1,.int .i64 a1_2,.int .i64 a1_3,.bool a1_4,.int .i64 a1_5]] w fun e w'=>e = .returned (.bool r) ∧ Below w.heap.size w w':=by
 have hu34:=Tryz.underlying34
 have hu32:=Tryz.underlying32
 have HR0_0:=Aside0.mk hr0_0
 have HC0_0:=Aside0.mk hc0_0
 clear hr0_0 hc0_0
 have HR1_0:=Aside0.mk hr1_0
 have HC1_0:=Aside0.mk hc1_0
 clear hr1_0 hc1_0
 have HB:=Aside0.mk (Below.refl w.heap.size w)
 have H : ((spillwayref3_Same.f k l0_0 l1_0).bind fun t290=>(if t290 = true then (if (a0_1 == a1_1 && (a0_2 == a1_2)) = true then (if a0_3 = a1_3 then (if (a0_4 == a1_4) = true then (some (a0_5 == a1_5)) else (none)) else (none)) else (none)) else (none))) = some r:=h
 clear h
 replace H:=Option.bind_eq_some_iff.mp H
 obtain ⟨t290,A30,H⟩:=H
 replace H : (if t290 = true then (if (a0_1 == a1_1 && (a0_2 == a1_2)) = true then (if a0_3 = a1_3 then (if (a0_4 == a1_4) = true then (some (a0_5 == a1_5)) else (none)) else (none)) else (none)) else (none)) = some r:=H
 have A3:=Aside0.mk A30
 clear A30
 by_cases c4 : t290 = true
 ·subst c4
  have H1 : (if (a0_1 == a1_1 && (a0_2 == a1_2)) = true then (if a0_3 = a1_3 then (if (a0_4 == a1_4) = true then (some (a0_5 == a1_5)) else (none)) else (none)) else (none)) = some r:=by rw [if_pos rfl] at H;exact H
  clear H
  have H:=H1
  clear H1
  by_cases c5 : (a0_1 == a1_1 && (a0_2 == a1_2)) = true
  ·rw [if_pos c5] at H
   have c5b0 : (a0_1 == a1_1 && (a0_2 == a1_2)) = true:=c5
   (try (have c5b1 : decide (a0_1 = a1_1 && (a0_2 == a1_2)) = true:=by simpa using c5))
   (try (have c5b2 : (a0_1 == a1_1 && (a0_2 == a1_2)) = true:=by simpa using c5))
   clear c5
   by_cases c6 : a0_3 = a1_3
   ·rw [if_pos c6] at H
    have c6b0 : (a0_3 == a1_3) = true:=beq_iff_eq.mpr c6
    have c6b1 : (a0_3 != a1_3) = false:=bne_eq_false_iff_eq.mpr c6
    clear c6
    by_cases c7 : (a0_4 == a1_4) = true
    ·rw [if_pos c7] at H
     have c7b0 : (a0_4 == a1_4) = true:=c7
     (try (have c7b1 : decide (a0_4 = a1_4) = true:=by simpa using c7))
     (try (have c7b2 : (a0_4 == a1_4) = true:=by simpa using c7))
     clear c7
     obtain rfl:=Option.some.inj H
     go_enter Tryz.func15,Tryz.ntmps15
     go_wp2_with (first|((with_reducible refine gate_dst (N:=2) rfl ?_);refine box_event ?hg (N:=2) ?hd (cs:=#[.slice A0_0 l0_0.length c0_0,.bool a0_1,.int .i64 a0_2,.int .i64 a0_3,.bool a0_4,.int .i64 a0_5]) (t:=34) ?hr ?_;(case hd=>rfl);(case hg=>rfl);(case hr=>first|(go_simp;done)|(go_simp;rfl));intro gb288 hg w8 hbox hb;have n0_:=Aside0.mk (below_step (by repeat (first|(with_reducible first|exact HB.out|apply below_alloc|apply pw_below_drewN|apply below_drew1)|exact HB.out)) hb);have n1_:=Aside0.mk (hbox);have n2_:=Aside0.mk ((by rw [hg];exact (below_size (by repeat (first|(with_reducible first|exact HB.out|apply below_alloc|apply pw_below_drewN|apply below_drew1)|exact HB.out))) : w.heap.size ≤ gb288));have n3_:=Aside0.mk ((by rw [hg];exact (below_size (by repeat (first|(with_reducible first|exact HB.out|apply below_alloc|apply pw_below_drewN|apply below_drew1)|exact HB.out))) : w.heap.size ≤ gb288));clear HB;have HB:=n0_;have BK288:=n1_;have GW288:=n2_;have GE288:=n3_;clear n0_ n1_ n2_ n3_;clear hb hbox hg)|((with_reducible refine gate_dst (N:=3) rfl ?_);refine box_event ?hg (N:=3) ?hd (cs:=#[.slice A1_0 l1_0.length c1_0,.bool a1_1,.int .i64 a1_2,.int .i64 a1_3,.bool a1_4,.int .i64 a1_5]) (t:=34) ?hr ?_;(case hd=>rfl);(case hg=>rfl);(case hr=>first|(go_simp;done)|(go_simp;rfl));intro gb289 hg w9 hbox hb;have n0_:=Aside0.mk (blk_below (g:=gb288) (o:=.cells #[.slice A0_0 l0_0.length c0_0,.bool a0_1,.int .i64 a0_2,.int .i64 a0_3,.bool a0_4,.int .i64 a0_5] 34 (0,0)) (by (with_reducible repeat (first|refine blk_drewN ?_ _|refine blk_drew ?_|refine blk_alloc ?_ _));exact BK288.out) hb);have n1_:=Aside0.mk (below_step (by repeat (first|(with_reducible first|exact HB.out|apply below_alloc|apply pw_below_drewN|apply below_drew1|refine below_set ?_ GE288.out)|exact HB.out)) hb);have n2_:=Aside0.mk (hbox);have n3_:=Aside0.mk ((by rw [hg];exact (below_size (by repeat (first|(with_reducible first|exact HB.out|apply below_alloc|apply pw_below_drewN|apply below_drew1|refine below_set ?_ GE288.out)|exact HB.out))) : w.heap.size ≤ gb289));have n4_:=Aside0.mk ((by rw [hg];exact (below_size (by repeat (first|(with_reducible first|exact HB.out|apply below_alloc|apply pw_below_drewN|apply below_drew1|refine below_set ?_ GE288.out)|exact HB.out))) : w.heap.size ≤ gb289));have n5_:=Aside0.mk ((by rw [hg];exact Nat.ne_of_lt (blk_lt (g:=gb288) (o:=.cells #[.slice A0_0 l0_0.length c0_0,.bool a0_1,.int .i64 a0_2,.int .i64 a0_3,.bool a0_4,.int .i64 a0_5] 34 (0,0)) (by (with_reducible repeat (first|refine blk_drewN ?_ _|refine blk_drew ?_|refine blk_alloc ?_ _));exact BK288.out)) : gb288 ≠ gb289));have n6_:=Aside0.mk ((by rw [hg];exact Nat.ne_of_gt (blk_lt (g:=gb288) (o:=.cells #[.slice A0_0 l0_0.length c0_0,.bool a0_1,.int .i64 a0_2,.int .i64 a0_3,.bool a0_4,.int .i64 a0_5] 34 (0,0)) (by (with_reducible repeat (first|refine blk_drewN ?_ _|refine blk_drew ?_|refine blk_alloc ?_ _));exact BK288.out)) : gb289 ≠ gb288));clear BK288;clear HB;have BK288:=n0_;have HB:=n1_;have BK289:=n2_;have GW289:=n3_;have GE289:=n4_;have NB288_289:=n5_;have NB289_288:=n6_;clear n0_ n1_ n2_ n3_ n4_ n5_ n6_;clear hb hbox hg;have hnb10:=NB288_289.out;have hnc10:=NB289_288.out;have hcz11_0 : w9.cell? ⟨gb288,0,none⟩ = some (.slice A0_0 l0_0.length c0_0):=(blk_cell BK288.out 0).trans rfl;have hcz11_1 : w9.cell? ⟨gb288,1,none⟩ = some (.bool a0_1):=(blk_cell BK288.out 1).trans rfl;have hcz11_2 : w9.cell? ⟨gb288,2,none⟩ = some (.int .i64 a0_2):=(blk_cell BK288.out 2).trans rfl;have hcz11_3 : w9.cell? ⟨gb288,3,none⟩ = some (.int .i64 a0_3):=(blk_cell BK288.out 3).trans rfl;have hcz11_4 : w9.cell? ⟨gb288,4,none⟩ = some (.bool a0_4):=(blk_cell BK288.out 4).trans rfl;have hcz11_5 : w9.cell? ⟨gb288,5,none⟩ = some (.int .i64 a0_5):=(blk_cell BK288.out 5).trans rfl;have hfz11_0:=blk_frozen BK288.out 0;have hfz11_1:=blk_frozen BK288.out 1;have hfz11_2:=blk_frozen BK288.out 2;have hfz11_3:=blk_frozen BK288.out 3;have hfz11_4:=blk_frozen BK288.out 4;have hfz11_5:=blk_frozen BK288.out 5;have hcz12_0 : w9.cell? ⟨gb289,0,none⟩ = some (.slice A1_0 l1_0.length c1_0):=(blk_cell BK289.out 0).trans rfl;have hcz12_1 : w9.cell? ⟨gb289,1,none⟩ = some (.bool a1_1):=(blk_cell BK289.out 1).trans rfl;have hcz12_2 : w9.cell? ⟨gb289,2,none⟩ = some (.int .i64 a1_2):=(blk_cell BK289.out 2).trans rfl;have hcz12_3 : w9.cell? ⟨gb289,3,none⟩ = some (.int .i64 a1_3):=(blk_cell BK289.out 3).trans rfl;have hcz12_4 : w9.cell? ⟨gb289,4,none⟩ = some (.bool a1_4):=(blk_cell BK289.out 4).trans rfl;have hcz12_5 : w9.cell? ⟨gb289,5,none⟩ = some (.int .i64 a1_5):=(blk_cell BK289.out 5).trans rfl;have hfz12_0:=blk_frozen BK289.out 0;have hfz12_1:=blk_frozen BK289.out 1;have hfz12_2:=blk_frozen BK289.out 2;have hfz12_3:=blk_frozen BK289.out 3;have hfz12_4:=blk_frozen BK289.out 4;have hfz12_5:=blk_frozen BK289.out 5)|((with_reducible refine gate_callee (f:=42) rfl ?_);refine goesL_ (some 9) rfl rfl Tryz.func42 (by kernel_rfl) rfl #[.slice A0_0 l0_0.length c0_0,.slice A1_0 l1_0.length c1_0] rfl (by (try simp only [List.map_toArray,List.map_cons,List.map_nil]);first|done|rfl|(simp only [List.length_drop,List.length_take];rfl)) ?_;(with_reducible refine (spillwayref3_Same.calls k _ _ l0_0 _ _ l1_0 true _ ?side1 ?side2 ?side3 ?side4 A3.out).mono ?_);(case side1=>repeat (first|exact (Kd.C_below HR0_0.out HB.out)|(with_reducible refine Kd.C_alloc ?_ _)|(with_reducible refine Kd.C_drewN ?_ _)|(with_reducible refine Kd.C_drew ?_)));(case side2=>exact HC0_0.out);(case side3=>repeat (first|exact (Kd.C_below HR1_0.out HB.out)|(with_reducible refine Kd.C_alloc ?_ _)|(with_reducible refine Kd.C_drewN ?_ _)|(with_reducible refine Kd.C_drew ?_)));(case side4=>exact HC1_0.out);rintro e w' ⟨rfl,⟨nd,rfl⟩⟩;refine ⟨_,rfl,?_⟩))
     go_ret
     exact ⟨by first|rfl|(simp [errW_none,errW_some] <;> rfl)|(simp [*,errW_none,errW_some] <;> rfl),by repeat (first|(with_reducible first|exact HB.out|apply below_alloc|apply pw_below_drewN|apply below_drew1|refine below_set ?_ GE288.out|refine below_set ?_ GE289.out)|exact HB.out)⟩
    rw [if_neg c7] at H
    exact absurd H (by simp)
   rw [if_neg c6] at H
   exact absurd H (by simp)
  rw [if_neg c5] at H
  exact absurd H (by simp)
 replace c4:=Bool.eq_false_iff.mpr c4
 subst c4
 have H1 : (none) = some r:=by rw [if_neg (show ¬ (false = true) by decide)] at H;exact H
 clear H
 have H:=H1
 clear H1
 exact absurd H (by simp)
end Go.Proofs.YtfgffjchphignaaGreatDoor.Print
end
section
namespace Go.Proofs.YtfgffjchphignaaGreatDoor.Print
open Go.RowKit Go.Proofs.YtfgffjchphignaaGreatDoorX Go.Proofs.YtfgffjchphignaaGreatDoorW.PrintWords Go.Proofs.YtfgffjchphignaaGreatDoorW.PrintLast Go.Proofs.YtfgffjchphignaaGreatDoorW.PrintMore
/-! ### spillwaylaw6_sames: function 14 -/
def spillwaylaw6_sames.l0 : Nat → List (S34) → List (S34) → Int → Option (Bool)
 | 0,_,_,_=>none
 | k + 1,x0,x1,x5=>if x5 < (x0.length : Int) then (if 0 ≤ x5 then (if x5 < (x1.length : Int) then ((spillwaylaw6_same.f k ((rd_T34 x0 x5).f0) ((rd_T34 x0 x5).f1.f0) ((rd_T34 x0 x5).f1.f1) ((rd_T34 x0 x5).f2) ((rd_T34 x0 x5).f3) ((rd_T34 x0 x5).f4) ((rd_T34 x1 x5).f0) ((rd_T34 x1 x5).f1.f0) ((rd_T34 x1 x5).f1.f1) ((rd_T34 x1 x5).f2) ((rd_T34 x1 x5).f3) ((rd_T34 x1 x5).f4)).bind fun t293=>(if t293 = true then (spillwaylaw6_sames.l0 k x0 x1 (wrap64 (x5 + 1))) else (none))) else (none)) else (none)) else (some true)
def spillwaylaw6_sames.f (k : Nat) (l0 : List (S34)) (l1 : List (S34)) : Option (Bool):=if (l0.length : Int) = (l1.length : Int) then (spillwaylaw6_sames.l0 k l0 l1 0) else (none)
def spillwaylaw6_sames.T6 : Bool × List (List Nat × List Nat):=(true,[([],[]),([],[]),([0,1],[0,1]),([2],[2]),([],[]),([],[]),([4,5],[4,5]),([6],[6]),([3,7],[3,7]),([8],[8])])
def spillwaylaw6_sames.B6 : List Nat:=[0,0,3,7,0,0,48,112,255,511]
theorem spillwaylaw6_sames.tab6 : rtab .any (opsOf Tryz.f14 6) = spillwaylaw6_sames.T6:=by kernel_rfl
theorem spillwaylaw6_sames.bits6 : waitsOk spillwaylaw6_sames.T6.2 spillwaylaw6_sames.B6 = true:=by kernel_rfl
set_option maxHeartbeats 8000000 in
set_option maxRecDepth 100000 in
theorem spillwaylaw6_sames.calls (k : Nat) (A0 : Option Addr) (c0 : Nat) (l0 : List (S34)) (A1 : Option Addr) (c1 : Nat) (l1 : List (S34)) (r : Bool) (w : World) (hr0 : Kd.C k34 w A0 l0.length l0) (hc0 : l0.length ≤ c0) (hr1 : Kd.C k34 w A1 l1.length l1) (hc1 : l1.length ≤ c1) (h : spillwaylaw6_sames.f k l0 l1 = some r) :
  Calls Tryz.prog 14 #[.slice A0 l0.length c0,.slice A1 l1.length c1] w fun e w'=>e = .returned (.bool r) ∧ Below w.heap.size w w':=by
 have hu34:=Tryz.underlying34
 have HR0:=Aside0.mk hr0
 have HC0:=Aside0.mk hc0
 clear hr0 hc0
 have HR1:=Aside0.mk hr1
 have HC1:=Aside0.mk hc1
 clear hr1 hc1
 have HB:=Aside0.mk (Below.refl w.heap.size w)
 have H : (if (l0.length : Int) = (l1.length : Int) then (spillwaylaw6_sames.l0 k l0 l1 0) else (none)) = some r:=h
 clear h
 by_cases c3 : (l0.length : Int) = (l1.length : Int)
 ·rw [if_pos c3] at H
  have c3b0 : ((l0.length : Int) == (l1.length : Int)) = true:=beq_iff_eq.mpr c3
  have c3b1 : ((l0.length : Int) != (l1.length : Int)) = false:=bne_eq_false_iff_eq.mpr c3
  have c3b2 : (l0.length == l1.length) = true:=by first|simpa using c3|(simp at c3 ⊢;omega)
  clear c3
  have H':=Aside0.mk H
  clear H
  go_enter Tryz.func14,Tryz.ntmps14
  go_wp2
  go_loopg [5] k (fun kq v5 w'=>∃ (x5_1 : Int),v5 = .int .i64 x5_1 ∧ Aside0 (spillwaylaw6_sames.l0 kq l0 l1 x5_1 = some r) ∧ Aside0 (kq ≤ k) ∧ Aside0 (Below w.heap.size w w'))
  case atStart=>exact ⟨(0),(by first|rfl|(simp;done)|(simp [*];done)),H',⟨Nat.le_refl _⟩,⟨by repeat (first|(with_reducible first|exact HB.out|apply below_alloc|apply pw_below_drewN|apply below_drew1)|exact HB.out)⟩⟩
  clear H'
  try clear c1
  try clear p2
  try clear c3
  try clear c3b0
  try clear c3b1
  try clear c3b2
  obtain ⟨x5_1,rfl,HA,HK1,HB⟩:=hrel
  cases gk with
  | zero=>exact absurd HA.out (by simp [spillwaylaw6_sames.l0])
  | succ k1 =>
   have H:=HA.out
   clear HA
   simp only [spillwaylaw6_sames.l0] at H
   by_cases c4 : x5_1 < (l0.length : Int)
   ·rw [if_pos c4] at H
    have c4b0 : decide (x5_1 < (l0.length : Int)) = true:=decide_eq_true c4
    clear c4
    by_cases c5 : 0 ≤ x5_1
    ·rw [if_pos c5] at H
     have c5b0 : decide (0 ≤ x5_1) = true:=decide_eq_true c5
     clear c5
     by_cases c6 : x5_1 < (l1.length : Int)
     ·rw [if_pos c6] at H
      have c6b0 : decide (x5_1 < (l1.length : Int)) = true:=decide_eq_true c6
      clear c6
      replace H:=Option.bind_eq_some_iff.mp H
      obtain ⟨t293,A70,H⟩:=H
      replace H : (if t293 = true then (spillwaylaw6_sames.l0 k1 l0 l1 (wrap64 (x5_1 + 1))) else (none)) = some r:=H
      have A7:=Aside0.mk A70
      clear A70
      by_cases c8 : t293 = true
      ·subst c8
       have H1 : (spillwaylaw6_sames.l0 k1 l0 l1 (wrap64 (x5_1 + 1))) = some r:=by rw [if_pos rfl] at H;exact H
       clear H
       have H:=H1
       clear H1
       have H':=Aside0.mk H
       clear H
       try go_wp2
       have n0_:=Aside0.mk (below_drew1 HB.out)
       clear HB
       have HB:=n0_
       clear n0_
       have p291 : 0 ≤ (x5_1 : Int):=of_decide_eq_true (by first|(with_reducible assumption)|assumption)
       have q291 : x5_1 < (l0.length : Int):=of_decide_eq_true (by first|(with_reducible assumption)|assumption)
       obtain ⟨ad291,A291_0,c291_0,e291,hx291_0,hx291_1,hx291_2,hx291_3,hx291_4,hx291_5,hl291_0,hi291_0⟩:=at_T34 HR0.out x5_1 p291 q291
       have hw291_5:=hx291_5
       have hw291_4:=hx291_4
       have hw291_3:=hx291_3
       have hw291_2:=hx291_2
       have hw291_1:=hx291_1
       have hw291_0:=hx291_0
       cases e291
       replace hx291_0:=(HB.out.cell (World.block_lt_of_cell? w _ hx291_0)).trans hx291_0
       replace hx291_1:=(HB.out.cell (World.block_lt_of_cell? w _ hx291_1)).trans hx291_1
       replace hx291_2:=(HB.out.cell (World.block_lt_of_cell? w _ hx291_2)).trans hx291_2
       replace hx291_3:=(HB.out.cell (World.block_lt_of_cell? w _ hx291_3)).trans hx291_3
       replace hx291_4:=(HB.out.cell (World.block_lt_of_cell? w _ hx291_4)).trans hx291_4
       replace hx291_5:=(HB.out.cell (World.block_lt_of_cell? w _ hx291_5)).trans hx291_5
       have HR291_0:=Aside0.mk hi291_0
       have HC291_0:=Aside0.mk hl291_0
       clear hi291_0 hl291_0
       replace p291:=eq_true p291
       replace q291:=eq_true q291
       have p292 : 0 ≤ (x5_1 : Int):=of_decide_eq_true (by first|(with_reducible assumption)|assumption)
       have q292 : x5_1 < (l1.length : Int):=of_decide_eq_true (by first|(with_reducible assumption)|assumption)
       obtain ⟨ad292,A292_0,c292_0,e292,hx292_0,hx292_1,hx292_2,hx292_3,hx292_4,hx292_5,hl292_0,hi292_0⟩:=at_T34 HR1.out x5_1 p292 q292
       have hw292_5:=hx292_5
       have hw292_4:=hx292_4
       have hw292_3:=hx292_3
       have hw292_2:=hx292_2
       have hw292_1:=hx292_1
       have hw292_0:=hx292_0
       cases e292
       replace hx292_0:=(HB.out.cell (World.block_lt_of_cell? w _ hx292_0)).trans hx292_0
       replace hx292_1:=(HB.out.cell (World.block_lt_of_cell? w _ hx292_1)).trans hx292_1
       replace hx292_2:=(HB.out.cell (World.block_lt_of_cell? w _ hx292_2)).trans hx292_2
       replace hx292_3:=(HB.out.cell (World.block_lt_of_cell? w _ hx292_3)).trans hx292_3
       replace hx292_4:=(HB.out.cell (World.block_lt_of_cell? w _ hx292_4)).trans hx292_4
       replace hx292_5:=(HB.out.cell (World.block_lt_of_cell? w _ hx292_5)).trans hx292_5
       have HR292_0:=Aside0.mk hi292_0
       have HC292_0:=Aside0.mk hl292_0
       clear hi292_0 hl292_0
       replace p292:=eq_true p292
       replace q292:=eq_true q292
       refine start_ (n:=10) (S:=fun w'=>w'.cell? (ad291.add ((x5_1).toNat * 6)) = some (.slice A291_0 ((rd_T34 l0 x5_1).f0).length c291_0) ∧ w'.cell? ⟨(ad291.add ((x5_1).toNat * 6)).block,(ad291.add ((x5_1).toNat * 6)).off + 1,none⟩ = some (.bool ((rd_T34 l0 x5_1).f1.f0)) ∧ w'.cell? ⟨(ad291.add ((x5_1).toNat * 6)).block,(ad291.add ((x5_1).toNat * 6)).off + 2,none⟩ = some (.int .i64 ((rd_T34 l0 x5_1).f1.f1)) ∧ w'.cell? ⟨(ad291.add ((x5_1).toNat * 6)).block,(ad291.add ((x5_1).toNat * 6)).off + 3,none⟩ = some (.int .i64 ((rd_T34 l0 x5_1).f2)) ∧ w'.cell? ⟨(ad291.add ((x5_1).toNat * 6)).block,(ad291.add ((x5_1).toNat * 6)).off + 4,none⟩ = some (.bool ((rd_T34 l0 x5_1).f3)) ∧ w'.cell? ⟨(ad291.add ((x5_1).toNat * 6)).block,(ad291.add ((x5_1).toNat * 6)).off + 5,none⟩ = some (.int .i64 ((rd_T34 l0 x5_1).f4)) ∧ w'.cell? (ad292.add ((x5_1).toNat * 6)) = some (.slice A292_0 ((rd_T34 l1 x5_1).f0).length c292_0) ∧ w'.cell? ⟨(ad292.add ((x5_1).toNat * 6)).block,(ad292.add ((x5_1).toNat * 6)).off + 1,none⟩ = some (.bool ((rd_T34 l1 x5_1).f1.f0)) ∧ w'.cell? ⟨(ad292.add ((x5_1).toNat * 6)).block,(ad292.add ((x5_1).toNat * 6)).off + 2,none⟩ = some (.int .i64 ((rd_T34 l1 x5_1).f1.f1)) ∧ w'.cell? ⟨(ad292.add ((x5_1).toNat * 6)).block,(ad292.add ((x5_1).toNat * 6)).off + 3,none⟩ = some (.int .i64 ((rd_T34 l1 x5_1).f2)) ∧ w'.cell? ⟨(ad292.add ((x5_1).toNat * 6)).block,(ad292.add ((x5_1).toNat * 6)).off + 4,none⟩ = some (.bool ((rd_T34 l1 x5_1).f3)) ∧ w'.cell? ⟨(ad292.add ((x5_1).toNat * 6)).block,(ad292.add ((x5_1).toNat * 6)).off + 5,none⟩ = some (.int .i64 ((rd_T34 l1 x5_1).f4))) (ds:=[]) #[false,false,false,false,false,false,false,false,false,false] (by kernel_rfl) rfl rfl ⟨((HB.out.cell (World.block_lt_of_cell? w _ hw291_0)).trans hw291_0),((HB.out.cell (World.block_lt_of_cell? w _ hw291_1)).trans hw291_1),((HB.out.cell (World.block_lt_of_cell? w _ hw291_2)).trans hw291_2),((HB.out.cell (World.block_lt_of_cell? w _ hw291_3)).trans hw291_3),((HB.out.cell (World.block_lt_of_cell? w _ hw291_4)).trans hw291_4),((HB.out.cell (World.block_lt_of_cell? w _ hw291_5)).trans hw291_5),((HB.out.cell (World.block_lt_of_cell? w _ hw292_0)).trans hw292_0),((HB.out.cell (World.block_lt_of_cell? w _ hw292_1)).trans hw292_1),((HB.out.cell (World.block_lt_of_cell? w _ hw292_2)).trans hw292_2),((HB.out.cell (World.block_lt_of_cell? w _ hw292_3)).trans hw292_3),((HB.out.cell (World.block_lt_of_cell? w _ hw292_4)).trans hw292_4),((HB.out.cell (World.block_lt_of_cell? w _ hw292_5)).trans hw292_5)⟩ (fun hHeld=>?_);refine with_tabW spillwaylaw6_sames.tab6 spillwaylaw6_sames.bits6 (fun HT_ HW_=>?_)
       generalize wr.drew = w9 at HB HR291_0 HR292_0 hx291_0 hx291_1 hx291_2 hx291_3 hx291_4 hx291_5 hx292_0 hx292_1 hx292_2 hx292_3 hx292_4 hx292_5 hHeld ⊢
       refine pure_ (i:=0) (N:=some 17) (v:=?_) (a':=?_) #[true,false,false,false,false,false,false,false,false,false] rfl rfl (any_of HT_.out (by kernel_rfl)) (fun _ _ _ h=>h) (Or.inl ⟨by rfl,?_⟩) ?_ ?_
       rotate_left
       ·intro w'
        go_simp
        with_reducible rfl
       rotate_left
       ·simp only [Act.put,List.setIfInBounds_toArray,List.set_cons_zero,List.set_cons_succ,i64_w,i32_w]
        rfl
       refine pure_ (i:=1) (N:=some 18) (v:=?_) (a':=?_) #[true,true,false,false,false,false,false,false,false,false] rfl rfl (any_of HT_.out (by kernel_rfl)) (fun _ _ _ h=>h) (Or.inl ⟨by rfl,?_⟩) ?_ ?_
       rotate_left
       ·intro w'
        go_simp
        with_reducible rfl
       rotate_left
       ·simp only [Act.put,List.setIfInBounds_toArray,List.set_cons_zero,List.set_cons_succ,i64_w,i32_w]
        rfl
       refine pure_ (i:=2) (N:=some 19) (v:=?_) (a':=?_) #[true,true,true,false,false,false,false,false,false,false] rfl rfl (any_of HT_.out (by kernel_rfl)) (fun _ _ _ h=>h) (Or.inl ⟨by rfl,?_⟩) ?_ ?_
       rotate_left
       ·intro w'
        go_simp
        with_reducible rfl
       rotate_left
       ·simp only [Act.put,List.setIfInBounds_toArray,List.set_cons_zero,List.set_cons_succ,i64_w,i32_w]
        rfl
       refine pure_ (i:=4) (N:=some 21) (v:=?_) (a':=?_) #[true,true,true,false,true,false,false,false,false,false] rfl rfl (any_of HT_.out (by kernel_rfl)) (fun _ _ _ h=>h) (Or.inl ⟨by rfl,?_⟩) ?_ ?_
       rotate_left
       ·intro w'
        go_simp
        with_reducible rfl
       rotate_left
       ·simp only [Act.put,List.setIfInBounds_toArray,List.set_cons_zero,List.set_cons_succ,i64_w,i32_w]
        rfl
       refine pure_ (i:=5) (N:=some 22) (v:=?_) (a':=?_) #[true,true,true,false,true,true,false,false,false,false] rfl rfl (any_of HT_.out (by kernel_rfl)) (fun _ _ _ h=>h) (Or.inl ⟨by rfl,?_⟩) ?_ ?_
       rotate_left
       ·intro w'
        go_simp
        with_reducible rfl
       rotate_left
       ·simp only [Act.put,List.setIfInBounds_toArray,List.set_cons_zero,List.set_cons_succ,i64_w,i32_w]
        rfl
       refine pure_ (i:=6) (N:=some 23) (v:=?_) (a':=?_) #[true,true,true,false,true,true,true,false,false,false] rfl rfl (any_of HT_.out (by kernel_rfl)) (fun _ _ _ h=>h) (Or.inl ⟨by rfl,?_⟩) ?_ ?_
       rotate_left
       ·intro w'
        go_simp
        with_reducible rfl
       rotate_left
       ·simp only [Act.put,List.setIfInBounds_toArray,List.set_cons_zero,List.set_cons_succ,i64_w,i32_w]
        rfl
       refine take_ (i:=3) (N:=some 20) (v:=?_) (a':=?_) #[true,true,true,true,true,true,true,false,false,false] rfl rfl (take_ofW HT_.out HW_.out (by kernel_rfl)) (fun _ _ _ h=>h) (Or.inl ⟨by rfl,?_⟩) hHeld ?_ ?_
       rotate_left
       ·rintro w' ⟨s0,s1,s2,s3,s4,s5,s6,s7,s8,s9,s10,s11⟩
        go_simp
        with_reducible rfl
       rotate_left
       ·simp only [Act.put,List.setIfInBounds_toArray,List.set_cons_zero,List.set_cons_succ,i64_w,i32_w]
        rfl
       refine take_ (i:=7) (N:=some 24) (v:=?_) (a':=?_) #[true,true,true,true,true,true,true,true,false,false] rfl rfl (take_ofW HT_.out HW_.out (by kernel_rfl)) (fun _ _ _ h=>h) (Or.inl ⟨by rfl,?_⟩) hHeld ?_ ?_
       rotate_left
       ·rintro w' ⟨s0,s1,s2,s3,s4,s5,s6,s7,s8,s9,s10,s11⟩
        go_simp
        with_reducible rfl
       rotate_left
       ·simp only [Act.put,List.setIfInBounds_toArray,List.set_cons_zero,List.set_cons_succ,i64_w,i32_w]
        rfl
       refine one_ (i:=8) (N:=some 25) #[true,true,true,true,true,true,true,true,true,false] rfl rfl (one_of HT_.out (by kernel_rfl)) (by decide) (fun K hK=>?_)
       refine goes_ Tryz.func15 (by kernel_rfl) rfl #[.agg #[.slice A291_0 ((rd_T34 l0 x5_1).f0).length c291_0,.bool ((rd_T34 l0 x5_1).f1.f0),.int .i64 ((rd_T34 l0 x5_1).f1.f1),.int .i64 ((rd_T34 l0 x5_1).f2),.bool ((rd_T34 l0 x5_1).f3),.int .i64 ((rd_T34 l0 x5_1).f4)],.agg #[.slice A292_0 ((rd_T34 l1 x5_1).f0).length c292_0,.bool ((rd_T34 l1 x5_1).f1.f0),.int .i64 ((rd_T34 l1 x5_1).f1.f1),.int .i64 ((rd_T34 l1 x5_1).f2),.bool ((rd_T34 l1 x5_1).f3),.int .i64 ((rd_T34 l1 x5_1).f4)]] (by rfl) rfl rfl (by (try simp only [List.map_toArray,List.map_cons,List.map_nil]);first|done|rfl|(simp only [List.length_drop,List.length_take];rfl)) ?_
       with_reducible refine (spillwaylaw6_same.calls k1 _ _ ((rd_T34 l0 x5_1).f0) ((rd_T34 l0 x5_1).f1.f0) ((rd_T34 l0 x5_1).f1.f1) ((rd_T34 l0 x5_1).f2) ((rd_T34 l0 x5_1).f3) ((rd_T34 l0 x5_1).f4) _ _ ((rd_T34 l1 x5_1).f0) ((rd_T34 l1 x5_1).f1.f0) ((rd_T34 l1 x5_1).f1.f1) ((rd_T34 l1 x5_1).f2) ((rd_T34 l1 x5_1).f3) ((rd_T34 l1 x5_1).f4) true _ ?side1 ?side2 ?side3 ?side4 A7.out).mono ?_
       (case side1=>repeat (first|exact (Kd.C_below HR291_0.out HB.out)|(with_reducible refine Kd.C_alloc ?_ _)|(with_reducible refine Kd.C_drewN ?_ _)|(with_reducible refine Kd.C_drew ?_)))
       (case side2=>exact HC291_0.out)
       (case side3=>repeat (first|exact (Kd.C_below HR292_0.out HB.out)|(with_reducible refine Kd.C_alloc ?_ _)|(with_reducible refine Kd.C_drewN ?_ _)|(with_reducible refine Kd.C_drew ?_)))
       (case side4=>exact HC292_0.out)
       rintro e w10 ⟨rfl,hb⟩
       refine ⟨_,rfl,?_⟩
       have n0_:=Aside0.mk (below_step (by repeat (first|(with_reducible first|exact HB.out|apply below_alloc|apply pw_below_drewN|apply below_drew1)|exact HB.out)) hb)
       clear HB
       have HB:=n0_
       clear n0_
       (try clear hb)
       (try clear hb2)
       (try clear hk)
       (try clear hi)
       refine hK.out _ _ ⟨((HB.out.cell (World.block_lt_of_cell? w _ hw291_0)).trans hw291_0),((HB.out.cell (World.block_lt_of_cell? w _ hw291_1)).trans hw291_1),((HB.out.cell (World.block_lt_of_cell? w _ hw291_2)).trans hw291_2),((HB.out.cell (World.block_lt_of_cell? w _ hw291_3)).trans hw291_3),((HB.out.cell (World.block_lt_of_cell? w _ hw291_4)).trans hw291_4),((HB.out.cell (World.block_lt_of_cell? w _ hw291_5)).trans hw291_5),((HB.out.cell (World.block_lt_of_cell? w _ hw292_0)).trans hw292_0),((HB.out.cell (World.block_lt_of_cell? w _ hw292_1)).trans hw292_1),((HB.out.cell (World.block_lt_of_cell? w _ hw292_2)).trans hw292_2),((HB.out.cell (World.block_lt_of_cell? w _ hw292_3)).trans hw292_3),((HB.out.cell (World.block_lt_of_cell? w _ hw292_4)).trans hw292_4),((HB.out.cell (World.block_lt_of_cell? w _ hw292_5)).trans hw292_5)⟩ (fun hHeld=>?_)
       clear hK K
       refine norm_ (a':=?_) ?_ ?_
       rotate_left
       ·show Act.put _ (some 25) _ = _
        simp only [Act.put,List.setIfInBounds_toArray,List.set_cons_zero,List.set_cons_succ,i64_w,i32_w]
        rfl
       refine pure_ (i:=9) (N:=some 26) (v:=?_) (a':=?_) #[true,true,true,true,true,true,true,true,true,true] rfl rfl (any_of HT_.out (by kernel_rfl)) (fun _ _ _ h=>h) (Or.inl ⟨by rfl,?_⟩) ?_ ?_
       rotate_left
       ·intro w'
        go_simp
        with_reducible rfl
       rotate_left
       ·simp only [Act.put,List.setIfInBounds_toArray,List.set_cons_zero,List.set_cons_succ,i64_w,i32_w]
        rfl
       refine done_ (done_of HT_.out (by kernel_rfl)) ?_
       try go_wp2
       go_roundg k1
       case measure=>have:=HK1.out;omega
       case rel=>exact ⟨(wrap64 (x5_1 + 1)),(by first|rfl|(simp;done)|(simp [*];done)),H',⟨by have:=HK1.out;omega⟩,⟨by repeat (first|(with_reducible first|exact HB.out|apply below_alloc|apply pw_below_drewN|apply below_drew1)|exact HB.out)⟩⟩
      replace c8:=Bool.eq_false_iff.mpr c8
      subst c8
      have H1 : (none) = some r:=by rw [if_neg (show ¬ (false = true) by decide)] at H;exact H
      clear H
      have H:=H1
      clear H1
      exact absurd H (by simp)
     rw [if_neg c6] at H
     exact absurd H (by simp)
    rw [if_neg c5] at H
    exact absurd H (by simp)
   rw [if_neg c4] at H
   have c4b0 : decide (x5_1 < (l0.length : Int)) = false:=decide_eq_false c4
   clear c4
   obtain rfl:=Option.some.inj H
   go_wp2
   go_ret
   exact ⟨by first|rfl|(simp [errW_none,errW_some] <;> rfl)|(simp [*,errW_none,errW_some] <;> rfl),by repeat (first|(with_reducible first|exact HB.out|apply below_alloc|apply pw_below_drewN|apply below_drew1)|exact HB.out)⟩
 rw [if_neg c3] at H
 exact absurd H (by simp)
end Go.Proofs.YtfgffjchphignaaGreatDoor.Print
end
section
namespace Go.Proofs.YtfgffjchphignaaGreatDoor.PureN
open Go.RowKit Go.Proofs.YtfgffjchphignaaGreatDoor.Print Go.Proofs.YtfgffjchphignaaGreatDoorW.PrintWords Go.Proofs.YtfgffjchphignaaGreatDoorW.PrintLast
/-! What is compared with itself is the same. -/
theorem bless_irr : ∀ l : List UInt8,Op.bytesLess l l = false
 | []=>rfl
 | x :: l=>by
  unfold Op.bytesLess
  rw [bless_irr l,Bool.and_false,Bool.or_false]
  exact decide_eq_false (by intro h;exact absurd h (UInt8.lt_irrefl x))
theorem less_refl (a : ByteArray) : spillwayref3_less.f a a = some 0:=by
 unfold spillwayref3_less.f
 rw [bless_irr]
 rfl
theorem cmp_refl (l : List S60) (hl : l.length ≤ 100000) : ∀ (n i k : Nat),l.length ≤ i + n → i ≤ l.length → 2 * n + 2 ≤ k → spillwayref3_Cmp.l0 k l l i = some 0
 | n,i,0,_,_,hk=>by omega
 | n,i,1,_,_,hk=>by omega
 | n,i,k + 2,h,hi,hk=>by
  rw [spillwayref3_Cmp.l0]
  by_cases hc : (i : Int) < (l.length : Int)
  ·rw [if_pos hc,decide_eq_true hc,spillwayref3_Cmp.j1,if_pos rfl,if_pos (by omega),if_pos hc,if_pos hc,less_refl,Option.bind_some,if_pos rfl,less_refl,Option.bind_some,if_pos rfl,wrap_succ i (by omega)]
   cases n with
   | zero=>omega
   | succ n=>exact cmp_refl l hl n (i + 1) k (by omega) (by omega) (by omega)
  rw [if_neg hc,spillwayref3_Cmp.j1,if_neg (by simp),if_neg (by omega),if_neg (by omega)]
theorem same3_refl (l : List S60) (hl : l.length ≤ 100000) (k : Nat) (hk : 2 * l.length + 2 ≤ k) : spillwayref3_Same.f k l l = some true:=by
 unfold spillwayref3_Same.f spillwayref3_Cmp.f
 have h:=cmp_refl l hl l.length 0 k (by omega) (by omega) hk
 rw [show ((0 : Nat) : Int) = 0 from rfl] at h
 rw [h]
 rfl
theorem same_refl (x : S34) (hl : x.f0.length ≤ 100000) (k : Nat) (hk : 2 * x.f0.length + 2 ≤ k) : spillwaylaw6_same.f k x.f0 x.f1.f0 x.f1.f1 x.f2 x.f3 x.f4 x.f0 x.f1.f0 x.f1.f1 x.f2 x.f3 x.f4 = some true:=by
 unfold spillwaylaw6_same.f
 rw [same3_refl x.f0 hl k hk,Option.bind_some,if_pos rfl,if_pos (by simp),if_pos rfl,if_pos (by simp)]
 simp
theorem sames_loop (l : List S34) (m : Nat) (hm : m ≤ 100000) (hl : l.length ≤ 100000) (hx : ∀ x ∈ l,x.f0.length ≤ m) : ∀ (n i k : Nat),l.length ≤ i + n → i ≤ l.length → n + 2 * m + 4 ≤ k → spillwaylaw6_sames.l0 k l l i = some true
 | n,i,0,_,_,hk=>by omega
 | n,i,k + 1,h,hi,hk=>by
  rw [spillwaylaw6_sames.l0]
  by_cases hc : (i : Int) < (l.length : Int)
  ·have hlt : i < l.length:=by omega
   have hmem : rd_T34 l (i : Int) ∈ l:=by
    unfold rd_T34
    rw [Int.toNat_natCast,List.getD_eq_getElem?_getD,List.getElem?_eq_getElem hlt]
    exact List.getElem_mem hlt
   have h1:=hx _ hmem
   rw [if_pos hc,if_pos (by omega),if_pos hc,same_refl _ (by omega) k (by omega),Option.bind_some,if_pos rfl,wrap_succ i (by omega)]
   cases n with
   | zero=>omega
   | succ n=>exact sames_loop l m hm hl hx n (i + 1) k (by omega) (by omega) (by omega)
  rw [if_neg hc]
theorem sames_refl (l : List S34) (m : Nat) (hm : m ≤ 100000) (hl : l.length ≤ 100000) (hx : ∀ x ∈ l,x.f0.length ≤ m) (k : Nat) (hk : l.length + 2 * m + 4 ≤ k) : spillwaylaw6_sames.f k l l = some true:=by
 unfold spillwaylaw6_sames.f
 rw [if_pos rfl]
 exact sames_loop l m hm hl hx l.length 0 k (by omega) (by omega) hk
/-! ExpoLines, in plain Lean. -/
theorem known_isL : spillwaylaw6_known.f 4000 = some true:=by decide +kernel
abbrev b0 : Bod:=⟨[],[],[]⟩
structure InvL (l0 : List ByteArray) (i : Nat) (body : ByteArray) (B : Bod) : Prop where
 bd : body.data.toList = ((l0.take i).map (·.data.toList)).flatMap (· ++ [10])
 run : B = runB b0 1 ((l0.take i).map (·.data.toList))
 of : B.of = []
 ok : ∀ s ∈ (l0.take i).map (·.data.toList),s.length ≤ 150 ∧ (10 : UInt8) ∉ s
 lab : ∀ x ∈ B.out,x.labels.length ≤ 10
 len : B.out.length ≤ i ∧ B.bad.length ≤ i
/-! ExpoTells, in plain Lean: what is scraped is small, and is the same as itself. -/
theorem run_small : ∀ (L : List (List UInt8)) (B : Bod) (i : Int),(∀ x ∈ B.out,x.labels.length ≤ 10) → (runB B i L).out.length ≤ B.out.length + L.length ∧ (runB B i L).bad.length ≤ B.bad.length + L.length ∧ ∀ x ∈ (runB B i L).out,x.labels.length ≤ 10
 | [],B,i,h=>⟨by simp [runB],by simp [runB],h⟩
 | s :: L,B,i,h=>by
  have h1:=step_len B i s
  have hs : ∀ x ∈ (stepB B i s).out,x.labels.length ≤ 10:=by
   unfold stepB
   split
   ·exact h
   split
   ·split
    ·exact h
    exact h
   split
   ·exact h
   rename_i x hx
   intro y hy
   rcases List.mem_append.1 hy with hy|hy
   ·exact h y hy
   rw [List.mem_singleton.1 hy]
   have:=(isS_is _ (lineS_ok _ _ hx).1).len
   show x.labels.length ≤ 10
   omega
  obtain ⟨h2,h3,h4⟩:=run_small L (stepB B i s) (i + 1) hs
  rw [runB,List.length_cons]
  exact ⟨by omega,by omega,h4⟩
theorem lines_len (s : List UInt8) : (linesS [] s).length ≤ s.length + 1:=by
 rw [lines_sep]
 have:=sep_len 10 s []
 omega
theorem scrape_small (s : List UInt8) : (scrapeS s).1.length ≤ 3001 ∧ (scrapeS s).2.length ≤ 3001 ∧ ∀ x ∈ (scrapeS s).1,x.labels.length ≤ 10:=by
 unfold scrapeS
 split
 ·exact ⟨by simp,by simp,by simp⟩
 have h1:=run_small (linesS [] s) ⟨[],[],[]⟩ 1 (by simp)
 have h2:=lines_len s
 simp only [List.length_nil] at h1
 exact ⟨by simp only [];omega,by simp only [];omega,h1.2.2⟩
theorem scrape_same (s : List UInt8) : spillwaylaw6_sames.f 4000 ((scrapeS s).1.map scrS) ((scrapeS s).1.map scrS) = some true:=by
 obtain ⟨h1,h2,h3⟩:=scrape_small s
 exact sames_refl _ 10 (by omega) (by rw [List.length_map];omega) (by
  intro y hy
  obtain ⟨x,hx,rfl⟩:=List.mem_map.1 hy
  show (x.labels.map ofPr).length ≤ 10
  rw [List.length_map]
  exact h3 x hx) 4000 (by rw [List.length_map];omega)
theorem out_small (s : List UInt8) : (scrOut (lineS s)).1.length ≤ 10:=by
 cases h : lineS s with
 | error e=>simp [scrOut]
 | ok x =>
  have:=(isS_is _ (lineS_ok _ _ h).1).len
  simp only [scrOut,List.length_map]
  omega
theorem line_same (P : List S60) (hP : P.length ≤ 10) (ov : Bool) (vv tt : Int) (ht : Bool) (kk : Int) : spillwaylaw6_same.f 100 P ov vv tt ht kk P ov vv tt ht kk = some true:=same_refl ⟨P,⟨ov,vv⟩,tt,ht,kk⟩ (by show P.length ≤ _;omega) 100 (by show 2 * P.length + 2 ≤ _;omega)
end Go.Proofs.YtfgffjchphignaaGreatDoor.PureN
end
section
namespace Go.Proofs.YtfgffjchphignaaGreatDoor.Print
open Go.Sort Go.Shelf PureN
open Go.RowKit Go.Proofs.YtfgffjchphignaaGreatDoorX Go.Proofs.YtfgffjchphignaaGreatDoorW.PrintWords Go.Proofs.YtfgffjchphignaaGreatDoorW.PrintLast Go.Proofs.YtfgffjchphignaaGreatDoorW.PrintMore
/-! The document's kinds of metrics: names and kinds side by side. -/
def rkget : List ByteArray → List Int → ByteArray → Int
 | a :: ns,k :: ks,n=>if a = n then k else rkget ns ks n
 | _,_,_=>0
theorem rkget_set (n : ByteArray) (v : Int) (m : ByteArray) : ∀ (ns : List ByteArray) (ks : List Int) (i : Nat),ks.length = ns.length → (∀ j,j < i → ns[j]? ≠ some n) → ns[i]? = some n → rkget ns (ks.set i v) m = if n = m then v else rkget ns ks m
 | [],_,i,_,_,h=>by simp at h
 | a :: ns,[],i,h,_,_=>by simp at h
 | a :: ns,k :: ks,0,h,_,h2=>by
  obtain rfl : a = n:=by simpa using h2
  rw [List.set_cons_zero,rkget,rkget]
  split <;> rfl
 | a :: ns,k :: ks,i + 1,h,h1,h2=>by
  have hne : a ≠ n:=fun e=>h1 0 (by omega) (by simp [e])
  rw [List.set_cons_succ,rkget,rkget,rkget_set n v m ns ks i (by simpa using h) (fun j hj=>by simpa using h1 (j + 1) (by omega)) (by simpa using h2)]
  by_cases e : a = m
  ·rw [if_pos e,if_pos e,if_neg (fun e2=>hne (e.trans e2.symm))]
  rw [if_neg e,if_neg e]
theorem rkget_app (n : ByteArray) (v : Int) (m : ByteArray) : ∀ (ns : List ByteArray) (ks : List Int),ks.length = ns.length → n ∉ ns → rkget (ns ++ [n]) (ks ++ [v]) m = if n = m then v else rkget ns ks m
 | [],[],_,_=>rfl
 | [],k :: ks,h,_=>by simp at h
 | a :: ns,[],h,_=>by simp at h
 | a :: ns,k :: ks,h,h1=>by
  have hne : a ≠ n:=fun e=>h1 (by simp [e])
  rw [List.cons_append,List.cons_append,rkget,rkget,rkget_app n v m ns ks (by simpa using h) (fun e=>h1 (by simp [e]))]
  by_cases e : a = m
  ·rw [if_pos e,if_pos e,if_neg (fun e2=>hne (e.trans e2.symm))]
  rw [if_neg e,if_neg e]
theorem wrap_succ_ (i : Nat) (h : i ≤ 1000000000) : wrap64 ((i : Int) + 1) = ((i + 1 : Nat) : Int):=by
 unfold wrap64
 omega
theorem ba_inj_ {a b : ByteArray} (h : a.data.toList = b.data.toList) : a = b:=by
 cases a;cases b
 rename_i x y
 cases x;cases y
 cases h
 rfl
theorem kget_kset (K : Kinds) (n m : List UInt8) (v : Int) : kget (kset K n v) m = if n = m then v else kget K m:=by
 unfold kget kset
 rw [List.find?_cons]
 by_cases e : n = m
 ·rw [if_pos e,show ((n,v).1 == m) = true from beq_iff_eq.2 e]
  rfl
 rw [if_neg e,show ((n,v).1 == m) = false from beq_eq_false_iff_ne.2 e]
structure RkA (ns : List ByteArray) (ks : List Int) (K : Kinds) : Prop where
 len : ks.length = ns.length
 agr : ∀ m : ByteArray,rkget ns ks m = kget K m.data.toList
theorem RkA.nil : RkA [] [] []:=⟨rfl,fun _=>rfl⟩
theorem RkA.at_ {ns : List ByteArray} {ks : List Int} {K : Kinds} (h : RkA ns ks K) (n : ByteArray) (v : Int) (i : Nat) (h1 : ∀ j,j < i → ns[j]? ≠ some n) (h2 : ns[i]? = some n) : RkA ns (ks.set i v) (kset K n.data.toList v):=by
 refine ⟨by rw [List.length_set];exact h.len,fun m=>?_⟩
 rw [rkget_set n v m ns ks i h.len h1 h2,kget_kset,h.agr]
 by_cases e : n = m
 ·rw [if_pos e,if_pos (by rw [e])]
 rw [if_neg e,if_neg (fun e2=>e (ba_inj_ e2))]
theorem RkA.new {ns : List ByteArray} {ks : List Int} {K : Kinds} (h : RkA ns ks K) (n : ByteArray) (v : Int) (h1 : n ∉ ns) : RkA (ns ++ [n]) (ks ++ [v]) (kset K n.data.toList v):=by
 refine ⟨by rw [List.length_append,List.length_append,h.len];rfl,fun m=>?_⟩
 rw [rkget_app n v m ns ks h.len h1,kget_kset,h.agr]
 by_cases e : n = m
 ·rw [if_pos e,if_pos (by rw [e])]
 rw [if_neg e,if_neg (fun e2=>e (ba_inj_ e2))]
set_option maxHeartbeats 4000000 in
set_option maxRecDepth 100000 in
theorem kinds_get (w : World) (kb base : Nat) (ok1 ok2 : Nat → Prop) (vn vk : Value) (ns : List ByteArray) (ks : List Int) (n : ByteArray) (hb : w.heap[kb]? = some (.cells #[vn,vk] 75 (0,0))) (hn : Kd.R Kd.string 9 w base ok1 vn ns) (hk : Kd.R (Kd.int .i64) 3 w base ok2 vk ks) (hl : ks.length = ns.length) (hlen : ns.length ≤ 100000) :
  Calls Tryz.prog 32 #[.pointer (some ⟨kb,0,none⟩),.string n] w fun e w'=>e = .returned (.int .i64 (rkget ns ks n)) ∧ w' = w:=by
 obtain ⟨A1,c1,rfl⟩:=Kd.R_slice hn
 obtain ⟨A2,c2,rfl⟩:=Kd.R_slice hk
 have hC1:=(Kd.R_reads' hn).2.2
 have hC2:=(Kd.R_reads' hk).2.2
 have p0 : w.cell? ⟨kb,0,none⟩ = some (.slice A1 ns.length c1):=(blk_cell hb 0).trans rfl
 have p1 : w.cell? ⟨kb,1,none⟩ = some (.slice A2 ks.length c2):=(blk_cell hb 1).trans rfl
 have HC1:=Aside0.mk hC1
 have HC2:=Aside0.mk hC2
 have HN:=Aside0.mk hlen
 clear hb hn hk hC1 hC2 hlen
 rw [hl] at p1 HC2
 go_enter Tryz.func32,Tryz.ntmps32
 go_wp2_with (fail)
 go_loopg [5] ns.length (fun gg s5 wr=>∃ i : Nat,s5 = .int .i64 i ∧ ns.length - i ≤ gg ∧ Aside0 (i ≤ ns.length) ∧ Aside0 (rkget (ns.drop i) (ks.drop i) n = rkget ns ks n) ∧ wr = w)
 case atStart=>exact ⟨0,rfl,by omega,⟨by omega⟩,⟨rfl⟩,rfl⟩
 obtain ⟨i,rfl,hgg,HI,HQ,rfl⟩:=hrel
 by_cases hlt : i < ns.length
 ·have hltz : (i : Int) < (ns.length : Int):=by omega
  obtain ⟨ad1,rfl,hx1⟩:=Kd.at_string HC1.out (i : Int) (by omega) (by omega)
  obtain ⟨ad2,rfl,hx2⟩:=Kd.at_int HC2.out (i : Int) (by omega) (by omega)
  rw [Int.toNat_natCast] at hx1 hx2
  have hq:=HQ.out
  have e1 : rdOf ByteArray.empty ns (i : Int) = ns[i]:=by
   unfold rdOf
   rw [Int.toNat_natCast,List.getD_eq_getElem?_getD,List.getElem?_eq_getElem hlt]
   rfl
  have e2 : rd ks (i : Int) = ks[i]'(by omega):=by
   unfold rd
   rw [Int.toNat_natCast,List.getD_eq_getElem?_getD,List.getElem?_eq_getElem (by omega)]
   rfl
  rw [e1] at hx1
  rw [e2] at hx2
  rw [List.drop_eq_getElem_cons hlt,List.drop_eq_getElem_cons (show i < ks.length by omega),rkget] at hq
  generalize ns[i] = a at hx1 hq
  generalize ks[i]'(by omega) = k at hx2 hq
  have HQ2:=Aside0.mk hq
  clear hq HQ e1 e2 hl
  by_cases he : a = n
  ·subst he
   have hq:=HQ2.out
   rw [if_pos rfl] at hq
   have hbe : (a.toList == a.toList) = true:=beq_self_eq_true _
   go_wp2_with (fail)
   go_ret
   exact ⟨by rw [← hq];rfl,rfl⟩
  have hq:=HQ2.out
  rw [if_neg he] at hq
  have HQ3:=Aside0.mk hq
  have hbe : (a.toList == n.toList) = false:=beq_eq_false_iff_ne.2 (fun e=>he (ba_inj_ (by rw [ByteArray.toList_eq,ByteArray.toList_eq] at e;exact e)))
  have hw:=wrap_succ_ i (by have:=HN.out;omega)
  clear hq HQ2
  go_wp2_with (fail)
  go_roundg (ns.length - (i + 1))
  case measure=>omega
  case rel=>exact ⟨i + 1,by rw [hw],by omega,⟨by omega⟩,HQ3,rfl⟩
 obtain rfl : i = ns.length:=by have:=HI.out;omega
 have hltz : ¬ ((ns.length : Int) < (ns.length : Int)):=by omega
 have hq:=HQ.out
 rw [List.drop_length,rkget] at hq
 go_wp2_with (fail)
 go_ret
 exact ⟨by rw [← hq];rfl,rfl⟩
/-! The document's kind. -/
def kindI (s : ByteArray) : Int:=match kindS s.data.toList with|some k=>k|none=>-1
abbrev kt0 : ByteArray:=⟨#[117,110,116,121,112,101,100]⟩
abbrev kt1 : ByteArray:=⟨#[99,111,117,110,116,101,114]⟩
abbrev kt2 : ByteArray:=⟨#[103,97,117,103,101]⟩
theorem kindI_0 (s : ByteArray) (h : kt0 = s) : kindI s = 0:=by subst h;rfl
theorem kindI_1 (s : ByteArray) (h : kt1 = s) : kindI s = 1:=by subst h;rfl
theorem kindI_2 (s : ByteArray) (h : kt2 = s) : kindI s = 2:=by subst h;rfl
theorem kindI_n (s : ByteArray) (h0 : kt0 ≠ s) (h1 : kt1 ≠ s) (h2 : kt2 ≠ s) : kindI s = -1:=by
 unfold kindI kindS
 rw [if_neg (fun e=>h0 (ba_inj_ e.symm)),if_neg (fun e=>h1 (ba_inj_ e.symm)),if_neg (fun e=>h2 (ba_inj_ e.symm))]
theorem bq_ne {a b : ByteArray} (h : a ≠ b) : (a.toList == b.toList) = false:=beq_eq_false_iff_ne.2 (fun e=>h (ba_inj_ (by rw [ByteArray.toList_eq,ByteArray.toList_eq] at e;exact e)))
set_option maxHeartbeats 4000000 in
set_option maxRecDepth 100000 in
theorem kind_calls (s : ByteArray) (w : World) : Calls Tryz.prog 30 #[.string s] w fun e w'=>e = .returned (.int .i64 (kindI s)) ∧ Below w.heap.size w w':=by
 have hb0 : (w.alloc (.cells #[.string kt0,.string kt1,.string kt2] 49)).heap[w.heap.size]? = some (.cells #[.string kt0,.string kt1,.string kt2] 49 (0,0)):=heap_alloc_new _ _
 have p0 : (w.alloc (.cells #[.string kt0,.string kt1,.string kt2] 49)).cell? ⟨w.heap.size,0,none⟩ = some (.string kt0):=(blk_cell hb0 0).trans rfl
 have p1 : (w.alloc (.cells #[.string kt0,.string kt1,.string kt2] 49)).cell? ⟨w.heap.size,1,none⟩ = some (.string kt1):=(blk_cell hb0 1).trans rfl
 have p2 : (w.alloc (.cells #[.string kt0,.string kt1,.string kt2] 49)).cell? ⟨w.heap.size,2,none⟩ = some (.string kt2):=(blk_cell hb0 2).trans rfl
 have HB:=Aside0.mk (below_alloc (Below.refl w.heap.size w) (.cells #[.string kt0,.string kt1,.string kt2] 49))
 clear hb0
 go_enter Tryz.func30,Tryz.ntmps30
 go_wp2_with (fail)
 generalize hkb : w.heap.size = kb at p0 p1 p2 HB ⊢
 generalize w.alloc (.cells #[.string kt0,.string kt1,.string kt2] 49) = w1 at p0 p1 p2 HB ⊢
 go_loopg [4] 3 (fun gg s4 wr=>∃ i : Nat,s4 = .int .i64 i ∧ 3 - i ≤ gg ∧ Aside0 (i ≤ 3) ∧ Aside0 (0 < i → kt0 ≠ s) ∧ Aside0 (1 < i → kt1 ≠ s) ∧ Aside0 (2 < i → kt2 ≠ s) ∧ wr = w1)
 case atStart=>exact ⟨0,rfl,by omega,⟨by omega⟩,⟨by omega⟩,⟨by omega⟩,⟨by omega⟩,rfl⟩
 obtain ⟨i,rfl,hgg,HI,H0,H1,H2,rfl⟩:=hrel
 have hi : i = 0 ∨ i = 1 ∨ i = 2 ∨ i = 3:=by have:=HI.out;omega
 rcases hi with rfl|rfl|rfl|rfl
 ·by_cases he : kt0 = s
  ·have hk:=kindI_0 s he
   have hbe : (([117,110,116,121,112,101,100] : List UInt8) == s.toList) = true:=by rw [← he,ByteArray.toList_eq];exact beq_self_eq_true _
   clear he
   go_wp2_with (fail)
   go_ret
   exact ⟨by rw [hk];rfl,by rw [hkb];exact HB.out⟩
  have hbe : (([117,110,116,121,112,101,100] : List UInt8) == s.toList) = false:=by have h:=bq_ne he;rwa [ByteArray.toList_eq] at h
  have HE:=Aside0.mk he
  clear he
  go_wp2_with (fail)
  go_roundg (3 - (0 + 1))
  case measure=>omega
  case rel=>exact ⟨1,rfl,by omega,⟨by omega⟩,⟨fun _=>HE.out⟩,⟨fun h=>by omega⟩,⟨fun h=>by omega⟩,rfl⟩
 ·by_cases he : kt1 = s
  ·have hk:=kindI_1 s he
   have hbe : (([99,111,117,110,116,101,114] : List UInt8) == s.toList) = true:=by rw [← he,ByteArray.toList_eq];exact beq_self_eq_true _
   clear he
   go_wp2_with (fail)
   go_ret
   exact ⟨by rw [hk];rfl,by rw [hkb];exact HB.out⟩
  have hbe : (([99,111,117,110,116,101,114] : List UInt8) == s.toList) = false:=by have h:=bq_ne he;rwa [ByteArray.toList_eq] at h
  have HE:=Aside0.mk he
  clear he
  go_wp2_with (fail)
  go_roundg (3 - (1 + 1))
  case measure=>omega
  case rel=>exact ⟨2,rfl,by omega,⟨by omega⟩,⟨fun _=>H0.out (by omega)⟩,⟨fun h=>HE.out⟩,⟨fun h=>by omega⟩,rfl⟩
 ·by_cases he : kt2 = s
  ·have hk:=kindI_2 s he
   have hbe : (([103,97,117,103,101] : List UInt8) == s.toList) = true:=by rw [← he,ByteArray.toList_eq];exact beq_self_eq_true _
   clear he
   go_wp2_with (fail)
   go_ret
   exact ⟨by rw [hk];rfl,by rw [hkb];exact HB.out⟩
  have hbe : (([103,97,117,103,101] : List UInt8) == s.toList) = false:=by have h:=bq_ne he;rwa [ByteArray.toList_eq] at h
  have HE:=Aside0.mk he
  clear he
  go_wp2_with (fail)
  go_roundg (3 - (2 + 1))
  case measure=>omega
  case rel=>exact ⟨3,rfl,by omega,⟨by omega⟩,⟨fun _=>H0.out (by omega)⟩,⟨fun h=>H1.out (by omega)⟩,⟨fun h=>HE.out⟩,rfl⟩
 have hk:=kindI_n s (H0.out (by omega)) (H1.out (by omega)) (H2.out (by omega))
 go_wp2_with (fail)
 go_ret
 exact ⟨by rw [hk];rfl,by rw [hkb];exact HB.out⟩
end Go.Proofs.YtfgffjchphignaaGreatDoor.Print
end
section
namespace Go.Proofs.YtfgffjchphignaaGreatDoor.Print
open Go.Sort Go.Shelf PureN Go.Maps Go.WideMaps
open Go.RowKit Go.Proofs.YtfgffjchphignaaGreatDoorX Go.Proofs.YtfgffjchphignaaGreatDoorW.PrintWords Go.Proofs.YtfgffjchphignaaGreatDoorW.PrintLast Go.Proofs.YtfgffjchphignaaGreatDoorW.PrintMore
/-! What the document's reader holds. -/
def Ap (v u : Value) : Prop:=∀ k,v.ownBlock = some k → some k ≠ u.ownBlock
theorem Ap.symm {v u : Value} (h : Ap v u) : Ap u v:=fun k hk e=>h k e.symm hk.symm
theorem Ap.step {W : World} {v v' u : Value} (h : Ap v u) (hu : ∀ k,u.ownBlock = some k → k < W.heap.size) (hat : v'.ownBlock = v.ownBlock ∨ ∃ b,v'.ownBlock = some b ∧ W.heap.size ≤ b) : Ap v' u:=by
 intro k hk e
 rcases hat with hat|⟨b,hb,hle⟩
 ·exact h k (hat.symm.trans hk) e
 obtain rfl : b = k:=by rw [hb] at hk;exact Option.some.inj hk
 have:=hu b e.symm
 omega
theorem own_lt_ {α : Type} {d : Kd α} {e base : Nat} {ok : Nat → Prop} {w : World} {v : Value} {xs : List α} (h : d.R e w base ok v xs) : ∀ k,v.ownBlock = some k → k < w.heap.size:=by
 intro k hk
 obtain ⟨cells,hc⟩:=Kd.R_typed h k hk
 exact blk_lt hc
theorem own_base_ {α : Type} {d : Kd α} {e base : Nat} {ok : Nat → Prop} {w : World} {v : Value} {xs : List α} (h : d.R e w base ok v xs) : ∀ k,v.ownBlock = some k → base ≤ k:=by
 intro k hk
 exact ((Kd.R_bound h).1 k hk).2.1
abbrev kI : Kd Int:=Kd.int .i64
structure RfG (w0 w : World) (kb : Nat) (bn bk vl vn vk vo vb vw : Value) (L ns : List ByteArray) (ks : List Int) (O : List Scr) (D1 D2 : List Int) : Prop where
 blk : w.heap[kb]? = some (.cells #[bn,bk] 75 (0,0))
 lin : Kd.R Kd.string 9 w w0.heap.size (fun _=>True) vl L
 nam : Kd.R Kd.string 9 w w0.heap.size (fun _=>True) vn ns
 kin : Kd.R kI 3 w w0.heap.size (fun _=>True) vk ks
 out : Kd.S k34 34 w w0.heap.size (fun _=>True) vo (O.map scrS)
 bad : Kd.R kI 3 w w0.heap.size (fun _=>True) vb D1
 why : Kd.R kI 3 w w0.heap.size (fun _=>True) vw D2
 a1 : Ap vn vl
 a2 : Ap vk vb
 a3 : Ap vk vw
 a4 : Ap vb vw
 low : w0.heap.size ≤ kb
 bel : Below w0.heap.size w0 w
section
variable {w0 w w' : World} {kb : Nat} {bn bk vl vn vk vo vb vw : Value} {L ns : List ByteArray} {ks : List Int} {O : List Scr} {D1 D2 : List Int}
theorem RfG.below (h : RfG w0 w kb bn bk vl vn vk vo vb vw L ns ks O D1 D2) (hb : Below w.heap.size w w') : RfG w0 w' kb bn bk vl vn vk vo vb vw L ns ks O D1 D2 :=
 ⟨(hb.block kb (blk_lt h.blk)).trans h.blk,Kd.R_below h.lin hb,Kd.R_below h.nam hb,Kd.R_below h.kin hb,Kd.S_below h.out hb,Kd.R_below h.bad hb,Kd.R_below h.why hb,h.a1,h.a2,h.a3,h.a4,h.low,below_step h.bel hb⟩
/-- A cell of the two is written. -/
theorem RfG.cell (h : RfG w0 w kb bn bk vl vn vk vo vb vw L ns ks O D1 D2) (j : Nat) (u bn' bk' : Value) (hj : (#[bn,bk] : Array Value).setIfInBounds j u = #[bn',bk']) : RfG w0 (w.setCell ⟨kb,j,none⟩ u) kb bn' bk' vl vn vk vo vb vw L ns ks O D1 D2 :=
 ⟨(blk_set h.blk j u).trans (by rw [hj]),Kd.R_set h.lin h.blk (by decide) j u,Kd.R_set h.nam h.blk (by decide) j u,Kd.R_set h.kin h.blk (by decide) j u,Kd.S_set h.out h.blk (by decide) j u,Kd.R_set h.bad h.blk (by decide) j u,Kd.R_set h.why h.blk (by decide) j u,h.a1,h.a2,h.a3,h.a4,h.low,below_set h.bel h.low⟩
/-- The names' row has grown. -/
theorem RfG.named {vn' : Value} {ns' : List ByteArray} (h : RfG w0 w kb bn bk vl vn vk vo vb vw L ns ks O D1 D2) (hR : Kd.R Kd.string 9 w' w0.heap.size (fun _=>True) vn' ns') (hb : Below w0.heap.size w0 w') (hg : w.grownBy w' vn.ownBlock) (hat : vn'.ownBlock = vn.ownBlock ∨ ∃ b,vn'.ownBlock = some b ∧ w.heap.size ≤ b) : RfG w0 w' kb bn bk vl vn' vk vo vb vw L ns' ks O D1 D2 :=
 ⟨blk_grown h.blk hg (Kd.R_ne h.nam h.blk (by decide)),Kd.R_grown2 h.lin rfl hg h.a1,hR,Kd.R_over' h.kin (Kd.R_typed h.nam) (by decide) hg,Kd.S_over' h.out (Kd.R_typed h.nam) (by decide) hg,Kd.R_over' h.bad (Kd.R_typed h.nam) (by decide) hg,Kd.R_over' h.why (Kd.R_typed h.nam) (by decide) hg,h.a1.step (own_lt_ h.lin) hat,h.a2,h.a3,h.a4,h.low,hb⟩
/-- The kinds' row has grown. -/
theorem RfG.kinded {vk' : Value} {ks' : List Int} (h : RfG w0 w kb bn bk vl vn vk vo vb vw L ns ks O D1 D2) (hR : Kd.R kI 3 w' w0.heap.size (fun _=>True) vk' ks') (hb : Below w0.heap.size w0 w') (hg : w.grownBy w' vk.ownBlock) (hat : vk'.ownBlock = vk.ownBlock ∨ ∃ b,vk'.ownBlock = some b ∧ w.heap.size ≤ b) : RfG w0 w' kb bn bk vl vn vk' vo vb vw L ns ks' O D1 D2 :=
 ⟨blk_grown h.blk hg (Kd.R_ne h.kin h.blk (by decide)),Kd.R_over' h.lin (Kd.R_typed h.kin) (by decide) hg,Kd.R_over' h.nam (Kd.R_typed h.kin) (by decide) hg,hR,Kd.S_over' h.out (Kd.R_typed h.kin) (by decide) hg,Kd.R_grown2 h.bad rfl hg h.a2,Kd.R_grown2 h.why rfl hg h.a3,h.a1,h.a2.step (own_lt_ h.bad) hat,h.a3.step (own_lt_ h.why) hat,h.a4,h.low,hb⟩
theorem RfG.badded {vb' : Value} {D1' : List Int} (h : RfG w0 w kb bn bk vl vn vk vo vb vw L ns ks O D1 D2) (hR : Kd.R kI 3 w' w0.heap.size (fun _=>True) vb' D1') (hb : Below w0.heap.size w0 w') (hg : w.grownBy w' vb.ownBlock) (hat : vb'.ownBlock = vb.ownBlock ∨ ∃ b,vb'.ownBlock = some b ∧ w.heap.size ≤ b) : RfG w0 w' kb bn bk vl vn vk vo vb' vw L ns ks O D1' D2 :=
 ⟨blk_grown h.blk hg (Kd.R_ne h.bad h.blk (by decide)),Kd.R_over' h.lin (Kd.R_typed h.bad) (by decide) hg,Kd.R_over' h.nam (Kd.R_typed h.bad) (by decide) hg,Kd.R_grown2 h.kin rfl hg h.a2.symm,Kd.S_over' h.out (Kd.R_typed h.bad) (by decide) hg,hR,Kd.R_grown2 h.why rfl hg h.a4,h.a1,(h.a2.symm.step (own_lt_ h.kin) hat).symm,h.a3,h.a4.step (own_lt_ h.why) hat,h.low,hb⟩
theorem RfG.whyed {vw' : Value} {D2' : List Int} (h : RfG w0 w kb bn bk vl vn vk vo vb vw L ns ks O D1 D2) (hR : Kd.R kI 3 w' w0.heap.size (fun _=>True) vw' D2') (hb : Below w0.heap.size w0 w') (hg : w.grownBy w' vw.ownBlock) (hat : vw'.ownBlock = vw.ownBlock ∨ ∃ b,vw'.ownBlock = some b ∧ w.heap.size ≤ b) : RfG w0 w' kb bn bk vl vn vk vo vb vw' L ns ks O D1 D2' :=
 ⟨blk_grown h.blk hg (Kd.R_ne h.why h.blk (by decide)),Kd.R_over' h.lin (Kd.R_typed h.why) (by decide) hg,Kd.R_over' h.nam (Kd.R_typed h.why) (by decide) hg,Kd.R_grown2 h.kin rfl hg h.a3.symm,Kd.S_over' h.out (Kd.R_typed h.why) (by decide) hg,Kd.R_grown2 h.bad rfl hg h.a4.symm,hR,h.a1,h.a2,(h.a3.symm.step (own_lt_ h.kin) hat).symm,(h.a4.symm.step (own_lt_ h.bad) hat).symm,h.low,hb⟩
theorem RfG.outed {vo' : Value} {O' : List Scr} (h : RfG w0 w kb bn bk vl vn vk vo vb vw L ns ks O D1 D2) (hR : Kd.S k34 34 w' w0.heap.size (fun _=>True) vo' (O'.map scrS)) (hb : Below w0.heap.size w0 w') (hg : w.grownBy w' vo.ownBlock) : RfG w0 w' kb bn bk vl vn vk vo' vb vw L ns ks O' D1 D2 :=
 ⟨blk_grown h.blk hg (Kd.S_ne h.out h.blk (by decide)),Kd.R_over' h.lin (Kd.S_typed h.out) (by decide) hg,Kd.R_over' h.nam (Kd.S_typed h.out) (by decide) hg,Kd.R_over' h.kin (Kd.S_typed h.out) (by decide) hg,hR,Kd.R_over' h.bad (Kd.S_typed h.out) (by decide) hg,Kd.R_over' h.why (Kd.S_typed h.out) (by decide) hg,h.a1,h.a2,h.a3,h.a4,h.low,hb⟩
/-- A kind is written over. -/
theorem RfG.put (h : RfG w0 w kb bn bk vl vn vk vo vb vw L ns ks O D1 D2) (i : Nat) (hi : i < ks.length) (v : Int) : ∃ g c,vk = .slice (some ⟨g,0,none⟩) ks.length c ∧ w.frozen? ⟨g,i,none⟩ = false ∧ RfG w0 (w.setCell ⟨g,i,none⟩ (.int .i64 v)) kb bn bk vl vn vk vo vb vw L ns (ks.set i v) O D1 D2:=by
 have hk:=h.kin
 obtain ⟨g,c,rfl⟩ : ∃ g c,vk = .slice (some ⟨g,0,none⟩) ks.length c:=by
  obtain ⟨_,inner,ho,hr⟩:=hk
  rcases ho.2 with ⟨_,h1⟩|⟨g,cap,cur,h1,_⟩
  ·omega
  exact ⟨g,cap,h1⟩
 have hc:=Kd.R_cell (enc:=fun n=>Value.int .i64 n) (h1:=fun _=>rfl) (0 : Int) hk (i : Int) (by omega) (by omega)
 have hp:=Kd.R_put (enc:=fun n=>Value.int .i64 n) (h1:=fun _=>rfl) hk (i : Int) v
 rw [Int.toNat_natCast] at hc hp
 obtain ⟨hR,hg⟩:=hp
 have hb : Below w0.heap.size w0 (w.setCell ⟨g,i,none⟩ (.int .i64 v)):=below_set h.bel (own_base_ hk g rfl)
 refine ⟨g,c,rfl,hc.2,?_⟩
 refine h.kinded ?_ hb hg (Or.inl rfl)
 exact hR
end
/-! The document's (*kinds).set: the walk. -/
theorem lit_rows {α : Type} {enc : α → Value} {W : World} {b e : Nat} {x : α} (h : W.heap[b]? = some (.cells #[enc x] e (0,0))) : ReadsRow (fun y cs=>cs = [enc y]) 1 W (some ⟨b,0,none⟩) 1 [x]:=by
 refine ⟨rfl,by omega,fun _=>⟨_,rfl,fun j p hj=>?_⟩⟩
 cases j with
 | zero =>
  obtain rfl : x = p:=by simpa using hj
  refine ⟨[enc x],rfl,rfl,fun i u hu=>?_⟩
  cases i with
  | zero =>
   obtain rfl : enc x = u:=by simpa using hu
   exact (blk_cell h 0).trans rfl
  | succ i=>simp at hu
 | succ j=>simp at hj
set_option maxHeartbeats 4000000 in
set_option maxRecDepth 100000 in
theorem kinds_set {w0 w : World} {kb : Nat} {vl vn vk vo vb vw : Value} {L ns : List ByteArray} {ks : List Int} {O : List Scr} {D1 D2 : List Int} (K : Kinds) (n : ByteArray) (v : Int) (h : RfG w0 w kb vn vk vl vn vk vo vb vw L ns ks O D1 D2) (hA : RkA ns ks K) (hlen : ns.length ≤ 100000) :
  Calls Tryz.prog 31 #[.pointer (some ⟨kb,0,none⟩),.string n,.int .i64 v] w fun e w'=>e = .returned (.tuple #[]) ∧ ∃ vn' vk' ns' ks',RfG w0 w' kb vn' vk' vl vn' vk' vo vb vw L ns' ks' O D1 D2 ∧ RkA ns' ks' (kset K n.data.toList v) ∧ ns'.length ≤ ns.length + 1:=by
 have hl:=hA.len
 obtain ⟨A1,c1,rfl⟩:=Kd.R_slice h.nam
 obtain ⟨A2,c2,rfl⟩:=Kd.R_slice h.kin
 have p0 : w.cell? ⟨kb,0,none⟩ = some (.slice A1 ns.length c1):=(blk_cell h.blk 0).trans rfl
 have p1 : w.cell? ⟨kb,1,none⟩ = some (.slice A2 ks.length c2):=(blk_cell h.blk 1).trans rfl
 have HC1:=Aside0.mk (Kd.R_reads' h.nam).2.2
 have HH:=Aside0.mk h
 have HA:=Aside0.mk hA
 have HN:=Aside0.mk hlen
 clear h hA hlen
 go_enter Tryz.func31,Tryz.ntmps31
 go_wp2_with (fail)
 go_loopg [6] ns.length (fun gg s6 wr=>∃ i : Nat,s6 = .int .i64 i ∧ ns.length - i ≤ gg ∧ Aside0 (i ≤ ns.length) ∧ Aside0 (∀ j,j < i → ns[j]? ≠ some n) ∧ wr = w)
 case atStart=>exact ⟨0,rfl,by omega,⟨by omega⟩,⟨fun j hj=>by omega⟩,rfl⟩
 obtain ⟨i,rfl,hgg,HI,HQ,rfl⟩:=hrel
 by_cases hlt : i < ns.length
 ·have hltz : (i : Int) < (ns.length : Int):=by omega
  obtain ⟨ad1,rfl,hx1⟩:=Kd.at_string HC1.out (i : Int) (by omega) (by omega)
  rw [Int.toNat_natCast] at hx1
  have hget : ns[i]? = some ns[i]:=List.getElem?_eq_getElem hlt
  have e1 : rdOf ByteArray.empty ns (i : Int) = ns[i]:=by
   unfold rdOf
   rw [Int.toNat_natCast,List.getD_eq_getElem?_getD,hget]
   rfl
  rw [e1] at hx1
  generalize ns[i] = a at hx1 hget
  have HG:=Aside0.mk hget
  clear hget e1
  by_cases he : a = n
  ·subst he
   have hbe : (a.toList == a.toList) = true:=beq_self_eq_true _
   obtain ⟨g,c,hgk,hfr,hput⟩:=HH.out.put i (by rw [hl];exact hlt) v
   have hAk : A2 = some ⟨g,0,none⟩:=by
    have h2:=hgk
    simp only [Value.slice.injEq] at h2
    exact h2.1
   subst hAk
   have HP:=Aside0.mk hput
   have HA2:=Aside0.mk (HA.out.at_ a v i HQ.out HG.out)
   have hcell : ∃ u,wr.cell? ⟨g,i,none⟩ = some u:=by
    have hk:=HH.out.kin
    exact ⟨_,by have h3:=(Kd.R_cell (enc:=fun n=>Value.int .i64 n) (h1:=fun _=>rfl) (0 : Int) hk (i : Int) (by omega) (by rw [hl];omega)).1;rwa [Int.toNat_natCast] at h3⟩
   obtain ⟨u,hcell⟩:=hcell
   clear hput hgk HQ HG
   go_wp2_with (fail)
   (try simp only [Exit.inBlock,Exit.then]);refine bodyPost_ret (results_none rfl _ _ _) rfl ?_
   exact ⟨rfl,_,_,_,_,HP.out,HA2.out,by omega⟩
  have HQ3 : Aside0 (∀ j,j < i + 1 → ns[j]? ≠ some n):=⟨fun j hj=>by
   by_cases e : j = i
   ·subst e
    rw [HG.out]
    exact fun e=>he (Option.some.inj e)
   exact HQ.out j (by omega)⟩
  have hbe : (a.toList == n.toList) = false:=bq_ne he
  have hw:=wrap_succ_ i (by have:=HN.out;omega)
  clear HQ HG
  go_wp2_with (fail)
  go_roundg (ns.length - (i + 1))
  case measure=>omega
  case rel=>exact ⟨i + 1,by rw [hw],by omega,⟨by omega⟩,HQ3,rfl⟩
 obtain rfl : i = ns.length:=by have:=HI.out;omega
 have hltz : ¬ ((ns.length : Int) < (ns.length : Int)):=by omega
 have HNI : Aside0 (n ∉ ns):=⟨fun hm=>by
  obtain ⟨j,hj,e⟩:=List.getElem_of_mem hm
  exact HQ.out j hj (by rw [List.getElem?_eq_getElem hj,e])⟩
 have HA2:=Aside0.mk (HA.out.new n v HNI.out)
 clear HQ HNI HI hlt hgg HC1
 go_wp2_with (fail)
 have HR:=Aside0.mk (HH.out.below (below_drew (Below.refl _ _)))
 have HL:=Aside0.mk hl
 clear HH hltz p0 p1 hl
 refine start_ (n:=22) (S:=fun w'=>w'.cell? ⟨kb,0,none⟩ = some (.slice A1 ns.length c1) ∧ w'.cell? ⟨kb,1,none⟩ = some (.slice A2 ks.length c2)) (ds:=[18,21]) #[false,false,false,false,false,false,false,false,false,false,false,false,false,false,false,false,false,false,false,false,false,false] (by kernel_rfl) rfl rfl (⟨(blk_cell HR.out.blk 0).trans rfl,(blk_cell HR.out.blk 1).trans rfl⟩) (fun hHeld=>?_)
 generalize wr.drew = w4 at HR hHeld ⊢
 refine pure_ (i:=0) (N:=some 32) (v:=?_) (a':=?_) #[true,false,false,false,false,false,false,false,false,false,false,false,false,false,false,false,false,false,false,false,false,false] rfl rfl (by kernel_rfl) (fun _ _ _ h=>h) (Or.inl ⟨by first|rfl|exact wanted_on rfl rfl rfl (by rfl),?_⟩) ?_ ?_
 rotate_left
 ·intro w'
  go_simp
  with_reducible rfl
 rotate_left
 ·simp only [Act.put,List.setIfInBounds_toArray,List.set_cons_zero,List.set_cons_succ,i64_w,i32_w]
  rfl
 refine pure_ (i:=1) (N:=some 33) (v:=?_) (a':=?_) #[true,true,false,false,false,false,false,false,false,false,false,false,false,false,false,false,false,false,false,false,false,false] rfl rfl (by kernel_rfl) (fun _ _ _ h=>h) (Or.inl ⟨by first|rfl|exact wanted_on rfl rfl rfl (by rfl),?_⟩) ?_ ?_
 rotate_left
 ·intro w'
  go_simp
  with_reducible rfl
 rotate_left
 ·simp only [Act.put,List.setIfInBounds_toArray,List.set_cons_zero,List.set_cons_succ,i64_w,i32_w]
  rfl
 refine pure_ (i:=2) (N:=some 34) (v:=?_) (a':=?_) #[true,true,true,false,false,false,false,false,false,false,false,false,false,false,false,false,false,false,false,false,false,false] rfl rfl (by kernel_rfl) (fun _ _ _ h=>h) (Or.inl ⟨by first|rfl|exact wanted_on rfl rfl rfl (by rfl),?_⟩) ?_ ?_
 rotate_left
 ·intro w'
  go_simp
  with_reducible rfl
 rotate_left
 ·simp only [Act.put,List.setIfInBounds_toArray,List.set_cons_zero,List.set_cons_succ,i64_w,i32_w]
  rfl
 refine pure_ (i:=3) (N:=some 35) (v:=?_) (a':=?_) #[true,true,true,true,false,false,false,false,false,false,false,false,false,false,false,false,false,false,false,false,false,false] rfl rfl (by kernel_rfl) (fun _ _ _ h=>h) (Or.inl ⟨by first|rfl|exact wanted_on rfl rfl rfl (by rfl),?_⟩) ?_ ?_
 rotate_left
 ·intro w'
  go_simp
  with_reducible rfl
 rotate_left
 ·simp only [Act.put,List.setIfInBounds_toArray,List.set_cons_zero,List.set_cons_succ,i64_w,i32_w]
  rfl
 refine pure_ (i:=4) (N:=some 36) (v:=?_) (a':=?_) #[true,true,true,true,true,false,false,false,false,false,false,false,false,false,false,false,false,false,false,false,false,false] rfl rfl (by kernel_rfl) (fun _ _ _ h=>h) (Or.inl ⟨by first|rfl|exact wanted_on rfl rfl rfl (by rfl),?_⟩) ?_ ?_
 rotate_left
 ·intro w'
  go_simp
  with_reducible rfl
 rotate_left
 ·simp only [Act.put,List.setIfInBounds_toArray,List.set_cons_zero,List.set_cons_succ,i64_w,i32_w]
  rfl
 refine take_ (i:=5) (N:=some 37) (v:=?_) (a':=?_) #[true,true,true,true,true,true,false,false,false,false,false,false,false,false,false,false,false,false,false,false,false,false] rfl rfl (by kernel_rfl) (fun _ _ _ h=>h) (Or.inl ⟨by first|rfl|exact wanted_on rfl rfl rfl (by rfl),?_⟩) hHeld ?_ ?_
 rotate_left
 ·rintro w' ⟨s0,s1⟩
  go_simp
  with_reducible rfl
 rotate_left
 ·simp only [Act.put,List.setIfInBounds_toArray,List.set_cons_zero,List.set_cons_succ,i64_w,i32_w]
  rfl
 refine pure_ (i:=6) (N:=some 38) (v:=?_) (a':=?_) #[true,true,true,true,true,true,true,false,false,false,false,false,false,false,false,false,false,false,false,false,false,false] rfl rfl (by kernel_rfl) (fun _ _ _ h=>h) (Or.inl ⟨by first|rfl|exact wanted_on rfl rfl rfl (by rfl),?_⟩) ?_ ?_
 rotate_left
 ·intro w'
  go_simp
  with_reducible rfl
 rotate_left
 ·simp only [Act.put,List.setIfInBounds_toArray,List.set_cons_zero,List.set_cons_succ,i64_w,i32_w]
  rfl
 refine pure_ (i:=9) (N:=some 41) (v:=?_) (a':=?_) #[true,true,true,true,true,true,true,false,false,true,false,false,false,false,false,false,false,false,false,false,false,false] rfl rfl (by kernel_rfl) (fun _ _ _ h=>h) (Or.inl ⟨by first|rfl|exact wanted_on rfl rfl rfl (by rfl),?_⟩) ?_ ?_
 rotate_left
 ·intro w'
  go_simp
  with_reducible rfl
 rotate_left
 ·simp only [Act.put,List.setIfInBounds_toArray,List.set_cons_zero,List.set_cons_succ,i64_w,i32_w]
  rfl
 refine pure_ (i:=10) (N:=some 42) (v:=?_) (a':=?_) #[true,true,true,true,true,true,true,false,false,true,true,false,false,false,false,false,false,false,false,false,false,false] rfl rfl (by kernel_rfl) (fun _ _ _ h=>h) (Or.inl ⟨by first|rfl|exact wanted_on rfl rfl rfl (by rfl),?_⟩) ?_ ?_
 rotate_left
 ·intro w'
  go_simp
  with_reducible rfl
 rotate_left
 ·simp only [Act.put,List.setIfInBounds_toArray,List.set_cons_zero,List.set_cons_succ,i64_w,i32_w]
  rfl
 refine pure_ (i:=11) (N:=some 43) (v:=?_) (a':=?_) #[true,true,true,true,true,true,true,false,false,true,true,true,false,false,false,false,false,false,false,false,false,false] rfl rfl (by kernel_rfl) (fun _ _ _ h=>h) (Or.inl ⟨by first|rfl|exact wanted_on rfl rfl rfl (by rfl),?_⟩) ?_ ?_
 rotate_left
 ·intro w'
  go_simp
  with_reducible rfl
 rotate_left
 ·simp only [Act.put,List.setIfInBounds_toArray,List.set_cons_zero,List.set_cons_succ,i64_w,i32_w]
  rfl
 refine take_ (i:=12) (N:=some 44) (v:=?_) (a':=?_) #[true,true,true,true,true,true,true,false,false,true,true,true,true,false,false,false,false,false,false,false,false,false] rfl rfl (by kernel_rfl) (fun _ _ _ h=>h) (Or.inl ⟨by first|rfl|exact wanted_on rfl rfl rfl (by rfl),?_⟩) hHeld ?_ ?_
 rotate_left
 ·rintro w' ⟨s0,s1⟩
  go_simp
  with_reducible rfl
 rotate_left
 ·simp only [Act.put,List.setIfInBounds_toArray,List.set_cons_zero,List.set_cons_succ,i64_w,i32_w]
  rfl
 refine pure_ (i:=13) (N:=some 45) (v:=?_) (a':=?_) #[true,true,true,true,true,true,true,false,false,true,true,true,true,true,false,false,false,false,false,false,false,false] rfl rfl (by kernel_rfl) (fun _ _ _ h=>h) (Or.inl ⟨by first|rfl|exact wanted_on rfl rfl rfl (by rfl),?_⟩) ?_ ?_
 rotate_left
 ·intro w'
  go_simp
  with_reducible rfl
 rotate_left
 ·simp only [Act.put,List.setIfInBounds_toArray,List.set_cons_zero,List.set_cons_succ,i64_w,i32_w]
  rfl
 refine two_ (i:=7) (j:=14) (Ni:=some 39) (Nj:=some 46) #[true,true,true,true,true,true,true,true,false,true,true,true,true,true,false,false,false,false,false,false,false,false] #[true,true,true,true,true,true,true,false,false,true,true,true,true,true,true,false,false,false,false,false,false,false] rfl rfl rfl rfl (by kernel_rfl) (by decide) (by decide) (fun K hK=>?_) (fun K hK=>?_)
 ·refine value_ (w1:=?_) (v:=?_) (by rfl) rfl ?_ ?_
  rotate_left 2
  ·go_simp
   constructor
   ·rfl
   rfl
  have HR':=Aside0.mk (HR.out.below (below_alloc (Below.refl _ _) (.cells #[.string n] 9)))
  have LN_:=Aside0.mk (heap_alloc_new w4 (.cells #[.string n] 9))
  refine hK.out _ _ ⟨(blk_cell HR'.out.blk 0).trans rfl,(blk_cell HR'.out.blk 1).trans rfl⟩ (fun hHeld=>?_)
  clear hK K HR
  have HR:=HR'
  clear HR'
  refine norm_ (a':=?_) ?_ ?_
  rotate_left
  ·show Act.put _ (some 39) _ = _
   simp only [Act.put,List.setIfInBounds_toArray,List.set_cons_zero,List.set_cons_succ,i64_w,i32_w]
   rfl
  generalize w4.alloc (.cells #[.string n] 9) = w5 at HR LN_ hHeld ⊢
  generalize w4.heap.size = bn_ at LN_ ⊢
  refine two_ (i:=8) (j:=14) (Ni:=some 40) (Nj:=some 46) #[true,true,true,true,true,true,true,true,true,true,true,true,true,true,false,false,false,false,false,false,false,false] #[true,true,true,true,true,true,true,true,false,true,true,true,true,true,true,false,false,false,false,false,false,false] rfl rfl rfl rfl (by kernel_rfl) (by decide) (by decide) (fun K hK=>?_) (fun K hK=>?_)
  ·refine Kd.R_append_rows_step Kd.string (Rr:=fun x cs=>cs = [Value.string x]) (w0:=w0) w0.heap.size (by rfl) (.tmp 37) (.tmp 39) 45 9 (.string ⟨#[]⟩) 16 rfl Tryz.underlying45 info9 rfl (by decide) (by omega) (.slice A1 ns.length c1) ns [n] (some ⟨bn_,0,none⟩) 1 1 (fun _=>True) (fun _=>False) rfl rfl ?aO (lit_rows (enc:=Value.string) LN_.out) (fun _ _ h=>h) (fun _ hk=>hk.elim) (fun _ _=>trivial) ?aB ?aS ?aL ?_
   (case aO=>exact HR.out.nam)
   (case aB=>exact HR.out.bel)
   (case aS=>exact HR.out.bel.size)
   (case aL=>have:=HN.out;omega)
   intro vn' wn' ho hb hg hat
   have HR':=Aside0.mk (HR.out.named ho hb hg hat)
   obtain ⟨An,cn,rfl⟩:=Kd.R_slice ho
   simp only [List.length_append,List.length_singleton] at HR'
   refine hK.out _ _ ⟨(blk_cell HR'.out.blk 0).trans rfl,(blk_cell HR'.out.blk 1).trans rfl⟩ (fun hHeld=>?_)
   clear hK K HR ho hb hg hat
   have HR:=HR'
   clear HR'
   refine norm_ (a':=?_) ?_ ?_
   rotate_left
   ·show Act.put _ (some 40) _ = _
    simp only [Act.put,List.setIfInBounds_toArray,List.set_cons_zero,List.set_cons_succ,i64_w,i32_w]
    rfl
   refine one_ (i:=14) (N:=some 46) #[true,true,true,true,true,true,true,true,true,true,true,true,true,true,true,false,false,false,false,false,false,false] rfl rfl (by kernel_rfl) (by decide) (fun K hK=>?_)
   refine value_ (w1:=?_) (v:=?_) (by rfl) rfl ?_ ?_
   rotate_left 2
   ·go_simp
    constructor
    ·rfl
    rfl
   have HR':=Aside0.mk (HR.out.below (below_alloc (Below.refl _ _) (.cells #[.int .i64 v] 3)))
   have LK_:=Aside0.mk (heap_alloc_new wn' (.cells #[.int .i64 v] 3))
   refine hK.out _ _ ⟨(blk_cell HR'.out.blk 0).trans rfl,(blk_cell HR'.out.blk 1).trans rfl⟩ (fun hHeld=>?_)
   clear hK K HR
   have HR:=HR'
   clear HR'
   refine norm_ (a':=?_) ?_ ?_
   rotate_left
   ·show Act.put _ (some 46) _ = _
    simp only [Act.put,List.setIfInBounds_toArray,List.set_cons_zero,List.set_cons_succ,i64_w,i32_w]
    rfl
   generalize wn'.alloc (.cells #[.int .i64 v] 3) = w6 at HR LK_ hHeld ⊢
   generalize wn'.heap.size = bk_ at LK_ ⊢
   refine one_ (i:=15) (N:=some 47) #[true,true,true,true,true,true,true,true,true,true,true,true,true,true,true,true,false,false,false,false,false,false] rfl rfl (by kernel_rfl) (by decide) (fun K hK=>?_)
   refine Kd.R_append_rows_step kI (Rr:=fun x cs=>cs = [Value.int .i64 x]) (w0:=w0) w0.heap.size (by rfl) (.tmp 44) (.tmp 46) 27 3 (.int .i64 0) 8 rfl Tryz.underlying27 info3 rfl (by decide) (by omega) (.slice A2 ks.length c2) ks [v] (some ⟨bk_,0,none⟩) 1 1 (fun _=>True) (fun _=>False) rfl rfl ?aO (lit_rows (enc:=fun n=>Value.int .i64 n) LK_.out) (fun _ _ h=>h) (fun _ hk=>hk.elim) (fun _ _=>trivial) ?aB ?aS ?aL ?_
   (case aO=>exact HR.out.kin)
   (case aB=>exact HR.out.bel)
   (case aS=>exact HR.out.bel.size)
   (case aL=>have:=HN.out;have:=HL.out;omega)
   intro vk' wk' ho hb hg hat
   have HR':=Aside0.mk (HR.out.kinded ho hb hg hat)
   obtain ⟨Ak,ck,rfl⟩:=Kd.R_slice ho
   simp only [List.length_append,List.length_singleton] at HR'
   refine hK.out _ _ ⟨(blk_cell HR'.out.blk 0).trans rfl,(blk_cell HR'.out.blk 1).trans rfl⟩ (fun hHeld=>?_)
   clear hK K HR ho hb hg hat
   have HR:=HR'
   clear HR'
   refine norm_ (a':=?_) ?_ ?_
   rotate_left
   ·show Act.put _ (some 47) _ = _
    simp only [Act.put,List.setIfInBounds_toArray,List.set_cons_zero,List.set_cons_succ,i64_w,i32_w]
    rfl
   have hk:=HR.out.blk
   have p0:=(blk_cell hk 0).trans (show _ = some (Value.slice A1 ns.length c1) from rfl)
   have p1:=(blk_cell hk 1).trans (show _ = some (Value.slice A2 ks.length c2) from rfl)
   have f0:=blk_frozen hk 0
   have f1:=blk_frozen hk 1
   clear hk
   refine pure_ (i:=16) (N:=some 48) (v:=?_) (a':=?_) #[true,true,true,true,true,true,true,true,true,true,true,true,true,true,true,true,true,false,false,false,false,false] rfl rfl (by kernel_rfl) (fun _ _ _ h=>h) (Or.inl ⟨by first|rfl|exact wanted_on rfl rfl rfl (by rfl),?_⟩) ?_ ?_
   rotate_left
   ·intro w'
    go_simp
    with_reducible rfl
   rotate_left
   ·simp only [Act.put,List.setIfInBounds_toArray,List.set_cons_zero,List.set_cons_succ,i64_w,i32_w]
    rfl
   refine pure_ (i:=17) (N:=some 49) (v:=?_) (a':=?_) #[true,true,true,true,true,true,true,true,true,true,true,true,true,true,true,true,true,true,false,false,false,false] rfl rfl (by kernel_rfl) (fun _ _ _ h=>h) (Or.inl ⟨by first|rfl|exact wanted_on rfl rfl rfl (by rfl),?_⟩) ?_ ?_
   rotate_left
   ·intro w'
    go_simp
    with_reducible rfl
   rotate_left
   ·simp only [Act.put,List.setIfInBounds_toArray,List.set_cons_zero,List.set_cons_succ,i64_w,i32_w]
    rfl
   refine last_ (i:=18) (N:=none) #[true,true,true,true,true,true,true,true,true,true,true,true,true,true,true,true,true,true,true,false,false,false] rfl rfl (by kernel_rfl) (by decide) (fun Kz hKz=>?_)
   refine skip_ (w1:=wk'.setCell ⟨kb,0,none⟩ (.slice An (ns.length + 1) cn)) rfl rfl ?hrun ?_
   case hrun =>
    clear hHeld
    first|(go_simp;done)|(go_simp;rfl)
   refine hKz.out _ _ ?_
   clear hKz Kz
   refine pure_ (i:=19) (N:=some 50) (v:=?_) (a':=?_) #[true,true,true,true,true,true,true,true,true,true,true,true,true,true,true,true,true,true,true,true,false,false] rfl rfl (by kernel_rfl) (fun _ _ _ h=>h) (Or.inl ⟨by first|rfl|exact wanted_on rfl rfl rfl (by rfl),?_⟩) ?_ ?_
   rotate_left
   ·intro w'
    go_simp
    with_reducible rfl
   rotate_left
   ·simp only [Act.put,List.setIfInBounds_toArray,List.set_cons_zero,List.set_cons_succ,i64_w,i32_w]
    rfl
   refine pure_ (i:=20) (N:=some 51) (v:=?_) (a':=?_) #[true,true,true,true,true,true,true,true,true,true,true,true,true,true,true,true,true,true,true,true,true,false] rfl rfl (by kernel_rfl) (fun _ _ _ h=>h) (Or.inl ⟨by first|rfl|exact wanted_on rfl rfl rfl (by rfl),?_⟩) ?_ ?_
   rotate_left
   ·intro w'
    go_simp
    with_reducible rfl
   rotate_left
   ·simp only [Act.put,List.setIfInBounds_toArray,List.set_cons_zero,List.set_cons_succ,i64_w,i32_w]
    rfl
   refine last_ (i:=21) (N:=none) #[true,true,true,true,true,true,true,true,true,true,true,true,true,true,true,true,true,true,true,true,true,true] rfl rfl (by kernel_rfl) (by decide) (fun Kz hKz=>?_)
   refine skip_ (w1:=(wk'.setCell ⟨kb,0,none⟩ (.slice An (ns.length + 1) cn)).setCell ⟨kb,1,none⟩ (.slice Ak (ks.length + 1) ck)) rfl rfl ?hrun ?_
   case hrun =>
    clear hHeld
    first|(go_simp;done)|(go_simp;rfl)
   refine hKz.out _ _ ?_
   clear hKz Kz
   refine done_ (by kernel_rfl) ?_
   go_wp2
   go_end0
   exact ⟨rfl,_,_,_,_,(HR.out.cell 0 _ _ _ rfl).cell 1 _ _ _ rfl,HA2.out,by simp⟩
  refine value_ (w1:=?_) (v:=?_) (by rfl) rfl ?_ ?_
  rotate_left 2
  ·go_simp
   constructor
   ·rfl
   rfl
  have HR':=Aside0.mk (HR.out.below (below_alloc (Below.refl _ _) (.cells #[.int .i64 v] 3)))
  have LK_:=Aside0.mk (heap_alloc_new w5 (.cells #[.int .i64 v] 3))
  have LN_':=Aside0.mk (blk_alloc LN_.out (.cells #[.int .i64 v] 3))
  refine hK.out _ _ ⟨(blk_cell HR'.out.blk 0).trans rfl,(blk_cell HR'.out.blk 1).trans rfl⟩ (fun hHeld=>?_)
  clear hK K HR LN_
  have HR:=HR'
  clear HR'
  have LN_:=LN_'
  clear LN_'
  refine norm_ (a':=?_) ?_ ?_
  rotate_left
  ·show Act.put _ (some 46) _ = _
   simp only [Act.put,List.setIfInBounds_toArray,List.set_cons_zero,List.set_cons_succ,i64_w,i32_w]
   rfl
  generalize w5.alloc (.cells #[.int .i64 v] 3) = w6 at HR LK_ LN_ hHeld ⊢
  generalize w5.heap.size = bk_ at LK_ ⊢
  refine one_ (i:=8) (N:=some 40) #[true,true,true,true,true,true,true,true,true,true,true,true,true,true,true,false,false,false,false,false,false,false] rfl rfl (by kernel_rfl) (by decide) (fun K hK=>?_)
  refine Kd.R_append_rows_step Kd.string (Rr:=fun x cs=>cs = [Value.string x]) (w0:=w0) w0.heap.size (by rfl) (.tmp 37) (.tmp 39) 45 9 (.string ⟨#[]⟩) 16 rfl Tryz.underlying45 info9 rfl (by decide) (by omega) (.slice A1 ns.length c1) ns [n] (some ⟨bn_,0,none⟩) 1 1 (fun _=>True) (fun _=>False) rfl rfl ?aO (lit_rows (enc:=Value.string) LN_.out) (fun _ _ h=>h) (fun _ hk=>hk.elim) (fun _ _=>trivial) ?aB ?aS ?aL ?_
  (case aO=>exact HR.out.nam)
  (case aB=>exact HR.out.bel)
  (case aS=>exact HR.out.bel.size)
  (case aL=>have:=HN.out;omega)
  intro vn' wn' ho hb hg hat
  have HR':=Aside0.mk (HR.out.named ho hb hg hat)
  have LK_':=Aside0.mk (blk_grown LK_.out hg (Kd.R_ne HR.out.nam LK_.out (by decide)))
  obtain ⟨An,cn,rfl⟩:=Kd.R_slice ho
  simp only [List.length_append,List.length_singleton] at HR'
  refine hK.out _ _ ⟨(blk_cell HR'.out.blk 0).trans rfl,(blk_cell HR'.out.blk 1).trans rfl⟩ (fun hHeld=>?_)
  clear hK K HR ho hb hg hat LK_
  have HR:=HR'
  clear HR'
  have LK_:=LK_'
  clear LK_'
  refine norm_ (a':=?_) ?_ ?_
  rotate_left
  ·show Act.put _ (some 40) _ = _
   simp only [Act.put,List.setIfInBounds_toArray,List.set_cons_zero,List.set_cons_succ,i64_w,i32_w]
   rfl
  refine one_ (i:=15) (N:=some 47) #[true,true,true,true,true,true,true,true,true,true,true,true,true,true,true,true,false,false,false,false,false,false] rfl rfl (by kernel_rfl) (by decide) (fun K hK=>?_)
  refine Kd.R_append_rows_step kI (Rr:=fun x cs=>cs = [Value.int .i64 x]) (w0:=w0) w0.heap.size (by rfl) (.tmp 44) (.tmp 46) 27 3 (.int .i64 0) 8 rfl Tryz.underlying27 info3 rfl (by decide) (by omega) (.slice A2 ks.length c2) ks [v] (some ⟨bk_,0,none⟩) 1 1 (fun _=>True) (fun _=>False) rfl rfl ?aO (lit_rows (enc:=fun n=>Value.int .i64 n) LK_.out) (fun _ _ h=>h) (fun _ hk=>hk.elim) (fun _ _=>trivial) ?aB ?aS ?aL ?_
  (case aO=>exact HR.out.kin)
  (case aB=>exact HR.out.bel)
  (case aS=>exact HR.out.bel.size)
  (case aL=>have:=HN.out;have:=HL.out;omega)
  intro vk' wk' ho hb hg hat
  have HR':=Aside0.mk (HR.out.kinded ho hb hg hat)
  obtain ⟨Ak,ck,rfl⟩:=Kd.R_slice ho
  simp only [List.length_append,List.length_singleton] at HR'
  refine hK.out _ _ ⟨(blk_cell HR'.out.blk 0).trans rfl,(blk_cell HR'.out.blk 1).trans rfl⟩ (fun hHeld=>?_)
  clear hK K HR ho hb hg hat
  have HR:=HR'
  clear HR'
  refine norm_ (a':=?_) ?_ ?_
  rotate_left
  ·show Act.put _ (some 47) _ = _
   simp only [Act.put,List.setIfInBounds_toArray,List.set_cons_zero,List.set_cons_succ,i64_w,i32_w]
   rfl
  have hk:=HR.out.blk
  have p0:=(blk_cell hk 0).trans (show _ = some (Value.slice A1 ns.length c1) from rfl)
  have p1:=(blk_cell hk 1).trans (show _ = some (Value.slice A2 ks.length c2) from rfl)
  have f0:=blk_frozen hk 0
  have f1:=blk_frozen hk 1
  clear hk
  refine pure_ (i:=16) (N:=some 48) (v:=?_) (a':=?_) #[true,true,true,true,true,true,true,true,true,true,true,true,true,true,true,true,true,false,false,false,false,false] rfl rfl (by kernel_rfl) (fun _ _ _ h=>h) (Or.inl ⟨by first|rfl|exact wanted_on rfl rfl rfl (by rfl),?_⟩) ?_ ?_
  rotate_left
  ·intro w'
   go_simp
   with_reducible rfl
  rotate_left
  ·simp only [Act.put,List.setIfInBounds_toArray,List.set_cons_zero,List.set_cons_succ,i64_w,i32_w]
   rfl
  refine pure_ (i:=17) (N:=some 49) (v:=?_) (a':=?_) #[true,true,true,true,true,true,true,true,true,true,true,true,true,true,true,true,true,true,false,false,false,false] rfl rfl (by kernel_rfl) (fun _ _ _ h=>h) (Or.inl ⟨by first|rfl|exact wanted_on rfl rfl rfl (by rfl),?_⟩) ?_ ?_
  rotate_left
  ·intro w'
   go_simp
   with_reducible rfl
  rotate_left
  ·simp only [Act.put,List.setIfInBounds_toArray,List.set_cons_zero,List.set_cons_succ,i64_w,i32_w]
   rfl
  refine last_ (i:=18) (N:=none) #[true,true,true,true,true,true,true,true,true,true,true,true,true,true,true,true,true,true,true,false,false,false] rfl rfl (by kernel_rfl) (by decide) (fun Kz hKz=>?_)
  refine skip_ (w1:=wk'.setCell ⟨kb,0,none⟩ (.slice An (ns.length + 1) cn)) rfl rfl ?hrun ?_
  case hrun =>
   clear hHeld
   first|(go_simp;done)|(go_simp;rfl)
  refine hKz.out _ _ ?_
  clear hKz Kz
  refine pure_ (i:=19) (N:=some 50) (v:=?_) (a':=?_) #[true,true,true,true,true,true,true,true,true,true,true,true,true,true,true,true,true,true,true,true,false,false] rfl rfl (by kernel_rfl) (fun _ _ _ h=>h) (Or.inl ⟨by first|rfl|exact wanted_on rfl rfl rfl (by rfl),?_⟩) ?_ ?_
  rotate_left
  ·intro w'
   go_simp
   with_reducible rfl
  rotate_left
  ·simp only [Act.put,List.setIfInBounds_toArray,List.set_cons_zero,List.set_cons_succ,i64_w,i32_w]
   rfl
  refine pure_ (i:=20) (N:=some 51) (v:=?_) (a':=?_) #[true,true,true,true,true,true,true,true,true,true,true,true,true,true,true,true,true,true,true,true,true,false] rfl rfl (by kernel_rfl) (fun _ _ _ h=>h) (Or.inl ⟨by first|rfl|exact wanted_on rfl rfl rfl (by rfl),?_⟩) ?_ ?_
  rotate_left
  ·intro w'
   go_simp
   with_reducible rfl
  rotate_left
  ·simp only [Act.put,List.setIfInBounds_toArray,List.set_cons_zero,List.set_cons_succ,i64_w,i32_w]
   rfl
  refine last_ (i:=21) (N:=none) #[true,true,true,true,true,true,true,true,true,true,true,true,true,true,true,true,true,true,true,true,true,true] rfl rfl (by kernel_rfl) (by decide) (fun Kz hKz=>?_)
  refine skip_ (w1:=(wk'.setCell ⟨kb,0,none⟩ (.slice An (ns.length + 1) cn)).setCell ⟨kb,1,none⟩ (.slice Ak (ks.length + 1) ck)) rfl rfl ?hrun ?_
  case hrun =>
   clear hHeld
   first|(go_simp;done)|(go_simp;rfl)
  refine hKz.out _ _ ?_
  clear hKz Kz
  refine done_ (by kernel_rfl) ?_
  go_wp2
  go_end0
  exact ⟨rfl,_,_,_,_,(HR.out.cell 0 _ _ _ rfl).cell 1 _ _ _ rfl,HA2.out,by simp⟩
 refine value_ (w1:=?_) (v:=?_) (by rfl) rfl ?_ ?_
 rotate_left 2
 ·go_simp
  constructor
  ·rfl
  rfl
 have HR':=Aside0.mk (HR.out.below (below_alloc (Below.refl _ _) (.cells #[.int .i64 v] 3)))
 have LK_:=Aside0.mk (heap_alloc_new w4 (.cells #[.int .i64 v] 3))
 refine hK.out _ _ ⟨(blk_cell HR'.out.blk 0).trans rfl,(blk_cell HR'.out.blk 1).trans rfl⟩ (fun hHeld=>?_)
 clear hK K HR
 have HR:=HR'
 clear HR'
 refine norm_ (a':=?_) ?_ ?_
 rotate_left
 ·show Act.put _ (some 46) _ = _
  simp only [Act.put,List.setIfInBounds_toArray,List.set_cons_zero,List.set_cons_succ,i64_w,i32_w]
  rfl
 generalize w4.alloc (.cells #[.int .i64 v] 3) = w5 at HR LK_ hHeld ⊢
 generalize w4.heap.size = bk_ at LK_ ⊢
 refine one_ (i:=7) (N:=some 39) #[true,true,true,true,true,true,true,true,false,true,true,true,true,true,true,false,false,false,false,false,false,false] rfl rfl (by kernel_rfl) (by decide) (fun K hK=>?_)
 refine value_ (w1:=?_) (v:=?_) (by rfl) rfl ?_ ?_
 rotate_left 2
 ·go_simp
  constructor
  ·rfl
  rfl
 have HR':=Aside0.mk (HR.out.below (below_alloc (Below.refl _ _) (.cells #[.string n] 9)))
 have LN_:=Aside0.mk (heap_alloc_new w5 (.cells #[.string n] 9))
 have LK_':=Aside0.mk (blk_alloc LK_.out (.cells #[.string n] 9))
 refine hK.out _ _ ⟨(blk_cell HR'.out.blk 0).trans rfl,(blk_cell HR'.out.blk 1).trans rfl⟩ (fun hHeld=>?_)
 clear hK K HR LK_
 have HR:=HR'
 clear HR'
 have LK_:=LK_'
 clear LK_'
 refine norm_ (a':=?_) ?_ ?_
 rotate_left
 ·show Act.put _ (some 39) _ = _
  simp only [Act.put,List.setIfInBounds_toArray,List.set_cons_zero,List.set_cons_succ,i64_w,i32_w]
  rfl
 generalize w5.alloc (.cells #[.string n] 9) = w6 at HR LN_ LK_ hHeld ⊢
 generalize w5.heap.size = bn_ at LN_ ⊢
 refine one_ (i:=8) (N:=some 40) #[true,true,true,true,true,true,true,true,true,true,true,true,true,true,true,false,false,false,false,false,false,false] rfl rfl (by kernel_rfl) (by decide) (fun K hK=>?_)
 refine Kd.R_append_rows_step Kd.string (Rr:=fun x cs=>cs = [Value.string x]) (w0:=w0) w0.heap.size (by rfl) (.tmp 37) (.tmp 39) 45 9 (.string ⟨#[]⟩) 16 rfl Tryz.underlying45 info9 rfl (by decide) (by omega) (.slice A1 ns.length c1) ns [n] (some ⟨bn_,0,none⟩) 1 1 (fun _=>True) (fun _=>False) rfl rfl ?aO (lit_rows (enc:=Value.string) LN_.out) (fun _ _ h=>h) (fun _ hk=>hk.elim) (fun _ _=>trivial) ?aB ?aS ?aL ?_
 (case aO=>exact HR.out.nam)
 (case aB=>exact HR.out.bel)
 (case aS=>exact HR.out.bel.size)
 (case aL=>have:=HN.out;omega)
 intro vn' wn' ho hb hg hat
 have HR':=Aside0.mk (HR.out.named ho hb hg hat)
 have LK_':=Aside0.mk (blk_grown LK_.out hg (Kd.R_ne HR.out.nam LK_.out (by decide)))
 obtain ⟨An,cn,rfl⟩:=Kd.R_slice ho
 simp only [List.length_append,List.length_singleton] at HR'
 refine hK.out _ _ ⟨(blk_cell HR'.out.blk 0).trans rfl,(blk_cell HR'.out.blk 1).trans rfl⟩ (fun hHeld=>?_)
 clear hK K HR ho hb hg hat LK_
 have HR:=HR'
 clear HR'
 have LK_:=LK_'
 clear LK_'
 refine norm_ (a':=?_) ?_ ?_
 rotate_left
 ·show Act.put _ (some 40) _ = _
  simp only [Act.put,List.setIfInBounds_toArray,List.set_cons_zero,List.set_cons_succ,i64_w,i32_w]
  rfl
 refine one_ (i:=15) (N:=some 47) #[true,true,true,true,true,true,true,true,true,true,true,true,true,true,true,true,false,false,false,false,false,false] rfl rfl (by kernel_rfl) (by decide) (fun K hK=>?_)
 refine Kd.R_append_rows_step kI (Rr:=fun x cs=>cs = [Value.int .i64 x]) (w0:=w0) w0.heap.size (by rfl) (.tmp 44) (.tmp 46) 27 3 (.int .i64 0) 8 rfl Tryz.underlying27 info3 rfl (by decide) (by omega) (.slice A2 ks.length c2) ks [v] (some ⟨bk_,0,none⟩) 1 1 (fun _=>True) (fun _=>False) rfl rfl ?aO (lit_rows (enc:=fun n=>Value.int .i64 n) LK_.out) (fun _ _ h=>h) (fun _ hk=>hk.elim) (fun _ _=>trivial) ?aB ?aS ?aL ?_
 (case aO=>exact HR.out.kin)
 (case aB=>exact HR.out.bel)
 (case aS=>exact HR.out.bel.size)
 (case aL=>have:=HN.out;have:=HL.out;omega)
 intro vk' wk' ho hb hg hat
 have HR':=Aside0.mk (HR.out.kinded ho hb hg hat)
 obtain ⟨Ak,ck,rfl⟩:=Kd.R_slice ho
 simp only [List.length_append,List.length_singleton] at HR'
 refine hK.out _ _ ⟨(blk_cell HR'.out.blk 0).trans rfl,(blk_cell HR'.out.blk 1).trans rfl⟩ (fun hHeld=>?_)
 clear hK K HR ho hb hg hat
 have HR:=HR'
 clear HR'
 refine norm_ (a':=?_) ?_ ?_
 rotate_left
 ·show Act.put _ (some 47) _ = _
  simp only [Act.put,List.setIfInBounds_toArray,List.set_cons_zero,List.set_cons_succ,i64_w,i32_w]
  rfl
 have hk:=HR.out.blk
 have p0:=(blk_cell hk 0).trans (show _ = some (Value.slice A1 ns.length c1) from rfl)
 have p1:=(blk_cell hk 1).trans (show _ = some (Value.slice A2 ks.length c2) from rfl)
 have f0:=blk_frozen hk 0
 have f1:=blk_frozen hk 1
 clear hk
 refine pure_ (i:=16) (N:=some 48) (v:=?_) (a':=?_) #[true,true,true,true,true,true,true,true,true,true,true,true,true,true,true,true,true,false,false,false,false,false] rfl rfl (by kernel_rfl) (fun _ _ _ h=>h) (Or.inl ⟨by first|rfl|exact wanted_on rfl rfl rfl (by rfl),?_⟩) ?_ ?_
 rotate_left
 ·intro w'
  go_simp
  with_reducible rfl
 rotate_left
 ·simp only [Act.put,List.setIfInBounds_toArray,List.set_cons_zero,List.set_cons_succ,i64_w,i32_w]
  rfl
 refine pure_ (i:=17) (N:=some 49) (v:=?_) (a':=?_) #[true,true,true,true,true,true,true,true,true,true,true,true,true,true,true,true,true,true,false,false,false,false] rfl rfl (by kernel_rfl) (fun _ _ _ h=>h) (Or.inl ⟨by first|rfl|exact wanted_on rfl rfl rfl (by rfl),?_⟩) ?_ ?_
 rotate_left
 ·intro w'
  go_simp
  with_reducible rfl
 rotate_left
 ·simp only [Act.put,List.setIfInBounds_toArray,List.set_cons_zero,List.set_cons_succ,i64_w,i32_w]
  rfl
 refine last_ (i:=18) (N:=none) #[true,true,true,true,true,true,true,true,true,true,true,true,true,true,true,true,true,true,true,false,false,false] rfl rfl (by kernel_rfl) (by decide) (fun Kz hKz=>?_)
 refine skip_ (w1:=wk'.setCell ⟨kb,0,none⟩ (.slice An (ns.length + 1) cn)) rfl rfl ?hrun ?_
 case hrun =>
  clear hHeld
  first|(go_simp;done)|(go_simp;rfl)
 refine hKz.out _ _ ?_
 clear hKz Kz
 refine pure_ (i:=19) (N:=some 50) (v:=?_) (a':=?_) #[true,true,true,true,true,true,true,true,true,true,true,true,true,true,true,true,true,true,true,true,false,false] rfl rfl (by kernel_rfl) (fun _ _ _ h=>h) (Or.inl ⟨by first|rfl|exact wanted_on rfl rfl rfl (by rfl),?_⟩) ?_ ?_
 rotate_left
 ·intro w'
  go_simp
  with_reducible rfl
 rotate_left
 ·simp only [Act.put,List.setIfInBounds_toArray,List.set_cons_zero,List.set_cons_succ,i64_w,i32_w]
  rfl
 refine pure_ (i:=20) (N:=some 51) (v:=?_) (a':=?_) #[true,true,true,true,true,true,true,true,true,true,true,true,true,true,true,true,true,true,true,true,true,false] rfl rfl (by kernel_rfl) (fun _ _ _ h=>h) (Or.inl ⟨by first|rfl|exact wanted_on rfl rfl rfl (by rfl),?_⟩) ?_ ?_
 rotate_left
 ·intro w'
  go_simp
  with_reducible rfl
 rotate_left
 ·simp only [Act.put,List.setIfInBounds_toArray,List.set_cons_zero,List.set_cons_succ,i64_w,i32_w]
  rfl
 refine last_ (i:=21) (N:=none) #[true,true,true,true,true,true,true,true,true,true,true,true,true,true,true,true,true,true,true,true,true,true] rfl rfl (by kernel_rfl) (by decide) (fun Kz hKz=>?_)
 refine skip_ (w1:=(wk'.setCell ⟨kb,0,none⟩ (.slice An (ns.length + 1) cn)).setCell ⟨kb,1,none⟩ (.slice Ak (ks.length + 1) ck)) rfl rfl ?hrun ?_
 case hrun =>
  clear hHeld
  first|(go_simp;done)|(go_simp;rfl)
 refine hKz.out _ _ ?_
 clear hKz Kz
 refine done_ (by kernel_rfl) ?_
 go_wp2
 go_end0
 exact ⟨rfl,_,_,_,_,(HR.out.cell 0 _ _ _ rfl).cell 1 _ _ _ rfl,HA2.out,by simp⟩
end Go.Proofs.YtfgffjchphignaaGreatDoor.Print
end
section
namespace Go.Proofs.YtfgffjchphignaaGreatDoor.Print
open Go.Sort Go.Shelf PureN
open Go.RowKit Go.Proofs.YtfgffjchphignaaGreatDoorX Go.Proofs.YtfgffjchphignaaGreatDoorW.PrintWords Go.Proofs.YtfgffjchphignaaGreatDoorW.PrintLast Go.Proofs.YtfgffjchphignaaGreatDoorW.PrintMore
/-! The document's Lines. -/
theorem ext_ofL (s : ByteArray) (a b : Nat) : s.extract a b = ofL ((s.data.toList.take b).drop a):=by
 apply ba_inj_
 rw [ByteArray.data_extract,Array.toList_extract]
 show _ = (s.data.toList.take b).drop a
 rw [List.extract_eq_take_drop,List.drop_take]
set_option maxHeartbeats 4000000 in
set_option maxRecDepth 100000 in
theorem rlines_calls (s : ByteArray) (w : World) (hs : s.size ≤ 100000) : Calls Tryz.prog 27 #[.string s] w fun e w'=>∃ v : Value,e = .returned v ∧ Kd.R Kd.string 9 w' w.heap.size (fun _=>True) v ((linesS [] s.data.toList).map ofL) ∧ Below w.heap.size w w':=by
 have HS:=Aside0.mk hs
 clear hs
 go_enter Tryz.func27,Tryz.ntmps27
 go_wp2_with (fail)
 go_loopg [3,4,5] s.size (fun gg s3 s4 s5 wr=>∃ (i fr : Nat) (acc : List ByteArray),s4 = .int .i64 fr ∧ s5 = .int .i64 i ∧ s.size - i ≤ gg ∧ Aside0 (fr ≤ i ∧ i ≤ s.size ∧ acc.length ≤ i) ∧ Aside0 (acc ++ (linesS ((s.data.toList.take i).drop fr) (s.data.toList.drop i)).map ofL = (linesS [] s.data.toList).map ofL) ∧ Aside0 (Kd.R Kd.string 9 wr w.heap.size (fun _=>True) s3 acc ∧ Below w.heap.size w wr))
 case atStart=>exact ⟨0,0,[],rfl,rfl,by omega,⟨by simp⟩,⟨by simp⟩,⟨⟨Kd.R_nil _ _ _ _ _,Below.refl _ _⟩⟩⟩
 obtain ⟨i,fr,acc,rfl,rfl,hgg,HI,HQ,HR⟩:=hrel
 by_cases hlt : i < s.size
 ·have hltz : (i : Int) < (s.size : Int):=by omega
  obtain ⟨c,hcb,hcd⟩:=bt_drop2 s i hlt
  have q3 : (i < s.size) = True:=eq_true hlt
  have hb3 : ∀ h : i < s.size,((s[i]'h).toNat : Int) = bt s i:=fun h=>bt_at s i h
  have hw:=wrap_succ_ i (by have:=HS.out;omega)
  by_cases h10 : c = 10
  ·have e1 : (bt s (i : Int) == 10) = true:=by rw [hcb,h10];rfl
   have g1 : (fr : Int) ≤ (i : Int):=by have:=HI.out;omega
   have g2 : (i : Int) ≤ (s.size : Int):=by omega
   have g3 : fr ≤ i:=HI.out.1
   have g4 : i ≤ s.size:=by omega
   have HQ2 : Aside0 ((acc ++ [s.extract fr i]) ++ (linesS ((s.data.toList.take (i + 1)).drop (i + 1)) (s.data.toList.drop (i + 1))).map ofL = (linesS [] s.data.toList).map ofL):=⟨by
    have hq:=HQ.out
    rw [hcd,linesS,if_pos h10] at hq
    rw [ext_ofL,show (s.data.toList.take (i + 1)).drop (i + 1) = [] from List.drop_eq_nil_of_le (by rw [List.length_take];omega),← hq]
    simp⟩
   clear hcb hcd HQ
   go_wp2_with (first|((with_reducible refine gate_builtin (b:=.append) (xs:=#[.tmp 16,.tmp 21]) rfl ?_);at_builtin;refine Kd.R_append Kd.string (w0:=w) w.heap.size rfl (.tmp 16) (.tmp 21) 45 9 (.string ⟨#[]⟩) 16 rfl Tryz.underlying45 info9 rfl (by decide) (by omega) u3 acc (s.extract fr i) [.string (s.extract fr i)] (fun _=>True) (fun _=>False) rfl (by first|(go_simp;done)|(go_simp;rfl)) ?aP (fun _ hk=>hk.elim) ?aF ?aO ?aB ?aS ?aL ?_;(case aP=>exact rfl);(case aF=>exact (fun _ _=>trivial));(case aO=>exact HR.out.1);(case aB=>exact HR.out.2);(case aS=>exact HR.out.2.size);(case aL=>have:=HI.out;have:=HS.out;omega);intro v1 w4 ho4 hb4 hg4 hat4;have HR4 : Aside0 (Kd.R Kd.string 9 w4 w.heap.size (fun _=>True) v1 (acc ++ [s.extract fr i]) ∧ Below w.heap.size w w4):=⟨⟨ho4,hb4⟩⟩;clear ho4 hb4 hg4 hat4))
   go_roundg (s.size - (i + 1))
   case measure=>omega
   case rel=>exact ⟨i + 1,i + 1,_,by rw [hw],by rw [hw],by omega,⟨by have:=HI.out;rw [List.length_append];simp only [List.length_singleton];omega⟩,HQ2,HR4⟩
  have e1 : (bt s (i : Int) == 10) = false:=by
   rw [hcb,beq_eq_false_iff_ne]
   exact fun e=>h10 ((toNat_is c 10 (by omega)).1 e)
  have HQ2 : Aside0 (acc ++ (linesS ((s.data.toList.take (i + 1)).drop fr) (s.data.toList.drop (i + 1))).map ofL = (linesS [] s.data.toList).map ofL):=⟨by
   have hq:=HQ.out
   have htk : s.data.toList.take (i + 1) = s.data.toList.take i ++ [c]:=by
    rw [List.take_add_one]
    congr 1
    have:=congrArg List.head? hcd
    rw [List.head?_drop] at this
    rw [this]
    rfl
   rw [hcd,linesS,if_neg h10] at hq
   rw [htk,List.drop_append_of_le_length (by rw [List.length_take];have:=HI.out;have hz : s.data.toList.length = s.size:=Array.length_toList;omega)]
   exact hq⟩
  clear hcb hcd HQ
  go_wp2_with (fail)
  go_roundg (s.size - (i + 1))
  case measure=>omega
  case rel=>exact ⟨i + 1,fr,acc,rfl,by rw [hw],by omega,⟨by have:=HI.out;omega⟩,HQ2,HR⟩
 obtain rfl : i = s.size:=by have:=HI.out;omega
 have hltz : ¬ ((s.size : Int) < (s.size : Int)):=by omega
 have g1 : (fr : Int) ≤ (s.size : Int):=by have:=HI.out;omega
 have g3 : fr ≤ s.size:=HI.out.1
 have HQ2 : Aside0 (acc ++ [s.extract fr s.size] = (linesS [] s.data.toList).map ofL):=⟨by
  have hq:=HQ.out
  have hz : s.data.toList.length = s.size:=Array.length_toList
  rw [show s.data.toList.drop s.size = [] from List.drop_eq_nil_of_le (by omega),linesS] at hq
  rw [ext_ofL,← hq]
  rfl⟩
 clear HQ
 go_wp2_with (first|((with_reducible refine gate_builtin (b:=.append) (xs:=#[.tmp 25,.tmp 29]) rfl ?_);at_builtin;refine Kd.R_append Kd.string (w0:=w) w.heap.size rfl (.tmp 25) (.tmp 29) 45 9 (.string ⟨#[]⟩) 16 rfl Tryz.underlying45 info9 rfl (by decide) (by omega) u3 acc (s.extract fr s.size) [.string (s.extract fr s.size)] (fun _=>True) (fun _=>False) rfl (by first|(go_simp;done)|(go_simp;rfl)) ?aP (fun _ hk=>hk.elim) ?aF ?aO ?aB ?aS ?aL ?_;(case aP=>exact rfl);(case aF=>exact (fun _ _=>trivial));(case aO=>exact HR.out.1);(case aB=>exact HR.out.2);(case aS=>exact HR.out.2.size);(case aL=>have:=HI.out;have:=HS.out;omega);intro v1 w4 ho4 hb4 hg4 hat4;have HR4 : Aside0 (Kd.R Kd.string 9 w4 w.heap.size (fun _=>True) v1 (acc ++ [s.extract fr s.size]) ∧ Below w.heap.size w w4):=⟨⟨ho4,hb4⟩⟩;clear ho4 hb4 hg4 hat4))
 go_ret
 refine ⟨_,rfl,?_,HR4.out.2⟩
 rw [← HQ2.out]
 exact HR4.out.1
end Go.Proofs.YtfgffjchphignaaGreatDoor.Print
end
section
namespace Go.Proofs.YtfgffjchphignaaGreatDoor.Print
open Go.RowKit Go.Proofs.YtfgffjchphignaaGreatDoorX Go.Proofs.YtfgffjchphignaaGreatDoorW.PrintWords Go.Proofs.YtfgffjchphignaaGreatDoorW.PrintLast Go.Proofs.YtfgffjchphignaaGreatDoorW.PrintMore
/-! ### spillwayref3_Name: function 29 -/
def spillwayref3_Name.l0 : Nat → ByteArray → Int → Option (Bool)
 | 0,_,_=>none
 | k + 1,x0,x3=>if x3 < (x0.size : Int) then (if 0 ≤ x3 then (if (bt x0 x3) ≥ 97 then (if (bt x0 x3) ≤ 122 then (spillwayref3_Name.l0 k x0 (wrap64 (x3 + 1))) else (if (bt x0 x3) ≥ 65 then (if (bt x0 x3) ≤ 90 then (spillwayref3_Name.l0 k x0 (wrap64 (x3 + 1))) else (if (bt x0 x3) = 95 then (spillwayref3_Name.l0 k x0 (wrap64 (x3 + 1))) else (if x3 > 0 then (if (bt x0 x3) ≥ 48 then (if ((bt x0 x3) ≤ 57) then (spillwayref3_Name.l0 k x0 (wrap64 (x3 + 1))) else (some false)) else (some false)) else (some false)))) else (if (bt x0 x3) = 95 then (spillwayref3_Name.l0 k x0 (wrap64 (x3 + 1))) else (if x3 > 0 then (if (bt x0 x3) ≥ 48 then (if ((bt x0 x3) ≤ 57) then (spillwayref3_Name.l0 k x0 (wrap64 (x3 + 1))) else (some false)) else (some false)) else (some false))))) else (if (bt x0 x3) ≥ 65 then (if (bt x0 x3) ≤ 90 then (spillwayref3_Name.l0 k x0 (wrap64 (x3 + 1))) else (if (bt x0 x3) = 95 then (spillwayref3_Name.l0 k x0 (wrap64 (x3 + 1))) else (if x3 > 0 then (if (bt x0 x3) ≥ 48 then (if ((bt x0 x3) ≤ 57) then (spillwayref3_Name.l0 k x0 (wrap64 (x3 + 1))) else (some false)) else (some false)) else (some false)))) else (if (bt x0 x3) = 95 then (spillwayref3_Name.l0 k x0 (wrap64 (x3 + 1))) else (if x3 > 0 then (if (bt x0 x3) ≥ 48 then (if ((bt x0 x3) ≤ 57) then (spillwayref3_Name.l0 k x0 (wrap64 (x3 + 1))) else (some false)) else (some false)) else (some false))))) else (none)) else (if (x0.size : Int) ≥ 1 then (some (decide ((x0.size : Int) ≤ 20))) else (some false))
def spillwayref3_Name.f (k : Nat) (a0 : ByteArray) : Option (Bool):=spillwayref3_Name.l0 k a0 0
set_option maxHeartbeats 8000000 in
set_option maxRecDepth 100000 in
theorem spillwayref3_Name.calls (k : Nat) (a0 : ByteArray) (r : Bool) (w : World) (h : spillwayref3_Name.f k a0 = some r) :
  Calls Tryz.prog 29 #[.string a0] w fun e w'=>e = .returned (.bool r) ∧ Drawn0 w w':=by
 have H : (spillwayref3_Name.l0 k a0 0) = some r:=h
 clear h
 have H':=Aside0.mk H
 clear H
 go_enter Tryz.func29,Tryz.ntmps29
 go_wp2
 go_loopg [3] k (fun kq v3 w'=>∃ (x3_1 : Int),v3 = .int .i64 x3_1 ∧ Aside0 (spillwayref3_Name.l0 kq a0 x3_1 = some r) ∧ Aside0 (kq ≤ k) ∧ Drawn0 w w')
 case atStart=>exact ⟨(0),(by first|rfl|(simp;done)|(simp [*];done)),H',⟨Nat.le_refl _⟩,by repeat (first|exact Drawn0.refl _|apply Drawn0.step)⟩
 clear H'
 obtain ⟨x3_1,rfl,HA,HK1,⟨m1,rfl⟩⟩:=hrel
 cases gk with
 | zero=>exact absurd HA.out (by simp [spillwayref3_Name.l0])
 | succ k1 =>
  have H:=HA.out
  clear HA
  simp only [spillwayref3_Name.l0] at H
  by_cases c2 : x3_1 < (a0.size : Int)
  ·rw [if_pos c2] at H
   have c2b0 : decide (x3_1 < (a0.size : Int)) = true:=decide_eq_true c2
   clear c2
   by_cases c3 : 0 ≤ x3_1
   ·rw [if_pos c3] at H
    have c3b0 : decide (0 ≤ x3_1) = true:=decide_eq_true c3
    clear c3
    by_cases c5 : (bt a0 x3_1) ≥ 97
    ·rw [if_pos c5] at H
     have c5b0 : decide (97 ≤ (bt a0 x3_1)) = true:=decide_eq_true c5
     clear c5
     by_cases c6 : (bt a0 x3_1) ≤ 122
     ·rw [if_pos c6] at H
      have c6b0 : decide ((bt a0 x3_1) ≤ 122) = true:=decide_eq_true c6
      clear c6
      have H':=Aside0.mk H
      clear H
      have p4 : 0 ≤ (x3_1 : Int):=of_decide_eq_true (by first|(with_reducible assumption)|assumption)
      have q4 : x3_1 < (a0.size : Int):=of_decide_eq_true (by first|(with_reducible assumption)|assumption)
      have hx4:=bt_at a0 x3_1
      replace p4:=eq_true p4
      replace q4:=eq_true q4
      go_wp2
      go_roundg k1
      case measure=>have:=HK1.out;omega
      case rel=>exact ⟨(wrap64 (x3_1 + 1)),(by first|rfl|(simp;done)|(simp [*];done)),H',⟨by have:=HK1.out;omega⟩,by repeat (first|exact Drawn0.refl _|apply Drawn0.step)⟩
     rw [if_neg c6] at H
     have c6b0 : decide ((bt a0 x3_1) ≤ 122) = false:=decide_eq_false c6
     clear c6
     by_cases c7 : (bt a0 x3_1) ≥ 65
     ·rw [if_pos c7] at H
      have c7b0 : decide (65 ≤ (bt a0 x3_1)) = true:=decide_eq_true c7
      clear c7
      by_cases c8 : (bt a0 x3_1) ≤ 90
      ·rw [if_pos c8] at H
       have c8b0 : decide ((bt a0 x3_1) ≤ 90) = true:=decide_eq_true c8
       clear c8
       have H':=Aside0.mk H
       clear H
       have p4 : 0 ≤ (x3_1 : Int):=of_decide_eq_true (by first|(with_reducible assumption)|assumption)
       have q4 : x3_1 < (a0.size : Int):=of_decide_eq_true (by first|(with_reducible assumption)|assumption)
       have hx4:=bt_at a0 x3_1
       replace p4:=eq_true p4
       replace q4:=eq_true q4
       go_wp2
       go_roundg k1
       case measure=>have:=HK1.out;omega
       case rel=>exact ⟨(wrap64 (x3_1 + 1)),(by first|rfl|(simp;done)|(simp [*];done)),H',⟨by have:=HK1.out;omega⟩,by repeat (first|exact Drawn0.refl _|apply Drawn0.step)⟩
      rw [if_neg c8] at H
      have c8b0 : decide ((bt a0 x3_1) ≤ 90) = false:=decide_eq_false c8
      clear c8
      by_cases c9 : (bt a0 x3_1) = 95
      ·rw [if_pos c9] at H
       have c9b0 : ((bt a0 x3_1) == 95) = true:=beq_iff_eq.mpr c9
       have c9b1 : ((bt a0 x3_1) != 95) = false:=bne_eq_false_iff_eq.mpr c9
       clear c9
       have H':=Aside0.mk H
       clear H
       have p4 : 0 ≤ (x3_1 : Int):=of_decide_eq_true (by first|(with_reducible assumption)|assumption)
       have q4 : x3_1 < (a0.size : Int):=of_decide_eq_true (by first|(with_reducible assumption)|assumption)
       have hx4:=bt_at a0 x3_1
       replace p4:=eq_true p4
       replace q4:=eq_true q4
       go_wp2
       go_roundg k1
       case measure=>have:=HK1.out;omega
       case rel=>exact ⟨(wrap64 (x3_1 + 1)),(by first|rfl|(simp;done)|(simp [*];done)),H',⟨by have:=HK1.out;omega⟩,by repeat (first|exact Drawn0.refl _|apply Drawn0.step)⟩
      rw [if_neg c9] at H
      have c9b0 : ((bt a0 x3_1) == 95) = false:=beq_eq_false_iff_ne.mpr c9
      have c9b1 : ((bt a0 x3_1) != 95) = true:=bne_iff_ne.mpr c9
      by_cases c10 : x3_1 > 0
      ·rw [if_pos c10] at H
       have c10b0 : decide (0 < x3_1) = true:=decide_eq_true c10
       clear c10
       by_cases c11 : (bt a0 x3_1) ≥ 48
       ·rw [if_pos c11] at H
        have c11b0 : decide (48 ≤ (bt a0 x3_1)) = true:=decide_eq_true c11
        clear c11
        by_cases c12 : ((bt a0 x3_1) ≤ 57)
        ·rw [if_pos c12] at H
         have c12b0 : decide ((bt a0 x3_1) ≤ 57) = true:=decide_eq_true c12
         clear c12
         have H':=Aside0.mk H
         clear H
         have p4 : 0 ≤ (x3_1 : Int):=of_decide_eq_true (by first|(with_reducible assumption)|assumption)
         have q4 : x3_1 < (a0.size : Int):=of_decide_eq_true (by first|(with_reducible assumption)|assumption)
         have hx4:=bt_at a0 x3_1
         replace p4:=eq_true p4
         replace q4:=eq_true q4
         go_wp2
         go_roundg k1
         case measure=>have:=HK1.out;omega
         case rel=>exact ⟨(wrap64 (x3_1 + 1)),(by first|rfl|(simp;done)|(simp [*];done)),H',⟨by have:=HK1.out;omega⟩,by repeat (first|exact Drawn0.refl _|apply Drawn0.step)⟩
        rw [if_neg c12] at H
        have c12b0 : decide ((bt a0 x3_1) ≤ 57) = false:=decide_eq_false c12
        clear c12
        obtain rfl:=Option.some.inj H
        have p4 : 0 ≤ (x3_1 : Int):=of_decide_eq_true (by first|(with_reducible assumption)|assumption)
        have q4 : x3_1 < (a0.size : Int):=of_decide_eq_true (by first|(with_reducible assumption)|assumption)
        have hx4:=bt_at a0 x3_1
        replace p4:=eq_true p4
        replace q4:=eq_true q4
        go_wp2
        go_ret
        exact ⟨by first|rfl|(simp;done)|(simp [*];done),by repeat (first|exact Drawn0.refl _|apply Drawn0.step)⟩
       rw [if_neg c11] at H
       have c11b0 : decide (48 ≤ (bt a0 x3_1)) = false:=decide_eq_false c11
       clear c11
       obtain rfl:=Option.some.inj H
       have p4 : 0 ≤ (x3_1 : Int):=of_decide_eq_true (by first|(with_reducible assumption)|assumption)
       have q4 : x3_1 < (a0.size : Int):=of_decide_eq_true (by first|(with_reducible assumption)|assumption)
       have hx4:=bt_at a0 x3_1
       replace p4:=eq_true p4
       replace q4:=eq_true q4
       go_wp2
       go_ret
       exact ⟨by first|rfl|(simp;done)|(simp [*];done),by repeat (first|exact Drawn0.refl _|apply Drawn0.step)⟩
      rw [if_neg c10] at H
      have c10b0 : decide (0 < x3_1) = false:=decide_eq_false c10
      clear c10
      obtain rfl:=Option.some.inj H
      have p4 : 0 ≤ (x3_1 : Int):=of_decide_eq_true (by first|(with_reducible assumption)|assumption)
      have q4 : x3_1 < (a0.size : Int):=of_decide_eq_true (by first|(with_reducible assumption)|assumption)
      have hx4:=bt_at a0 x3_1
      replace p4:=eq_true p4
      replace q4:=eq_true q4
      go_wp2
      go_ret
      exact ⟨by first|rfl|(simp;done)|(simp [*];done),by repeat (first|exact Drawn0.refl _|apply Drawn0.step)⟩
     rw [if_neg c7] at H
     have c7b0 : decide (65 ≤ (bt a0 x3_1)) = false:=decide_eq_false c7
     clear c7
     by_cases c13 : (bt a0 x3_1) = 95
     ·rw [if_pos c13] at H
      have c13b0 : ((bt a0 x3_1) == 95) = true:=beq_iff_eq.mpr c13
      have c13b1 : ((bt a0 x3_1) != 95) = false:=bne_eq_false_iff_eq.mpr c13
      clear c13
      have H':=Aside0.mk H
      clear H
      have p4 : 0 ≤ (x3_1 : Int):=of_decide_eq_true (by first|(with_reducible assumption)|assumption)
      have q4 : x3_1 < (a0.size : Int):=of_decide_eq_true (by first|(with_reducible assumption)|assumption)
      have hx4:=bt_at a0 x3_1
      replace p4:=eq_true p4
      replace q4:=eq_true q4
      go_wp2
      go_roundg k1
      case measure=>have:=HK1.out;omega
      case rel=>exact ⟨(wrap64 (x3_1 + 1)),(by first|rfl|(simp;done)|(simp [*];done)),H',⟨by have:=HK1.out;omega⟩,by repeat (first|exact Drawn0.refl _|apply Drawn0.step)⟩
     rw [if_neg c13] at H
     have c13b0 : ((bt a0 x3_1) == 95) = false:=beq_eq_false_iff_ne.mpr c13
     have c13b1 : ((bt a0 x3_1) != 95) = true:=bne_iff_ne.mpr c13
     by_cases c14 : x3_1 > 0
     ·rw [if_pos c14] at H
      have c14b0 : decide (0 < x3_1) = true:=decide_eq_true c14
      clear c14
      by_cases c15 : (bt a0 x3_1) ≥ 48
      ·rw [if_pos c15] at H
       have c15b0 : decide (48 ≤ (bt a0 x3_1)) = true:=decide_eq_true c15
       clear c15
       by_cases c16 : ((bt a0 x3_1) ≤ 57)
       ·rw [if_pos c16] at H
        have c16b0 : decide ((bt a0 x3_1) ≤ 57) = true:=decide_eq_true c16
        clear c16
        have H':=Aside0.mk H
        clear H
        have p4 : 0 ≤ (x3_1 : Int):=of_decide_eq_true (by first|(with_reducible assumption)|assumption)
        have q4 : x3_1 < (a0.size : Int):=of_decide_eq_true (by first|(with_reducible assumption)|assumption)
        have hx4:=bt_at a0 x3_1
        replace p4:=eq_true p4
        replace q4:=eq_true q4
        go_wp2
        go_roundg k1
        case measure=>have:=HK1.out;omega
        case rel=>exact ⟨(wrap64 (x3_1 + 1)),(by first|rfl|(simp;done)|(simp [*];done)),H',⟨by have:=HK1.out;omega⟩,by repeat (first|exact Drawn0.refl _|apply Drawn0.step)⟩
       rw [if_neg c16] at H
       have c16b0 : decide ((bt a0 x3_1) ≤ 57) = false:=decide_eq_false c16
       clear c16
       obtain rfl:=Option.some.inj H
       have p4 : 0 ≤ (x3_1 : Int):=of_decide_eq_true (by first|(with_reducible assumption)|assumption)
       have q4 : x3_1 < (a0.size : Int):=of_decide_eq_true (by first|(with_reducible assumption)|assumption)
       have hx4:=bt_at a0 x3_1
       replace p4:=eq_true p4
       replace q4:=eq_true q4
       go_wp2
       go_ret
       exact ⟨by first|rfl|(simp;done)|(simp [*];done),by repeat (first|exact Drawn0.refl _|apply Drawn0.step)⟩
      rw [if_neg c15] at H
      have c15b0 : decide (48 ≤ (bt a0 x3_1)) = false:=decide_eq_false c15
      clear c15
      obtain rfl:=Option.some.inj H
      have p4 : 0 ≤ (x3_1 : Int):=of_decide_eq_true (by first|(with_reducible assumption)|assumption)
      have q4 : x3_1 < (a0.size : Int):=of_decide_eq_true (by first|(with_reducible assumption)|assumption)
      have hx4:=bt_at a0 x3_1
      replace p4:=eq_true p4
      replace q4:=eq_true q4
      go_wp2
      go_ret
      exact ⟨by first|rfl|(simp;done)|(simp [*];done),by repeat (first|exact Drawn0.refl _|apply Drawn0.step)⟩
     rw [if_neg c14] at H
     have c14b0 : decide (0 < x3_1) = false:=decide_eq_false c14
     clear c14
     obtain rfl:=Option.some.inj H
     have p4 : 0 ≤ (x3_1 : Int):=of_decide_eq_true (by first|(with_reducible assumption)|assumption)
     have q4 : x3_1 < (a0.size : Int):=of_decide_eq_true (by first|(with_reducible assumption)|assumption)
     have hx4:=bt_at a0 x3_1
     replace p4:=eq_true p4
     replace q4:=eq_true q4
     go_wp2
     go_ret
     exact ⟨by first|rfl|(simp;done)|(simp [*];done),by repeat (first|exact Drawn0.refl _|apply Drawn0.step)⟩
    rw [if_neg c5] at H
    have c5b0 : decide (97 ≤ (bt a0 x3_1)) = false:=decide_eq_false c5
    clear c5
    by_cases c17 : (bt a0 x3_1) ≥ 65
    ·rw [if_pos c17] at H
     have c17b0 : decide (65 ≤ (bt a0 x3_1)) = true:=decide_eq_true c17
     clear c17
     by_cases c18 : (bt a0 x3_1) ≤ 90
     ·rw [if_pos c18] at H
      have c18b0 : decide ((bt a0 x3_1) ≤ 90) = true:=decide_eq_true c18
      clear c18
      have H':=Aside0.mk H
      clear H
      have p4 : 0 ≤ (x3_1 : Int):=of_decide_eq_true (by first|(with_reducible assumption)|assumption)
      have q4 : x3_1 < (a0.size : Int):=of_decide_eq_true (by first|(with_reducible assumption)|assumption)
      have hx4:=bt_at a0 x3_1
      replace p4:=eq_true p4
      replace q4:=eq_true q4
      go_wp2
      go_roundg k1
      case measure=>have:=HK1.out;omega
      case rel=>exact ⟨(wrap64 (x3_1 + 1)),(by first|rfl|(simp;done)|(simp [*];done)),H',⟨by have:=HK1.out;omega⟩,by repeat (first|exact Drawn0.refl _|apply Drawn0.step)⟩
     rw [if_neg c18] at H
     have c18b0 : decide ((bt a0 x3_1) ≤ 90) = false:=decide_eq_false c18
     clear c18
     by_cases c19 : (bt a0 x3_1) = 95
     ·rw [if_pos c19] at H
      have c19b0 : ((bt a0 x3_1) == 95) = true:=beq_iff_eq.mpr c19
      have c19b1 : ((bt a0 x3_1) != 95) = false:=bne_eq_false_iff_eq.mpr c19
      clear c19
      have H':=Aside0.mk H
      clear H
      have p4 : 0 ≤ (x3_1 : Int):=of_decide_eq_true (by first|(with_reducible assumption)|assumption)
      have q4 : x3_1 < (a0.size : Int):=of_decide_eq_true (by first|(with_reducible assumption)|assumption)
      have hx4:=bt_at a0 x3_1
      replace p4:=eq_true p4
      replace q4:=eq_true q4
      go_wp2
      go_roundg k1
      case measure=>have:=HK1.out;omega
      case rel=>exact ⟨(wrap64 (x3_1 + 1)),(by first|rfl|(simp;done)|(simp [*];done)),H',⟨by have:=HK1.out;omega⟩,by repeat (first|exact Drawn0.refl _|apply Drawn0.step)⟩
     rw [if_neg c19] at H
     have c19b0 : ((bt a0 x3_1) == 95) = false:=beq_eq_false_iff_ne.mpr c19
     have c19b1 : ((bt a0 x3_1) != 95) = true:=bne_iff_ne.mpr c19
     by_cases c20 : x3_1 > 0
     ·rw [if_pos c20] at H
      have c20b0 : decide (0 < x3_1) = true:=decide_eq_true c20
      clear c20
      by_cases c21 : (bt a0 x3_1) ≥ 48
      ·rw [if_pos c21] at H
       have c21b0 : decide (48 ≤ (bt a0 x3_1)) = true:=decide_eq_true c21
       clear c21
       by_cases c22 : ((bt a0 x3_1) ≤ 57)
       ·rw [if_pos c22] at H
        have c22b0 : decide ((bt a0 x3_1) ≤ 57) = true:=decide_eq_true c22
        clear c22
        have H':=Aside0.mk H
        clear H
        have p4 : 0 ≤ (x3_1 : Int):=of_decide_eq_true (by first|(with_reducible assumption)|assumption)
        have q4 : x3_1 < (a0.size : Int):=of_decide_eq_true (by first|(with_reducible assumption)|assumption)
        have hx4:=bt_at a0 x3_1
        replace p4:=eq_true p4
        replace q4:=eq_true q4
        go_wp2
        go_roundg k1
        case measure=>have:=HK1.out;omega
        case rel=>exact ⟨(wrap64 (x3_1 + 1)),(by first|rfl|(simp;done)|(simp [*];done)),H',⟨by have:=HK1.out;omega⟩,by repeat (first|exact Drawn0.refl _|apply Drawn0.step)⟩
       rw [if_neg c22] at H
       have c22b0 : decide ((bt a0 x3_1) ≤ 57) = false:=decide_eq_false c22
       clear c22
       obtain rfl:=Option.some.inj H
       have p4 : 0 ≤ (x3_1 : Int):=of_decide_eq_true (by first|(with_reducible assumption)|assumption)
       have q4 : x3_1 < (a0.size : Int):=of_decide_eq_true (by first|(with_reducible assumption)|assumption)
       have hx4:=bt_at a0 x3_1
       replace p4:=eq_true p4
       replace q4:=eq_true q4
       go_wp2
       go_ret
       exact ⟨by first|rfl|(simp;done)|(simp [*];done),by repeat (first|exact Drawn0.refl _|apply Drawn0.step)⟩
      rw [if_neg c21] at H
      have c21b0 : decide (48 ≤ (bt a0 x3_1)) = false:=decide_eq_false c21
      clear c21
      obtain rfl:=Option.some.inj H
      have p4 : 0 ≤ (x3_1 : Int):=of_decide_eq_true (by first|(with_reducible assumption)|assumption)
      have q4 : x3_1 < (a0.size : Int):=of_decide_eq_true (by first|(with_reducible assumption)|assumption)
      have hx4:=bt_at a0 x3_1
      replace p4:=eq_true p4
      replace q4:=eq_true q4
      go_wp2
      go_ret
      exact ⟨by first|rfl|(simp;done)|(simp [*];done),by repeat (first|exact Drawn0.refl _|apply Drawn0.step)⟩
     rw [if_neg c20] at H
     have c20b0 : decide (0 < x3_1) = false:=decide_eq_false c20
     clear c20
     obtain rfl:=Option.some.inj H
     have p4 : 0 ≤ (x3_1 : Int):=of_decide_eq_true (by first|(with_reducible assumption)|assumption)
     have q4 : x3_1 < (a0.size : Int):=of_decide_eq_true (by first|(with_reducible assumption)|assumption)
     have hx4:=bt_at a0 x3_1
     replace p4:=eq_true p4
     replace q4:=eq_true q4
     go_wp2
     go_ret
     exact ⟨by first|rfl|(simp;done)|(simp [*];done),by repeat (first|exact Drawn0.refl _|apply Drawn0.step)⟩
    rw [if_neg c17] at H
    have c17b0 : decide (65 ≤ (bt a0 x3_1)) = false:=decide_eq_false c17
    clear c17
    by_cases c23 : (bt a0 x3_1) = 95
    ·rw [if_pos c23] at H
     have c23b0 : ((bt a0 x3_1) == 95) = true:=beq_iff_eq.mpr c23
     have c23b1 : ((bt a0 x3_1) != 95) = false:=bne_eq_false_iff_eq.mpr c23
     clear c23
     have H':=Aside0.mk H
     clear H
     have p4 : 0 ≤ (x3_1 : Int):=of_decide_eq_true (by first|(with_reducible assumption)|assumption)
     have q4 : x3_1 < (a0.size : Int):=of_decide_eq_true (by first|(with_reducible assumption)|assumption)
     have hx4:=bt_at a0 x3_1
     replace p4:=eq_true p4
     replace q4:=eq_true q4
     go_wp2
     go_roundg k1
     case measure=>have:=HK1.out;omega
     case rel=>exact ⟨(wrap64 (x3_1 + 1)),(by first|rfl|(simp;done)|(simp [*];done)),H',⟨by have:=HK1.out;omega⟩,by repeat (first|exact Drawn0.refl _|apply Drawn0.step)⟩
    rw [if_neg c23] at H
    have c23b0 : ((bt a0 x3_1) == 95) = false:=beq_eq_false_iff_ne.mpr c23
    have c23b1 : ((bt a0 x3_1) != 95) = true:=bne_iff_ne.mpr c23
    by_cases c24 : x3_1 > 0
    ·rw [if_pos c24] at H
     have c24b0 : decide (0 < x3_1) = true:=decide_eq_true c24
     clear c24
     by_cases c25 : (bt a0 x3_1) ≥ 48
     ·rw [if_pos c25] at H
      have c25b0 : decide (48 ≤ (bt a0 x3_1)) = true:=decide_eq_true c25
      clear c25
      by_cases c26 : ((bt a0 x3_1) ≤ 57)
      ·rw [if_pos c26] at H
       have c26b0 : decide ((bt a0 x3_1) ≤ 57) = true:=decide_eq_true c26
       clear c26
       have H':=Aside0.mk H
       clear H
       have p4 : 0 ≤ (x3_1 : Int):=of_decide_eq_true (by first|(with_reducible assumption)|assumption)
       have q4 : x3_1 < (a0.size : Int):=of_decide_eq_true (by first|(with_reducible assumption)|assumption)
       have hx4:=bt_at a0 x3_1
       replace p4:=eq_true p4
       replace q4:=eq_true q4
       go_wp2
       go_roundg k1
       case measure=>have:=HK1.out;omega
       case rel=>exact ⟨(wrap64 (x3_1 + 1)),(by first|rfl|(simp;done)|(simp [*];done)),H',⟨by have:=HK1.out;omega⟩,by repeat (first|exact Drawn0.refl _|apply Drawn0.step)⟩
      rw [if_neg c26] at H
      have c26b0 : decide ((bt a0 x3_1) ≤ 57) = false:=decide_eq_false c26
      clear c26
      obtain rfl:=Option.some.inj H
      have p4 : 0 ≤ (x3_1 : Int):=of_decide_eq_true (by first|(with_reducible assumption)|assumption)
      have q4 : x3_1 < (a0.size : Int):=of_decide_eq_true (by first|(with_reducible assumption)|assumption)
      have hx4:=bt_at a0 x3_1
      replace p4:=eq_true p4
      replace q4:=eq_true q4
      go_wp2
      go_ret
      exact ⟨by first|rfl|(simp;done)|(simp [*];done),by repeat (first|exact Drawn0.refl _|apply Drawn0.step)⟩
     rw [if_neg c25] at H
     have c25b0 : decide (48 ≤ (bt a0 x3_1)) = false:=decide_eq_false c25
     clear c25
     obtain rfl:=Option.some.inj H
     have p4 : 0 ≤ (x3_1 : Int):=of_decide_eq_true (by first|(with_reducible assumption)|assumption)
     have q4 : x3_1 < (a0.size : Int):=of_decide_eq_true (by first|(with_reducible assumption)|assumption)
     have hx4:=bt_at a0 x3_1
     replace p4:=eq_true p4
     replace q4:=eq_true q4
     go_wp2
     go_ret
     exact ⟨by first|rfl|(simp;done)|(simp [*];done),by repeat (first|exact Drawn0.refl _|apply Drawn0.step)⟩
    rw [if_neg c24] at H
    have c24b0 : decide (0 < x3_1) = false:=decide_eq_false c24
    clear c24
    obtain rfl:=Option.some.inj H
    have p4 : 0 ≤ (x3_1 : Int):=of_decide_eq_true (by first|(with_reducible assumption)|assumption)
    have q4 : x3_1 < (a0.size : Int):=of_decide_eq_true (by first|(with_reducible assumption)|assumption)
    have hx4:=bt_at a0 x3_1
    replace p4:=eq_true p4
    replace q4:=eq_true q4
    go_wp2
    go_ret
    exact ⟨by first|rfl|(simp;done)|(simp [*];done),by repeat (first|exact Drawn0.refl _|apply Drawn0.step)⟩
   rw [if_neg c3] at H
   exact absurd H (by simp)
  rw [if_neg c2] at H
  have c2b0 : decide (x3_1 < (a0.size : Int)) = false:=decide_eq_false c2
  clear c2
  by_cases c27 : (a0.size : Int) ≥ 1
  ·rw [if_pos c27] at H
   have c27b0 : decide (1 ≤ (a0.size : Int)) = true:=decide_eq_true c27
   have c27b1 : decide (1 ≤ a0.size) = true:=decide_eq_true (by omega)
   clear c27
   obtain rfl:=Option.some.inj H
   go_wp2
   go_ret
   exact ⟨by first|rfl|(simp;done)|(simp [*];done),by repeat (first|exact Drawn0.refl _|apply Drawn0.step)⟩
  rw [if_neg c27] at H
  have c27b0 : decide (1 ≤ (a0.size : Int)) = false:=decide_eq_false c27
  have c27b1 : decide (1 ≤ a0.size) = false:=decide_eq_false (by omega)
  clear c27
  obtain rfl:=Option.some.inj H
  go_wp2
  go_ret
  exact ⟨by first|rfl|(simp;done)|(simp [*];done),by repeat (first|exact Drawn0.refl _|apply Drawn0.step)⟩
/-! ### spillwayref3_Get: function 33 -/
def spillwayref3_Get.l0 : Nat → List (S60) → ByteArray → Int → Option (ByteArray)
 | 0,_,_,_=>none
 | k + 1,x0,x1,x5=>if x5 < (x0.length : Int) then (if 0 ≤ x5 then (if ((rd_T60 x0 x5).f0).toList = x1.toList then (some ((rd_T60 x0 x5).f1)) else (spillwayref3_Get.l0 k x0 x1 (wrap64 (x5 + 1)))) else (none)) else (some (⟨#[]⟩ : ByteArray))
def spillwayref3_Get.f (k : Nat) (l0 : List (S60)) (a1 : ByteArray) : Option (ByteArray):=spillwayref3_Get.l0 k l0 a1 0
set_option maxHeartbeats 8000000 in
set_option maxRecDepth 100000 in
theorem spillwayref3_Get.calls (k : Nat) (A0 : Option Addr) (c0 : Nat) (l0 : List (S60)) (a1 : ByteArray) (r : ByteArray) (w : World) (hr0 : Kd.C k60 w A0 l0.length l0) (hc0 : l0.length ≤ c0) (h : spillwayref3_Get.f k l0 a1 = some r) :
  Calls Tryz.prog 33 #[.slice A0 l0.length c0,.string a1] w fun e w'=>e = .returned (.string r) ∧ Drawn0 w w':=by
 have HR0:=Aside0.mk hr0
 have HC0:=Aside0.mk hc0
 clear hr0 hc0
 have H : (spillwayref3_Get.l0 k l0 a1 0) = some r:=h
 clear h
 have H':=Aside0.mk H
 clear H
 go_enter Tryz.func33,Tryz.ntmps33
 go_wp2
 go_loopg [5] k (fun kq v5 w'=>∃ (x5_1 : Int),v5 = .int .i64 x5_1 ∧ Aside0 (spillwayref3_Get.l0 kq l0 a1 x5_1 = some r) ∧ Aside0 (kq ≤ k) ∧ Drawn0 w w')
 case atStart=>exact ⟨(0),(by first|rfl|(simp;done)|(simp [*];done)),H',⟨Nat.le_refl _⟩,by repeat (first|exact Drawn0.refl _|apply Drawn0.step)⟩
 clear H'
 try clear p2
 obtain ⟨x5_1,rfl,HA,HK1,⟨m1,rfl⟩⟩:=hrel
 cases gk with
 | zero=>exact absurd HA.out (by simp [spillwayref3_Get.l0])
 | succ k1 =>
  have H:=HA.out
  clear HA
  simp only [spillwayref3_Get.l0] at H
  by_cases c3 : x5_1 < (l0.length : Int)
  ·rw [if_pos c3] at H
   have c3b0 : decide (x5_1 < (l0.length : Int)) = true:=decide_eq_true c3
   clear c3
   by_cases c4 : 0 ≤ x5_1
   ·rw [if_pos c4] at H
    have c4b0 : decide (0 ≤ x5_1) = true:=decide_eq_true c4
    clear c4
    by_cases c5 : ((rd_T60 l0 x5_1).f0).toList = a1.toList
    ·rw [if_pos c5] at H
     have c5b0 : (((rd_T60 l0 x5_1).f0).toList == a1.toList) = true:=beq_iff_eq.mpr c5
     have c5b1 : (((rd_T60 l0 x5_1).f0).toList != a1.toList) = false:=bne_eq_false_iff_eq.mpr c5
     clear c5
     obtain rfl:=Option.some.inj H
     have p210 : 0 ≤ (x5_1 : Int):=of_decide_eq_true (by first|(with_reducible assumption)|assumption)
     have q210 : x5_1 < (l0.length : Int):=of_decide_eq_true (by first|(with_reducible assumption)|assumption)
     obtain ⟨ad210,e210,hx210_0,hx210_1⟩:=at_T60 HR0.out x5_1 p210 q210
     cases e210
     replace p210:=eq_true p210
     replace q210:=eq_true q210
     have p211 : 0 ≤ (x5_1 : Int):=of_decide_eq_true (by first|(with_reducible assumption)|assumption)
     have q211 : x5_1 < (l0.length : Int):=of_decide_eq_true (by first|(with_reducible assumption)|assumption)
     obtain ⟨ad211,e211,hx211_0,hx211_1⟩:=at_T60 HR0.out x5_1 p211 q211
     obtain rfl : ad210 = ad211:=(by injection e211)
     replace p211:=eq_true p211
     replace q211:=eq_true q211
     go_wp2
     go_ret
     exact ⟨by first|rfl|(simp;done)|(simp [*];done),by repeat (first|exact Drawn0.refl _|apply Drawn0.step)⟩
    rw [if_neg c5] at H
    have c5b0 : (((rd_T60 l0 x5_1).f0).toList == a1.toList) = false:=beq_eq_false_iff_ne.mpr c5
    have c5b1 : (((rd_T60 l0 x5_1).f0).toList != a1.toList) = true:=bne_iff_ne.mpr c5
    have H':=Aside0.mk H
    clear H
    have p210 : 0 ≤ (x5_1 : Int):=of_decide_eq_true (by first|(with_reducible assumption)|assumption)
    have q210 : x5_1 < (l0.length : Int):=of_decide_eq_true (by first|(with_reducible assumption)|assumption)
    obtain ⟨ad210,e210,hx210_0,hx210_1⟩:=at_T60 HR0.out x5_1 p210 q210
    cases e210
    replace p210:=eq_true p210
    replace q210:=eq_true q210
    go_wp2
    go_roundg k1
    case measure=>have:=HK1.out;omega
    case rel=>exact ⟨(wrap64 (x5_1 + 1)),(by first|rfl|(simp;done)|(simp [*];done)),H',⟨by have:=HK1.out;omega⟩,by repeat (first|exact Drawn0.refl _|apply Drawn0.step)⟩
   rw [if_neg c4] at H
   exact absurd H (by simp)
  rw [if_neg c3] at H
  have c3b0 : decide (x5_1 < (l0.length : Int)) = false:=decide_eq_false c3
  clear c3
  obtain rfl:=Option.some.inj H
  go_wp2
  go_ret
  exact ⟨by first|rfl|(simp;done)|(simp [*];done),by repeat (first|exact Drawn0.refl _|apply Drawn0.step)⟩
/-! ### spillwayref3_Quote: function 18 -/
def spillwayref3_Quote.l0 : Nat → ByteArray → ByteArray → Int → Option (ByteArray)
 | 0,_,_,_=>none
 | k + 1,x0,x3,x4=>if x4 < (x0.size : Int) then (if 0 ≤ x4 then (if (bt x0 x4) = 34 then (if x3.size + 1 ≤ 9223372036854775807 then (if x4 ≤ (wrap64 (x4 + 1)) then (if (wrap64 (x4 + 1)) ≤ (x0.size : Int) then (if (x3 ++ (⟨#[92]⟩ : ByteArray)).size + (x0.extract (x4 : Int).toNat ((wrap64 (x4 + 1)) : Int).toNat).size ≤ 9223372036854775807 then (spillwayref3_Quote.l0 k x0 ((x3 ++ (⟨#[92]⟩ : ByteArray)) ++ (x0.extract (x4 : Int).toNat ((wrap64 (x4 + 1)) : Int).toNat)) (wrap64 (x4 + 1))) else (none)) else (none)) else (none)) else (none)) else (if (bt x0 x4) = 92 then (if x3.size + 1 ≤ 9223372036854775807 then (if x4 ≤ (wrap64 (x4 + 1)) then (if (wrap64 (x4 + 1)) ≤ (x0.size : Int) then (if (x3 ++ (⟨#[92]⟩ : ByteArray)).size + (x0.extract (x4 : Int).toNat ((wrap64 (x4 + 1)) : Int).toNat).size ≤ 9223372036854775807 then (spillwayref3_Quote.l0 k x0 ((x3 ++ (⟨#[92]⟩ : ByteArray)) ++ (x0.extract (x4 : Int).toNat ((wrap64 (x4 + 1)) : Int).toNat)) (wrap64 (x4 + 1))) else (none)) else (none)) else (none)) else (none)) else (if x4 ≤ (wrap64 (x4 + 1)) then (if (wrap64 (x4 + 1)) ≤ (x0.size : Int) then (if x3.size + (x0.extract (x4 : Int).toNat ((wrap64 (x4 + 1)) : Int).toNat).size ≤ 9223372036854775807 then (spillwayref3_Quote.l0 k x0 (x3 ++ (x0.extract (x4 : Int).toNat ((wrap64 (x4 + 1)) : Int).toNat)) (wrap64 (x4 + 1))) else (none)) else (none)) else (none)))) else (none)) else (if x3.size + 1 ≤ 9223372036854775807 then (some (x3 ++ (⟨#[34]⟩ : ByteArray))) else (none))
def spillwayref3_Quote.f (k : Nat) (a0 : ByteArray) : Option (ByteArray):=spillwayref3_Quote.l0 k a0 (⟨#[34]⟩ : ByteArray) 0
set_option maxHeartbeats 8000000 in
set_option maxRecDepth 100000 in
theorem spillwayref3_Quote.calls (k : Nat) (a0 : ByteArray) (r : ByteArray) (w : World) (h : spillwayref3_Quote.f k a0 = some r) :
  Calls Tryz.prog 18 #[.string a0] w fun e w'=>e = .returned (.string r) ∧ Drawn0 w w':=by
 have H : (spillwayref3_Quote.l0 k a0 (⟨#[34]⟩ : ByteArray) 0) = some r:=h
 clear h
 have H':=Aside0.mk H
 clear H
 go_enter Tryz.func18,Tryz.ntmps18
 go_wp2
 go_loopg [3,4] k (fun kq v3 v4 w'=>∃ (x3_1 : ByteArray) (x4_1 : Int),v3 = .string x3_1 ∧ v4 = .int .i64 x4_1 ∧ Aside0 (spillwayref3_Quote.l0 kq a0 x3_1 x4_1 = some r) ∧ Aside0 (kq ≤ k) ∧ Drawn0 w w')
 case atStart=>exact ⟨((⟨#[34]⟩ : ByteArray)),(0),(by first|rfl|(simp;done)|(simp [*];done)),(by first|rfl|(simp;done)|(simp [*];done)),H',⟨Nat.le_refl _⟩,by repeat (first|exact Drawn0.refl _|apply Drawn0.step)⟩
 clear H'
 try clear c1
 obtain ⟨x3_1,x4_1,rfl,rfl,HA,HK1,⟨m1,rfl⟩⟩:=hrel
 cases gk with
 | zero=>exact absurd HA.out (by simp [spillwayref3_Quote.l0])
 | succ k1 =>
  have H:=HA.out
  clear HA
  simp only [spillwayref3_Quote.l0] at H
  by_cases c2 : x4_1 < (a0.size : Int)
  ·rw [if_pos c2] at H
   have c2b0 : decide (x4_1 < (a0.size : Int)) = true:=decide_eq_true c2
   clear c2
   by_cases c3 : 0 ≤ x4_1
   ·rw [if_pos c3] at H
    have c3b0 : decide (0 ≤ x4_1) = true:=decide_eq_true c3
    clear c3
    by_cases c5 : (bt a0 x4_1) = 34
    ·rw [if_pos c5] at H
     have c5b0 : ((bt a0 x4_1) == 34) = true:=beq_iff_eq.mpr c5
     have c5b1 : ((bt a0 x4_1) != 34) = false:=bne_eq_false_iff_eq.mpr c5
     clear c5
     by_cases c6 : x3_1.size + 1 ≤ 9223372036854775807
     ·rw [if_pos c6] at H
      have c6b0:=eq_true c6
      have c6b1 : decide (x3_1.size + 1 ≤ 9223372036854775807) = true:=decide_eq_true c6
      try have c6b2 : (9223372036854775807 < x3_1.size + 1) = False:=eq_false (Nat.not_lt.2 c6)
      have c7b0:=eq_true (of_decide_eq_true (by first|(with_reducible assumption)|assumption) : 0 ≤ x4_1)
      by_cases c8 : x4_1 ≤ (wrap64 (x4_1 + 1))
      ·rw [if_pos c8] at H
       have c8b0:=eq_true c8
       have c8b1 : decide (x4_1 ≤ (wrap64 (x4_1 + 1))) = true:=decide_eq_true c8
       by_cases c9 : (wrap64 (x4_1 + 1)) ≤ (a0.size : Int)
       ·rw [if_pos c9] at H
        have c9b0:=eq_true c9
        have c9b1 : decide ((wrap64 (x4_1 + 1)) ≤ (a0.size : Int)) = true:=decide_eq_true c9
        by_cases c10 : (x3_1 ++ (⟨#[92]⟩ : ByteArray)).size + (a0.extract (x4_1 : Int).toNat ((wrap64 (x4_1 + 1)) : Int).toNat).size ≤ 9223372036854775807
        ·rw [if_pos c10] at H
         have c10b0:=eq_true c10
         have c10b1 : decide ((x3_1 ++ (⟨#[92]⟩ : ByteArray)).size + (a0.extract (x4_1 : Int).toNat ((wrap64 (x4_1 + 1)) : Int).toNat).size ≤ 9223372036854775807) = true:=decide_eq_true c10
         try have c10b2 : (9223372036854775807 < (x3_1 ++ (⟨#[92]⟩ : ByteArray)).size + (a0.extract (x4_1 : Int).toNat ((wrap64 (x4_1 + 1)) : Int).toNat).size) = False:=eq_false (Nat.not_lt.2 c10)
         try (have c10b3:=c10;simp only [ByteArray.size_append,sz_one] at c10b3;have c10b4:=eq_false (Nat.not_lt.2 c10b3);clear c10b3)
         have H':=Aside0.mk H
         clear H
         have p4 : 0 ≤ (x4_1 : Int):=of_decide_eq_true (by first|(with_reducible assumption)|assumption)
         have q4 : x4_1 < (a0.size : Int):=of_decide_eq_true (by first|(with_reducible assumption)|assumption)
         have hx4:=bt_at a0 x4_1
         replace p4:=eq_true p4
         replace q4:=eq_true q4
         go_wp2
         go_roundg k1
         case measure=>have:=HK1.out;omega
         case rel=>exact ⟨((x3_1 ++ (⟨#[92]⟩ : ByteArray)) ++ (a0.extract (x4_1 : Int).toNat ((wrap64 (x4_1 + 1)) : Int).toNat)),(wrap64 (x4_1 + 1)),(by first|rfl|(simp;done)|(simp [*];done)),(by first|rfl|(simp;done)|(simp [*];done)),H',⟨by have:=HK1.out;omega⟩,by repeat (first|exact Drawn0.refl _|apply Drawn0.step)⟩
        rw [if_neg c10] at H
        exact absurd H (by simp)
       rw [if_neg c9] at H
       exact absurd H (by simp)
      rw [if_neg c8] at H
      exact absurd H (by simp)
     rw [if_neg c6] at H
     exact absurd H (by simp)
    rw [if_neg c5] at H
    have c5b0 : ((bt a0 x4_1) == 34) = false:=beq_eq_false_iff_ne.mpr c5
    have c5b1 : ((bt a0 x4_1) != 34) = true:=bne_iff_ne.mpr c5
    by_cases c12 : (bt a0 x4_1) = 92
    ·rw [if_pos c12] at H
     have c12b0 : ((bt a0 x4_1) == 92) = true:=beq_iff_eq.mpr c12
     have c12b1 : ((bt a0 x4_1) != 92) = false:=bne_eq_false_iff_eq.mpr c12
     clear c12
     by_cases c13 : x3_1.size + 1 ≤ 9223372036854775807
     ·rw [if_pos c13] at H
      have c13b0:=eq_true c13
      have c13b1 : decide (x3_1.size + 1 ≤ 9223372036854775807) = true:=decide_eq_true c13
      try have c13b2 : (9223372036854775807 < x3_1.size + 1) = False:=eq_false (Nat.not_lt.2 c13)
      have c14b0:=eq_true (of_decide_eq_true (by first|(with_reducible assumption)|assumption) : 0 ≤ x4_1)
      by_cases c15 : x4_1 ≤ (wrap64 (x4_1 + 1))
      ·rw [if_pos c15] at H
       have c15b0:=eq_true c15
       have c15b1 : decide (x4_1 ≤ (wrap64 (x4_1 + 1))) = true:=decide_eq_true c15
       by_cases c16 : (wrap64 (x4_1 + 1)) ≤ (a0.size : Int)
       ·rw [if_pos c16] at H
        have c16b0:=eq_true c16
        have c16b1 : decide ((wrap64 (x4_1 + 1)) ≤ (a0.size : Int)) = true:=decide_eq_true c16
        by_cases c17 : (x3_1 ++ (⟨#[92]⟩ : ByteArray)).size + (a0.extract (x4_1 : Int).toNat ((wrap64 (x4_1 + 1)) : Int).toNat).size ≤ 9223372036854775807
        ·rw [if_pos c17] at H
         have c17b0:=eq_true c17
         have c17b1 : decide ((x3_1 ++ (⟨#[92]⟩ : ByteArray)).size + (a0.extract (x4_1 : Int).toNat ((wrap64 (x4_1 + 1)) : Int).toNat).size ≤ 9223372036854775807) = true:=decide_eq_true c17
         try have c17b2 : (9223372036854775807 < (x3_1 ++ (⟨#[92]⟩ : ByteArray)).size + (a0.extract (x4_1 : Int).toNat ((wrap64 (x4_1 + 1)) : Int).toNat).size) = False:=eq_false (Nat.not_lt.2 c17)
         try (have c17b3:=c17;simp only [ByteArray.size_append,sz_one] at c17b3;have c17b4:=eq_false (Nat.not_lt.2 c17b3);clear c17b3)
         have H':=Aside0.mk H
         clear H
         have p4 : 0 ≤ (x4_1 : Int):=of_decide_eq_true (by first|(with_reducible assumption)|assumption)
         have q4 : x4_1 < (a0.size : Int):=of_decide_eq_true (by first|(with_reducible assumption)|assumption)
         have hx4:=bt_at a0 x4_1
         replace p4:=eq_true p4
         replace q4:=eq_true q4
         have p11 : 0 ≤ (x4_1 : Int):=of_decide_eq_true (by first|(with_reducible assumption)|assumption)
         have q11 : x4_1 < (a0.size : Int):=of_decide_eq_true (by first|(with_reducible assumption)|assumption)
         have hx11:=bt_at a0 x4_1
         replace p11:=eq_true p11
         replace q11:=eq_true q11
         go_wp2
         go_roundg k1
         case measure=>have:=HK1.out;omega
         case rel=>exact ⟨((x3_1 ++ (⟨#[92]⟩ : ByteArray)) ++ (a0.extract (x4_1 : Int).toNat ((wrap64 (x4_1 + 1)) : Int).toNat)),(wrap64 (x4_1 + 1)),(by first|rfl|(simp;done)|(simp [*];done)),(by first|rfl|(simp;done)|(simp [*];done)),H',⟨by have:=HK1.out;omega⟩,by repeat (first|exact Drawn0.refl _|apply Drawn0.step)⟩
        rw [if_neg c17] at H
        exact absurd H (by simp)
       rw [if_neg c16] at H
       exact absurd H (by simp)
      rw [if_neg c15] at H
      exact absurd H (by simp)
     rw [if_neg c13] at H
     exact absurd H (by simp)
    rw [if_neg c12] at H
    have c12b0 : ((bt a0 x4_1) == 92) = false:=beq_eq_false_iff_ne.mpr c12
    have c12b1 : ((bt a0 x4_1) != 92) = true:=bne_iff_ne.mpr c12
    have c18b0:=eq_true (of_decide_eq_true (by first|(with_reducible assumption)|assumption) : 0 ≤ x4_1)
    by_cases c19 : x4_1 ≤ (wrap64 (x4_1 + 1))
    ·rw [if_pos c19] at H
     have c19b0:=eq_true c19
     have c19b1 : decide (x4_1 ≤ (wrap64 (x4_1 + 1))) = true:=decide_eq_true c19
     by_cases c20 : (wrap64 (x4_1 + 1)) ≤ (a0.size : Int)
     ·rw [if_pos c20] at H
      have c20b0:=eq_true c20
      have c20b1 : decide ((wrap64 (x4_1 + 1)) ≤ (a0.size : Int)) = true:=decide_eq_true c20
      by_cases c21 : x3_1.size + (a0.extract (x4_1 : Int).toNat ((wrap64 (x4_1 + 1)) : Int).toNat).size ≤ 9223372036854775807
      ·rw [if_pos c21] at H
       have c21b0:=eq_true c21
       have c21b1 : decide (x3_1.size + (a0.extract (x4_1 : Int).toNat ((wrap64 (x4_1 + 1)) : Int).toNat).size ≤ 9223372036854775807) = true:=decide_eq_true c21
       try have c21b2 : (9223372036854775807 < x3_1.size + (a0.extract (x4_1 : Int).toNat ((wrap64 (x4_1 + 1)) : Int).toNat).size) = False:=eq_false (Nat.not_lt.2 c21)
       have H':=Aside0.mk H
       clear H
       have p4 : 0 ≤ (x4_1 : Int):=of_decide_eq_true (by first|(with_reducible assumption)|assumption)
       have q4 : x4_1 < (a0.size : Int):=of_decide_eq_true (by first|(with_reducible assumption)|assumption)
       have hx4:=bt_at a0 x4_1
       replace p4:=eq_true p4
       replace q4:=eq_true q4
       have p11 : 0 ≤ (x4_1 : Int):=of_decide_eq_true (by first|(with_reducible assumption)|assumption)
       have q11 : x4_1 < (a0.size : Int):=of_decide_eq_true (by first|(with_reducible assumption)|assumption)
       have hx11:=bt_at a0 x4_1
       replace p11:=eq_true p11
       replace q11:=eq_true q11
       go_wp2
       go_roundg k1
       case measure=>have:=HK1.out;omega
       case rel=>exact ⟨(x3_1 ++ (a0.extract (x4_1 : Int).toNat ((wrap64 (x4_1 + 1)) : Int).toNat)),(wrap64 (x4_1 + 1)),(by first|rfl|(simp;done)|(simp [*];done)),(by first|rfl|(simp;done)|(simp [*];done)),H',⟨by have:=HK1.out;omega⟩,by repeat (first|exact Drawn0.refl _|apply Drawn0.step)⟩
      rw [if_neg c21] at H
      exact absurd H (by simp)
     rw [if_neg c20] at H
     exact absurd H (by simp)
    rw [if_neg c19] at H
    exact absurd H (by simp)
   rw [if_neg c3] at H
   exact absurd H (by simp)
  rw [if_neg c2] at H
  have c2b0 : decide (x4_1 < (a0.size : Int)) = false:=decide_eq_false c2
  clear c2
  by_cases c22 : x3_1.size + 1 ≤ 9223372036854775807
  ·rw [if_pos c22] at H
   have c22b0:=eq_true c22
   have c22b1 : decide (x3_1.size + 1 ≤ 9223372036854775807) = true:=decide_eq_true c22
   try have c22b2 : (9223372036854775807 < x3_1.size + 1) = False:=eq_false (Nat.not_lt.2 c22)
   obtain rfl:=Option.some.inj H
   go_wp2
   go_ret
   exact ⟨by first|rfl|(simp;done)|(simp [*];done),by repeat (first|exact Drawn0.refl _|apply Drawn0.step)⟩
  rw [if_neg c22] at H
  exact absurd H (by simp)
/-! ### spillwayref3_Value: function 17 -/
def spillwayref3_Value.l0 : Nat → ByteArray → Int → Option (Bool)
 | 0,_,_=>none
 | k + 1,x0,x3=>if x3 < (x0.size : Int) then (if 0 ≤ x3 then (if (bt x0 x3) = 10 then (some false) else (spillwayref3_Value.l0 k x0 (wrap64 (x3 + 1)))) else (none)) else (some (decide ((x0.size : Int) ≤ 30)))
def spillwayref3_Value.f (k : Nat) (a0 : ByteArray) : Option (Bool):=spillwayref3_Value.l0 k a0 0
set_option maxHeartbeats 8000000 in
set_option maxRecDepth 100000 in
theorem spillwayref3_Value.calls (k : Nat) (a0 : ByteArray) (r : Bool) (w : World) (h : spillwayref3_Value.f k a0 = some r) :
  Calls Tryz.prog 17 #[.string a0] w fun e w'=>e = .returned (.bool r) ∧ Drawn0 w w':=by
 have H : (spillwayref3_Value.l0 k a0 0) = some r:=h
 clear h
 have H':=Aside0.mk H
 clear H
 go_enter Tryz.func17,Tryz.ntmps17
 go_wp2
 go_loopg [3] k (fun kq v3 w'=>∃ (x3_1 : Int),v3 = .int .i64 x3_1 ∧ Aside0 (spillwayref3_Value.l0 kq a0 x3_1 = some r) ∧ Aside0 (kq ≤ k) ∧ Drawn0 w w')
 case atStart=>exact ⟨(0),(by first|rfl|(simp;done)|(simp [*];done)),H',⟨Nat.le_refl _⟩,by repeat (first|exact Drawn0.refl _|apply Drawn0.step)⟩
 clear H'
 try clear c1
 obtain ⟨x3_1,rfl,HA,HK1,⟨m1,rfl⟩⟩:=hrel
 cases gk with
 | zero=>exact absurd HA.out (by simp [spillwayref3_Value.l0])
 | succ k1 =>
  have H:=HA.out
  clear HA
  simp only [spillwayref3_Value.l0] at H
  by_cases c2 : x3_1 < (a0.size : Int)
  ·rw [if_pos c2] at H
   have c2b0 : decide (x3_1 < (a0.size : Int)) = true:=decide_eq_true c2
   clear c2
   by_cases c3 : 0 ≤ x3_1
   ·rw [if_pos c3] at H
    have c3b0 : decide (0 ≤ x3_1) = true:=decide_eq_true c3
    clear c3
    by_cases c5 : (bt a0 x3_1) = 10
    ·rw [if_pos c5] at H
     have c5b0 : ((bt a0 x3_1) == 10) = true:=beq_iff_eq.mpr c5
     have c5b1 : ((bt a0 x3_1) != 10) = false:=bne_eq_false_iff_eq.mpr c5
     clear c5
     obtain rfl:=Option.some.inj H
     have p4 : 0 ≤ (x3_1 : Int):=of_decide_eq_true (by first|(with_reducible assumption)|assumption)
     have q4 : x3_1 < (a0.size : Int):=of_decide_eq_true (by first|(with_reducible assumption)|assumption)
     have hx4:=bt_at a0 x3_1
     replace p4:=eq_true p4
     replace q4:=eq_true q4
     go_wp2
     go_ret
     exact ⟨by first|rfl|(simp;done)|(simp [*];done),by repeat (first|exact Drawn0.refl _|apply Drawn0.step)⟩
    rw [if_neg c5] at H
    have c5b0 : ((bt a0 x3_1) == 10) = false:=beq_eq_false_iff_ne.mpr c5
    have c5b1 : ((bt a0 x3_1) != 10) = true:=bne_iff_ne.mpr c5
    have H':=Aside0.mk H
    clear H
    have p4 : 0 ≤ (x3_1 : Int):=of_decide_eq_true (by first|(with_reducible assumption)|assumption)
    have q4 : x3_1 < (a0.size : Int):=of_decide_eq_true (by first|(with_reducible assumption)|assumption)
    have hx4:=bt_at a0 x3_1
    replace p4:=eq_true p4
    replace q4:=eq_true q4
    go_wp2
    go_roundg k1
    case measure=>have:=HK1.out;omega
    case rel=>exact ⟨(wrap64 (x3_1 + 1)),(by first|rfl|(simp;done)|(simp [*];done)),H',⟨by have:=HK1.out;omega⟩,by repeat (first|exact Drawn0.refl _|apply Drawn0.step)⟩
   rw [if_neg c3] at H
   exact absurd H (by simp)
  rw [if_neg c2] at H
  have c2b0 : decide (x3_1 < (a0.size : Int)) = false:=decide_eq_false c2
  clear c2
  obtain rfl:=Option.some.inj H
  go_wp2
  go_ret
  exact ⟨by first|rfl|(simp;done)|(simp [*];done),by repeat (first|exact Drawn0.refl _|apply Drawn0.step)⟩
end Go.Proofs.YtfgffjchphignaaGreatDoor.Print
end
section
namespace Go.Proofs.YtfgffjchphignaaGreatDoor.PureN
open Go.RowKit Go.Proofs.YtfgffjchphignaaGreatDoor.Print
open Go.Proofs.YtfgffjchphignaaGreatDoorX Go.Proofs.YtfgffjchphignaaGreatDoorW.PrintWords Go.Proofs.YtfgffjchphignaaGreatDoorW.PrintLast Go.Proofs.YtfgffjchphignaaGreatDoorW.PrintMore
/-! The document's names and values. -/
theorem rname_round (k : Nat) (s : ByteArray) (x : Nat) (hx : x < s.size) (hn : s.size ≤ 4611686018427387904) (c : UInt8) (hc : bt s (x : Int) = (c.toNat : Int)) :
  spillwayref3_Name.l0 (k + 1) s (x : Int) = if nameC (x == 0) c then spillwayref3_Name.l0 k s ((x + 1 : Nat) : Int) else some false:=by
 have hw : wrap64 ((x : Int) + 1) = ((x + 1 : Nat) : Int):=by unfold wrap64;omega
 rw [spillwayref3_Name.l0,if_pos (by omega),if_pos (by omega),hw,hc]
 generalize spillwayref3_Name.l0 k s ((x + 1 : Nat) : Int) = R
 have hb:=UInt8.toNat_lt c
 have e : nameC (x == 0) c = (decide (97 ≤ c.toNat ∧ c.toNat ≤ 122) || decide (65 ≤ c.toNat ∧ c.toNat ≤ 90) || decide (c.toNat = 95) || (decide (0 < x) && decide (48 ≤ c.toNat ∧ c.toNat ≤ 57))):=by
  unfold nameC isL isD
  rcases Nat.eq_zero_or_pos x with h|h
  ·subst h;simp
  have : (x == 0) = false:=beq_eq_false_iff_ne.2 (by omega)
  rw [this]
  simp [h]
 rw [e]
 generalize c.toNat = n at hb ⊢
 simp only [Bool.or_eq_true,decide_eq_true_eq,Bool.and_eq_true]
 repeat' split
 all_goals first|rfl|(exfalso;omega)
theorem rname_end (k : Nat) (s : ByteArray) (x : Nat) (hx : x = s.size) : spillwayref3_Name.l0 (k + 1) s (x : Int) = some (decide (1 ≤ s.size) && decide (s.size ≤ 20)):=by
 rw [spillwayref3_Name.l0,if_neg (by omega)]
 by_cases h : 1 ≤ s.size
 ·rw [if_pos (by omega),decide_eq_true h,Bool.true_and]
  exact congrArg some (decide_eq_decide.2 (by omega))
 rw [if_neg (by omega),decide_eq_false h,Bool.false_and]
theorem rname_loop (s : ByteArray) (hn : s.size ≤ 4611686018427387904) (d : Nat) : ∀ (x : Nat) (k : Nat),x + d = s.size → d < k → 0 < x →
  spillwayref3_Name.l0 k s (x : Int) = some ((s.data.toList.drop x).all idc && decide (s.size ≤ 20)):=by
 induction d with
 | zero =>
  intro x k h hk h0
  obtain ⟨k,rfl⟩ : ∃ m,k = m + 1:=⟨k - 1,by omega⟩
  have hd : s.data.toList.drop x = []:=List.drop_eq_nil_of_le (by simp;show s.size ≤ _;omega)
  rw [rname_end k s x (by omega),hd,List.all_nil,decide_eq_true (show 1 ≤ s.size by omega)]
 | succ d ih =>
  intro x k h hk h0
  obtain ⟨k,rfl⟩ : ∃ m,k = m + 1:=⟨k - 1,by omega⟩
  obtain ⟨c,hc,hg⟩:=bt_byte s x (by omega)
  have hd : s.data.toList.drop x = c :: s.data.toList.drop (x + 1):=by
   obtain ⟨hl,e⟩:=List.getElem?_eq_some_iff.1 hg
   rw [List.drop_eq_getElem_cons hl,e]
  rw [rname_round k s x (by omega) hn c hc,hd,List.all_cons]
  have h1 : nameC (x == 0) c = idc c:=by
   have : (x == 0) = false:=beq_eq_false_iff_ne.2 (by omega)
   rw [this]
   rfl
  rw [h1]
  cases idc c with
  | false=>rfl
  | true =>
   rw [if_pos rfl,ih (x + 1) k (by omega) (by omega) (by omega)]
   rfl
theorem rname_eq (s : ByteArray) (hn : s.size ≤ 4611686018427387904) (k : Nat) (hk : s.size < k) : spillwayref3_Name.f k s = some (nameB s.data.toList):=by
 unfold spillwayref3_Name.f
 obtain ⟨k,rfl⟩ : ∃ m,k = m + 1:=⟨k - 1,by omega⟩
 cases e : s.data.toList with
 | nil =>
  have h0 : s.size = 0:=by have:=congrArg List.length e;rw [Array.length_toList,List.length_nil] at this;exact this
  have hh:=rname_end k s 0 h0.symm
  rw [show ((0 : Nat) : Int) = 0 from rfl] at hh
  rw [hh]
  simp [nameB,h0]
 | cons c r =>
  have h0 : s.size = r.length + 1:=by have:=congrArg List.length e;rw [Array.length_toList,List.length_cons] at this;exact this
  obtain ⟨c',hc,hg⟩:=bt_byte s 0 (by omega)
  rw [e] at hg
  have hcc : c = c':=by simpa using hg
  subst hcc
  have hr:=rname_round k s 0 (by omega) hn c hc
  rw [show ((0 : Nat) : Int) = 0 from rfl] at hr
  rw [hr]
  have h1 : nameC ((0 : Nat) == 0) c = isL c:=by simp [nameC]
  rw [h1,nameB]
  cases isL c with
  | false=>simp
  | true =>
   rw [if_pos rfl,rname_loop s hn r.length (0 + 1) k (by omega) (by omega) (by omega),e]
   simp [h0]
theorem rval_loop (s : ByteArray) (hn : s.size ≤ 4611686018427387904) (d : Nat) : ∀ (x : Nat) (k : Nat),x + d = s.size → d < k →
  spillwayref3_Value.l0 k s (x : Int) = some (!(s.data.toList.drop x).contains 10 && decide (s.size ≤ 30)):=by
 induction d with
 | zero =>
  intro x k h hk
  obtain ⟨k,rfl⟩ : ∃ m,k = m + 1:=⟨k - 1,by omega⟩
  have hd : s.data.toList.drop x = []:=List.drop_eq_nil_of_le (by simp;show s.size ≤ _;omega)
  rw [spillwayref3_Value.l0,if_neg (by omega),hd]
  exact congrArg some (decide_eq_decide.2 (by omega))
 | succ d ih =>
  intro x k h hk
  obtain ⟨k,rfl⟩ : ∃ m,k = m + 1:=⟨k - 1,by omega⟩
  obtain ⟨c,hc,hg⟩:=bt_byte s x (by omega)
  have hd : s.data.toList.drop x = c :: s.data.toList.drop (x + 1):=by
   obtain ⟨hl,e⟩:=List.getElem?_eq_some_iff.1 hg
   rw [List.drop_eq_getElem_cons hl,e]
  have hw : wrap64 ((x : Int) + 1) = ((x + 1 : Nat) : Int):=by unfold wrap64;omega
  rw [spillwayref3_Value.l0,if_pos (by omega),if_pos (by omega),hw,hc,hd,List.contains_cons]
  by_cases h10 : (c.toNat : Int) = 10
  ·have e : c = 10:=(toNat_is c 10 (by omega)).1 h10
   rw [if_pos h10,e]
   rfl
  have e : ((10 : UInt8) == c) = false:=beq_eq_false_iff_ne.2 (fun e=>h10 (by rw [← e];rfl))
  rw [if_neg h10,ih (x + 1) k (by omega) (by omega),e,Bool.false_or]
theorem rval_eq (s : ByteArray) (hn : s.size ≤ 4611686018427387904) (k : Nat) (hk : s.size < k) : spillwayref3_Value.f k s = some (!s.data.toList.contains 10 && decide (s.data.toList.length ≤ 30)):=by
 have h:=rval_loop s hn s.size 0 k (by omega) hk
 rw [show ((0 : Nat) : Int) = 0 from rfl,List.drop_zero] at h
 unfold spillwayref3_Value.f
 rw [h,show s.data.toList.length = s.size from Array.length_toList]
theorem valB_parts (v : List UInt8) : valB v = (!(v == []) && (!v.contains 10 && decide (v.length ≤ 30))):=by
 unfold valB
 cases v with
 | nil=>rfl
 | cons c r =>
  rw [decide_eq_true (show 1 ≤ (c :: r).length by simp),Bool.true_and,Bool.and_comm]
  rfl
end Go.Proofs.YtfgffjchphignaaGreatDoor.PureN
end
section
namespace Go.Proofs.YtfgffjchphignaaGreatDoor.Print
open Go.Sort Go.Shelf PureN
open Go.RowKit Go.Proofs.YtfgffjchphignaaGreatDoorX Go.Proofs.YtfgffjchphignaaGreatDoorW.PrintWords Go.Proofs.YtfgffjchphignaaGreatDoorW.PrintLast Go.Proofs.YtfgffjchphignaaGreatDoorW.PrintMore
/-! The document's Is. -/
abbrev small2 (l : List S60) : Prop:=l.length ≤ 1000 ∧ (∀ x ∈ l,x.f0.size ≤ 4611686018427387904 ∧ x.f1.size ≤ 4611686018427387904)
def spillwayref3_Is.f (l : List S60) : Option Bool:=if small2 l then some (isS (l.map pr)) else none
theorem rname_calls (s : ByteArray) (w : World) (h : s.size ≤ 4611686018427387904) : Calls Tryz.prog 29 #[.string s] w fun e w'=>e = .returned (.bool (nameB s.data.toList)) ∧ ∃ m,w' = w.drewN m :=
 (spillwayref3_Name.calls (s.size + 1) s _ w (rname_eq s h _ (Nat.lt_succ_self _))).mono fun _ _ ⟨h1,h2⟩=>⟨h1,h2.out⟩
theorem rval_calls (s : ByteArray) (w : World) (h : s.size ≤ 4611686018427387904) : Calls Tryz.prog 17 #[.string s] w fun e w'=>e = .returned (.bool (!s.data.toList.contains 10 && decide (s.data.toList.length ≤ 30))) ∧ ∃ m,w' = w.drewN m :=
 (spillwayref3_Value.calls (s.size + 1) s _ w (rval_eq s h _ (Nat.lt_succ_self _))).mono fun _ _ ⟨h1,h2⟩=>⟨h1,h2.out⟩
set_option maxHeartbeats 4000000 in
set_option maxRecDepth 100000 in
theorem spillwayref3_Is.calls (A : Option Addr) (c : Nat) (l : List S60) (r : Bool) (w : World) (hr : Kd.C k60 w A l.length l) (hc : l.length ≤ c) (h : spillwayref3_Is.f l = some r) :
  Calls Tryz.prog 49 #[.slice A l.length c] w fun e w'=>e = .returned (.bool r) ∧ Below w.heap.size w w':=by
 unfold spillwayref3_Is.f at h
 by_cases g : small2 l
 ·rw [if_pos g] at h
  replace h:=Option.some.inj h
  rw [isS_from,List.length_map] at h
  have HR:=Aside0.mk hr
  have HE:=Aside0.mk h
  have HS:=Aside0.mk g.2
  have hn:=g.1
  clear hr h g
  go_enter Tryz.func49,Tryz.ntmps49
  go_wp2
  go_loopg [3] l.length (fun kq v7 w'=>∃ (i : Nat),v7 = .int .i64 i ∧ i + kq = l.length ∧ Aside0 (Below w.heap.size w w') ∧ Aside0 ((isFrom (prevP l i) ((l.drop i).map pr) && decide (l.length ≤ 8)) = r))
  case atStart=>exact ⟨0,rfl,by omega,⟨Below.refl _ _⟩,⟨HE.out⟩⟩
  clear HE
  obtain ⟨i,rfl,hik,HB,HE⟩:=hrel
  cases gk with
  | zero =>
   have hltz : ¬ (i : Int) < (l.length : Int):=by omega
   have he:=HE.out
   rw [List.drop_eq_nil_of_le (by omega),List.map_nil,isFrom,Bool.true_and] at he
   clear HE
   have HE:=Aside0.mk he
   clear he
   go_wp2
   go_ret
   exact ⟨by rw [← HE.out];exact congrArg (fun b=>Ending.returned (Value.bool b)) (decide_eq_decide.2 (by omega)),HB.out⟩
  | succ k1 =>
   have hlt : i < l.length:=by omega
   have hltz : (i : Int) < (l.length : Int):=by omega
   obtain ⟨ad,rfl,x0,x1⟩:=at_T60 HR.out (i : Int) (by omega) hltz
   have x0:=(HB.out.cell (World.block_lt_of_cell? w _ x0)).trans x0
   have x1:=(HB.out.cell (World.block_lt_of_cell? w _ x1)).trans x1
   rw [Int.toNat_natCast] at x0 x1
   have ex : rd_T60 l (i : Int) = l.getD i z60:=rfl
   rw [ex] at x0 x1
   have hd : l.drop i = l.getD i z60 :: l.drop (i + 1):=by
    rw [List.drop_eq_getElem_cons hlt,List.getD_eq_getElem?_getD,List.getElem?_eq_getElem hlt]
    rfl
   have he:=HE.out
   rw [hd,List.map_cons] at he
   have hp1 : prevP l (i + 1) = some (pr (l.getD i z60)):=rfl
   have hname:=HS.out (l.getD i z60) (by rw [List.getD_eq_getElem?_getD,List.getElem?_eq_getElem hlt];exact List.getElem_mem hlt)
   clear HE ex hd
   have e2 : isFrom (prevP l i) (pr (l.getD i z60) :: (l.drop (i + 1)).map pr) = (nameB (pr (l.getD i z60)).1 && valB (pr (l.getD i z60)).2 && (match prevP l i with|none=>true|some q=>ltL q.1 (pr (l.getD i z60)).1) && isFrom (prevP l (i + 1)) ((l.drop (i + 1)).map pr)):=by
    cases prevP l i <;> rfl
   rw [e2] at he
   have hlast : (match prevP l i with|none=>true|some q=>ltL q.1 (pr (l.getD i z60)).1) = if i = 0 then true else ltL (pr (l.getD (i - 1) z60)).1 (pr (l.getD i z60)).1:=by
    unfold prevP
    by_cases h0 : i = 0
    ·rw [if_pos h0,if_pos h0]
    rw [if_neg h0,if_neg h0]
   rw [hlast] at he
   have hy : 0 < i → wr.cell? (ad.add ((i - 1) * 2)) = some (.string (l.getD (i - 1) z60).f0):=fun h0=>by
    obtain ⟨ad',e',y0,_⟩:=at_T60 HR.out ((i - 1 : Nat) : Int) (by omega) (by omega)
    cases e'
    rw [Int.toNat_natCast] at y0
    exact (HB.out.cell (World.block_lt_of_cell? w _ y0)).trans y0
   generalize l.getD (i - 1) z60 = y at he hy
   generalize hrest : isFrom (prevP l (i + 1)) ((l.drop (i + 1)).map pr) = rest at he
   have HRest:=Aside0.mk hrest
   clear hrest
   generalize l.getD i z60 = x at x0 x1 he hname
   have n1:=fun W=>rname_calls x.f0 W hname.1
   have n2:=fun W=>rval_calls x.f1 W hname.2
   have hv0 : (x.f1.toList == ([] : List UInt8)) = (x.f1.data.toList == []):=by rw [ByteArray.toList_eq]
   have hv1 : x.f1.toList.isEmpty = (x.f1.data.toList == []):=by rw [ByteArray.toList_eq];cases x.f1.data.toList <;> rfl
   have hvb:=valB_parts x.f1.data.toList
   have he : ((nameB x.f0.data.toList && valB x.f1.data.toList && (if i = 0 then true else ltL y.f0.data.toList x.f0.data.toList) && rest) && decide (l.length ≤ 8)) = r:=he
   clear hlast e2 hp1 hname
   have hw : wr.heap[wr.heap.size]? = none:=Array.getElem?_eq_none (Nat.le_refl _)
   cases h1 : nameB x.f0.data.toList with
   | false =>
    rw [h1] at he n1
    have HE:=Aside0.mk he
    clear he h1 n2 hy hw
    go_wp2
    go_quiet (first|(go_at_call 29;exact Calls.quiet_of (n1 _)))
    go_wp2
    go_ret
    exact ⟨by rw [← HE.out];rfl,(by repeat (first|(with_reducible first|exact HB.out|apply below_alloc|apply pw_below_drewN|apply below_drew1)|exact HB.out))⟩
   | true =>
    rw [h1] at he n1
    cases hE : (x.f1.data.toList == ([] : List UInt8)) with
    | true =>
     rw [hvb,hE,Bool.not_true,Bool.false_and] at he
     rw [hE] at hv0 hv1
     have HE:=Aside0.mk he
     clear he h1 hE hvb n2 hy hw
     go_wp2
     go_quiet (first|(go_at_call 29;exact Calls.quiet_of (n1 _)))
     go_wp2
     go_ret
     exact ⟨by rw [← HE.out];rfl,(by repeat (first|(with_reducible first|exact HB.out|apply below_alloc|apply pw_below_drewN|apply below_drew1)|exact HB.out))⟩
    | false =>
     cases hV : (!x.f1.data.toList.contains 10 && decide (x.f1.data.toList.length ≤ 30)) with
     | false =>
      rw [hvb,hE,hV,Bool.not_false,Bool.true_and] at he
      rw [hV] at n2
      rw [hE] at hv0 hv1
      have HE:=Aside0.mk he
      clear he h1 hE hV hvb hy hw
      go_wp2
      go_quiet (first|(go_at_call 29;exact Calls.quiet_of (n1 _))|(go_at_call 17;exact Calls.quiet_of (n2 _)))
      go_wp2
      go_ret
      exact ⟨by rw [← HE.out];rfl,(by repeat (first|(with_reducible first|exact HB.out|apply below_alloc|apply pw_below_drewN|apply below_drew1)|exact HB.out))⟩
     | true =>
      rw [hvb,hE,hV,Bool.not_false,Bool.true_and] at he
      rw [hV] at n2
      rw [hE] at hv0 hv1
      rcases Nat.eq_zero_or_pos i with h0|h0
      ·have hz : decide (0 < i) = false:=decide_eq_false (by omega)
       rw [if_pos h0] at he
       have HE:=Aside0.mk (show (rest && decide (l.length ≤ 8)) = r from he)
       have H0:=Aside0.mk h0
       clear he h1 hE hV hvb hy hw h0
       go_wp2
       go_quiet (first|(go_at_call 29;exact Calls.quiet_of (n1 _))|(go_at_call 17;exact Calls.quiet_of (n2 _)))
       go_wp2
       go_roundg k1
       case measure=>omega
       case rel=>exact ⟨i + 1,by go_num,by omega,⟨(by repeat (first|(with_reducible first|exact HB.out|apply below_alloc|apply pw_below_drewN|apply below_drew1)|exact HB.out))⟩,⟨by rw [HRest.out];exact HE.out⟩⟩
      obtain ⟨m,rfl⟩ : ∃ m,i = m + 1:=⟨i - 1,by omega⟩
      rw [if_neg (by omega)] at he
      have y0:=hy h0
      rw [Nat.add_sub_cancel] at y0
      have y0:=Lib.cell?_alloc_some (.cells #[.string x.f0,.string x.f1] 60) y0
      have hwp : IntKind.i64.wrap (m : Int) = (m : Int):=by rw [IntKind.wrap_i64];omega
      have jz : (m : Int) < (l.length : Int):=by omega
      have hless : Op.bytesLess y.f0.toList x.f0.toList = ltL y.f0.data.toList x.f0.data.toList:=by rw [less_is,ByteArray.toList_eq,ByteArray.toList_eq]
      have hz : (0 : Int) < (m : Int) + 1:=by omega
      cases h3 : ltL y.f0.data.toList x.f0.data.toList with
      | false =>
       rw [h3] at he hless
       have HE:=Aside0.mk he
       clear he h1 hE hV hvb h3 hy hw h0
       go_wp2
       go_quiet (first|(go_at_call 29;exact Calls.quiet_of (n1 _))|(go_at_call 17;exact Calls.quiet_of (n2 _)))
       go_wp2
       go_ret
       exact ⟨by rw [← HE.out];rfl,(by repeat (first|(with_reducible first|exact HB.out|apply below_alloc|apply pw_below_drewN|apply below_drew1)|exact HB.out))⟩
      | true =>
       rw [h3] at he hless
       have HE:=Aside0.mk (show (rest && decide (l.length ≤ 8)) = r from he)
       clear he h1 hE hV hvb h3 hy hw h0
       go_wp2
       go_quiet (first|(go_at_call 29;exact Calls.quiet_of (n1 _))|(go_at_call 17;exact Calls.quiet_of (n2 _)))
       go_wp2
       go_roundg k1
       case measure=>omega
       case rel=>exact ⟨m + 1 + 1,by go_num,by omega,⟨(by repeat (first|(with_reducible first|exact HB.out|apply below_alloc|apply pw_below_drewN|apply below_drew1)|exact HB.out))⟩,⟨by rw [HRest.out];exact HE.out⟩⟩
 rw [if_neg g] at h
 exact absurd h (by simp)
end Go.Proofs.YtfgffjchphignaaGreatDoor.Print
end
section
namespace Go.Proofs.YtfgffjchphignaaGreatDoor.Print
open Go.RowKit Go.Proofs.YtfgffjchphignaaGreatDoorX Go.Proofs.YtfgffjchphignaaGreatDoorW.PrintWords Go.Proofs.YtfgffjchphignaaGreatDoorW.PrintLast Go.Proofs.YtfgffjchphignaaGreatDoorW.PrintMore
/-! ### spillwayref3_Print: function 53 -/
mutual
def spillwayref3_Print.j0 : Nat → List (S60) → ByteArray → Option (ByteArray)
 | 0,_,_=>none
 | k + 1,x0,x3=>spillwayref3_Print.l0 k x0 x3 (⟨#[]⟩ : ByteArray) 0 0
def spillwayref3_Print.l0 : Nat → List (S60) → ByteArray → ByteArray → Int → Int → Option (ByteArray)
 | 0,_,_,_,_,_=>none
 | k + 1,x0,x3,x4,x5,x6=>if x6 < (x0.length : Int) then (if 0 ≤ x6 then (if ((rd_T60 x0 x6).f0).toList = ([95,95,110,97,109,101,95,95] : List UInt8) then (spillwayref3_Print.j2 k x0 x3 x4 x5 x6 (x3.toList != ([] : List UInt8))) else (spillwayref3_Print.j2 k x0 x3 x4 x5 x6 false)) else (none)) else (if x5 > 0 then (if 1 + x4.size ≤ 9223372036854775807 then (if ((⟨#[123]⟩ : ByteArray) ++ x4).size + 1 ≤ 9223372036854775807 then (if x3.size + (((⟨#[123]⟩ : ByteArray) ++ x4) ++ (⟨#[125]⟩ : ByteArray)).size ≤ 9223372036854775807 then (some (x3 ++ (((⟨#[123]⟩ : ByteArray) ++ x4) ++ (⟨#[125]⟩ : ByteArray)))) else (none)) else (none)) else (none)) else (if x3.toList = ([] : List UInt8) then (if 1 + x4.size ≤ 9223372036854775807 then (if ((⟨#[123]⟩ : ByteArray) ++ x4).size + 1 ≤ 9223372036854775807 then (if x3.size + (((⟨#[123]⟩ : ByteArray) ++ x4) ++ (⟨#[125]⟩ : ByteArray)).size ≤ 9223372036854775807 then (some (x3 ++ (((⟨#[123]⟩ : ByteArray) ++ x4) ++ (⟨#[125]⟩ : ByteArray)))) else (none)) else (none)) else (none)) else (if x3.size + x4.size ≤ 9223372036854775807 then (some (x3 ++ x4)) else (none))))
def spillwayref3_Print.j2 : Nat → List (S60) → ByteArray → ByteArray → Int → Int → Bool → Option (ByteArray)
 | 0,_,_,_,_,_,_=>none
 | k + 1,x0,x3,x4,x5,x6,x30=>if x30 = true then (spillwayref3_Print.l0 k x0 x3 x4 x5 (wrap64 (x6 + 1))) else (if x5 > 0 then (if x4.size + 1 ≤ 9223372036854775807 then (if 0 ≤ x6 then (if x6 < (x0.length : Int) then (if (x4 ++ (⟨#[44]⟩ : ByteArray)).size + ((rd_T60 x0 x6).f0).size ≤ 9223372036854775807 then (if ((x4 ++ (⟨#[44]⟩ : ByteArray)) ++ ((rd_T60 x0 x6).f0)).size + 1 ≤ 9223372036854775807 then ((spillwayref3_Quote.f k ((rd_T60 x0 x6).f1)).bind fun t218=>(if (((x4 ++ (⟨#[44]⟩ : ByteArray)) ++ ((rd_T60 x0 x6).f0)) ++ (⟨#[61]⟩ : ByteArray)).size + t218.size ≤ 9223372036854775807 then (spillwayref3_Print.l0 k x0 x3 ((((x4 ++ (⟨#[44]⟩ : ByteArray)) ++ ((rd_T60 x0 x6).f0)) ++ (⟨#[61]⟩ : ByteArray)) ++ t218) (wrap64 (x5 + 1)) (wrap64 (x6 + 1))) else (none))) else (none)) else (none)) else (none)) else (none)) else (none)) else (if 0 ≤ x6 then (if x6 < (x0.length : Int) then (if x4.size + ((rd_T60 x0 x6).f0).size ≤ 9223372036854775807 then (if (x4 ++ ((rd_T60 x0 x6).f0)).size + 1 ≤ 9223372036854775807 then ((spillwayref3_Quote.f k ((rd_T60 x0 x6).f1)).bind fun t221=>(if ((x4 ++ ((rd_T60 x0 x6).f0)) ++ (⟨#[61]⟩ : ByteArray)).size + t221.size ≤ 9223372036854775807 then (spillwayref3_Print.l0 k x0 x3 (((x4 ++ ((rd_T60 x0 x6).f0)) ++ (⟨#[61]⟩ : ByteArray)) ++ t221) (wrap64 (x5 + 1)) (wrap64 (x6 + 1))) else (none))) else (none)) else (none)) else (none)) else (none)))
end
def spillwayref3_Print.f (k : Nat) (l0 : List (S60)) : Option (ByteArray):=(spillwayref3_Is.f l0).bind fun t212=>(if t212 = true then ((spillwayref3_Get.f k l0 (⟨#[95,95,110,97,109,101,95,95]⟩ : ByteArray)).bind fun t213=>((spillwayref3_Name.f k t213).bind fun t214=>(if t214 = true then (spillwayref3_Print.j0 k l0 t213) else (spillwayref3_Print.j0 k l0 (⟨#[]⟩ : ByteArray))))) else (some (⟨#[]⟩ : ByteArray)))
set_option maxHeartbeats 8000000 in
set_option maxRecDepth 100000 in
theorem spillwayref3_Print.calls (k : Nat) (A0 : Option Addr) (c0 : Nat) (l0 : List (S60)) (r : ByteArray) (w : World) (hr0 : Kd.C k60 w A0 l0.length l0) (hc0 : l0.length ≤ c0) (h : spillwayref3_Print.f k l0 = some r) :
  Calls Tryz.prog 53 #[.slice A0 l0.length c0] w fun e w'=>e = .returned (.string r) ∧ Below w.heap.size w w':=by
 have HR0:=Aside0.mk hr0
 have HC0:=Aside0.mk hc0
 clear hr0 hc0
 have HB:=Aside0.mk (Below.refl w.heap.size w)
 have H : ((spillwayref3_Is.f l0).bind fun t212=>(if t212 = true then ((spillwayref3_Get.f k l0 (⟨#[95,95,110,97,109,101,95,95]⟩ : ByteArray)).bind fun t213=>((spillwayref3_Name.f k t213).bind fun t214=>(if t214 = true then (spillwayref3_Print.j0 k l0 t213) else (spillwayref3_Print.j0 k l0 (⟨#[]⟩ : ByteArray))))) else (some (⟨#[]⟩ : ByteArray)))) = some r:=h
 clear h
 replace H:=Option.bind_eq_some_iff.mp H
 obtain ⟨t212,A20,H⟩:=H
 replace H : (if t212 = true then ((spillwayref3_Get.f k l0 (⟨#[95,95,110,97,109,101,95,95]⟩ : ByteArray)).bind fun t213=>((spillwayref3_Name.f k t213).bind fun t214=>(if t214 = true then (spillwayref3_Print.j0 k l0 t213) else (spillwayref3_Print.j0 k l0 (⟨#[]⟩ : ByteArray))))) else (some (⟨#[]⟩ : ByteArray))) = some r:=H
 have A2:=Aside0.mk A20
 clear A20
 by_cases c3 : t212 = true
 ·subst c3
  have H1 : ((spillwayref3_Get.f k l0 (⟨#[95,95,110,97,109,101,95,95]⟩ : ByteArray)).bind fun t213=>((spillwayref3_Name.f k t213).bind fun t214=>(if t214 = true then (spillwayref3_Print.j0 k l0 t213) else (spillwayref3_Print.j0 k l0 (⟨#[]⟩ : ByteArray))))) = some r:=by rw [if_pos rfl] at H;exact H
  clear H
  have H:=H1
  clear H1
  replace H:=Option.bind_eq_some_iff.mp H
  obtain ⟨t213,A40,H⟩:=H
  replace H : ((spillwayref3_Name.f k t213).bind fun t214=>(if t214 = true then (spillwayref3_Print.j0 k l0 t213) else (spillwayref3_Print.j0 k l0 (⟨#[]⟩ : ByteArray)))) = some r:=H
  have A4:=Aside0.mk A40
  clear A40
  replace H:=Option.bind_eq_some_iff.mp H
  obtain ⟨t214,A50,H⟩:=H
  replace H : (if t214 = true then (spillwayref3_Print.j0 k l0 t213) else (spillwayref3_Print.j0 k l0 (⟨#[]⟩ : ByteArray))) = some r:=H
  have A5:=Aside0.mk A50
  clear A50
  have HC6:=Aside0.mk H
  clear H
  go_enter Tryz.func53,Tryz.ntmps53
  go_upto_if 14 with (first|(go_at_call 49;(with_reducible refine (spillwayref3_Is.calls _ _ l0 true _ ?side1 ?side2 A2.out).mono ?_);(case side1=>repeat (first|exact HR0.out|(with_reducible refine Kd.C_alloc ?_ _)|(with_reducible refine Kd.C_drewN ?_ _)|(with_reducible refine Kd.C_drew ?_)));(case side2=>exact HC0.out);rintro e w7 ⟨rfl,hb⟩;have n0_:=Aside0.mk (below_step (by repeat (first|(with_reducible first|exact HB.out|apply below_alloc|apply pw_below_drewN|apply below_drew1)|exact HB.out)) hb);clear HB;have HB:=n0_;clear n0_;(try clear hb);(try clear hb2);(try clear hk);(try clear hi))|(go_at_call 33;(with_reducible refine (spillwayref3_Get.calls k _ _ l0 (⟨#[95,95,110,97,109,101,95,95]⟩ : ByteArray) t213 _ ?side1 ?side2 A4.out).mono ?_);(case side1=>repeat (first|exact (Kd.C_below HR0.out HB.out)|(with_reducible refine Kd.C_alloc ?_ _)|(with_reducible refine Kd.C_drewN ?_ _)|(with_reducible refine Kd.C_drew ?_)));(case side2=>exact HC0.out);rintro e w' ⟨rfl,⟨nd,rfl⟩⟩;(try first|exact ⟨rfl,_,World.drewN_drewN _ _ _⟩|exact ⟨rfl,_,Eq.trans (World.drewN_drewN _ _ _) (congrArg (World.drewN _) (Nat.add_assoc _ _ _))⟩))|(go_at_call 29;(with_reducible refine (spillwayref3_Name.calls k t213 t214 _ A5.out).mono ?_);rintro e w' ⟨rfl,⟨nd,rfl⟩⟩;(try first|exact ⟨rfl,_,World.drewN_drewN _ _ _⟩|exact ⟨rfl,_,Eq.trans (World.drewN_drewN _ _ _) (congrArg (World.drewN _) (Nat.add_assoc _ _ _))⟩)))
  repeat (go_quiet (first|(go_at_call 49;(with_reducible refine (spillwayref3_Is.calls _ _ l0 true _ ?side1 ?side2 A2.out).mono ?_);(case side1=>repeat (first|exact HR0.out|(with_reducible refine Kd.C_alloc ?_ _)|(with_reducible refine Kd.C_drewN ?_ _)|(with_reducible refine Kd.C_drew ?_)));(case side2=>exact HC0.out);rintro e w7 ⟨rfl,hb⟩;have n0_:=Aside0.mk (below_step (by repeat (first|(with_reducible first|exact HB.out|apply below_alloc|apply pw_below_drewN|apply below_drew1)|exact HB.out)) hb);clear HB;have HB:=n0_;clear n0_;(try clear hb);(try clear hb2);(try clear hk);(try clear hi))|(go_at_call 33;(with_reducible refine (spillwayref3_Get.calls k _ _ l0 (⟨#[95,95,110,97,109,101,95,95]⟩ : ByteArray) t213 _ ?side1 ?side2 A4.out).mono ?_);(case side1=>repeat (first|exact (Kd.C_below HR0.out HB.out)|(with_reducible refine Kd.C_alloc ?_ _)|(with_reducible refine Kd.C_drewN ?_ _)|(with_reducible refine Kd.C_drew ?_)));(case side2=>exact HC0.out);rintro e w' ⟨rfl,⟨nd,rfl⟩⟩;(try first|exact ⟨rfl,_,World.drewN_drewN _ _ _⟩|exact ⟨rfl,_,Eq.trans (World.drewN_drewN _ _ _) (congrArg (World.drewN _) (Nat.add_assoc _ _ _))⟩))|(go_at_call 29;(with_reducible refine (spillwayref3_Name.calls k t213 t214 _ A5.out).mono ?_);rintro e w' ⟨rfl,⟨nd,rfl⟩⟩;(try first|exact ⟨rfl,_,World.drewN_drewN _ _ _⟩|exact ⟨rfl,_,Eq.trans (World.drewN_drewN _ _ _) (congrArg (World.drewN _) (Nat.add_assoc _ _ _))⟩)));go_upto_if 14 with (first|(go_at_call 49;(with_reducible refine (spillwayref3_Is.calls _ _ l0 true _ ?side1 ?side2 A2.out).mono ?_);(case side1=>repeat (first|exact HR0.out|(with_reducible refine Kd.C_alloc ?_ _)|(with_reducible refine Kd.C_drewN ?_ _)|(with_reducible refine Kd.C_drew ?_)));(case side2=>exact HC0.out);rintro e w7 ⟨rfl,hb⟩;have n0_:=Aside0.mk (below_step (by repeat (first|(with_reducible first|exact HB.out|apply below_alloc|apply pw_below_drewN|apply below_drew1)|exact HB.out)) hb);clear HB;have HB:=n0_;clear n0_;(try clear hb);(try clear hb2);(try clear hk);(try clear hi))|(go_at_call 33;(with_reducible refine (spillwayref3_Get.calls k _ _ l0 (⟨#[95,95,110,97,109,101,95,95]⟩ : ByteArray) t213 _ ?side1 ?side2 A4.out).mono ?_);(case side1=>repeat (first|exact (Kd.C_below HR0.out HB.out)|(with_reducible refine Kd.C_alloc ?_ _)|(with_reducible refine Kd.C_drewN ?_ _)|(with_reducible refine Kd.C_drew ?_)));(case side2=>exact HC0.out);rintro e w' ⟨rfl,⟨nd,rfl⟩⟩;(try first|exact ⟨rfl,_,World.drewN_drewN _ _ _⟩|exact ⟨rfl,_,Eq.trans (World.drewN_drewN _ _ _) (congrArg (World.drewN _) (Nat.add_assoc _ _ _))⟩))|(go_at_call 29;(with_reducible refine (spillwayref3_Name.calls k t213 t214 _ A5.out).mono ?_);rintro e w' ⟨rfl,⟨nd,rfl⟩⟩;(try first|exact ⟨rfl,_,World.drewN_drewN _ _ _⟩|exact ⟨rfl,_,Eq.trans (World.drewN_drewN _ _ _) (congrArg (World.drewN _) (Nat.add_assoc _ _ _))⟩))))
  (try simp only [Act.put,List.setIfInBounds_toArray,List.set_cons_zero,List.set_cons_succ])
  go_cut [3] (fun v3 wc=>∃ (kq : Nat) (x3_5 : ByteArray),v3 = .string x3_5 ∧ Aside0 (spillwayref3_Print.j0 kq l0 x3_5 = some r) ∧ Aside0 (kq ≤ k) ∧ Aside0 (Below w.heap.size w wc))
  case first =>
   have H:=HC6.out
   clear HC6
   by_cases c8 : t214 = true
   ·subst c8
    have H1 : (spillwayref3_Print.j0 k l0 t213) = some r:=by rw [if_pos rfl] at H;exact H
    clear H
    have H:=H1
    clear H1
    have H':=Aside0.mk H
    clear H
    go_wp2
    repeat (go_quiet (fail);try go_wp2)
    go_meet
    case rel=>exact ⟨_,(t213),(by first|rfl|(simp;done)|(simp [*];done)),H',⟨by first|omega|exact Nat.le_refl _⟩,⟨by repeat (first|(with_reducible first|exact HB.out|apply below_alloc|apply pw_below_drewN|apply below_drew1)|exact HB.out)⟩⟩
   replace c8:=Bool.eq_false_iff.mpr c8
   subst c8
   have H1 : (spillwayref3_Print.j0 k l0 (⟨#[]⟩ : ByteArray)) = some r:=by rw [if_neg (show ¬ (false = true) by decide)] at H;exact H
   clear H
   have H:=H1
   clear H1
   have H':=Aside0.mk H
   clear H
   go_wp2
   repeat (go_quiet (fail);try go_wp2)
   go_meet
   case rel=>exact ⟨_,((⟨#[]⟩ : ByteArray)),(by first|rfl|(simp;done)|(simp [*];done)),H',⟨by first|omega|exact Nat.le_refl _⟩,⟨by repeat (first|(with_reducible first|exact HB.out|apply below_alloc|apply pw_below_drewN|apply below_drew1)|exact HB.out)⟩⟩
  clear HC6
  try clear p2
  try clear c3
  try clear c5
  try clear c8
  obtain ⟨kq,x3_5,rfl,HA,HJ5,HB⟩:=hcut
  cases kq with
  | zero=>exact absurd HA.out (by simp [spillwayref3_Print.j0])
  | succ kj5 =>
   have H:=HA.out
   clear HA
   simp only [spillwayref3_Print.j0] at H
   have H':=Aside0.mk H
   clear H
   go_wp2
   repeat (go_quiet (fail);try go_wp2)
   go_loopg [4,5,6] kj5 (fun kq v4 v5 v6 w'=>∃ (x4_2 : ByteArray) (x5_2 : Int) (x6_2 : Int),v4 = .string x4_2 ∧ v5 = .int .i64 x5_2 ∧ v6 = .int .i64 x6_2 ∧ Aside0 (spillwayref3_Print.l0 kq l0 x3_5 x4_2 x5_2 x6_2 = some r) ∧ Aside0 (kq ≤ kj5) ∧ Aside0 (Below w.heap.size w w'))
   case atStart=>exact ⟨((⟨#[]⟩ : ByteArray)),(0),(0),(by first|rfl|(simp;done)|(simp [*];done)),(by first|rfl|(simp;done)|(simp [*];done)),(by first|rfl|(simp;done)|(simp [*];done)),H',⟨Nat.le_refl _⟩,⟨by repeat (first|(with_reducible first|exact HB.out|apply below_alloc|apply pw_below_drewN|apply below_drew1)|exact HB.out)⟩⟩
   clear H'
   try clear p2
   try clear c3
   try clear c5
   try clear c8
   try clear p2
   obtain ⟨x4_2,x5_2,x6_2,rfl,rfl,rfl,HA,HK2,HB⟩:=hrel
   cases gk with
   | zero=>exact absurd HA.out (by simp [spillwayref3_Print.l0])
   | succ k2 =>
    have H:=HA.out
    clear HA
    simp only [spillwayref3_Print.l0] at H
    by_cases c9 : x6_2 < (l0.length : Int)
    ·rw [if_pos c9] at H
     have c9b0 : decide (x6_2 < (l0.length : Int)) = true:=decide_eq_true c9
     clear c9
     have HC10:=Aside0.mk H
     clear H
     go_upto_region 11 with (fail)
     repeat (go_quiet (fail);go_upto_region 11 with (fail))
     go_cut [30] (fun v30 wc=>∃ (kq : Nat) (x30_9 : Bool),v30 = .bool x30_9 ∧ Aside0 (spillwayref3_Print.j2 kq l0 x3_5 x4_2 x5_2 x6_2 x30_9 = some r) ∧ Aside0 (kq ≤ k2) ∧ Aside0 (Below w.heap.size w wc))
     case first =>
      have H:=HC10.out
      clear HC10
      by_cases c11 : 0 ≤ x6_2
      ·rw [if_pos c11] at H
       have c11b0 : decide (0 ≤ x6_2) = true:=decide_eq_true c11
       clear c11
       (first|rw [c11b0]|(simp only [i64_w,i32_w];rw [c11b0])|skip)
       by_cases c12 : ((rd_T60 l0 x6_2).f0).toList = ([95,95,110,97,109,101,95,95] : List UInt8)
       ·rw [if_pos c12] at H
        have c12b0 : (((rd_T60 l0 x6_2).f0).toList == ([95,95,110,97,109,101,95,95] : List UInt8)) = true:=beq_iff_eq.mpr c12
        have c12b1 : (((rd_T60 l0 x6_2).f0).toList != ([95,95,110,97,109,101,95,95] : List UInt8)) = false:=bne_eq_false_iff_eq.mpr c12
        clear c12
        have H':=Aside0.mk H
        clear H
        have p215 : 0 ≤ (x6_2 : Int):=of_decide_eq_true (by first|(with_reducible assumption)|assumption)
        have q215 : x6_2 < (l0.length : Int):=of_decide_eq_true (by first|(with_reducible assumption)|assumption)
        obtain ⟨ad215,e215,hx215_0,hx215_1⟩:=at_T60 HR0.out x6_2 p215 q215
        cases e215
        replace hx215_0:=(HB.out.cell (World.block_lt_of_cell? w _ hx215_0)).trans hx215_0
        replace hx215_1:=(HB.out.cell (World.block_lt_of_cell? w _ hx215_1)).trans hx215_1
        replace p215:=eq_true p215
        replace q215:=eq_true q215
        go_wp2
        repeat (go_quiet (fail);try go_wp2)
        go_meet
        case rel=>exact ⟨_,((x3_5.toList != ([] : List UInt8))),(by first|rfl|(simp;done)|(simp [*];done)|(refine congrArg Value.bool ?_;cases x3_5.toList <;> rfl)),H',⟨by have:=HJ5.out;have:=HK2.out;first|omega|exact Nat.le_refl _⟩,⟨by repeat (first|(with_reducible first|exact HB.out|apply below_alloc|apply pw_below_drewN|apply below_drew1)|exact HB.out)⟩⟩
       rw [if_neg c12] at H
       have c12b0 : (((rd_T60 l0 x6_2).f0).toList == ([95,95,110,97,109,101,95,95] : List UInt8)) = false:=beq_eq_false_iff_ne.mpr c12
       have c12b1 : (((rd_T60 l0 x6_2).f0).toList != ([95,95,110,97,109,101,95,95] : List UInt8)) = true:=bne_iff_ne.mpr c12
       have H':=Aside0.mk H
       clear H
       have p215 : 0 ≤ (x6_2 : Int):=of_decide_eq_true (by first|(with_reducible assumption)|assumption)
       have q215 : x6_2 < (l0.length : Int):=of_decide_eq_true (by first|(with_reducible assumption)|assumption)
       obtain ⟨ad215,e215,hx215_0,hx215_1⟩:=at_T60 HR0.out x6_2 p215 q215
       cases e215
       replace hx215_0:=(HB.out.cell (World.block_lt_of_cell? w _ hx215_0)).trans hx215_0
       replace hx215_1:=(HB.out.cell (World.block_lt_of_cell? w _ hx215_1)).trans hx215_1
       replace p215:=eq_true p215
       replace q215:=eq_true q215
       go_wp2
       repeat (go_quiet (fail);try go_wp2)
       go_meet
       case rel=>exact ⟨_,(false),(by first|rfl|(simp;done)|(simp [*];done)),H',⟨by have:=HJ5.out;have:=HK2.out;first|omega|exact Nat.le_refl _⟩,⟨by repeat (first|(with_reducible first|exact HB.out|apply below_alloc|apply pw_below_drewN|apply below_drew1)|exact HB.out)⟩⟩
      rw [if_neg c11] at H
      exact absurd H (by simp)
     clear HC10
     try clear c1
     try clear p2
     try clear q2
     try clear hx2
     try clear c3
     try clear c5
     try clear c8
     try clear c9
     try clear c9b0
     try clear c11
     try clear c11b0
     try clear c12
     try clear c12b0
     try clear c12b1
     try clear hx215_0
     try clear hx215_1
     try clear p2
     try clear p215
     try clear q215
     obtain ⟨kq,x30_9,rfl,HA,HJ9,HB⟩:=hcut
     cases kq with
     | zero=>exact absurd HA.out (by simp [spillwayref3_Print.j2])
     | succ kj9 =>
      have H:=HA.out
      clear HA
      simp only [spillwayref3_Print.j2] at H
      by_cases c13 : x30_9 = true
      ·subst c13
       have H1 : (spillwayref3_Print.l0 kj9 l0 x3_5 x4_2 x5_2 (wrap64 (x6_2 + 1))) = some r:=by rw [if_pos rfl] at H;exact H
       clear H
       have H:=H1
       clear H1
       have H':=Aside0.mk H
       clear H
       go_wp2
       repeat (go_quiet (fail);try go_wp2)
       go_roundg kj9
       case measure=>have:=HJ5.out;have:=HK2.out;have:=HJ9.out;omega
       case rel=>exact ⟨(x4_2),(x5_2),(wrap64 (x6_2 + 1)),(by first|rfl|(simp;done)|(simp [*];done)),(by first|rfl|(simp;done)|(simp [*];done)),(by first|rfl|(simp;done)|(simp [*];done)),H',⟨by have:=HJ5.out;have:=HK2.out;have:=HJ9.out;omega⟩,⟨by repeat (first|(with_reducible first|exact HB.out|apply below_alloc|apply pw_below_drewN|apply below_drew1)|exact HB.out)⟩⟩
      replace c13:=Bool.eq_false_iff.mpr c13
      subst c13
      have H1 : (if x5_2 > 0 then (if x4_2.size + 1 ≤ 9223372036854775807 then (if 0 ≤ x6_2 then (if x6_2 < (l0.length : Int) then (if (x4_2 ++ (⟨#[44]⟩ : ByteArray)).size + ((rd_T60 l0 x6_2).f0).size ≤ 9223372036854775807 then (if ((x4_2 ++ (⟨#[44]⟩ : ByteArray)) ++ ((rd_T60 l0 x6_2).f0)).size + 1 ≤ 9223372036854775807 then ((spillwayref3_Quote.f kj9 ((rd_T60 l0 x6_2).f1)).bind fun t218=>(if (((x4_2 ++ (⟨#[44]⟩ : ByteArray)) ++ ((rd_T60 l0 x6_2).f0)) ++ (⟨#[61]⟩ : ByteArray)).size + t218.size ≤ 9223372036854775807 then (spillwayref3_Print.l0 kj9 l0 x3_5 ((((x4_2 ++ (⟨#[44]⟩ : ByteArray)) ++ ((rd_T60 l0 x6_2).f0)) ++ (⟨#[61]⟩ : ByteArray)) ++ t218) (wrap64 (x5_2 + 1)) (wrap64 (x6_2 + 1))) else (none))) else (none)) else (none)) else (none)) else (none)) else (none)) else (if 0 ≤ x6_2 then (if x6_2 < (l0.length : Int) then (if x4_2.size + ((rd_T60 l0 x6_2).f0).size ≤ 9223372036854775807 then (if (x4_2 ++ ((rd_T60 l0 x6_2).f0)).size + 1 ≤ 9223372036854775807 then ((spillwayref3_Quote.f kj9 ((rd_T60 l0 x6_2).f1)).bind fun t221=>(if ((x4_2 ++ ((rd_T60 l0 x6_2).f0)) ++ (⟨#[61]⟩ : ByteArray)).size + t221.size ≤ 9223372036854775807 then (spillwayref3_Print.l0 kj9 l0 x3_5 (((x4_2 ++ ((rd_T60 l0 x6_2).f0)) ++ (⟨#[61]⟩ : ByteArray)) ++ t221) (wrap64 (x5_2 + 1)) (wrap64 (x6_2 + 1))) else (none))) else (none)) else (none)) else (none)) else (none))) = some r:=by rw [if_neg (show ¬ (false = true) by decide)] at H;exact H
      clear H
      have H:=H1
      clear H1
      by_cases c14 : x5_2 > 0
      ·rw [if_pos c14] at H
       have c14b0 : decide (0 < x5_2) = true:=decide_eq_true c14
       clear c14
       by_cases c15 : x4_2.size + 1 ≤ 9223372036854775807
       ·rw [if_pos c15] at H
        have c15b0:=eq_true c15
        have c15b1 : decide (x4_2.size + 1 ≤ 9223372036854775807) = true:=decide_eq_true c15
        try have c15b2 : (9223372036854775807 < x4_2.size + 1) = False:=eq_false (Nat.not_lt.2 c15)
        by_cases c16 : 0 ≤ x6_2
        ·rw [if_pos c16] at H
         have c16b0 : decide (0 ≤ x6_2) = true:=decide_eq_true c16
         clear c16
         by_cases c17 : x6_2 < (l0.length : Int)
         ·rw [if_pos c17] at H
          have c17b0 : decide (x6_2 < (l0.length : Int)) = true:=decide_eq_true c17
          clear c17
          by_cases c18 : (x4_2 ++ (⟨#[44]⟩ : ByteArray)).size + ((rd_T60 l0 x6_2).f0).size ≤ 9223372036854775807
          ·rw [if_pos c18] at H
           have c18b0:=eq_true c18
           have c18b1 : decide ((x4_2 ++ (⟨#[44]⟩ : ByteArray)).size + ((rd_T60 l0 x6_2).f0).size ≤ 9223372036854775807) = true:=decide_eq_true c18
           try have c18b2 : (9223372036854775807 < (x4_2 ++ (⟨#[44]⟩ : ByteArray)).size + ((rd_T60 l0 x6_2).f0).size) = False:=eq_false (Nat.not_lt.2 c18)
           try (have c18b3:=c18;simp only [ByteArray.size_append,sz_one] at c18b3;have c18b4:=eq_false (Nat.not_lt.2 c18b3);clear c18b3)
           by_cases c19 : ((x4_2 ++ (⟨#[44]⟩ : ByteArray)) ++ ((rd_T60 l0 x6_2).f0)).size + 1 ≤ 9223372036854775807
           ·rw [if_pos c19] at H
            have c19b0:=eq_true c19
            have c19b1 : decide (((x4_2 ++ (⟨#[44]⟩ : ByteArray)) ++ ((rd_T60 l0 x6_2).f0)).size + 1 ≤ 9223372036854775807) = true:=decide_eq_true c19
            try have c19b2 : (9223372036854775807 < ((x4_2 ++ (⟨#[44]⟩ : ByteArray)) ++ ((rd_T60 l0 x6_2).f0)).size + 1) = False:=eq_false (Nat.not_lt.2 c19)
            try (have c19b3:=c19;simp only [ByteArray.size_append,sz_one] at c19b3;have c19b4:=eq_false (Nat.not_lt.2 c19b3);clear c19b3)
            replace H:=Option.bind_eq_some_iff.mp H
            obtain ⟨t218,A200,H⟩:=H
            replace H : (if (((x4_2 ++ (⟨#[44]⟩ : ByteArray)) ++ ((rd_T60 l0 x6_2).f0)) ++ (⟨#[61]⟩ : ByteArray)).size + t218.size ≤ 9223372036854775807 then (spillwayref3_Print.l0 kj9 l0 x3_5 ((((x4_2 ++ (⟨#[44]⟩ : ByteArray)) ++ ((rd_T60 l0 x6_2).f0)) ++ (⟨#[61]⟩ : ByteArray)) ++ t218) (wrap64 (x5_2 + 1)) (wrap64 (x6_2 + 1))) else (none)) = some r:=H
            have A20:=Aside0.mk A200
            clear A200
            by_cases c21 : (((x4_2 ++ (⟨#[44]⟩ : ByteArray)) ++ ((rd_T60 l0 x6_2).f0)) ++ (⟨#[61]⟩ : ByteArray)).size + t218.size ≤ 9223372036854775807
            ·rw [if_pos c21] at H
             have c21b0:=eq_true c21
             have c21b1 : decide ((((x4_2 ++ (⟨#[44]⟩ : ByteArray)) ++ ((rd_T60 l0 x6_2).f0)) ++ (⟨#[61]⟩ : ByteArray)).size + t218.size ≤ 9223372036854775807) = true:=decide_eq_true c21
             try have c21b2 : (9223372036854775807 < (((x4_2 ++ (⟨#[44]⟩ : ByteArray)) ++ ((rd_T60 l0 x6_2).f0)) ++ (⟨#[61]⟩ : ByteArray)).size + t218.size) = False:=eq_false (Nat.not_lt.2 c21)
             try (have c21b3:=c21;simp only [ByteArray.size_append,sz_one] at c21b3;have c21b4:=eq_false (Nat.not_lt.2 c21b3);clear c21b3)
             have H':=Aside0.mk H
             clear H
             have p216 : 0 ≤ (x6_2 : Int):=of_decide_eq_true (by first|(with_reducible assumption)|assumption)
             have q216 : x6_2 < (l0.length : Int):=of_decide_eq_true (by first|(with_reducible assumption)|assumption)
             obtain ⟨ad216,e216,hx216_0,hx216_1⟩:=at_T60 HR0.out x6_2 p216 q216
             cases e216
             replace hx216_0:=(HB.out.cell (World.block_lt_of_cell? w _ hx216_0)).trans hx216_0
             replace hx216_1:=(HB.out.cell (World.block_lt_of_cell? w _ hx216_1)).trans hx216_1
             replace p216:=eq_true p216
             replace q216:=eq_true q216
             have p217 : 0 ≤ (x6_2 : Int):=of_decide_eq_true (by first|(with_reducible assumption)|assumption)
             have q217 : x6_2 < (l0.length : Int):=of_decide_eq_true (by first|(with_reducible assumption)|assumption)
             obtain ⟨ad217,e217,hx217_0,hx217_1⟩:=at_T60 HR0.out x6_2 p217 q217
             obtain rfl : ad216 = ad217:=(by injection e217)
             replace hx217_0:=(HB.out.cell (World.block_lt_of_cell? w _ hx217_0)).trans hx217_0
             replace hx217_1:=(HB.out.cell (World.block_lt_of_cell? w _ hx217_1)).trans hx217_1
             replace p217:=eq_true p217
             replace q217:=eq_true q217
             go_wp2_with (first|(go_at_call 18;(with_reducible refine (spillwayref3_Quote.calls kj9 ((rd_T60 l0 x6_2).f1) t218 _ A20.out).mono ?_);rintro e w' ⟨rfl,⟨nd,rfl⟩⟩;(try first|exact ⟨rfl,_,World.drewN_drewN _ _ _⟩|exact ⟨rfl,_,Eq.trans (World.drewN_drewN _ _ _) (congrArg (World.drewN _) (Nat.add_assoc _ _ _))⟩)))
             repeat (go_quiet (first|(go_at_call 18;(with_reducible refine (spillwayref3_Quote.calls kj9 ((rd_T60 l0 x6_2).f1) t218 _ A20.out).mono ?_);rintro e w' ⟨rfl,⟨nd,rfl⟩⟩;(try first|exact ⟨rfl,_,World.drewN_drewN _ _ _⟩|exact ⟨rfl,_,Eq.trans (World.drewN_drewN _ _ _) (congrArg (World.drewN _) (Nat.add_assoc _ _ _))⟩)));try go_wp2_with (first|(go_at_call 18;(with_reducible refine (spillwayref3_Quote.calls kj9 ((rd_T60 l0 x6_2).f1) t218 _ A20.out).mono ?_);rintro e w' ⟨rfl,⟨nd,rfl⟩⟩;(try first|exact ⟨rfl,_,World.drewN_drewN _ _ _⟩|exact ⟨rfl,_,Eq.trans (World.drewN_drewN _ _ _) (congrArg (World.drewN _) (Nat.add_assoc _ _ _))⟩))))
             go_roundg kj9
             case measure=>have:=HJ5.out;have:=HK2.out;have:=HJ9.out;omega
             case rel=>exact ⟨((((x4_2 ++ (⟨#[44]⟩ : ByteArray)) ++ ((rd_T60 l0 x6_2).f0)) ++ (⟨#[61]⟩ : ByteArray)) ++ t218),(wrap64 (x5_2 + 1)),(wrap64 (x6_2 + 1)),(by first|rfl|(simp;done)|(simp [*];done)),(by first|rfl|(simp;done)|(simp [*];done)),(by first|rfl|(simp;done)|(simp [*];done)),H',⟨by have:=HJ5.out;have:=HK2.out;have:=HJ9.out;omega⟩,⟨by repeat (first|(with_reducible first|exact HB.out|apply below_alloc|apply pw_below_drewN|apply below_drew1)|exact HB.out)⟩⟩
            rw [if_neg c21] at H
            exact absurd H (by simp)
           rw [if_neg c19] at H
           exact absurd H (by simp)
          rw [if_neg c18] at H
          exact absurd H (by simp)
         rw [if_neg c17] at H
         exact absurd H (by simp)
        rw [if_neg c16] at H
        exact absurd H (by simp)
       rw [if_neg c15] at H
       exact absurd H (by simp)
      rw [if_neg c14] at H
      have c14b0 : decide (0 < x5_2) = false:=decide_eq_false c14
      clear c14
      by_cases c22 : 0 ≤ x6_2
      ·rw [if_pos c22] at H
       have c22b0 : decide (0 ≤ x6_2) = true:=decide_eq_true c22
       clear c22
       by_cases c23 : x6_2 < (l0.length : Int)
       ·rw [if_pos c23] at H
        have c23b0 : decide (x6_2 < (l0.length : Int)) = true:=decide_eq_true c23
        clear c23
        by_cases c24 : x4_2.size + ((rd_T60 l0 x6_2).f0).size ≤ 9223372036854775807
        ·rw [if_pos c24] at H
         have c24b0:=eq_true c24
         have c24b1 : decide (x4_2.size + ((rd_T60 l0 x6_2).f0).size ≤ 9223372036854775807) = true:=decide_eq_true c24
         try have c24b2 : (9223372036854775807 < x4_2.size + ((rd_T60 l0 x6_2).f0).size) = False:=eq_false (Nat.not_lt.2 c24)
         by_cases c25 : (x4_2 ++ ((rd_T60 l0 x6_2).f0)).size + 1 ≤ 9223372036854775807
         ·rw [if_pos c25] at H
          have c25b0:=eq_true c25
          have c25b1 : decide ((x4_2 ++ ((rd_T60 l0 x6_2).f0)).size + 1 ≤ 9223372036854775807) = true:=decide_eq_true c25
          try have c25b2 : (9223372036854775807 < (x4_2 ++ ((rd_T60 l0 x6_2).f0)).size + 1) = False:=eq_false (Nat.not_lt.2 c25)
          try (have c25b3:=c25;simp only [ByteArray.size_append,sz_one] at c25b3;have c25b4:=eq_false (Nat.not_lt.2 c25b3);clear c25b3)
          replace H:=Option.bind_eq_some_iff.mp H
          obtain ⟨t221,A260,H⟩:=H
          replace H : (if ((x4_2 ++ ((rd_T60 l0 x6_2).f0)) ++ (⟨#[61]⟩ : ByteArray)).size + t221.size ≤ 9223372036854775807 then (spillwayref3_Print.l0 kj9 l0 x3_5 (((x4_2 ++ ((rd_T60 l0 x6_2).f0)) ++ (⟨#[61]⟩ : ByteArray)) ++ t221) (wrap64 (x5_2 + 1)) (wrap64 (x6_2 + 1))) else (none)) = some r:=H
          have A26:=Aside0.mk A260
          clear A260
          by_cases c27 : ((x4_2 ++ ((rd_T60 l0 x6_2).f0)) ++ (⟨#[61]⟩ : ByteArray)).size + t221.size ≤ 9223372036854775807
          ·rw [if_pos c27] at H
           have c27b0:=eq_true c27
           have c27b1 : decide (((x4_2 ++ ((rd_T60 l0 x6_2).f0)) ++ (⟨#[61]⟩ : ByteArray)).size + t221.size ≤ 9223372036854775807) = true:=decide_eq_true c27
           try have c27b2 : (9223372036854775807 < ((x4_2 ++ ((rd_T60 l0 x6_2).f0)) ++ (⟨#[61]⟩ : ByteArray)).size + t221.size) = False:=eq_false (Nat.not_lt.2 c27)
           try (have c27b3:=c27;simp only [ByteArray.size_append,sz_one] at c27b3;have c27b4:=eq_false (Nat.not_lt.2 c27b3);clear c27b3)
           have H':=Aside0.mk H
           clear H
           have p219 : 0 ≤ (x6_2 : Int):=of_decide_eq_true (by first|(with_reducible assumption)|assumption)
           have q219 : x6_2 < (l0.length : Int):=of_decide_eq_true (by first|(with_reducible assumption)|assumption)
           obtain ⟨ad219,e219,hx219_0,hx219_1⟩:=at_T60 HR0.out x6_2 p219 q219
           cases e219
           replace hx219_0:=(HB.out.cell (World.block_lt_of_cell? w _ hx219_0)).trans hx219_0
           replace hx219_1:=(HB.out.cell (World.block_lt_of_cell? w _ hx219_1)).trans hx219_1
           replace p219:=eq_true p219
           replace q219:=eq_true q219
           have p220 : 0 ≤ (x6_2 : Int):=of_decide_eq_true (by first|(with_reducible assumption)|assumption)
           have q220 : x6_2 < (l0.length : Int):=of_decide_eq_true (by first|(with_reducible assumption)|assumption)
           obtain ⟨ad220,e220,hx220_0,hx220_1⟩:=at_T60 HR0.out x6_2 p220 q220
           obtain rfl : ad219 = ad220:=(by injection e220)
           replace hx220_0:=(HB.out.cell (World.block_lt_of_cell? w _ hx220_0)).trans hx220_0
           replace hx220_1:=(HB.out.cell (World.block_lt_of_cell? w _ hx220_1)).trans hx220_1
           replace p220:=eq_true p220
           replace q220:=eq_true q220
           go_wp2_with (first|(go_at_call 18;(with_reducible refine (spillwayref3_Quote.calls kj9 ((rd_T60 l0 x6_2).f1) t221 _ A26.out).mono ?_);rintro e w' ⟨rfl,⟨nd,rfl⟩⟩;(try first|exact ⟨rfl,_,World.drewN_drewN _ _ _⟩|exact ⟨rfl,_,Eq.trans (World.drewN_drewN _ _ _) (congrArg (World.drewN _) (Nat.add_assoc _ _ _))⟩)))
           repeat (go_quiet (first|(go_at_call 18;(with_reducible refine (spillwayref3_Quote.calls kj9 ((rd_T60 l0 x6_2).f1) t221 _ A26.out).mono ?_);rintro e w' ⟨rfl,⟨nd,rfl⟩⟩;(try first|exact ⟨rfl,_,World.drewN_drewN _ _ _⟩|exact ⟨rfl,_,Eq.trans (World.drewN_drewN _ _ _) (congrArg (World.drewN _) (Nat.add_assoc _ _ _))⟩)));try go_wp2_with (first|(go_at_call 18;(with_reducible refine (spillwayref3_Quote.calls kj9 ((rd_T60 l0 x6_2).f1) t221 _ A26.out).mono ?_);rintro e w' ⟨rfl,⟨nd,rfl⟩⟩;(try first|exact ⟨rfl,_,World.drewN_drewN _ _ _⟩|exact ⟨rfl,_,Eq.trans (World.drewN_drewN _ _ _) (congrArg (World.drewN _) (Nat.add_assoc _ _ _))⟩))))
           go_roundg kj9
           case measure=>have:=HJ5.out;have:=HK2.out;have:=HJ9.out;omega
           case rel=>exact ⟨(((x4_2 ++ ((rd_T60 l0 x6_2).f0)) ++ (⟨#[61]⟩ : ByteArray)) ++ t221),(wrap64 (x5_2 + 1)),(wrap64 (x6_2 + 1)),(by first|rfl|(simp;done)|(simp [*];done)),(by first|rfl|(simp;done)|(simp [*];done)),(by first|rfl|(simp;done)|(simp [*];done)),H',⟨by have:=HJ5.out;have:=HK2.out;have:=HJ9.out;omega⟩,⟨by repeat (first|(with_reducible first|exact HB.out|apply below_alloc|apply pw_below_drewN|apply below_drew1)|exact HB.out)⟩⟩
          rw [if_neg c27] at H
          exact absurd H (by simp)
         rw [if_neg c25] at H
         exact absurd H (by simp)
        rw [if_neg c24] at H
        exact absurd H (by simp)
       rw [if_neg c23] at H
       exact absurd H (by simp)
      rw [if_neg c22] at H
      exact absurd H (by simp)
    rw [if_neg c9] at H
    have c9b0 : decide (x6_2 < (l0.length : Int)) = false:=decide_eq_false c9
    clear c9
    by_cases c28 : x5_2 > 0
    ·rw [if_pos c28] at H
     have c28b0 : decide (0 < x5_2) = true:=decide_eq_true c28
     clear c28
     by_cases c29 : 1 + x4_2.size ≤ 9223372036854775807
     ·rw [if_pos c29] at H
      have c29b0:=eq_true c29
      have c29b1 : decide (1 + x4_2.size ≤ 9223372036854775807) = true:=decide_eq_true c29
      try have c29b2 : (9223372036854775807 < 1 + x4_2.size) = False:=eq_false (Nat.not_lt.2 c29)
      by_cases c30 : ((⟨#[123]⟩ : ByteArray) ++ x4_2).size + 1 ≤ 9223372036854775807
      ·rw [if_pos c30] at H
       have c30b0:=eq_true c30
       have c30b1 : decide (((⟨#[123]⟩ : ByteArray) ++ x4_2).size + 1 ≤ 9223372036854775807) = true:=decide_eq_true c30
       try have c30b2 : (9223372036854775807 < ((⟨#[123]⟩ : ByteArray) ++ x4_2).size + 1) = False:=eq_false (Nat.not_lt.2 c30)
       try (have c30b3:=c30;simp only [ByteArray.size_append,sz_one] at c30b3;have c30b4:=eq_false (Nat.not_lt.2 c30b3);clear c30b3)
       by_cases c31 : x3_5.size + (((⟨#[123]⟩ : ByteArray) ++ x4_2) ++ (⟨#[125]⟩ : ByteArray)).size ≤ 9223372036854775807
       ·rw [if_pos c31] at H
        have c31b0:=eq_true c31
        have c31b1 : decide (x3_5.size + (((⟨#[123]⟩ : ByteArray) ++ x4_2) ++ (⟨#[125]⟩ : ByteArray)).size ≤ 9223372036854775807) = true:=decide_eq_true c31
        try have c31b2 : (9223372036854775807 < x3_5.size + (((⟨#[123]⟩ : ByteArray) ++ x4_2) ++ (⟨#[125]⟩ : ByteArray)).size) = False:=eq_false (Nat.not_lt.2 c31)
        try (have c31b3:=c31;simp only [ByteArray.size_append,sz_one] at c31b3;have c31b4:=eq_false (Nat.not_lt.2 c31b3);clear c31b3)
        obtain rfl:=Option.some.inj H
        go_wp2
        repeat (go_quiet (fail);try go_wp2)
        go_ret
        exact ⟨by first|rfl|(simp [errW_none,errW_some] <;> rfl)|(simp [*,errW_none,errW_some] <;> rfl),by repeat (first|(with_reducible first|exact HB.out|apply below_alloc|apply pw_below_drewN|apply below_drew1)|exact HB.out)⟩
       rw [if_neg c31] at H
       exact absurd H (by simp)
      rw [if_neg c30] at H
      exact absurd H (by simp)
     rw [if_neg c29] at H
     exact absurd H (by simp)
    rw [if_neg c28] at H
    have c28b0 : decide (0 < x5_2) = false:=decide_eq_false c28
    clear c28
    by_cases c32 : x3_5.toList = ([] : List UInt8)
    ·rw [if_pos c32] at H
     have c32b0 : (x3_5.toList == ([] : List UInt8)) = true:=beq_iff_eq.mpr c32
     have c32b9 : x3_5.toList.isEmpty = true:=by rw [c32];rfl
     have c32b1 : (x3_5.toList != ([] : List UInt8)) = false:=bne_eq_false_iff_eq.mpr c32
     clear c32
     by_cases c33 : 1 + x4_2.size ≤ 9223372036854775807
     ·rw [if_pos c33] at H
      have c33b0:=eq_true c33
      have c33b1 : decide (1 + x4_2.size ≤ 9223372036854775807) = true:=decide_eq_true c33
      try have c33b2 : (9223372036854775807 < 1 + x4_2.size) = False:=eq_false (Nat.not_lt.2 c33)
      by_cases c34 : ((⟨#[123]⟩ : ByteArray) ++ x4_2).size + 1 ≤ 9223372036854775807
      ·rw [if_pos c34] at H
       have c34b0:=eq_true c34
       have c34b1 : decide (((⟨#[123]⟩ : ByteArray) ++ x4_2).size + 1 ≤ 9223372036854775807) = true:=decide_eq_true c34
       try have c34b2 : (9223372036854775807 < ((⟨#[123]⟩ : ByteArray) ++ x4_2).size + 1) = False:=eq_false (Nat.not_lt.2 c34)
       try (have c34b3:=c34;simp only [ByteArray.size_append,sz_one] at c34b3;have c34b4:=eq_false (Nat.not_lt.2 c34b3);clear c34b3)
       by_cases c35 : x3_5.size + (((⟨#[123]⟩ : ByteArray) ++ x4_2) ++ (⟨#[125]⟩ : ByteArray)).size ≤ 9223372036854775807
       ·rw [if_pos c35] at H
        have c35b0:=eq_true c35
        have c35b1 : decide (x3_5.size + (((⟨#[123]⟩ : ByteArray) ++ x4_2) ++ (⟨#[125]⟩ : ByteArray)).size ≤ 9223372036854775807) = true:=decide_eq_true c35
        try have c35b2 : (9223372036854775807 < x3_5.size + (((⟨#[123]⟩ : ByteArray) ++ x4_2) ++ (⟨#[125]⟩ : ByteArray)).size) = False:=eq_false (Nat.not_lt.2 c35)
        try (have c35b3:=c35;simp only [ByteArray.size_append,sz_one] at c35b3;have c35b4:=eq_false (Nat.not_lt.2 c35b3);clear c35b3)
        obtain rfl:=Option.some.inj H
        go_wp2
        repeat (go_quiet (fail);try go_wp2)
        go_ret
        exact ⟨by first|rfl|(simp [errW_none,errW_some] <;> rfl)|(simp [*,errW_none,errW_some] <;> rfl),by repeat (first|(with_reducible first|exact HB.out|apply below_alloc|apply pw_below_drewN|apply below_drew1)|exact HB.out)⟩
       rw [if_neg c35] at H
       exact absurd H (by simp)
      rw [if_neg c34] at H
      exact absurd H (by simp)
     rw [if_neg c33] at H
     exact absurd H (by simp)
    rw [if_neg c32] at H
    have c32b0 : (x3_5.toList == ([] : List UInt8)) = false:=beq_eq_false_iff_ne.mpr c32
    have c32b9 : x3_5.toList.isEmpty = false:=by (cases h_ : x3_5.toList with|nil=>exact absurd h_ c32|cons _ _=>rfl)
    have c32b1 : (x3_5.toList != ([] : List UInt8)) = true:=bne_iff_ne.mpr c32
    by_cases c36 : x3_5.size + x4_2.size ≤ 9223372036854775807
    ·rw [if_pos c36] at H
     have c36b0:=eq_true c36
     have c36b1 : decide (x3_5.size + x4_2.size ≤ 9223372036854775807) = true:=decide_eq_true c36
     try have c36b2 : (9223372036854775807 < x3_5.size + x4_2.size) = False:=eq_false (Nat.not_lt.2 c36)
     obtain rfl:=Option.some.inj H
     go_wp2
     repeat (go_quiet (fail);try go_wp2)
     go_ret
     exact ⟨by first|rfl|(simp [errW_none,errW_some] <;> rfl)|(simp [*,errW_none,errW_some] <;> rfl),by repeat (first|(with_reducible first|exact HB.out|apply below_alloc|apply pw_below_drewN|apply below_drew1)|exact HB.out)⟩
    rw [if_neg c36] at H
    exact absurd H (by simp)
 replace c3:=Bool.eq_false_iff.mpr c3
 subst c3
 have H1 : (some (⟨#[]⟩ : ByteArray)) = some r:=by rw [if_neg (show ¬ (false = true) by decide)] at H;exact H
 clear H
 have H:=H1
 clear H1
 obtain rfl:=Option.some.inj H
 go_enter Tryz.func53,Tryz.ntmps53
 go_wp2_with (first|(go_at_call 49;(with_reducible refine (spillwayref3_Is.calls _ _ l0 false _ ?side1 ?side2 A2.out).mono ?_);(case side1=>repeat (first|exact HR0.out|(with_reducible refine Kd.C_alloc ?_ _)|(with_reducible refine Kd.C_drewN ?_ _)|(with_reducible refine Kd.C_drew ?_)));(case side2=>exact HC0.out);rintro e w37 ⟨rfl,hb⟩;have n0_:=Aside0.mk (below_step (by repeat (first|(with_reducible first|exact HB.out|apply below_alloc|apply pw_below_drewN|apply below_drew1)|exact HB.out)) hb);clear HB;have HB:=n0_;clear n0_;(try clear hb);(try clear hb2);(try clear hk);(try clear hi)))
 repeat (go_quiet (first|(go_at_call 49;(with_reducible refine (spillwayref3_Is.calls _ _ l0 false _ ?side1 ?side2 A2.out).mono ?_);(case side1=>repeat (first|exact HR0.out|(with_reducible refine Kd.C_alloc ?_ _)|(with_reducible refine Kd.C_drewN ?_ _)|(with_reducible refine Kd.C_drew ?_)));(case side2=>exact HC0.out);rintro e w37 ⟨rfl,hb⟩;have n0_:=Aside0.mk (below_step (by repeat (first|(with_reducible first|exact HB.out|apply below_alloc|apply pw_below_drewN|apply below_drew1)|exact HB.out)) hb);clear HB;have HB:=n0_;clear n0_;(try clear hb);(try clear hb2);(try clear hk);(try clear hi)));try go_wp2_with (first|(go_at_call 49;(with_reducible refine (spillwayref3_Is.calls _ _ l0 false _ ?side1 ?side2 A2.out).mono ?_);(case side1=>repeat (first|exact HR0.out|(with_reducible refine Kd.C_alloc ?_ _)|(with_reducible refine Kd.C_drewN ?_ _)|(with_reducible refine Kd.C_drew ?_)));(case side2=>exact HC0.out);rintro e w37 ⟨rfl,hb⟩;have n0_:=Aside0.mk (below_step (by repeat (first|(with_reducible first|exact HB.out|apply below_alloc|apply pw_below_drewN|apply below_drew1)|exact HB.out)) hb);clear HB;have HB:=n0_;clear n0_;(try clear hb);(try clear hb2);(try clear hk);(try clear hi))))
 go_ret
 exact ⟨by first|rfl|(simp [errW_none,errW_some] <;> rfl)|(simp [*,errW_none,errW_some] <;> rfl),by repeat (first|(with_reducible first|exact HB.out|apply below_alloc|apply pw_below_drewN|apply below_drew1)|exact HB.out)⟩
/-! ### spillwayref3_ident: function 71 -/
def spillwayref3_ident.l0 : Nat → ByteArray → Int → Option (Int)
 | 0,_,_=>none
 | k + 1,x0,x3=>if x3 < (x0.size : Int) then (if 0 ≤ x3 then (if x3 ≤ (wrap64 (x3 + 1)) then (if (wrap64 (x3 + 1)) ≤ (x0.size : Int) then (if 1 + (x0.extract (x3 : Int).toNat ((wrap64 (x3 + 1)) : Int).toNat).size ≤ 9223372036854775807 then ((spillwayref3_Name.f k ((⟨#[95]⟩ : ByteArray) ++ (x0.extract (x3 : Int).toNat ((wrap64 (x3 + 1)) : Int).toNat))).bind fun t222=>(if t222 = true then (spillwayref3_ident.l0 k x0 (wrap64 (x3 + 1))) else (some x3))) else (none)) else (none)) else (none)) else (none)) else (some x3)
def spillwayref3_ident.f (k : Nat) (a0 : ByteArray) : Option (Int):=spillwayref3_ident.l0 k a0 0
set_option maxHeartbeats 8000000 in
set_option maxRecDepth 100000 in
theorem spillwayref3_ident.calls (k : Nat) (a0 : ByteArray) (r : Int) (w : World) (h : spillwayref3_ident.f k a0 = some r) :
  Calls Tryz.prog 71 #[.string a0] w fun e w'=>e = .returned (.int .i64 r) ∧ Drawn0 w w':=by
 have H : (spillwayref3_ident.l0 k a0 0) = some r:=h
 clear h
 have H':=Aside0.mk H
 clear H
 go_enter Tryz.func71,Tryz.ntmps71
 go_wp2
 go_loopg [3] k (fun kq v3 w'=>∃ (x3_1 : Int),v3 = .int .i64 x3_1 ∧ Aside0 (spillwayref3_ident.l0 kq a0 x3_1 = some r) ∧ Aside0 (kq ≤ k) ∧ Drawn0 w w')
 case atStart=>exact ⟨(0),(by first|rfl|(simp;done)|(simp [*];done)),H',⟨Nat.le_refl _⟩,by repeat (first|exact Drawn0.refl _|apply Drawn0.step)⟩
 clear H'
 obtain ⟨x3_1,rfl,HA,HK1,⟨m1,rfl⟩⟩:=hrel
 cases gk with
 | zero=>exact absurd HA.out (by simp [spillwayref3_ident.l0])
 | succ k1 =>
  have H:=HA.out
  clear HA
  simp only [spillwayref3_ident.l0] at H
  by_cases c2 : x3_1 < (a0.size : Int)
  ·rw [if_pos c2] at H
   have c2b0 : decide (x3_1 < (a0.size : Int)) = true:=decide_eq_true c2
   clear c2
   by_cases c3 : 0 ≤ x3_1
   ·rw [if_pos c3] at H
    have c3b0:=eq_true c3
    have c3b1 : decide (0 ≤ x3_1) = true:=decide_eq_true c3
    clear c3
    by_cases c4 : x3_1 ≤ (wrap64 (x3_1 + 1))
    ·rw [if_pos c4] at H
     have c4b0:=eq_true c4
     have c4b1 : decide (x3_1 ≤ (wrap64 (x3_1 + 1))) = true:=decide_eq_true c4
     by_cases c5 : (wrap64 (x3_1 + 1)) ≤ (a0.size : Int)
     ·rw [if_pos c5] at H
      have c5b0:=eq_true c5
      have c5b1 : decide ((wrap64 (x3_1 + 1)) ≤ (a0.size : Int)) = true:=decide_eq_true c5
      by_cases c6 : 1 + (a0.extract (x3_1 : Int).toNat ((wrap64 (x3_1 + 1)) : Int).toNat).size ≤ 9223372036854775807
      ·rw [if_pos c6] at H
       have c6b0:=eq_true c6
       have c6b1 : decide (1 + (a0.extract (x3_1 : Int).toNat ((wrap64 (x3_1 + 1)) : Int).toNat).size ≤ 9223372036854775807) = true:=decide_eq_true c6
       try have c6b2 : (9223372036854775807 < 1 + (a0.extract (x3_1 : Int).toNat ((wrap64 (x3_1 + 1)) : Int).toNat).size) = False:=eq_false (Nat.not_lt.2 c6)
       have c6b3:=eq_false (Nat.not_lt.2 (show 1 + ((wrap64 (x3_1 + 1)).toNat - x3_1.toNat) ≤ 9223372036854775807 by have h:=c6;simp only [ByteArray.size_extract] at h;have h2 : (wrap64 (x3_1 + 1)).toNat ≤ a0.size:=(by have h3:=c5;generalize wrap64 (x3_1 + 1) = y at h3 ⊢;omega);rw [Nat.min_eq_left h2] at h;exact h))
       replace H:=Option.bind_eq_some_iff.mp H
       obtain ⟨t222,A70,H⟩:=H
       replace H : (if t222 = true then (spillwayref3_ident.l0 k1 a0 (wrap64 (x3_1 + 1))) else (some x3_1)) = some r:=H
       have A7:=Aside0.mk A70
       clear A70
       by_cases c8 : t222 = true
       ·subst c8
        have H1 : (spillwayref3_ident.l0 k1 a0 (wrap64 (x3_1 + 1))) = some r:=by rw [if_pos rfl] at H;exact H
        clear H
        have H:=H1
        clear H1
        have H':=Aside0.mk H
        clear H
        go_wp2_with (first|(go_at_call 29;(with_reducible refine (spillwayref3_Name.calls k1 ((⟨#[95]⟩ : ByteArray) ++ (a0.extract (x3_1 : Int).toNat ((wrap64 (x3_1 + 1)) : Int).toNat)) true _ A7.out).mono ?_);rintro e w' ⟨rfl,⟨nd,rfl⟩⟩))
        go_roundg k1
        case measure=>have:=HK1.out;omega
        case rel=>exact ⟨(wrap64 (x3_1 + 1)),(by first|rfl|(simp;done)|(simp [*];done)),H',⟨by have:=HK1.out;omega⟩,by repeat (first|exact Drawn0.refl _|apply Drawn0.step)⟩
       replace c8:=Bool.eq_false_iff.mpr c8
       subst c8
       have H1 : (some x3_1) = some r:=by rw [if_neg (show ¬ (false = true) by decide)] at H;exact H
       clear H
       have H:=H1
       clear H1
       obtain rfl:=Option.some.inj H
       go_wp2_with (first|(go_at_call 29;(with_reducible refine (spillwayref3_Name.calls k1 ((⟨#[95]⟩ : ByteArray) ++ (a0.extract (x3_1 : Int).toNat ((wrap64 (x3_1 + 1)) : Int).toNat)) false _ A7.out).mono ?_);rintro e w' ⟨rfl,⟨nd,rfl⟩⟩))
       go_ret
       exact ⟨by first|rfl|(simp;done)|(simp [*];done),by repeat (first|exact Drawn0.refl _|apply Drawn0.step)⟩
      rw [if_neg c6] at H
      exact absurd H (by simp)
     rw [if_neg c5] at H
     exact absurd H (by simp)
    rw [if_neg c4] at H
    exact absurd H (by simp)
   rw [if_neg c3] at H
   exact absurd H (by simp)
  rw [if_neg c2] at H
  have c2b0 : decide (x3_1 < (a0.size : Int)) = false:=decide_eq_false c2
  clear c2
  obtain rfl:=Option.some.inj H
  go_wp2
  go_ret
  exact ⟨by first|rfl|(simp;done)|(simp [*];done),by repeat (first|exact Drawn0.refl _|apply Drawn0.step)⟩
end Go.Proofs.YtfgffjchphignaaGreatDoor.Print
end
