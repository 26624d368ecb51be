/- A part of the proof of ExpoPrints: what the functions that the law reaches come to. -/
import Derived.Test.YtfgffjchphignaaGreatDoorC01
import Derived.Test.YtfgffjchphignaaGreatDoorC04
import Derived.Test.YtfgffjchphignaaGreatDoorC03
import Derived.Test.YtfgffjchphignaaGreatDoorC02
import Derived.Shelf.Strings.BuilderF
import Derived.Laws.Cover1
import Derived.Laws.CopyRow
set_option linter.unusedVariables false
set_option linter.unusedSimpArgs false
section
namespace Go.Proofs.YtfgffjchphignaaGreatDoor.Print
open Go.RowKit Go.Proofs.YtfgffjchphignaaGreatDoorX Go.Proofs.YtfgffjchphignaaGreatDoorW.PrintWords Go.Proofs.YtfgffjchphignaaGreatDoorW.PrintLast Go.Proofs.YtfgffjchphignaaGreatDoorW.PrintMore
/-! ### spillwayref3_Print: function 53 -/
mutual
def spillwayref3_Print.j0 : Nat → List (S60) → ByteArray → Option (ByteArray)
 | 0,_,_=>none
 | k + 1,x0,x3=>spillwayref3_Print.l0 k x0 x3 (⟨#[]⟩ : ByteArray) 0 0
def spillwayref3_Print.l0 : Nat → List (S60) → ByteArray → ByteArray → Int → Int → Option (ByteArray)
 | 0,_,_,_,_,_=>none
 | k + 1,x0,x3,x4,x5,x6=>if x6 < (x0.length : Int) then (if 0 ≤ x6 then (if ((rd_T60 x0 x6).f0).toList = ([95,95,110,97,109,101,95,95] : List UInt8) then (spillwayref3_Print.j2 k x0 x3 x4 x5 x6 (x3.toList != ([] : List UInt8))) else (spillwayref3_Print.j2 k x0 x3 x4 x5 x6 false)) else (none)) else (if x5 > 0 then (if 1 + x4.size ≤ 9223372036854775807 then (if ((⟨#[123]⟩ : ByteArray) ++ x4).size + 1 ≤ 9223372036854775807 then (if x3.size + (((⟨#[123]⟩ : ByteArray) ++ x4) ++ (⟨#[125]⟩ : ByteArray)).size ≤ 9223372036854775807 then (some (x3 ++ (((⟨#[123]⟩ : ByteArray) ++ x4) ++ (⟨#[125]⟩ : ByteArray)))) else (none)) else (none)) else (none)) else (if x3.toList = ([] : List UInt8) then (if 1 + x4.size ≤ 9223372036854775807 then (if ((⟨#[123]⟩ : ByteArray) ++ x4).size + 1 ≤ 9223372036854775807 then (if x3.size + (((⟨#[123]⟩ : ByteArray) ++ x4) ++ (⟨#[125]⟩ : ByteArray)).size ≤ 9223372036854775807 then (some (x3 ++ (((⟨#[123]⟩ : ByteArray) ++ x4) ++ (⟨#[125]⟩ : ByteArray)))) else (none)) else (none)) else (none)) else (if x3.size + x4.size ≤ 9223372036854775807 then (some (x3 ++ x4)) else (none))))
def spillwayref3_Print.j2 : Nat → List (S60) → ByteArray → ByteArray → Int → Int → Bool → Option (ByteArray)
 | 0,_,_,_,_,_,_=>none
 | k + 1,x0,x3,x4,x5,x6,x30=>if x30 = true then (spillwayref3_Print.l0 k x0 x3 x4 x5 (wrap64 (x6 + 1))) else (if x5 > 0 then (if x4.size + 1 ≤ 9223372036854775807 then (if 0 ≤ x6 then (if x6 < (x0.length : Int) then (if (x4 ++ (⟨#[44]⟩ : ByteArray)).size + ((rd_T60 x0 x6).f0).size ≤ 9223372036854775807 then (if ((x4 ++ (⟨#[44]⟩ : ByteArray)) ++ ((rd_T60 x0 x6).f0)).size + 1 ≤ 9223372036854775807 then ((spillwayref3_Quote.f k ((rd_T60 x0 x6).f1)).bind fun t218=>(if (((x4 ++ (⟨#[44]⟩ : ByteArray)) ++ ((rd_T60 x0 x6).f0)) ++ (⟨#[61]⟩ : ByteArray)).size + t218.size ≤ 9223372036854775807 then (spillwayref3_Print.l0 k x0 x3 ((((x4 ++ (⟨#[44]⟩ : ByteArray)) ++ ((rd_T60 x0 x6).f0)) ++ (⟨#[61]⟩ : ByteArray)) ++ t218) (wrap64 (x5 + 1)) (wrap64 (x6 + 1))) else (none))) else (none)) else (none)) else (none)) else (none)) else (none)) else (if 0 ≤ x6 then (if x6 < (x0.length : Int) then (if x4.size + ((rd_T60 x0 x6).f0).size ≤ 9223372036854775807 then (if (x4 ++ ((rd_T60 x0 x6).f0)).size + 1 ≤ 9223372036854775807 then ((spillwayref3_Quote.f k ((rd_T60 x0 x6).f1)).bind fun t221=>(if ((x4 ++ ((rd_T60 x0 x6).f0)) ++ (⟨#[61]⟩ : ByteArray)).size + t221.size ≤ 9223372036854775807 then (spillwayref3_Print.l0 k x0 x3 (((x4 ++ ((rd_T60 x0 x6).f0)) ++ (⟨#[61]⟩ : ByteArray)) ++ t221) (wrap64 (x5 + 1)) (wrap64 (x6 + 1))) else (none))) else (none)) else (none)) else (none)) else (none)))
end
def spillwayref3_Print.f (k : Nat) (l0 : List (S60)) : Option (ByteArray):=(spillwayref3_Is.f l0).bind fun t212=>(if t212 = true then ((spillwayref3_Get.f k l0 (⟨#[95,95,110,97,109,101,95,95]⟩ : ByteArray)).bind fun t213=>((spillwayref3_Name.f k t213).bind fun t214=>(if t214 = true then (spillwayref3_Print.j0 k l0 t213) else (spillwayref3_Print.j0 k l0 (⟨#[]⟩ : ByteArray))))) else (some (⟨#[]⟩ : ByteArray)))
set_option maxHeartbeats 8000000 in
set_option maxRecDepth 100000 in
theorem spillwayref3_Print.calls (k : Nat) (A0 : Option Addr) (c0 : Nat) (l0 : List (S60)) (r : ByteArray) (w : World) (hr0 : Kd.C k60 w A0 l0.length l0) (hc0 : l0.length ≤ c0) (h : spillwayref3_Print.f k l0 = some r) :
  Calls Tryz.prog 53 #[.slice A0 l0.length c0] w fun e w'=>e = .returned (.string r) ∧ Below w.heap.size w w':=by
 have HR0:=Aside0.mk hr0
 have HC0:=Aside0.mk hc0
 clear hr0 hc0
 have HB:=Aside0.mk (Below.refl w.heap.size w)
 have H : ((spillwayref3_Is.f l0).bind fun t212=>(if t212 = true then ((spillwayref3_Get.f k l0 (⟨#[95,95,110,97,109,101,95,95]⟩ : ByteArray)).bind fun t213=>((spillwayref3_Name.f k t213).bind fun t214=>(if t214 = true then (spillwayref3_Print.j0 k l0 t213) else (spillwayref3_Print.j0 k l0 (⟨#[]⟩ : ByteArray))))) else (some (⟨#[]⟩ : ByteArray)))) = some r:=h
 clear h
 replace H:=Option.bind_eq_some_iff.mp H
 obtain ⟨t212,A20,H⟩:=H
 replace H : (if t212 = true then ((spillwayref3_Get.f k l0 (⟨#[95,95,110,97,109,101,95,95]⟩ : ByteArray)).bind fun t213=>((spillwayref3_Name.f k t213).bind fun t214=>(if t214 = true then (spillwayref3_Print.j0 k l0 t213) else (spillwayref3_Print.j0 k l0 (⟨#[]⟩ : ByteArray))))) else (some (⟨#[]⟩ : ByteArray))) = some r:=H
 have A2:=Aside0.mk A20
 clear A20
 by_cases c3 : t212 = true
 ·subst c3
  have H1 : ((spillwayref3_Get.f k l0 (⟨#[95,95,110,97,109,101,95,95]⟩ : ByteArray)).bind fun t213=>((spillwayref3_Name.f k t213).bind fun t214=>(if t214 = true then (spillwayref3_Print.j0 k l0 t213) else (spillwayref3_Print.j0 k l0 (⟨#[]⟩ : ByteArray))))) = some r:=by rw [if_pos rfl] at H;exact H
  clear H
  have H:=H1
  clear H1
  replace H:=Option.bind_eq_some_iff.mp H
  obtain ⟨t213,A40,H⟩:=H
  replace H : ((spillwayref3_Name.f k t213).bind fun t214=>(if t214 = true then (spillwayref3_Print.j0 k l0 t213) else (spillwayref3_Print.j0 k l0 (⟨#[]⟩ : ByteArray)))) = some r:=H
  have A4:=Aside0.mk A40
  clear A40
  replace H:=Option.bind_eq_some_iff.mp H
  obtain ⟨t214,A50,H⟩:=H
  replace H : (if t214 = true then (spillwayref3_Print.j0 k l0 t213) else (spillwayref3_Print.j0 k l0 (⟨#[]⟩ : ByteArray))) = some r:=H
  have A5:=Aside0.mk A50
  clear A50
  have HC6:=Aside0.mk H
  clear H
  go_enter Tryz.func53,Tryz.ntmps53
  go_upto_if 14 with (first|(go_at_call 49;(with_reducible refine (spillwayref3_Is.calls _ _ l0 true _ ?side1 ?side2 A2.out).mono ?_);(case side1=>repeat (first|exact HR0.out|(with_reducible refine Kd.C_alloc ?_ _)|(with_reducible refine Kd.C_drewN ?_ _)|(with_reducible refine Kd.C_drew ?_)));(case side2=>exact HC0.out);rintro e w7 ⟨rfl,hb⟩;have n0_:=Aside0.mk (below_step (by repeat (first|(with_reducible first|exact HB.out|apply below_alloc|apply pw_below_drewN|apply below_drew1)|exact HB.out)) hb);clear HB;have HB:=n0_;clear n0_;(try clear hb);(try clear hb2);(try clear hk);(try clear hi))|(go_at_call 33;(with_reducible refine (spillwayref3_Get.calls k _ _ l0 (⟨#[95,95,110,97,109,101,95,95]⟩ : ByteArray) t213 _ ?side1 ?side2 A4.out).mono ?_);(case side1=>repeat (first|exact (Kd.C_below HR0.out HB.out)|(with_reducible refine Kd.C_alloc ?_ _)|(with_reducible refine Kd.C_drewN ?_ _)|(with_reducible refine Kd.C_drew ?_)));(case side2=>exact HC0.out);rintro e w' ⟨rfl,⟨nd,rfl⟩⟩;(try first|exact ⟨rfl,_,World.drewN_drewN _ _ _⟩|exact ⟨rfl,_,Eq.trans (World.drewN_drewN _ _ _) (congrArg (World.drewN _) (Nat.add_assoc _ _ _))⟩))|(go_at_call 29;(with_reducible refine (spillwayref3_Name.calls k t213 t214 _ A5.out).mono ?_);rintro e w' ⟨rfl,⟨nd,rfl⟩⟩;(try first|exact ⟨rfl,_,World.drewN_drewN _ _ _⟩|exact ⟨rfl,_,Eq.trans (World.drewN_drewN _ _ _) (congrArg (World.drewN _) (Nat.add_assoc _ _ _))⟩)))
  repeat (go_quiet (first|(go_at_call 49;(with_reducible refine (spillwayref3_Is.calls _ _ l0 true _ ?side1 ?side2 A2.out).mono ?_);(case side1=>repeat (first|exact HR0.out|(with_reducible refine Kd.C_alloc ?_ _)|(with_reducible refine Kd.C_drewN ?_ _)|(with_reducible refine Kd.C_drew ?_)));(case side2=>exact HC0.out);rintro e w7 ⟨rfl,hb⟩;have n0_:=Aside0.mk (below_step (by repeat (first|(with_reducible first|exact HB.out|apply below_alloc|apply pw_below_drewN|apply below_drew1)|exact HB.out)) hb);clear HB;have HB:=n0_;clear n0_;(try clear hb);(try clear hb2);(try clear hk);(try clear hi))|(go_at_call 33;(with_reducible refine (spillwayref3_Get.calls k _ _ l0 (⟨#[95,95,110,97,109,101,95,95]⟩ : ByteArray) t213 _ ?side1 ?side2 A4.out).mono ?_);(case side1=>repeat (first|exact (Kd.C_below HR0.out HB.out)|(with_reducible refine Kd.C_alloc ?_ _)|(with_reducible refine Kd.C_drewN ?_ _)|(with_reducible refine Kd.C_drew ?_)));(case side2=>exact HC0.out);rintro e w' ⟨rfl,⟨nd,rfl⟩⟩;(try first|exact ⟨rfl,_,World.drewN_drewN _ _ _⟩|exact ⟨rfl,_,Eq.trans (World.drewN_drewN _ _ _) (congrArg (World.drewN _) (Nat.add_assoc _ _ _))⟩))|(go_at_call 29;(with_reducible refine (spillwayref3_Name.calls k t213 t214 _ A5.out).mono ?_);rintro e w' ⟨rfl,⟨nd,rfl⟩⟩;(try first|exact ⟨rfl,_,World.drewN_drewN _ _ _⟩|exact ⟨rfl,_,Eq.trans (World.drewN_drewN _ _ _) (congrArg (World.drewN _) (Nat.add_assoc _ _ _))⟩)));go_upto_if 14 with (first|(go_at_call 49;(with_reducible refine (spillwayref3_Is.calls _ _ l0 true _ ?side1 ?side2 A2.out).mono ?_);(case side1=>repeat (first|exact HR0.out|(with_reducible refine Kd.C_alloc ?_ _)|(with_reducible refine Kd.C_drewN ?_ _)|(with_reducible refine Kd.C_drew ?_)));(case side2=>exact HC0.out);rintro e w7 ⟨rfl,hb⟩;have n0_:=Aside0.mk (below_step (by repeat (first|(with_reducible first|exact HB.out|apply below_alloc|apply pw_below_drewN|apply below_drew1)|exact HB.out)) hb);clear HB;have HB:=n0_;clear n0_;(try clear hb);(try clear hb2);(try clear hk);(try clear hi))|(go_at_call 33;(with_reducible refine (spillwayref3_Get.calls k _ _ l0 (⟨#[95,95,110,97,109,101,95,95]⟩ : ByteArray) t213 _ ?side1 ?side2 A4.out).mono ?_);(case side1=>repeat (first|exact (Kd.C_below HR0.out HB.out)|(with_reducible refine Kd.C_alloc ?_ _)|(with_reducible refine Kd.C_drewN ?_ _)|(with_reducible refine Kd.C_drew ?_)));(case side2=>exact HC0.out);rintro e w' ⟨rfl,⟨nd,rfl⟩⟩;(try first|exact ⟨rfl,_,World.drewN_drewN _ _ _⟩|exact ⟨rfl,_,Eq.trans (World.drewN_drewN _ _ _) (congrArg (World.drewN _) (Nat.add_assoc _ _ _))⟩))|(go_at_call 29;(with_reducible refine (spillwayref3_Name.calls k t213 t214 _ A5.out).mono ?_);rintro e w' ⟨rfl,⟨nd,rfl⟩⟩;(try first|exact ⟨rfl,_,World.drewN_drewN _ _ _⟩|exact ⟨rfl,_,Eq.trans (World.drewN_drewN _ _ _) (congrArg (World.drewN _) (Nat.add_assoc _ _ _))⟩))))
  (try simp only [Act.put,List.setIfInBounds_toArray,List.set_cons_zero,List.set_cons_succ])
  go_cut [3] (fun v3 wc=>∃ (kq : Nat) (x3_5 : ByteArray),v3 = .string x3_5 ∧ Aside0 (spillwayref3_Print.j0 kq l0 x3_5 = some r) ∧ Aside0 (kq ≤ k) ∧ Aside0 (Below w.heap.size w wc))
  case first =>
   have H:=HC6.out
   clear HC6
   by_cases c8 : t214 = true
   ·subst c8
    have H1 : (spillwayref3_Print.j0 k l0 t213) = some r:=by rw [if_pos rfl] at H;exact H
    clear H
    have H:=H1
    clear H1
    have H':=Aside0.mk H
    clear H
    go_wp2
    repeat (go_quiet (fail);try go_wp2)
    go_meet
    case rel=>exact ⟨_,(t213),(by first|rfl|(simp;done)|(simp [*];done)),H',⟨by first|omega|exact Nat.le_refl _⟩,⟨by repeat (first|(with_reducible first|exact HB.out|apply below_alloc|apply pw_below_drewN|apply below_drew1)|exact HB.out)⟩⟩
   replace c8:=Bool.eq_false_iff.mpr c8
   subst c8
   have H1 : (spillwayref3_Print.j0 k l0 (⟨#[]⟩ : ByteArray)) = some r:=by rw [if_neg (show ¬ (false = true) by decide)] at H;exact H
   clear H
   have H:=H1
   clear H1
   have H':=Aside0.mk H
   clear H
   go_wp2
   repeat (go_quiet (fail);try go_wp2)
   go_meet
   case rel=>exact ⟨_,((⟨#[]⟩ : ByteArray)),(by first|rfl|(simp;done)|(simp [*];done)),H',⟨by first|omega|exact Nat.le_refl _⟩,⟨by repeat (first|(with_reducible first|exact HB.out|apply below_alloc|apply pw_below_drewN|apply below_drew1)|exact HB.out)⟩⟩
  clear HC6
  try clear p2
  try clear c3
  try clear c5
  try clear c8
  obtain ⟨kq,x3_5,rfl,HA,HJ5,HB⟩:=hcut
  cases kq with
  | zero=>exact absurd HA.out (by simp [spillwayref3_Print.j0])
  | succ kj5 =>
   have H:=HA.out
   clear HA
   simp only [spillwayref3_Print.j0] at H
   have H':=Aside0.mk H
   clear H
   go_wp2
   repeat (go_quiet (fail);try go_wp2)
   go_loopg [4,5,6] kj5 (fun kq v4 v5 v6 w'=>∃ (x4_2 : ByteArray) (x5_2 : Int) (x6_2 : Int),v4 = .string x4_2 ∧ v5 = .int .i64 x5_2 ∧ v6 = .int .i64 x6_2 ∧ Aside0 (spillwayref3_Print.l0 kq l0 x3_5 x4_2 x5_2 x6_2 = some r) ∧ Aside0 (kq ≤ kj5) ∧ Aside0 (Below w.heap.size w w'))
   case atStart=>exact ⟨((⟨#[]⟩ : ByteArray)),(0),(0),(by first|rfl|(simp;done)|(simp [*];done)),(by first|rfl|(simp;done)|(simp [*];done)),(by first|rfl|(simp;done)|(simp [*];done)),H',⟨Nat.le_refl _⟩,⟨by repeat (first|(with_reducible first|exact HB.out|apply below_alloc|apply pw_below_drewN|apply below_drew1)|exact HB.out)⟩⟩
   clear H'
   try clear p2
   try clear c3
   try clear c5
   try clear c8
   try clear p2
   obtain ⟨x4_2,x5_2,x6_2,rfl,rfl,rfl,HA,HK2,HB⟩:=hrel
   cases gk with
   | zero=>exact absurd HA.out (by simp [spillwayref3_Print.l0])
   | succ k2 =>
    have H:=HA.out
    clear HA
    simp only [spillwayref3_Print.l0] at H
    by_cases c9 : x6_2 < (l0.length : Int)
    ·rw [if_pos c9] at H
     have c9b0 : decide (x6_2 < (l0.length : Int)) = true:=decide_eq_true c9
     clear c9
     have HC10:=Aside0.mk H
     clear H
     go_upto_region 11 with (fail)
     repeat (go_quiet (fail);go_upto_region 11 with (fail))
     go_cut [30] (fun v30 wc=>∃ (kq : Nat) (x30_9 : Bool),v30 = .bool x30_9 ∧ Aside0 (spillwayref3_Print.j2 kq l0 x3_5 x4_2 x5_2 x6_2 x30_9 = some r) ∧ Aside0 (kq ≤ k2) ∧ Aside0 (Below w.heap.size w wc))
     case first =>
      have H:=HC10.out
      clear HC10
      by_cases c11 : 0 ≤ x6_2
      ·rw [if_pos c11] at H
       have c11b0 : decide (0 ≤ x6_2) = true:=decide_eq_true c11
       clear c11
       (first|rw [c11b0]|(simp only [i64_w,i32_w];rw [c11b0])|skip)
       by_cases c12 : ((rd_T60 l0 x6_2).f0).toList = ([95,95,110,97,109,101,95,95] : List UInt8)
       ·rw [if_pos c12] at H
        have c12b0 : (((rd_T60 l0 x6_2).f0).toList == ([95,95,110,97,109,101,95,95] : List UInt8)) = true:=beq_iff_eq.mpr c12
        have c12b1 : (((rd_T60 l0 x6_2).f0).toList != ([95,95,110,97,109,101,95,95] : List UInt8)) = false:=bne_eq_false_iff_eq.mpr c12
        clear c12
        have H':=Aside0.mk H
        clear H
        have p215 : 0 ≤ (x6_2 : Int):=of_decide_eq_true (by first|(with_reducible assumption)|assumption)
        have q215 : x6_2 < (l0.length : Int):=of_decide_eq_true (by first|(with_reducible assumption)|assumption)
        obtain ⟨ad215,e215,hx215_0,hx215_1⟩:=at_T60 HR0.out x6_2 p215 q215
        cases e215
        replace hx215_0:=(HB.out.cell (World.block_lt_of_cell? w _ hx215_0)).trans hx215_0
        replace hx215_1:=(HB.out.cell (World.block_lt_of_cell? w _ hx215_1)).trans hx215_1
        replace p215:=eq_true p215
        replace q215:=eq_true q215
        go_wp2
        repeat (go_quiet (fail);try go_wp2)
        go_meet
        case rel=>exact ⟨_,((x3_5.toList != ([] : List UInt8))),(by first|rfl|(simp;done)|(simp [*];done)|(refine congrArg Value.bool ?_;cases x3_5.toList <;> rfl)),H',⟨by have:=HJ5.out;have:=HK2.out;first|omega|exact Nat.le_refl _⟩,⟨by repeat (first|(with_reducible first|exact HB.out|apply below_alloc|apply pw_below_drewN|apply below_drew1)|exact HB.out)⟩⟩
       rw [if_neg c12] at H
       have c12b0 : (((rd_T60 l0 x6_2).f0).toList == ([95,95,110,97,109,101,95,95] : List UInt8)) = false:=beq_eq_false_iff_ne.mpr c12
       have c12b1 : (((rd_T60 l0 x6_2).f0).toList != ([95,95,110,97,109,101,95,95] : List UInt8)) = true:=bne_iff_ne.mpr c12
       have H':=Aside0.mk H
       clear H
       have p215 : 0 ≤ (x6_2 : Int):=of_decide_eq_true (by first|(with_reducible assumption)|assumption)
       have q215 : x6_2 < (l0.length : Int):=of_decide_eq_true (by first|(with_reducible assumption)|assumption)
       obtain ⟨ad215,e215,hx215_0,hx215_1⟩:=at_T60 HR0.out x6_2 p215 q215
       cases e215
       replace hx215_0:=(HB.out.cell (World.block_lt_of_cell? w _ hx215_0)).trans hx215_0
       replace hx215_1:=(HB.out.cell (World.block_lt_of_cell? w _ hx215_1)).trans hx215_1
       replace p215:=eq_true p215
       replace q215:=eq_true q215
       go_wp2
       repeat (go_quiet (fail);try go_wp2)
       go_meet
       case rel=>exact ⟨_,(false),(by first|rfl|(simp;done)|(simp [*];done)),H',⟨by have:=HJ5.out;have:=HK2.out;first|omega|exact Nat.le_refl _⟩,⟨by repeat (first|(with_reducible first|exact HB.out|apply below_alloc|apply pw_below_drewN|apply below_drew1)|exact HB.out)⟩⟩
      rw [if_neg c11] at H
      exact absurd H (by simp)
     clear HC10
     try clear c1
     try clear p2
     try clear q2
     try clear hx2
     try clear c3
     try clear c5
     try clear c8
     try clear c9
     try clear c9b0
     try clear c11
     try clear c11b0
     try clear c12
     try clear c12b0
     try clear c12b1
     try clear hx215_0
     try clear hx215_1
     try clear p2
     try clear p215
     try clear q215
     obtain ⟨kq,x30_9,rfl,HA,HJ9,HB⟩:=hcut
     cases kq with
     | zero=>exact absurd HA.out (by simp [spillwayref3_Print.j2])
     | succ kj9 =>
      have H:=HA.out
      clear HA
      simp only [spillwayref3_Print.j2] at H
      by_cases c13 : x30_9 = true
      ·subst c13
       have H1 : (spillwayref3_Print.l0 kj9 l0 x3_5 x4_2 x5_2 (wrap64 (x6_2 + 1))) = some r:=by rw [if_pos rfl] at H;exact H
       clear H
       have H:=H1
       clear H1
       have H':=Aside0.mk H
       clear H
       go_wp2
       repeat (go_quiet (fail);try go_wp2)
       go_roundg kj9
       case measure=>have:=HJ5.out;have:=HK2.out;have:=HJ9.out;omega
       case rel=>exact ⟨(x4_2),(x5_2),(wrap64 (x6_2 + 1)),(by first|rfl|(simp;done)|(simp [*];done)),(by first|rfl|(simp;done)|(simp [*];done)),(by first|rfl|(simp;done)|(simp [*];done)),H',⟨by have:=HJ5.out;have:=HK2.out;have:=HJ9.out;omega⟩,⟨by repeat (first|(with_reducible first|exact HB.out|apply below_alloc|apply pw_below_drewN|apply below_drew1)|exact HB.out)⟩⟩
      replace c13:=Bool.eq_false_iff.mpr c13
      subst c13
      have H1 : (if x5_2 > 0 then (if x4_2.size + 1 ≤ 9223372036854775807 then (if 0 ≤ x6_2 then (if x6_2 < (l0.length : Int) then (if (x4_2 ++ (⟨#[44]⟩ : ByteArray)).size + ((rd_T60 l0 x6_2).f0).size ≤ 9223372036854775807 then (if ((x4_2 ++ (⟨#[44]⟩ : ByteArray)) ++ ((rd_T60 l0 x6_2).f0)).size + 1 ≤ 9223372036854775807 then ((spillwayref3_Quote.f kj9 ((rd_T60 l0 x6_2).f1)).bind fun t218=>(if (((x4_2 ++ (⟨#[44]⟩ : ByteArray)) ++ ((rd_T60 l0 x6_2).f0)) ++ (⟨#[61]⟩ : ByteArray)).size + t218.size ≤ 9223372036854775807 then (spillwayref3_Print.l0 kj9 l0 x3_5 ((((x4_2 ++ (⟨#[44]⟩ : ByteArray)) ++ ((rd_T60 l0 x6_2).f0)) ++ (⟨#[61]⟩ : ByteArray)) ++ t218) (wrap64 (x5_2 + 1)) (wrap64 (x6_2 + 1))) else (none))) else (none)) else (none)) else (none)) else (none)) else (none)) else (if 0 ≤ x6_2 then (if x6_2 < (l0.length : Int) then (if x4_2.size + ((rd_T60 l0 x6_2).f0).size ≤ 9223372036854775807 then (if (x4_2 ++ ((rd_T60 l0 x6_2).f0)).size + 1 ≤ 9223372036854775807 then ((spillwayref3_Quote.f kj9 ((rd_T60 l0 x6_2).f1)).bind fun t221=>(if ((x4_2 ++ ((rd_T60 l0 x6_2).f0)) ++ (⟨#[61]⟩ : ByteArray)).size + t221.size ≤ 9223372036854775807 then (spillwayref3_Print.l0 kj9 l0 x3_5 (((x4_2 ++ ((rd_T60 l0 x6_2).f0)) ++ (⟨#[61]⟩ : ByteArray)) ++ t221) (wrap64 (x5_2 + 1)) (wrap64 (x6_2 + 1))) else (none))) else (none)) else (none)) else (none)) else (none))) = some r:=by rw [if_neg (show ¬ (false = true) by decide)] at H;exact H
      clear H
      have H:=H1
      clear H1
      by_cases c14 : x5_2 > 0
      ·rw [if_pos c14] at H
       have c14b0 : decide (0 < x5_2) = true:=decide_eq_true c14
       clear c14
       by_cases c15 : x4_2.size + 1 ≤ 9223372036854775807
       ·rw [if_pos c15] at H
        have c15b0:=eq_true c15
        have c15b1 : decide (x4_2.size + 1 ≤ 9223372036854775807) = true:=decide_eq_true c15
        try have c15b2 : (9223372036854775807 < x4_2.size + 1) = False:=eq_false (Nat.not_lt.2 c15)
        by_cases c16 : 0 ≤ x6_2
        ·rw [if_pos c16] at H
         have c16b0 : decide (0 ≤ x6_2) = true:=decide_eq_true c16
         clear c16
         by_cases c17 : x6_2 < (l0.length : Int)
         ·rw [if_pos c17] at H
          have c17b0 : decide (x6_2 < (l0.length : Int)) = true:=decide_eq_true c17
          clear c17
          by_cases c18 : (x4_2 ++ (⟨#[44]⟩ : ByteArray)).size + ((rd_T60 l0 x6_2).f0).size ≤ 9223372036854775807
          ·rw [if_pos c18] at H
           have c18b0:=eq_true c18
           have c18b1 : decide ((x4_2 ++ (⟨#[44]⟩ : ByteArray)).size + ((rd_T60 l0 x6_2).f0).size ≤ 9223372036854775807) = true:=decide_eq_true c18
           try have c18b2 : (9223372036854775807 < (x4_2 ++ (⟨#[44]⟩ : ByteArray)).size + ((rd_T60 l0 x6_2).f0).size) = False:=eq_false (Nat.not_lt.2 c18)
           try (have c18b3:=c18;simp only [ByteArray.size_append,sz_one] at c18b3;have c18b4:=eq_false (Nat.not_lt.2 c18b3);clear c18b3)
           by_cases c19 : ((x4_2 ++ (⟨#[44]⟩ : ByteArray)) ++ ((rd_T60 l0 x6_2).f0)).size + 1 ≤ 9223372036854775807
           ·rw [if_pos c19] at H
            have c19b0:=eq_true c19
            have c19b1 : decide (((x4_2 ++ (⟨#[44]⟩ : ByteArray)) ++ ((rd_T60 l0 x6_2).f0)).size + 1 ≤ 9223372036854775807) = true:=decide_eq_true c19
            try have c19b2 : (9223372036854775807 < ((x4_2 ++ (⟨#[44]⟩ : ByteArray)) ++ ((rd_T60 l0 x6_2).f0)).size + 1) = False:=eq_false (Nat.not_lt.2 c19)
            try (have c19b3:=c19;simp only [ByteArray.size_append,sz_one] at c19b3;have c19b4:=eq_false (Nat.not_lt.2 c19b3);clear c19b3)
            replace H:=Option.bind_eq_some_iff.mp H
            obtain ⟨t218,A200,H⟩:=H
            replace H : (if (((x4_2 ++ (⟨#[44]⟩ : ByteArray)) ++ ((rd_T60 l0 x6_2).f0)) ++ (⟨#[61]⟩ : ByteArray)).size + t218.size ≤ 9223372036854775807 then (spillwayref3_Print.l0 kj9 l0 x3_5 ((((x4_2 ++ (⟨#[44]⟩ : ByteArray)) ++ ((rd_T60 l0 x6_2).f0)) ++ (⟨#[61]⟩ : ByteArray)) ++ t218) (wrap64 (x5_2 + 1)) (wrap64 (x6_2 + 1))) else (none)) = some r:=H
            have A20:=Aside0.mk A200
            clear A200
            by_cases c21 : (((x4_2 ++ (⟨#[44]⟩ : ByteArray)) ++ ((rd_T60 l0 x6_2).f0)) ++ (⟨#[61]⟩ : ByteArray)).size + t218.size ≤ 9223372036854775807
            ·rw [if_pos c21] at H
             have c21b0:=eq_true c21
             have c21b1 : decide ((((x4_2 ++ (⟨#[44]⟩ : ByteArray)) ++ ((rd_T60 l0 x6_2).f0)) ++ (⟨#[61]⟩ : ByteArray)).size + t218.size ≤ 9223372036854775807) = true:=decide_eq_true c21
             try have c21b2 : (9223372036854775807 < (((x4_2 ++ (⟨#[44]⟩ : ByteArray)) ++ ((rd_T60 l0 x6_2).f0)) ++ (⟨#[61]⟩ : ByteArray)).size + t218.size) = False:=eq_false (Nat.not_lt.2 c21)
             try (have c21b3:=c21;simp only [ByteArray.size_append,sz_one] at c21b3;have c21b4:=eq_false (Nat.not_lt.2 c21b3);clear c21b3)
             have H':=Aside0.mk H
             clear H
             have p216 : 0 ≤ (x6_2 : Int):=of_decide_eq_true (by first|(with_reducible assumption)|assumption)
             have q216 : x6_2 < (l0.length : Int):=of_decide_eq_true (by first|(with_reducible assumption)|assumption)
             obtain ⟨ad216,e216,hx216_0,hx216_1⟩:=at_T60 HR0.out x6_2 p216 q216
             cases e216
             replace hx216_0:=(HB.out.cell (World.block_lt_of_cell? w _ hx216_0)).trans hx216_0
             replace hx216_1:=(HB.out.cell (World.block_lt_of_cell? w _ hx216_1)).trans hx216_1
             replace p216:=eq_true p216
             replace q216:=eq_true q216
             have p217 : 0 ≤ (x6_2 : Int):=of_decide_eq_true (by first|(with_reducible assumption)|assumption)
             have q217 : x6_2 < (l0.length : Int):=of_decide_eq_true (by first|(with_reducible assumption)|assumption)
             obtain ⟨ad217,e217,hx217_0,hx217_1⟩:=at_T60 HR0.out x6_2 p217 q217
             obtain rfl : ad216 = ad217:=(by injection e217)
             replace hx217_0:=(HB.out.cell (World.block_lt_of_cell? w _ hx217_0)).trans hx217_0
             replace hx217_1:=(HB.out.cell (World.block_lt_of_cell? w _ hx217_1)).trans hx217_1
             replace p217:=eq_true p217
             replace q217:=eq_true q217
             go_wp2_with (first|(go_at_call 18;(with_reducible refine (spillwayref3_Quote.calls kj9 ((rd_T60 l0 x6_2).f1) t218 _ A20.out).mono ?_);rintro e w' ⟨rfl,⟨nd,rfl⟩⟩;(try first|exact ⟨rfl,_,World.drewN_drewN _ _ _⟩|exact ⟨rfl,_,Eq.trans (World.drewN_drewN _ _ _) (congrArg (World.drewN _) (Nat.add_assoc _ _ _))⟩)))
             repeat (go_quiet (first|(go_at_call 18;(with_reducible refine (spillwayref3_Quote.calls kj9 ((rd_T60 l0 x6_2).f1) t218 _ A20.out).mono ?_);rintro e w' ⟨rfl,⟨nd,rfl⟩⟩;(try first|exact ⟨rfl,_,World.drewN_drewN _ _ _⟩|exact ⟨rfl,_,Eq.trans (World.drewN_drewN _ _ _) (congrArg (World.drewN _) (Nat.add_assoc _ _ _))⟩)));try go_wp2_with (first|(go_at_call 18;(with_reducible refine (spillwayref3_Quote.calls kj9 ((rd_T60 l0 x6_2).f1) t218 _ A20.out).mono ?_);rintro e w' ⟨rfl,⟨nd,rfl⟩⟩;(try first|exact ⟨rfl,_,World.drewN_drewN _ _ _⟩|exact ⟨rfl,_,Eq.trans (World.drewN_drewN _ _ _) (congrArg (World.drewN _) (Nat.add_assoc _ _ _))⟩))))
             go_roundg kj9
             case measure=>have:=HJ5.out;have:=HK2.out;have:=HJ9.out;omega
             case rel=>exact ⟨((((x4_2 ++ (⟨#[44]⟩ : ByteArray)) ++ ((rd_T60 l0 x6_2).f0)) ++ (⟨#[61]⟩ : ByteArray)) ++ t218),(wrap64 (x5_2 + 1)),(wrap64 (x6_2 + 1)),(by first|rfl|(simp;done)|(simp [*];done)),(by first|rfl|(simp;done)|(simp [*];done)),(by first|rfl|(simp;done)|(simp [*];done)),H',⟨by have:=HJ5.out;have:=HK2.out;have:=HJ9.out;omega⟩,⟨by repeat (first|(with_reducible first|exact HB.out|apply below_alloc|apply pw_below_drewN|apply below_drew1)|exact HB.out)⟩⟩
            rw [if_neg c21] at H
            exact absurd H (by simp)
           rw [if_neg c19] at H
           exact absurd H (by simp)
          rw [if_neg c18] at H
          exact absurd H (by simp)
         rw [if_neg c17] at H
         exact absurd H (by simp)
        rw [if_neg c16] at H
        exact absurd H (by simp)
       rw [if_neg c15] at H
       exact absurd H (by simp)
      rw [if_neg c14] at H
      have c14b0 : decide (0 < x5_2) = false:=decide_eq_false c14
      clear c14
      by_cases c22 : 0 ≤ x6_2
      ·rw [if_pos c22] at H
       have c22b0 : decide (0 ≤ x6_2) = true:=decide_eq_true c22
       clear c22
       by_cases c23 : x6_2 < (l0.length : Int)
       ·rw [if_pos c23] at H
        have c23b0 : decide (x6_2 < (l0.length : Int)) = true:=decide_eq_true c23
        clear c23
        by_cases c24 : x4_2.size + ((rd_T60 l0 x6_2).f0).size ≤ 9223372036854775807
        ·rw [if_pos c24] at H
         have c24b0:=eq_true c24
         have c24b1 : decide (x4_2.size + ((rd_T60 l0 x6_2).f0).size ≤ 9223372036854775807) = true:=decide_eq_true c24
         try have c24b2 : (9223372036854775807 < x4_2.size + ((rd_T60 l0 x6_2).f0).size) = False:=eq_false (Nat.not_lt.2 c24)
         by_cases c25 : (x4_2 ++ ((rd_T60 l0 x6_2).f0)).size + 1 ≤ 9223372036854775807
         ·rw [if_pos c25] at H
          have c25b0:=eq_true c25
          have c25b1 : decide ((x4_2 ++ ((rd_T60 l0 x6_2).f0)).size + 1 ≤ 9223372036854775807) = true:=decide_eq_true c25
          try have c25b2 : (9223372036854775807 < (x4_2 ++ ((rd_T60 l0 x6_2).f0)).size + 1) = False:=eq_false (Nat.not_lt.2 c25)
          try (have c25b3:=c25;simp only [ByteArray.size_append,sz_one] at c25b3;have c25b4:=eq_false (Nat.not_lt.2 c25b3);clear c25b3)
          replace H:=Option.bind_eq_some_iff.mp H
          obtain ⟨t221,A260,H⟩:=H
          replace H : (if ((x4_2 ++ ((rd_T60 l0 x6_2).f0)) ++ (⟨#[61]⟩ : ByteArray)).size + t221.size ≤ 9223372036854775807 then (spillwayref3_Print.l0 kj9 l0 x3_5 (((x4_2 ++ ((rd_T60 l0 x6_2).f0)) ++ (⟨#[61]⟩ : ByteArray)) ++ t221) (wrap64 (x5_2 + 1)) (wrap64 (x6_2 + 1))) else (none)) = some r:=H
          have A26:=Aside0.mk A260
          clear A260
          by_cases c27 : ((x4_2 ++ ((rd_T60 l0 x6_2).f0)) ++ (⟨#[61]⟩ : ByteArray)).size + t221.size ≤ 9223372036854775807
          ·rw [if_pos c27] at H
           have c27b0:=eq_true c27
           have c27b1 : decide (((x4_2 ++ ((rd_T60 l0 x6_2).f0)) ++ (⟨#[61]⟩ : ByteArray)).size + t221.size ≤ 9223372036854775807) = true:=decide_eq_true c27
           try have c27b2 : (9223372036854775807 < ((x4_2 ++ ((rd_T60 l0 x6_2).f0)) ++ (⟨#[61]⟩ : ByteArray)).size + t221.size) = False:=eq_false (Nat.not_lt.2 c27)
           try (have c27b3:=c27;simp only [ByteArray.size_append,sz_one] at c27b3;have c27b4:=eq_false (Nat.not_lt.2 c27b3);clear c27b3)
           have H':=Aside0.mk H
           clear H
           have p219 : 0 ≤ (x6_2 : Int):=of_decide_eq_true (by first|(with_reducible assumption)|assumption)
           have q219 : x6_2 < (l0.length : Int):=of_decide_eq_true (by first|(with_reducible assumption)|assumption)
           obtain ⟨ad219,e219,hx219_0,hx219_1⟩:=at_T60 HR0.out x6_2 p219 q219
           cases e219
           replace hx219_0:=(HB.out.cell (World.block_lt_of_cell? w _ hx219_0)).trans hx219_0
           replace hx219_1:=(HB.out.cell (World.block_lt_of_cell? w _ hx219_1)).trans hx219_1
           replace p219:=eq_true p219
           replace q219:=eq_true q219
           have p220 : 0 ≤ (x6_2 : Int):=of_decide_eq_true (by first|(with_reducible assumption)|assumption)
           have q220 : x6_2 < (l0.length : Int):=of_decide_eq_true (by first|(with_reducible assumption)|assumption)
           obtain ⟨ad220,e220,hx220_0,hx220_1⟩:=at_T60 HR0.out x6_2 p220 q220
           obtain rfl : ad219 = ad220:=(by injection e220)
           replace hx220_0:=(HB.out.cell (World.block_lt_of_cell? w _ hx220_0)).trans hx220_0
           replace hx220_1:=(HB.out.cell (World.block_lt_of_cell? w _ hx220_1)).trans hx220_1
           replace p220:=eq_true p220
           replace q220:=eq_true q220
           go_wp2_with (first|(go_at_call 18;(with_reducible refine (spillwayref3_Quote.calls kj9 ((rd_T60 l0 x6_2).f1) t221 _ A26.out).mono ?_);rintro e w' ⟨rfl,⟨nd,rfl⟩⟩;(try first|exact ⟨rfl,_,World.drewN_drewN _ _ _⟩|exact ⟨rfl,_,Eq.trans (World.drewN_drewN _ _ _) (congrArg (World.drewN _) (Nat.add_assoc _ _ _))⟩)))
           repeat (go_quiet (first|(go_at_call 18;(with_reducible refine (spillwayref3_Quote.calls kj9 ((rd_T60 l0 x6_2).f1) t221 _ A26.out).mono ?_);rintro e w' ⟨rfl,⟨nd,rfl⟩⟩;(try first|exact ⟨rfl,_,World.drewN_drewN _ _ _⟩|exact ⟨rfl,_,Eq.trans (World.drewN_drewN _ _ _) (congrArg (World.drewN _) (Nat.add_assoc _ _ _))⟩)));try go_wp2_with (first|(go_at_call 18;(with_reducible refine (spillwayref3_Quote.calls kj9 ((rd_T60 l0 x6_2).f1) t221 _ A26.out).mono ?_);rintro e w' ⟨rfl,⟨nd,rfl⟩⟩;(try first|exact ⟨rfl,_,World.drewN_drewN _ _ _⟩|exact ⟨rfl,_,Eq.trans (World.drewN_drewN _ _ _) (congrArg (World.drewN _) (Nat.add_assoc _ _ _))⟩))))
           go_roundg kj9
           case measure=>have:=HJ5.out;have:=HK2.out;have:=HJ9.out;omega
           case rel=>exact ⟨(((x4_2 ++ ((rd_T60 l0 x6_2).f0)) ++ (⟨#[61]⟩ : ByteArray)) ++ t221),(wrap64 (x5_2 + 1)),(wrap64 (x6_2 + 1)),(by first|rfl|(simp;done)|(simp [*];done)),(by first|rfl|(simp;done)|(simp [*];done)),(by first|rfl|(simp;done)|(simp [*];done)),H',⟨by have:=HJ5.out;have:=HK2.out;have:=HJ9.out;omega⟩,⟨by repeat (first|(with_reducible first|exact HB.out|apply below_alloc|apply pw_below_drewN|apply below_drew1)|exact HB.out)⟩⟩
          rw [if_neg c27] at H
          exact absurd H (by simp)
         rw [if_neg c25] at H
         exact absurd H (by simp)
        rw [if_neg c24] at H
        exact absurd H (by simp)
       rw [if_neg c23] at H
       exact absurd H (by simp)
      rw [if_neg c22] at H
      exact absurd H (by simp)
    rw [if_neg c9] at H
    have c9b0 : decide (x6_2 < (l0.length : Int)) = false:=decide_eq_false c9
    clear c9
    by_cases c28 : x5_2 > 0
    ·rw [if_pos c28] at H
     have c28b0 : decide (0 < x5_2) = true:=decide_eq_true c28
     clear c28
     by_cases c29 : 1 + x4_2.size ≤ 9223372036854775807
     ·rw [if_pos c29] at H
      have c29b0:=eq_true c29
      have c29b1 : decide (1 + x4_2.size ≤ 9223372036854775807) = true:=decide_eq_true c29
      try have c29b2 : (9223372036854775807 < 1 + x4_2.size) = False:=eq_false (Nat.not_lt.2 c29)
      by_cases c30 : ((⟨#[123]⟩ : ByteArray) ++ x4_2).size + 1 ≤ 9223372036854775807
      ·rw [if_pos c30] at H
       have c30b0:=eq_true c30
       have c30b1 : decide (((⟨#[123]⟩ : ByteArray) ++ x4_2).size + 1 ≤ 9223372036854775807) = true:=decide_eq_true c30
       try have c30b2 : (9223372036854775807 < ((⟨#[123]⟩ : ByteArray) ++ x4_2).size + 1) = False:=eq_false (Nat.not_lt.2 c30)
       try (have c30b3:=c30;simp only [ByteArray.size_append,sz_one] at c30b3;have c30b4:=eq_false (Nat.not_lt.2 c30b3);clear c30b3)
       by_cases c31 : x3_5.size + (((⟨#[123]⟩ : ByteArray) ++ x4_2) ++ (⟨#[125]⟩ : ByteArray)).size ≤ 9223372036854775807
       ·rw [if_pos c31] at H
        have c31b0:=eq_true c31
        have c31b1 : decide (x3_5.size + (((⟨#[123]⟩ : ByteArray) ++ x4_2) ++ (⟨#[125]⟩ : ByteArray)).size ≤ 9223372036854775807) = true:=decide_eq_true c31
        try have c31b2 : (9223372036854775807 < x3_5.size + (((⟨#[123]⟩ : ByteArray) ++ x4_2) ++ (⟨#[125]⟩ : ByteArray)).size) = False:=eq_false (Nat.not_lt.2 c31)
        try (have c31b3:=c31;simp only [ByteArray.size_append,sz_one] at c31b3;have c31b4:=eq_false (Nat.not_lt.2 c31b3);clear c31b3)
        obtain rfl:=Option.some.inj H
        go_wp2
        repeat (go_quiet (fail);try go_wp2)
        go_ret
        exact ⟨by first|rfl|(simp [errW_none,errW_some] <;> rfl)|(simp [*,errW_none,errW_some] <;> rfl),by repeat (first|(with_reducible first|exact HB.out|apply below_alloc|apply pw_below_drewN|apply below_drew1)|exact HB.out)⟩
       rw [if_neg c31] at H
       exact absurd H (by simp)
      rw [if_neg c30] at H
      exact absurd H (by simp)
     rw [if_neg c29] at H
     exact absurd H (by simp)
    rw [if_neg c28] at H
    have c28b0 : decide (0 < x5_2) = false:=decide_eq_false c28
    clear c28
    by_cases c32 : x3_5.toList = ([] : List UInt8)
    ·rw [if_pos c32] at H
     have c32b0 : (x3_5.toList == ([] : List UInt8)) = true:=beq_iff_eq.mpr c32
     have c32b9 : x3_5.toList.isEmpty = true:=by rw [c32];rfl
     have c32b1 : (x3_5.toList != ([] : List UInt8)) = false:=bne_eq_false_iff_eq.mpr c32
     clear c32
     by_cases c33 : 1 + x4_2.size ≤ 9223372036854775807
     ·rw [if_pos c33] at H
      have c33b0:=eq_true c33
      have c33b1 : decide (1 + x4_2.size ≤ 9223372036854775807) = true:=decide_eq_true c33
      try have c33b2 : (9223372036854775807 < 1 + x4_2.size) = False:=eq_false (Nat.not_lt.2 c33)
      by_cases c34 : ((⟨#[123]⟩ : ByteArray) ++ x4_2).size + 1 ≤ 9223372036854775807
      ·rw [if_pos c34] at H
       have c34b0:=eq_true c34
       have c34b1 : decide (((⟨#[123]⟩ : ByteArray) ++ x4_2).size + 1 ≤ 9223372036854775807) = true:=decide_eq_true c34
       try have c34b2 : (9223372036854775807 < ((⟨#[123]⟩ : ByteArray) ++ x4_2).size + 1) = False:=eq_false (Nat.not_lt.2 c34)
       try (have c34b3:=c34;simp only [ByteArray.size_append,sz_one] at c34b3;have c34b4:=eq_false (Nat.not_lt.2 c34b3);clear c34b3)
       by_cases c35 : x3_5.size + (((⟨#[123]⟩ : ByteArray) ++ x4_2) ++ (⟨#[125]⟩ : ByteArray)).size ≤ 9223372036854775807
       ·rw [if_pos c35] at H
        have c35b0:=eq_true c35
        have c35b1 : decide (x3_5.size + (((⟨#[123]⟩ : ByteArray) ++ x4_2) ++ (⟨#[125]⟩ : ByteArray)).size ≤ 9223372036854775807) = true:=decide_eq_true c35
        try have c35b2 : (9223372036854775807 < x3_5.size + (((⟨#[123]⟩ : ByteArray) ++ x4_2) ++ (⟨#[125]⟩ : ByteArray)).size) = False:=eq_false (Nat.not_lt.2 c35)
        try (have c35b3:=c35;simp only [ByteArray.size_append,sz_one] at c35b3;have c35b4:=eq_false (Nat.not_lt.2 c35b3);clear c35b3)
        obtain rfl:=Option.some.inj H
        go_wp2
        repeat (go_quiet (fail);try go_wp2)
        go_ret
        exact ⟨by first|rfl|(simp [errW_none,errW_some] <;> rfl)|(simp [*,errW_none,errW_some] <;> rfl),by repeat (first|(with_reducible first|exact HB.out|apply below_alloc|apply pw_below_drewN|apply below_drew1)|exact HB.out)⟩
       rw [if_neg c35] at H
       exact absurd H (by simp)
      rw [if_neg c34] at H
      exact absurd H (by simp)
     rw [if_neg c33] at H
     exact absurd H (by simp)
    rw [if_neg c32] at H
    have c32b0 : (x3_5.toList == ([] : List UInt8)) = false:=beq_eq_false_iff_ne.mpr c32
    have c32b9 : x3_5.toList.isEmpty = false:=by (cases h_ : x3_5.toList with|nil=>exact absurd h_ c32|cons _ _=>rfl)
    have c32b1 : (x3_5.toList != ([] : List UInt8)) = true:=bne_iff_ne.mpr c32
    by_cases c36 : x3_5.size + x4_2.size ≤ 9223372036854775807
    ·rw [if_pos c36] at H
     have c36b0:=eq_true c36
     have c36b1 : decide (x3_5.size + x4_2.size ≤ 9223372036854775807) = true:=decide_eq_true c36
     try have c36b2 : (9223372036854775807 < x3_5.size + x4_2.size) = False:=eq_false (Nat.not_lt.2 c36)
     obtain rfl:=Option.some.inj H
     go_wp2
     repeat (go_quiet (fail);try go_wp2)
     go_ret
     exact ⟨by first|rfl|(simp [errW_none,errW_some] <;> rfl)|(simp [*,errW_none,errW_some] <;> rfl),by repeat (first|(with_reducible first|exact HB.out|apply below_alloc|apply pw_below_drewN|apply below_drew1)|exact HB.out)⟩
    rw [if_neg c36] at H
    exact absurd H (by simp)
 replace c3:=Bool.eq_false_iff.mpr c3
 subst c3
 have H1 : (some (⟨#[]⟩ : ByteArray)) = some r:=by rw [if_neg (show ¬ (false = true) by decide)] at H;exact H
 clear H
 have H:=H1
 clear H1
 obtain rfl:=Option.some.inj H
 go_enter Tryz.func53,Tryz.ntmps53
 go_wp2_with (first|(go_at_call 49;(with_reducible refine (spillwayref3_Is.calls _ _ l0 false _ ?side1 ?side2 A2.out).mono ?_);(case side1=>repeat (first|exact HR0.out|(with_reducible refine Kd.C_alloc ?_ _)|(with_reducible refine Kd.C_drewN ?_ _)|(with_reducible refine Kd.C_drew ?_)));(case side2=>exact HC0.out);rintro e w37 ⟨rfl,hb⟩;have n0_:=Aside0.mk (below_step (by repeat (first|(with_reducible first|exact HB.out|apply below_alloc|apply pw_below_drewN|apply below_drew1)|exact HB.out)) hb);clear HB;have HB:=n0_;clear n0_;(try clear hb);(try clear hb2);(try clear hk);(try clear hi)))
 repeat (go_quiet (first|(go_at_call 49;(with_reducible refine (spillwayref3_Is.calls _ _ l0 false _ ?side1 ?side2 A2.out).mono ?_);(case side1=>repeat (first|exact HR0.out|(with_reducible refine Kd.C_alloc ?_ _)|(with_reducible refine Kd.C_drewN ?_ _)|(with_reducible refine Kd.C_drew ?_)));(case side2=>exact HC0.out);rintro e w37 ⟨rfl,hb⟩;have n0_:=Aside0.mk (below_step (by repeat (first|(with_reducible first|exact HB.out|apply below_alloc|apply pw_below_drewN|apply below_drew1)|exact HB.out)) hb);clear HB;have HB:=n0_;clear n0_;(try clear hb);(try clear hb2);(try clear hk);(try clear hi)));try go_wp2_with (first|(go_at_call 49;(with_reducible refine (spillwayref3_Is.calls _ _ l0 false _ ?side1 ?side2 A2.out).mono ?_);(case side1=>repeat (first|exact HR0.out|(with_reducible refine Kd.C_alloc ?_ _)|(with_reducible refine Kd.C_drewN ?_ _)|(with_reducible refine Kd.C_drew ?_)));(case side2=>exact HC0.out);rintro e w37 ⟨rfl,hb⟩;have n0_:=Aside0.mk (below_step (by repeat (first|(with_reducible first|exact HB.out|apply below_alloc|apply pw_below_drewN|apply below_drew1)|exact HB.out)) hb);clear HB;have HB:=n0_;clear n0_;(try clear hb);(try clear hb2);(try clear hk);(try clear hi))))
 go_ret
 exact ⟨by first|rfl|(simp [errW_none,errW_some] <;> rfl)|(simp [*,errW_none,errW_some] <;> rfl),by repeat (first|(with_reducible first|exact HB.out|apply below_alloc|apply pw_below_drewN|apply below_drew1)|exact HB.out)⟩
end Go.Proofs.YtfgffjchphignaaGreatDoor.Print
end
section
namespace Go.Proofs.YtfgffjchphignaaGreatDoor.PureN
open Go.RowKit Go.Proofs.YtfgffjchphignaaGreatDoor.Print
open Go.Proofs.YtfgffjchphignaaGreatDoorX Go.Proofs.YtfgffjchphignaaGreatDoorW.PrintWords Go.Proofs.YtfgffjchphignaaGreatDoorW.PrintLast Go.Proofs.YtfgffjchphignaaGreatDoorW.PrintMore
/-! The document's Quote and Quoted (turned from the lex seat's). -/
theorem drop_cons (l : List UInt8) (i : Nat) (h : i < l.length) : l.drop i = l[i] :: l.drop (i + 1):=List.drop_eq_getElem_cons h
theorem w1 (i : Nat) (h : i ≤ 100000) : wrap64 ((i : Int) + 1) = ((i + 1 : Nat) : Int):=by unfold wrap64;omega
theorem ne_int (c : UInt8) (n : Nat) (hn : n < 256) (h : c ≠ UInt8.ofNat n) : ¬ (c.toNat : Int) = (n : Int):=fun e=>h ((Print.toNat_is c n hn).1 e)
theorem eq_int (c : UInt8) (n : Nat) (hn : n < 256) (h : c = UInt8.ofNat n) : (c.toNat : Int) = (n : Int):=(Print.toNat_is c n hn).2 h
def nums (l : List UInt8) : List Int:=l.map fun c=>(c.toNat : Int)
theorem ext_one (l : List UInt8) (i : Nat) (h : i < l.length) : (⟨l.toArray⟩ : ByteArray).extract i (i + 1) = ⟨[l[i]].toArray⟩:=by
 apply ByteArray.ext
 apply Array.ext'
 rw [ByteArray.data_extract,Array.toList_extract]
 show (l.drop i).take (i + 1 - i) = [l[i]]
 rw [drop_cons l i h,show i + 1 - i = 1 by omega]
 rfl
theorem rquote_l0 (l : List UInt8) (hl : l.length ≤ 700) : ∀ (d k i : Nat) (acc : List UInt8),i + d = l.length → d < k → acc.length ≤ 2 * i + 1 →
  spillwayref3_Quote.l0 k ⟨l.toArray⟩ ⟨acc.toArray⟩ (i : Int) = some ⟨(acc ++ (quoteB (l.drop i) ++ [34])).toArray⟩
 | 0,k,i,acc,h,hk,ha=>by
  obtain ⟨k,rfl⟩ : ∃ m,k = m + 1:=⟨k - 1,by omega⟩
  rw [spillwayref3_Quote.l0,size_list,if_neg (by omega),size_list,if_pos (by omega),List.drop_eq_nil_of_le (by omega),show (⟨#[34]⟩ : ByteArray) = ⟨[34].toArray⟩ from rfl,app_list]
  rfl
 | d + 1,k,i,acc,h,hk,ha=>by
  obtain ⟨k,rfl⟩ : ∃ m,k = m + 1:=⟨k - 1,by omega⟩
  have hi : i < l.length:=by omega
  rw [spillwayref3_Quote.l0,size_list,if_pos (by omega),if_pos (by omega),bt_list l i hi,w1 i (by omega),Int.toNat_natCast,Int.toNat_natCast,ext_one l i hi,drop_cons l i hi,quoteB]
  generalize l[i] = c
  rw [show (⟨#[92]⟩ : ByteArray) = ⟨[92].toArray⟩ from rfl,app_list,app_list,app_list,size_list,size_list,size_list]
  have hesc:=rquote_l0 l hl d k (i + 1) ((acc ++ [92]) ++ [c]) (by omega) (by omega) (by simp only [List.length_append,List.length_singleton];omega)
  have hord:=rquote_l0 l hl d k (i + 1) (acc ++ [c]) (by omega) (by omega) (by simp only [List.length_append,List.length_singleton];omega)
  have b1 : acc.length + 1 ≤ 9223372036854775807:=by omega
  have b2 : (i : Int) ≤ ((i + 1 : Nat) : Int):=by omega
  have b3 : ((i + 1 : Nat) : Int) ≤ (l.length : Int):=by omega
  have b4 : (acc ++ [92]).length + [c].length ≤ 9223372036854775807:=by simp only [List.length_append,List.length_singleton];omega
  have b5 : acc.length + [c].length ≤ 9223372036854775807:=by simp only [List.length_singleton];omega
  by_cases c34 : c = 34
  ·rw [if_pos (show (c.toNat : Int) = 34 from eq_int c 34 (by omega) c34),if_pos b1,if_pos b2,if_pos b3,if_pos b4,hesc,if_pos (Or.inl c34)]
   simp
  rw [if_neg (show ¬ (c.toNat : Int) = 34 from ne_int c 34 (by omega) c34)]
  by_cases c92 : c = 92
  ·rw [if_pos (show (c.toNat : Int) = 92 from eq_int c 92 (by omega) c92),if_pos b1,if_pos b2,if_pos b3,if_pos b4,hesc,if_pos (Or.inr c92)]
   simp
  rw [if_neg (show ¬ (c.toNat : Int) = 92 from ne_int c 92 (by omega) c92),if_pos b2,if_pos b3,if_pos b5,hord,if_neg (fun h=>h.elim c34 c92)]
  simp
theorem rquote_eq (l : List UInt8) (k : Nat) (hl : l.length ≤ 700) (hk : 700 < k) : spillwayref3_Quote.f k ⟨l.toArray⟩ = some ⟨(quote l).toArray⟩:=by
 have:=rquote_l0 l hl l.length k 0 [34] (by omega) (by omega) (by simp)
 exact this
/-! The document's Get, ident, Print of label sets. -/
theorem rget_loop (nm : ByteArray) (l : List S60) (hn : l.length ≤ 9223372036854775807) (d : Nat) : ∀ (x k : Nat),x + d = l.length → d < k →
  spillwayref3_Get.l0 k l nm (x : Int) = some (ofL (getL ((l.drop x).map pr) nm.data.toList)):=by
 induction d with
 | zero =>
  intro x k h hk
  obtain ⟨k,rfl⟩ : ∃ m,k = m + 1:=⟨k - 1,by omega⟩
  rw [spillwayref3_Get.l0,if_neg (by omega),List.drop_eq_nil_of_le (by omega)]
  rfl
 | succ d ih =>
  intro x k h hk
  obtain ⟨k,rfl⟩ : ∃ m,k = m + 1:=⟨k - 1,by omega⟩
  have hw : wrap64 ((x : Int) + 1) = ((x + 1 : Nat) : Int):=by unfold wrap64;omega
  have hd : l.drop x = rd_T60 l (x : Int) :: l.drop (x + 1):=by
   rw [List.drop_eq_getElem_cons (show x < l.length by omega)]
   unfold rd_T60
   rw [Int.toNat_natCast,List.getD_eq_getElem?_getD,List.getElem?_eq_getElem (show x < l.length by omega)]
   rfl
  rw [spillwayref3_Get.l0,if_pos (by omega),if_pos (by omega),hw,ih (x + 1) k (by omega) (by omega),hd,List.map_cons]
  unfold getL
  by_cases e : (rd_T60 l (x : Int)).f0.toList = nm.toList
  ·rw [if_pos e,List.find?_cons_of_pos (by rw [ByteArray.toList_eq,ByteArray.toList_eq] at e;simp [pr,e])]
   rfl
  rw [if_neg e,List.find?_cons_of_neg (by rw [ByteArray.toList_eq,ByteArray.toList_eq] at e;simpa [pr] using e)]
theorem rget_eq (nm : ByteArray) (l : List S60) (hn : l.length ≤ 9223372036854775807) (k : Nat) (hk : l.length < k) : spillwayref3_Get.f k l nm = some (ofL (getL (l.map pr) nm.data.toList)):=by
 have:=rget_loop nm l hn l.length 0 k (by omega) hk
 rwa [List.drop_zero] at this
/-! Print. -/
def stepJ (a : List UInt8 × Nat) (p : Pr) : List UInt8 × Nat:=((if 0 < a.2 then a.1 ++ [44] else a.1) ++ oneP p,a.2 + 1)
def keptP (nm : List UInt8) (ps : List Pr) : List Pr:=if nm = [] then ps else ps.filter fun p=>!(p.1 == NL)
theorem stepJ_pos : ∀ (r : List Pr) (acc : List UInt8) (n : Nat),0 < n → r.foldl stepJ (acc,n) = (acc ++ r.flatMap (fun p=>44 :: oneP p),n + r.length)
 | [],acc,n,_=>by simp
 | p :: r,acc,n,h=>by
  rw [List.foldl_cons]
  have e : stepJ (acc,n) p = (acc ++ 44 :: oneP p,n + 1):=by
   unfold stepJ
   rw [if_pos h,List.append_assoc]
   rfl
  rw [e,stepJ_pos r _ _ (by omega),List.flatMap_cons,List.length_cons]
  simp only [List.append_assoc,List.cons_append,Prod.mk.injEq,true_and]
  omega
theorem joinP_flat : ∀ (p : Pr) (r : List Pr),joinP (p :: r) = oneP p ++ r.flatMap (fun p=>44 :: oneP p)
 | p,[]=>by simp [joinP]
 | p,q :: r=>by rw [joinP,joinP_flat q r,List.flatMap_cons];simp
theorem stepJ_all (ps : List Pr) : ps.foldl stepJ ([],0) = (joinP ps,ps.length):=by
 cases ps with
 | nil=>rfl
 | cons p r =>
  rw [List.foldl_cons,joinP_flat]
  have e : stepJ ([],0) p = (oneP p,1):=rfl
  rw [e,stepJ_pos r _ 1 (by omega),List.length_cons]
  simp only [Prod.mk.injEq,true_and]
  omega
def finP (nm : List UInt8) (a : List UInt8 × Nat) : List UInt8:=if 0 < a.2 ∨ nm = [] then nm ++ 123 :: (a.1 ++ [125]) else nm ++ a.1
theorem keptP_cons (nm : List UInt8) (p : Pr) (r : List Pr) : keptP nm (p :: r) = if p.1 = NL ∧ nm ≠ [] then keptP nm r else p :: keptP nm r:=by
 unfold keptP
 by_cases h : nm = []
 ·rw [if_pos h,if_pos h,if_neg (fun hh=>hh.2 h)]
 rw [if_neg h,if_neg h,List.filter_cons]
 by_cases g : p.1 = NL
 ·have e : (!(p.1 == NL)) = false:=by rw [g];simp
  rw [e,if_neg (show ¬ (false = true) by simp),if_pos (show p.1 = NL ∧ nm ≠ [] from ⟨g,h⟩)]
 have e : (!(p.1 == NL)) = true:=by simpa using g
 rw [e,if_pos (show true = true from rfl),if_neg (show ¬ (p.1 = NL ∧ nm ≠ []) from fun hh=>g hh.1)]
theorem rprint_loop (ps : List S60) (hps : ∀ x ∈ ps,x.f0.size ≤ 20 ∧ x.f1.size ≤ 30) (hl : ps.length ≤ 8) (nm : List UInt8) (hnm : nm.length ≤ 100) (d : Nat) : ∀ (i k : Nat) (acc : List UInt8) (n : Nat),i + d = ps.length → 2 * d + 703 < k → acc.length ≤ 200 * i → n ≤ i →
  spillwayref3_Print.l0 k ps (ofL nm) (ofL acc) (n : Int) (i : Int) = some (ofL (finP nm ((keptP nm ((ps.drop i).map pr)).foldl stepJ (acc,n)))):=by
 induction d with
 | zero =>
  intro i k acc n h hk ha hn
  obtain ⟨k,rfl⟩ : ∃ m,k = m + 1:=⟨k - 1,by omega⟩
  rw [List.drop_eq_nil_of_le (by omega)]
  have hkp : keptP nm (([] : List S60).map pr) = []:=by unfold keptP;split <;> rfl
  rw [hkp,List.foldl_nil,spillwayref3_Print.l0,if_neg (by omega)]
  have e1 : (⟨#[123]⟩ : ByteArray) ++ ofL acc = ofL (123 :: acc):=ofL_app [123] acc
  have e2 : ofL (123 :: acc) ++ (⟨#[125]⟩ : ByteArray) = ofL (123 :: (acc ++ [125])):=ofL_app (123 :: acc) [125]
  rw [e1,ofL_size,ofL_size,e2,ofL_size,ofL_size,ofL_app,ofL_app,toList_list]
  unfold finP
  have hb1 : (123 :: acc).length + 1 ≤ 9223372036854775807:=by rw [List.length_cons];omega
  have hb2 : nm.length + (123 :: (acc ++ [125])).length ≤ 9223372036854775807:=by simp only [List.length_cons,List.length_append,List.length_nil];omega
  by_cases h0 : 0 < n
  ·rw [if_pos (by omega),if_pos (by omega),if_pos hb1,if_pos hb2,if_pos (.inl h0)]
  rw [if_neg (by omega)]
  by_cases hm : nm = []
  ·rw [if_pos hm,if_pos (by omega),if_pos hb1,if_pos hb2,if_pos (.inr hm)]
  rw [if_neg hm,if_pos (by omega),if_neg (fun hh=>hh.elim h0 hm)]
 | succ d ih =>
  intro i k acc n h hk ha hn
  obtain ⟨k,rfl⟩ : ∃ m,k = m + 2:=⟨k - 2,by omega⟩
  have hw : ∀ m : Nat,m ≤ 10 → wrap64 ((m : Int) + 1) = ((m + 1 : Nat) : Int):=fun m hm=>by unfold wrap64;omega
  have hlt : i < ps.length:=by omega
  have hd : ps.drop i = rd_T60 ps (i : Int) :: ps.drop (i + 1):=by
   rw [List.drop_eq_getElem_cons hlt]
   unfold rd_T60
   rw [Int.toNat_natCast,List.getD_eq_getElem?_getD,List.getElem?_eq_getElem hlt]
   rfl
  have hmem : rd_T60 ps (i : Int) ∈ ps:=by
   have : rd_T60 ps (i : Int) ∈ ps.drop i:=by rw [hd];exact List.mem_cons_self
   exact List.mem_of_mem_drop this
  obtain ⟨z0,z1⟩:=hps _ hmem
  rw [hd,List.map_cons,keptP_cons,spillwayref3_Print.l0,if_pos (by omega),if_pos (by omega)]
  generalize hx : rd_T60 ps (i : Int) = x at z0 z1
  have hn0 : (x.f0.toList = ([95,95,110,97,109,101,95,95] : List UInt8)) = ((pr x).1 = NL):=by rw [ByteArray.toList_eq];rfl
  have hskip : ∀ (b : Bool),b = true → (pr x).1 = NL ∧ nm ≠ [] → spillwayref3_Print.j2 (k + 1) ps (ofL nm) (ofL acc) n i b = some (ofL (finP nm ((if (pr x).1 = NL ∧ nm ≠ [] then keptP nm ((ps.drop (i + 1)).map pr) else pr x :: keptP nm ((ps.drop (i + 1)).map pr)).foldl stepJ (acc,n)))):=by
   intro b hb hc
   rw [spillwayref3_Print.j2,if_pos hb,if_pos hc,hw i (by omega)]
   exact ih (i + 1) k acc n (by omega) (by omega) (by omega) (by omega)
  have hadd : ∀ (b : Bool),b = false → ¬ ((pr x).1 = NL ∧ nm ≠ []) → spillwayref3_Print.j2 (k + 1) ps (ofL nm) (ofL acc) n i b = some (ofL (finP nm ((if (pr x).1 = NL ∧ nm ≠ [] then keptP nm ((ps.drop (i + 1)).map pr) else pr x :: keptP nm ((ps.drop (i + 1)).map pr)).foldl stepJ (acc,n)))):=by
   intro b hb hc
   have hq : spillwayref3_Quote.f k x.f1 = some (ofL (quote x.f1.data.toList)):=rquote_eq x.f1.data.toList k (by show x.f1.data.toList.length ≤ 700;rw [Array.length_toList];have : x.f1.data.size ≤ 30:=z1;omega) (by omega)
   have hql : (quote x.f1.data.toList).length ≤ 2 * 30 + 2:=by
    have h1 : ∀ l : List UInt8,(quoteB l).length ≤ 2 * l.length:=by
     intro l
     induction l with
     | nil=>simp [quoteB]
     | cons c l ih =>
      rw [quoteB,List.length_append,List.length_cons]
      split <;> simp <;> omega
    have h2:=h1 x.f1.data.toList
    have h3 : x.f1.data.toList.length ≤ 30:=by rw [Array.length_toList];exact z1
    unfold quote
    simp only [List.length_cons,List.length_append,List.length_nil]
    omega
   have hone : oneP (pr x) = x.f0.data.toList ++ 61 :: quote x.f1.data.toList:=rfl
   have hz0 : x.f0.data.toList.length ≤ 20:=by rw [Array.length_toList];exact z0
   have hx0 : x.f0 = ofL x.f0.data.toList:=rfl
   have e61 : (⟨#[61]⟩ : ByteArray) = ofL [61]:=rfl
   have e44 : (⟨#[44]⟩ : ByteArray) = ofL [44]:=rfl
   rw [spillwayref3_Print.j2,if_neg (by rw [hb];simp),if_neg hc,List.foldl_cons,hx]
   by_cases h0 : 0 < n
   ·have est : stepJ (acc,n) (pr x) = (acc ++ [44] ++ x.f0.data.toList ++ [61] ++ quote x.f1.data.toList,n + 1):=by
     unfold stepJ
     rw [if_pos h0,hone]
     simp
    rw [if_pos (by omega),ofL_size,if_pos (by omega),if_pos (by omega),if_pos (by omega),e44,ofL_app,hx0,ofL_app,ofL_size,ofL_size,ofL_size,if_pos (by simp only [List.length_append,List.length_cons,List.length_nil];omega),if_pos (by simp only [List.length_append,List.length_cons,List.length_nil];omega)]
    rw [show (ofL x.f0.data.toList).data.toList = x.f0.data.toList from rfl] at *
    rw [hq,Option.bind_some,e61,ofL_app,ofL_size,ofL_size,if_pos (by simp only [List.length_append,List.length_cons,List.length_nil];omega),ofL_app,hw n (by omega),hw i (by omega),est]
    exact ih (i + 1) k _ (n + 1) (by omega) (by omega) (by simp only [List.length_append,List.length_cons,List.length_nil];omega) (by omega)
   have hn0 : n = 0:=by omega
   have est : stepJ (acc,n) (pr x) = (acc ++ x.f0.data.toList ++ [61] ++ quote x.f1.data.toList,n + 1):=by
    unfold stepJ
    rw [if_neg h0,hone]
    simp
   rw [if_neg (by omega),if_pos (by omega),if_pos (by omega),hx0,ofL_size,ofL_size,if_pos (by omega),ofL_app,ofL_size,if_pos (by simp only [List.length_append];omega)]
   rw [hq,Option.bind_some,e61,ofL_app,ofL_size,ofL_size,if_pos (by simp only [List.length_append,List.length_cons,List.length_nil];omega),ofL_app,hw n (by omega),hw i (by omega),est]
   exact ih (i + 1) k _ (n + 1) (by omega) (by omega) (by simp only [List.length_append,List.length_cons,List.length_nil];omega) (by omega)
  by_cases hN : (pr x).1 = NL
  ·rw [if_pos (hn0.mpr hN)]
   by_cases hm : nm = []
   ·exact hadd _ (by rw [toList_list,hm];rfl) (fun hh=>hh.2 hm)
   exact hskip _ (by rw [toList_list];simpa using hm) ⟨hN,hm⟩
  rw [if_neg (fun e=>hN (hn0.mp e))]
  exact hadd _ rfl (fun hh=>hN hh.1)
end Go.Proofs.YtfgffjchphignaaGreatDoor.PureN
end
section
namespace Go.Proofs.YtfgffjchphignaaGreatDoor.Print
open Go.Sort Go.Shelf PureN
open Go.RowKit Go.Proofs.YtfgffjchphignaaGreatDoorX Go.Proofs.YtfgffjchphignaaGreatDoorW.PrintWords Go.Proofs.YtfgffjchphignaaGreatDoorW.PrintLast Go.Proofs.YtfgffjchphignaaGreatDoorW.PrintMore
/-! Whether a sample may be: expo.Is, spillwayref6.Is. -/
def isScr (x : S34) : Bool:=isS (x.f0.map pr) && nameB (getL (x.f0.map pr) NL) && isNm x.f1.f0 x.f1.f1 && decide (0 ≤ x.f2) && decide (x.f2 ≤ 1000000) && (x.f3 || x.f2 == 0) && decide (0 ≤ x.f4) && decide (x.f4 ≤ 2)
/-- What is asked of pairs: no text is too great. -/
def okPs (l : List S60) : Prop:=l.length ≤ 1000 ∧ ∀ x ∈ l,x.f0.size ≤ 9223372036854775807 ∧ x.f1.size ≤ 9223372036854775807
theorem getL_size (l : List S60) (h : okPs l) : (getL (l.map pr) NL).length ≤ 9223372036854775807:=by
 unfold getL
 cases e : (l.map pr).find? (fun p=>p.1 == NL) with
 | none=>simp
 | some p =>
  obtain ⟨x,hx,rfl⟩:=List.mem_map.1 (List.mem_of_find?_eq_some e)
  have h1:=(h.2 x hx).2
  have h2 : x.f1.data.toList.length = x.f1.size:=Array.length_toList
  show x.f1.data.toList.length ≤ _
  omega
theorem metric_any (l : List S60) (h : okPs l) : ∃ k,expo_metric.f k l = some (ofL (getL (l.map pr) NL),nameB (getL (l.map pr) NL)):=by
 have hg:=getL_size l h
 refine ⟨(getL (l.map pr) NL).length + 2000,?_⟩
 unfold expo_metric.f
 have hG:=get_eq (⟨#[95,95,110,97,109,101,95,95]⟩ : ByteArray) l (by have:=h.1;omega) ((getL (l.map pr) NL).length + 2000) (by have:=h.1;omega)
 rw [show (⟨#[95,95,110,97,109,101,95,95]⟩ : ByteArray).data.toList = NL from rfl] at hG
 rw [hG,Option.bind_some,name_eq _ (by rw [ofL_size];exact hg) _ (by rw [ofL_size];omega)]
 rfl
set_option maxHeartbeats 4000000 in
set_option maxRecDepth 100000 in
theorem expoIs_calls (A : Option Addr) (c : Nat) (l : List S60) (x0 : Bool) (x1 x2 : Int) (x3 : Bool) (x4 : Int) (w : World) (hr : Kd.C k60 w A l.length l) (hc : l.length ≤ c) (hok : okPs l) :
  Calls Tryz.prog 21 #[.agg #[.slice A l.length c,.bool x0,.int .i64 x1,.int .i64 x2,.bool x3,.int .i64 x4]] w fun e w'=>e = .returned (.bool (isScr ⟨l,⟨x0,x1⟩,x2,x3,x4⟩)) ∧ Below w.heap.size w w':=by
 have hx0:=heap_alloc_new w (.cells #[.slice A l.length c,.bool x0,.int .i64 x1,.int .i64 x2,.bool x3,.int .i64 x4] 34)
 have hb0:=below_alloc (Below.refl w.heap.size w) (.cells #[.slice A l.length c,.bool x0,.int .i64 x1,.int .i64 x2,.bool x3,.int .i64 x4] 34)
 have hr0:=Kd.C_below hr hb0
 obtain ⟨k,hM⟩:=metric_any l hok
 have hmc:=expo_metric.calls k A c l _ _ (w.alloc (.cells #[.slice A l.length c,.bool x0,.int .i64 x1,.int .i64 x2,.bool x3,.int .i64 x4] 34)) hr0 hc hM
 have hLf : label_Is.f l = some (isS (l.map pr)):=by unfold label_Is.f;rw [if_pos ⟨hok.1,fun x hx=>(hok.2 x hx).1⟩]
 have hlc:=fun W_ h=>label_Is.calls A c l _ W_ h hc hLf
 have hfc:=fun W_=>fixis_calls x0 x1 W_
 have HQ : Aside0 (isScr ⟨l,⟨x0,x1⟩,x2,x3,x4⟩ = (isS (l.map pr) && nameB (getL (l.map pr) NL) && isNm x0 x1 && decide (0 ≤ x2) && decide (x2 ≤ 1000000) && (x3 || x2 == 0) && decide (0 ≤ x4) && decide (x4 ≤ 2))):=⟨rfl⟩
 have HX0:=Aside0.mk hx0
 have HB0:=Aside0.mk hb0
 have HR0:=Aside0.mk hr0
 generalize nameB (getL (l.map pr) NL) = mb at hmc HQ
 generalize isS (l.map pr) = lb at hlc HQ
 generalize isNm x0 x1 = fb at hfc HQ
 clear hx0 hb0 hr0 hr hM hLf hok
 go_enter Tryz.func21,Tryz.ntmps21
 go_wp2_with (fail)
 refine hmc.mono ?_
 rintro e1 w1 ⟨rfl,hb1⟩
 have HX1:=Aside0.mk ((hb1.block _ (blk_lt HX0.out)).trans HX0.out)
 have HB1:=Aside0.mk (below_step HB0.out hb1)
 have HR1:=Aside0.mk (Kd.C_below HR0.out hb1)
 obtain ⟨⟨y0,y1,y2,y3,y4,y5⟩,_⟩:=cel6 HX1.out
 clear hmc hb1 HX0 HB0 HR0
 cases mb
 case false =>
  go_wp2_with (fail)
  go_ret
  exact ⟨by rw [HQ.out];first|rfl|(simp [*];done),HB1.out⟩
 have hlc1:=hlc w1 HR1.out
 go_wp2_with (fail)
 refine hlc1.mono ?_
 rintro e2 w2 ⟨rfl,hb2⟩
 have HX2:=Aside0.mk ((hb2.block _ (blk_lt HX1.out)).trans HX1.out)
 have HB2:=Aside0.mk (below_step HB1.out hb2)
 have HR2:=Aside0.mk (Kd.C_below HR1.out hb2)
 clear y0 y1 y2 y3 y4 y5
 obtain ⟨⟨y0,y1,y2,y3,y4,y5⟩,_⟩:=cel6 HX2.out
 clear hlc hlc1 hb2 HX1 HB1 HR1
 cases lb
 case false =>
  go_wp2_with (fail)
  go_ret
  exact ⟨by rw [HQ.out];first|rfl|(simp [*];done),HB2.out⟩
 go_wp2_with (fail)
 refine (hfc _).mono ?_
 rintro e3 w3 ⟨rfl,hb3⟩
 have HX3:=Aside0.mk ((hb3.block _ (blk_lt HX2.out)).trans HX2.out)
 have HB3:=Aside0.mk (below_step HB2.out hb3)
 have HR3:=Aside0.mk (Kd.C_below HR2.out hb3)
 clear y0 y1 y2 y3 y4 y5
 obtain ⟨⟨y0,y1,y2,y3,y4,y5⟩,_⟩:=cel6 HX3.out
 clear hfc hb3 HX2 HB2 HR2
 cases fb
 case false =>
  go_wp2_with (fail)
  go_ret
  exact ⟨by rw [HQ.out];first|rfl|(simp [*];done),HB3.out⟩
 by_cases hA : 0 ≤ x2
 case neg =>
  have hAn : decide (0 ≤ x2) = false:=decide_eq_false hA
  go_wp2_with (fail)
  go_ret
  exact ⟨by rw [HQ.out];first|rfl|(simp [*];done),HB3.out⟩
 have hAp : decide (0 ≤ x2) = true:=decide_eq_true hA
 by_cases hB : x2 ≤ 1000000
 case neg =>
  have hBn : decide (x2 ≤ 1000000) = false:=decide_eq_false hB
  go_wp2_with (fail)
  go_ret
  exact ⟨by rw [HQ.out];first|rfl|(simp [*];done),HB3.out⟩
 have hBp : decide (x2 ≤ 1000000) = true:=decide_eq_true hB
 cases x3
 case true =>
  by_cases hC : 0 ≤ x4
  case neg =>
   have hCn : decide (0 ≤ x4) = false:=decide_eq_false hC
   go_wp2_with (fail)
   go_ret
   exact ⟨by rw [HQ.out];first|rfl|(simp [*];done),HB3.out⟩
  have hCp : decide (0 ≤ x4) = true:=decide_eq_true hC
  by_cases hD : x4 ≤ 2
  case neg =>
   have hDn : decide (x4 ≤ 2) = false:=decide_eq_false hD
   go_wp2_with (fail)
   go_ret
   exact ⟨by rw [HQ.out];first|rfl|(simp [*];done),HB3.out⟩
  have hDp : decide (x4 ≤ 2) = true:=decide_eq_true hD
  go_wp2_with (fail)
  go_ret
  exact ⟨by rw [HQ.out];first|rfl|(simp [*];done),HB3.out⟩
 by_cases hE : x2 = 0
 case neg =>
  have hEn : (x2 == 0) = false:=beq_eq_false_iff_ne.2 hE
  go_wp2_with (fail)
  go_ret
  exact ⟨by rw [HQ.out];first|rfl|(simp [*];done),HB3.out⟩
 have hEp : (x2 == 0) = true:=beq_iff_eq.2 hE
 by_cases hC : 0 ≤ x4
 case neg =>
  have hCn : decide (0 ≤ x4) = false:=decide_eq_false hC
  go_wp2_with (fail)
  go_ret
  exact ⟨by rw [HQ.out];first|rfl|(simp [*];done),HB3.out⟩
 have hCp : decide (0 ≤ x4) = true:=decide_eq_true hC
 by_cases hD : x4 ≤ 2
 case neg =>
  have hDn : decide (x4 ≤ 2) = false:=decide_eq_false hD
  go_wp2_with (fail)
  go_ret
  exact ⟨by rw [HQ.out];first|rfl|(simp [*];done),HB3.out⟩
 have hDp : decide (x4 ≤ 2) = true:=decide_eq_true hD
 go_wp2_with (fail)
 go_ret
 exact ⟨by rw [HQ.out];first|rfl|(simp [*];done),HB3.out⟩
set_option maxHeartbeats 4000000 in
set_option maxRecDepth 100000 in
theorem refIs_calls (A : Option Addr) (c : Nat) (l : List S60) (x0 : Bool) (x1 x2 : Int) (x3 : Bool) (x4 : Int) (w : World) (hr : Kd.C k60 w A l.length l) (hc : l.length ≤ c) (hok : okPs l) :
  Calls Tryz.prog 22 #[.agg #[.slice A l.length c,.bool x0,.int .i64 x1,.int .i64 x2,.bool x3,.int .i64 x4]] w fun e w'=>e = .returned (.bool (isScr ⟨l,⟨x0,x1⟩,x2,x3,x4⟩)) ∧ Below w.heap.size w w':=by
 have hx0:=heap_alloc_new w (.cells #[.slice A l.length c,.bool x0,.int .i64 x1,.int .i64 x2,.bool x3,.int .i64 x4] 34)
 have hb0:=below_alloc (Below.refl w.heap.size w) (.cells #[.slice A l.length c,.bool x0,.int .i64 x1,.int .i64 x2,.bool x3,.int .i64 x4] 34)
 have hr0:=Kd.C_below hr hb0
 have hLf : spillwayref3_Is.f l = some (isS (l.map pr)):=by unfold spillwayref3_Is.f;exact if_pos hok
 have hlc:=spillwayref3_Is.calls A c l _ (w.alloc (.cells #[.slice A l.length c,.bool x0,.int .i64 x1,.int .i64 x2,.bool x3,.int .i64 x4] 34)) hr0 hc hLf
 have hgl:=getL_size l hok
 have hG:=rget_eq (⟨#[95,95,110,97,109,101,95,95]⟩ : ByteArray) l (by have:=hok.1;omega) 2000 (by have:=hok.1;omega)
 rw [show (⟨#[95,95,110,97,109,101,95,95]⟩ : ByteArray).data.toList = NL from rfl] at hG
 have hgc:=fun W_ h=>spillwayref3_Get.calls 2000 A c l (⟨#[95,95,110,97,109,101,95,95]⟩ : ByteArray) _ W_ h hc hG
 have hnc:=fun W_=>rname_calls (ofL (getL (l.map pr) NL)) W_ (by rw [ofL_size];exact hgl)
 rw [show (ofL (getL (l.map pr) NL)).data.toList = getL (l.map pr) NL from rfl] at hnc
 have hfc:=fun W_=>spillwayref2_Is.calls x0 x1 (isNm x0 x1) W_ (by unfold spillwayref2_Is.f isNm;cases x0 <;> by_cases h : x1 = -9223372036854775808 <;> simp [h])
 have HQ : Aside0 (isScr ⟨l,⟨x0,x1⟩,x2,x3,x4⟩ = (isS (l.map pr) && nameB (getL (l.map pr) NL) && isNm x0 x1 && decide (0 ≤ x2) && decide (x2 ≤ 1000000) && (x3 || x2 == 0) && decide (0 ≤ x4) && decide (x4 ≤ 2))):=⟨rfl⟩
 have HX0:=Aside0.mk hx0
 have HB0:=Aside0.mk hb0
 have HR0:=Aside0.mk hr0
 generalize nameB (getL (l.map pr) NL) = mb at hnc HQ
 generalize ofL (getL (l.map pr) NL) = nm at hgc hnc
 generalize isS (l.map pr) = lb at hlc HQ
 generalize isNm x0 x1 = fb at hfc HQ
 clear hx0 hb0 hr0 hr hLf hok hgl hG
 go_enter Tryz.func22,Tryz.ntmps22
 go_wp2_with (fail)
 refine hlc.mono ?_
 rintro e1 w1 ⟨rfl,hb1⟩
 have HX1:=Aside0.mk ((hb1.block _ (blk_lt HX0.out)).trans HX0.out)
 have HB1:=Aside0.mk (below_step HB0.out hb1)
 have HR1:=Aside0.mk (Kd.C_below HR0.out hb1)
 obtain ⟨⟨y0,y1,y2,y3,y4,y5⟩,_⟩:=cel6 HX1.out
 clear hlc hb1 HX0 HB0 HR0
 cases lb
 case false =>
  go_wp2_with (fail)
  go_ret
  exact ⟨by rw [HQ.out];first|rfl|(simp [*];done),HB1.out⟩
 have hgc1:=hgc w1 HR1.out
 go_wp2_with (fail)
 refine hgc1.mono ?_
 rintro e2 w2 ⟨rfl,hd2⟩
 obtain ⟨m2,rfl⟩:=hd2.out
 have hb2:=pw_below_drewN (Below.refl w1.heap.size w1) m2
 have HX2:=Aside0.mk ((hb2.block _ (blk_lt HX1.out)).trans HX1.out)
 have HB2:=Aside0.mk (below_step HB1.out hb2)
 have HR2:=Aside0.mk (Kd.C_below HR1.out hb2)
 clear hgc hgc1 hd2 hb2 HX1 HB1 HR1 y0 y1 y2 y3 y4 y5
 generalize w1.drewN m2 = w2 at HX2 HB2 HR2 ⊢
 go_wp2_with (fail)
 refine (hnc _).mono ?_
 rintro e3 w3 ⟨rfl,m3,rfl⟩
 have hb3:=pw_below_drewN (Below.refl w2.heap.size w2) m3
 have HX3:=Aside0.mk ((hb3.block _ (blk_lt HX2.out)).trans HX2.out)
 have HB3:=Aside0.mk (below_step HB2.out hb3)
 have HR3:=Aside0.mk (Kd.C_below HR2.out hb3)
 obtain ⟨⟨y0,y1,y2,y3,y4,y5⟩,_⟩:=cel6 HX3.out
 clear hnc hb3 HX2 HB2 HR2
 cases mb
 case false =>
  go_wp2_with (fail)
  go_ret
  exact ⟨by rw [HQ.out];first|rfl|(simp [*];done),HB3.out⟩
 go_wp2_with (fail)
 refine (hfc _).mono ?_
 rintro e4 w4 ⟨rfl,hb4⟩
 have HX4:=Aside0.mk ((hb4.block _ (blk_lt HX3.out)).trans HX3.out)
 have HB4:=Aside0.mk (below_step HB3.out hb4)
 have HR4:=Aside0.mk (Kd.C_below HR3.out hb4)
 clear y0 y1 y2 y3 y4 y5
 obtain ⟨⟨y0,y1,y2,y3,y4,y5⟩,_⟩:=cel6 HX4.out
 clear hfc hb4 HX3 HB3 HR3
 cases fb
 case false =>
  go_wp2_with (fail)
  go_ret
  exact ⟨by rw [HQ.out];first|rfl|(simp [*];done),HB4.out⟩
 by_cases hA : 0 ≤ x2
 case neg =>
  have hAn : decide (0 ≤ x2) = false:=decide_eq_false hA
  go_wp2_with (fail)
  go_ret
  exact ⟨by rw [HQ.out];first|rfl|(simp [*];done),HB4.out⟩
 have hAp : decide (0 ≤ x2) = true:=decide_eq_true hA
 by_cases hB : x2 ≤ 1000000
 case neg =>
  have hBn : decide (x2 ≤ 1000000) = false:=decide_eq_false hB
  go_wp2_with (fail)
  go_ret
  exact ⟨by rw [HQ.out];first|rfl|(simp [*];done),HB4.out⟩
 have hBp : decide (x2 ≤ 1000000) = true:=decide_eq_true hB
 cases x3
 case true =>
  by_cases hC : 0 ≤ x4
  case neg =>
   have hCn : decide (0 ≤ x4) = false:=decide_eq_false hC
   go_wp2_with (fail)
   go_ret
   exact ⟨by rw [HQ.out];first|rfl|(simp [*];done),HB4.out⟩
  have hCp : decide (0 ≤ x4) = true:=decide_eq_true hC
  by_cases hD : x4 ≤ 2
  case neg =>
   have hDn : decide (x4 ≤ 2) = false:=decide_eq_false hD
   go_wp2_with (fail)
   go_ret
   exact ⟨by rw [HQ.out];first|rfl|(simp [*];done),HB4.out⟩
  have hDp : decide (x4 ≤ 2) = true:=decide_eq_true hD
  go_wp2_with (fail)
  go_ret
  exact ⟨by rw [HQ.out];first|rfl|(simp [*];done),HB4.out⟩
 by_cases hE : x2 = 0
 case neg =>
  have hEn : (x2 == 0) = false:=beq_eq_false_iff_ne.2 hE
  go_wp2_with (fail)
  go_ret
  exact ⟨by rw [HQ.out];first|rfl|(simp [*];done),HB4.out⟩
 have hEp : (x2 == 0) = true:=beq_iff_eq.2 hE
 by_cases hC : 0 ≤ x4
 case neg =>
  have hCn : decide (0 ≤ x4) = false:=decide_eq_false hC
  go_wp2_with (fail)
  go_ret
  exact ⟨by rw [HQ.out];first|rfl|(simp [*];done),HB4.out⟩
 have hCp : decide (0 ≤ x4) = true:=decide_eq_true hC
 by_cases hD : x4 ≤ 2
 case neg =>
  have hDn : decide (x4 ≤ 2) = false:=decide_eq_false hD
  go_wp2_with (fail)
  go_ret
  exact ⟨by rw [HQ.out];first|rfl|(simp [*];done),HB4.out⟩
 have hDp : decide (x4 ≤ 2) = true:=decide_eq_true hD
 go_wp2_with (fail)
 go_ret
 exact ⟨by rw [HQ.out];first|rfl|(simp [*];done),HB4.out⟩
end Go.Proofs.YtfgffjchphignaaGreatDoor.Print
end
section
namespace Go.Proofs.YtfgffjchphignaaGreatDoor.PureN
open Go.RowKit Go.Proofs.YtfgffjchphignaaGreatDoor.Print
open Go.Proofs.YtfgffjchphignaaGreatDoorX Go.Proofs.YtfgffjchphignaaGreatDoorW.PrintWords Go.Proofs.YtfgffjchphignaaGreatDoorW.PrintLast Go.Proofs.YtfgffjchphignaaGreatDoorW.PrintMore
/-! Samples printed, in plain Lean. -/
def oneL (x : S34) : List UInt8:=printL (x.f0.map pr) ++ 32 :: printS x.f1.f0 x.f1.f1 ++ (if x.f3 then 32 :: Lib.decDigits x.f2.toNat else [])
def typL (n : List UInt8) (k : Int) : List UInt8:=[35,32,84,89,80,69,32] ++ n ++ 32 :: kindT k ++ [10]
def putK (K : Kinds) (x : S34) : Kinds:=if kget K (getL (x.f0.map pr) NL) = x.f4 then K else kset K (getL (x.f0.map pr) NL) x.f4
def putT (K : Kinds) (s : List UInt8) (x : S34) : List UInt8:=if kget K (getL (x.f0.map pr) NL) = x.f4 then s else s ++ typL (getL (x.f0.map pr) NL) x.f4
/-- The document's print: it ends at what can't be. -/
def runP (K : Kinds) (s : List UInt8) : List S34 → List UInt8
 | []=>s
 | x :: l=>if isScr x = false then [] else if 300 < (oneL x).length then [] else runP (putK K x) (putT K s x ++ oneL x ++ [10]) l
/-- The program's: a line that is too long is told at the end. -/
def runE (K : Kinds) (s : List UInt8) (long : Bool) : List S34 → List UInt8
 | []=>if long then [] else s
 | x :: l=>if isScr x = false then [] else runE (putK K x) (putT K s x ++ oneL x ++ [10]) (long || decide (300 < (oneL x).length)) l
theorem runE_long : ∀ (l : List S34) (K : Kinds) (s : List UInt8),runE K s true l = []
 | [],_,_=>rfl
 | x :: l,K,s=>by
  rw [runE,Bool.true_or]
  split
  ·rfl
  exact runE_long l _ _
theorem runE_runP : ∀ (l : List S34) (K : Kinds) (s : List UInt8),runE K s false l = runP K s l
 | [],_,_=>rfl
 | x :: l,K,s=>by
  rw [runE,runP,Bool.false_or]
  split
  ·rfl
  by_cases h : 300 < (oneL x).length
  ·rw [if_pos h,decide_eq_true h,runE_long]
  rw [if_neg h,decide_eq_false h,runE_runP l]
structure IsX (x : S34) : Prop where
 ps : isS (x.f0.map pr) = true
 nm : nameB (getL (x.f0.map pr) NL) = true
 num : isNm x.f1.f0 x.f1.f1 = true
 t0 : 0 ≤ x.f2
 t1 : x.f2 ≤ 1000000
 th : x.f3 = false → x.f2 = 0
 k0 : 0 ≤ x.f4
 k1 : x.f4 ≤ 2
theorem isScr_is (x : S34) (h : isScr x = true) : IsX x:=by
 unfold isScr at h
 simp only [Bool.and_eq_true,decide_eq_true_eq,Bool.or_eq_true,beq_iff_eq] at h
 obtain ⟨⟨⟨⟨⟨⟨⟨h1,h2⟩,h3⟩,h4⟩,h5⟩,h6⟩,h7⟩,h8⟩:=h
 exact ⟨h1,h2,h3,h4,h5,fun e=>h6.elim (fun h=>by rw [h] at e;cases e) id,h7,h8⟩
theorem name_le (n : List UInt8) (h : nameB n = true) : n.length ≤ 20:=(name_len h).1
theorem kindT_len (k : Int) : (kindT k).length ≤ 8:=by
 unfold kindT
 split
 ·decide
 split <;> decide
theorem typL_len (n : List UInt8) (k : Int) (h : nameB n = true) : (typL n k).length ≤ 40:=by
 have h1:=name_le n h
 have h2:=kindT_len k
 unfold typL
 simp
 omega
theorem oneP_len (p : Pr) (h : nameB p.1 = true ∧ valB p.2 = true) : (oneP p).length ≤ 90:=by
 have h1:=name_le p.1 h.1
 have h2 : p.2.length ≤ 30:=by
  have:=h.2
  unfold valB at this
  simp at this
  exact this.1.2
 have h3:=quoteB_len p.2
 unfold oneP quote
 simp
 omega
theorem joinP_lim : ∀ ps : List Pr,(∀ p ∈ ps,nameB p.1 = true ∧ valB p.2 = true) → (joinP ps).length ≤ 100 * ps.length
 | [],_=>by simp [joinP]
 | [p],h=>by
  have:=oneP_len p (h p (by simp))
  rw [joinP]
  simp
  omega
 | p :: q :: r,h=>by
  have h1:=oneP_len p (h p (by simp))
  have h2:=joinP_lim (q :: r) (fun z hz=>h z (by simp only [List.mem_cons] at hz ⊢;exact Or.inr hz))
  rw [joinP]
  simp only [List.length_append,List.length_cons] at h2 ⊢
  omega
theorem printL_le (ps : List Pr) (h : isS ps = true) : (printL ps).length ≤ 2000:=by
 have hi:=isS_is ps h
 have hl:=hi.len
 have hg : (getL ps NL).length ≤ 30:=by
  unfold getL
  cases e : ps.find? (fun p=>p.1 == NL) with
  | none=>simp
  | some p =>
   have:=(hi.each p (List.mem_of_find?_eq_some e)).2
   unfold valB at this
   rw [Bool.and_eq_true,Bool.and_eq_true,decide_eq_true_eq,decide_eq_true_eq] at this
   exact this.1.2
 have h1:=joinP_lim ps hi.each
 have h2:=joinP_lim (restP ps) (fun p hp=>hi.each p (List.mem_filter.1 hp).1)
 have h3 : (restP ps).length ≤ ps.length:=List.length_filter_le _ _
 unfold printL
 rw [h,if_pos rfl]
 split
 ·split
  ·omega
  simp only [List.length_append,List.length_cons,List.length_nil]
  omega
 simp only [List.length_append,List.length_cons,List.length_nil]
 omega
end Go.Proofs.YtfgffjchphignaaGreatDoor.PureN
end
section
namespace Go.Proofs.YtfgffjchphignaaGreatDoor.Print
open Go.Sort Go.Shelf PureN Go.Maps Go.WideMaps
open Go.RowKit Go.Proofs.YtfgffjchphignaaGreatDoorX Go.Proofs.YtfgffjchphignaaGreatDoorW.PrintWords Go.Proofs.YtfgffjchphignaaGreatDoorW.PrintLast Go.Proofs.YtfgffjchphignaaGreatDoorW.PrintMore
/-! (*expo.printer).sample -/
theorem MapK.at_block {w w' : World} {b n : Nat} {K : Kinds} (h : MapK w b n K) (hb : w'.heap[b]? = w.heap[b]?) : MapK w' b n K:=by
 obtain ⟨D,⟨es,clock,h1,h2⟩,h3⟩:=h.ex
 exact ⟨D,⟨es,clock,hb.trans h1,h2⟩,h3⟩
structure PrW (w0 w : World) (pb mb n : Nat) (pa pv : Value) (lg : Bool) (S : List UInt8) (K : Kinds) : Prop where
 prb : PrB w0.heap.size pb mb pa pv lg (Lib.byteCells S) w
 pa : IsPa pb pa
 map : MapK w mb n K
 mlow : w0.heap.size ≤ mb
 bel : Below w0.heap.size w0 w
theorem PrW.below {w0 w w' : World} {pb mb n : Nat} {pa pv : Value} {lg : Bool} {S : List UInt8} {K : Kinds} (h : PrW w0 w pb mb n pa pv lg S K) (hb : Below w.heap.size w w') : PrW w0 w' pb mb n pa pv lg S K :=
 ⟨h.prb.below hb,h.pa,h.map.below hb,h.mlow,below_step h.bel hb⟩
theorem PrW.mapped {w0 w w' : World} {pb mb n m : Nat} {pa pv : Value} {lg : Bool} {S : List UInt8} {K K' : Kinds} (h : PrW w0 w pb mb n pa pv lg S K) (hm : MapK w' mb m K') (hg : w.grownBy w' (some mb)) : PrW w0 w' pb mb m pa pv lg S K':=by
 have hne : mb ≠ pb:=h.map.apart h.prb.blk
 have hown : pv.ownBlock = none ∨ pv.ownBlock ≠ some mb:=by
  rcases h.prb.own.2 with ⟨hv,_⟩|⟨g,cap,cur,fz,hv,_,hgk,_⟩
  ·left;rw [hv];rfl
  right
  rw [hv]
  simp only [Value.ownBlock,ne_eq,Option.some.injEq]
  rintro rfl
  exact h.map.apart hgk rfl
 exact ⟨⟨h.prb.low,blk_grown h.prb.blk hg (fun e=>hne (by injection e with e;exact e.symm)),World.ownsRowF.kept h.prb.own hg hown,h.prb.far⟩,h.pa,hm,h.mlow,pw_below_grown h.bel (some mb) h.bel.size hg (fun k hk=>by cases hk;exact h.mlow)⟩
theorem PrW.lined {w0 w w' : World} {pb mb n : Nat} {pa pa' pv pv' : Value} {lg lg' : Bool} {S S' : List UInt8} {K : Kinds} (h : PrW w0 w pb mb n pa pv lg S K) (hp : PrB w0.heap.size pb mb pa' pv' lg' (Lib.byteCells S') w') (hpa : IsPa pb pa') (hb : Below w0.heap.size w w') (ho : Lib.OthersKept 5 (some pb) w w') : PrW w0 w' pb mb n pa' pv' lg' S' K:=by
 obtain ⟨es,clock,hm⟩:=h.map.obj
 have hne : mb ≠ pb:=h.map.apart h.prb.blk
 have hk:=ho mb _ hm (by simpa using hne) (fun c fz e=>by cases e)
 exact ⟨hp,hpa,h.map.at_block (hk.trans hm.symm),h.mlow,⟨h.bel.os |> fun x=>hb.os.trans x,hb.tape.trans h.bel.tape,hb.output.trans h.bel.output,Nat.le_trans h.bel.size hb.size,fun k hk=>(hb.block k hk).trans (h.bel.block k hk)⟩⟩
theorem PrW.other {w0 w w' : World} {pb mb n k : Nat} {pa pv : Value} {lg : Bool} {S : List UInt8} {K : Kinds} {cs : Array Value} (h : PrW w0 w pb mb n pa pv lg S K) (hk : w.heap[k]? = some (.cells cs 9 (0,0))) (hl : w0.heap.size ≤ k) (hg : w.grownBy w' (some k)) : PrW w0 w' pb mb n pa pv lg S K:=by
 have hne : k ≠ pb:=fun e=>by
  subst e
  rw [h.prb.blk] at hk
  injection hk with hk
  injection hk with _ hk
  exact absurd hk (by decide)
 have hown : pv.ownBlock = none ∨ pv.ownBlock ≠ some k:=by
  rcases h.prb.own.2 with ⟨hv,_⟩|⟨g,cap,cur,fz,hv,_,hgk,_⟩
  ·left;rw [hv];rfl
  right
  rw [hv]
  simp only [Value.ownBlock,ne_eq,Option.some.injEq]
  rintro rfl
  rw [hgk] at hk
  injection hk with hk
  injection hk with _ hk
  exact absurd hk (by decide)
 exact ⟨⟨h.prb.low,blk_grown h.prb.blk hg (fun e=>hne (by injection e with e;exact e.symm)),World.ownsRowF.kept h.prb.own hg hown,h.prb.far⟩,h.pa,h.map.grown hg (fun e=>h.map.apart hk (by injection e)),h.mlow,pw_below_grown h.bel (some k) h.bel.size hg (fun j hj=>by cases hj;exact hl)⟩
theorem PrW.more {w0 w : World} {pb mb n m : Nat} {pa pv : Value} {lg : Bool} {S : List UInt8} {K : Kinds} (h : PrW w0 w pb mb n pa pv lg S K) (hm : n ≤ m) : PrW w0 w pb mb m pa pv lg S K:=⟨h.prb,h.pa,h.map.mono hm,h.mlow,h.bel⟩
theorem join2 (a b : ByteArray) (x y : List UInt8) (ha : a.data.toList = x) (hb : b.data.toList = y) (hx : x.length ≤ 5000) (hy : y.length ≤ 5000) : strings_Join.f [a,b] (⟨#[32]⟩ : ByteArray) = some (ofL (x ++ 32 :: y)):=by
 have e : Lib.join ([a,b].map fun z=>z.data.toList) (⟨#[32]⟩ : ByteArray).data.toList = x ++ 32 :: y:=by
  rw [List.map_cons,Lib.join_cons,ha]
  simp [Lib.joinTail,hb]
 unfold strings_Join.f
 rw [e,if_pos ⟨by simp,by simp;omega⟩]
theorem join3 (a b c : ByteArray) (x y z : List UInt8) (ha : a.data.toList = x) (hb : b.data.toList = y) (hc : c.data.toList = z) (hx : x.length ≤ 5000) (hy : y.length ≤ 5000) (hz : z.length ≤ 5000) : strings_Join.f [a,b,c] (⟨#[32]⟩ : ByteArray) = some (ofL (x ++ 32 :: y ++ 32 :: z)):=by
 have e : Lib.join ([a,b,c].map fun z=>z.data.toList) (⟨#[32]⟩ : ByteArray).data.toList = x ++ 32 :: y ++ 32 :: z:=by
  rw [List.map_cons,Lib.join_cons,ha]
  simp [Lib.joinTail,hb,hc]
 unfold strings_Join.f
 rw [e,if_pos ⟨by simp,by simp;omega⟩]
theorem join4 (n t : ByteArray) (x y : List UInt8) (hn : n.data.toList = x) (ht : t.data.toList = y) (hx : x.length ≤ 5000) (hy : y.length ≤ 5000) : strings_Join.f [(⟨#[35]⟩ : ByteArray),(⟨#[84,89,80,69]⟩ : ByteArray),n,t] (⟨#[32]⟩ : ByteArray) = some (ofL ([35,32,84,89,80,69,32] ++ x ++ 32 :: y)):=by
 have e : Lib.join ([(⟨#[35]⟩ : ByteArray),(⟨#[84,89,80,69]⟩ : ByteArray),n,t].map fun z=>z.data.toList) (⟨#[32]⟩ : ByteArray).data.toList = [35,32,84,89,80,69,32] ++ x ++ 32 :: y:=by
  rw [List.map_cons,Lib.join_cons]
  simp [Lib.joinTail,hn,ht]
 unfold strings_Join.f
 rw [e,if_pos ⟨by simp,by simp;omega⟩]
theorem C_texts {w : World} {b : Nat} {ts : List ByteArray} (h : w.heap[b]? = some (.cells (ts.map Value.string).toArray 9 (0,0))) (hl : ts.length ≤ 100) : Kd.C Kd.string w (some ⟨b,0,none⟩) ts.length ts:=by
 refine ⟨rfl,by omega,fun _=>⟨_,rfl,fun j p hj=>?_⟩⟩
 refine ⟨[Value.string p],rfl,rfl,fun i u hu=>?_⟩
 cases i with
 | zero =>
  obtain rfl : Value.string p = u:=by simpa using hu
  have h2:=blk_cell h j
  have e : Addr.add (⟨b,0,none⟩ : Addr) (j * Kd.string.sz + 0) = ⟨b,j,none⟩:=by
   show Addr.add (⟨b,0,none⟩ : Addr) (j * 1 + 0) = _
   rw [Nat.mul_one,Nat.add_zero]
   unfold Addr.add
   split
   ·rename_i h;subst h;rfl
   simp
  rw [e,h2]
  simp [hj]
 | succ i=>simp at hu
theorem R_texts {w : World} {b base : Nat} {ts : List ByteArray} (h : w.heap[b]? = some (.cells (ts.map Value.string).toArray 9 (0,0))) (hb : base ≤ b) (hl : ts.length ≤ 100) : Kd.string.R 9 w base (fun _=>True) (.slice (some ⟨b,0,none⟩) ts.length ts.length) ts:=by
 refine Kd.R_of_own (enc:=Value.string) ⟨?_,.inr ⟨b,ts.length,_,rfl,hb,h,Nat.le_refl _,by unfold maxLen;omega,?_,?_⟩⟩ (fun _ _=>trivial)
 ·rw [encs_length,Nat.mul_one]
 ·simp
 show List.take (ts.length * 1) (ts.map Value.string) = ts.map Value.string
 rw [Nat.mul_one]
 exact List.take_of_length_le (by rw [List.length_map];exact Nat.le_refl _)
theorem itoa_t (t : Int) (h0 : 0 ≤ t) (h1 : t ≤ 1000000) : strconv_Itoa.f t = some (ofL (Lib.decDigits t.toNat)):=by
 unfold strconv_Itoa.f
 rw [if_pos ⟨by omega,by omega⟩]
 have h:=Lib.itoa_nonneg t.toNat
 rw [Int.toNat_of_nonneg h0] at h
 rw [h]
set_option maxHeartbeats 4000000 in
set_option maxRecDepth 100000 in
theorem sample_calls (w0 w : World) (pb mb n : Nat) (pa pv : Value) (lg : Bool) (S : List UInt8) (K : Kinds) (A : Option Addr) (c : Nat) (x : S34) (h : PrW w0 w pb mb n pa pv lg S K) (hg_ : LaidW w0) (hr : Kd.C k60 w0 A x.f0.length x.f0) (hc : x.f0.length ≤ c) (hok : okPs x.f0) (hn : PureN.R x.f1.f1) (hx : isScr x = true) (hS : S.length ≤ 100000000) (hm : n < 1000000) :
  Calls Tryz.prog 51 #[.pointer (some ⟨pb,0,none⟩),.agg #[.slice A x.f0.length c,.bool x.f1.f0,.int .i64 x.f1.f1,.int .i64 x.f2,.bool x.f3,.int .i64 x.f4]] w fun e w'=>e = .returned (.tuple #[]) ∧ ∃ pa' pv',PrW w0 w' pb mb (n + 1) pa' pv' (lg || decide (300 < (oneL x).length)) (putT K S x ++ oneL x ++ [10]) (putK K x):=by
 obtain ⟨k,hM⟩:=metric_any x.f0 hok
 have hix:=isScr_is x hx
 have hnl:=name_le _ hix.nm
 have hpl:=printL_le _ hix.ps
 have hnm_:=hix.nm
 have HH:=Aside0.mk h
 have HR:=Aside0.mk hr
 have HG:=Aside0.mk hg_
 have HS:=Aside0.mk hS
 have HN:=Aside0.mk hm
 have hmc:=fun W_ h=>expo_metric.calls k A c x.f0 _ _ W_ h hc hM
 have HNM : Aside0 ((ofL (getL (x.f0.map pr) NL)).size ≤ maxLen):=⟨by rw [ofL_size];unfold maxLen;omega⟩
 have HND : Aside0 ((ofL (getL (x.f0.map pr) NL)).data.toList = getL (x.f0.map pr) NL):=⟨rfl⟩
 obtain ⟨nm,hnm⟩ : ∃ nm,nm = ofL (getL (x.f0.map pr) NL):=⟨_,rfl⟩
 rw [← hnm] at hmc HNM HND
 have HLN : Aside0 ((getL (x.f0.map pr) NL).length ≤ 20):=⟨hnl⟩
 have HTL : Aside0 ((typL (getL (x.f0.map pr) NL) x.f4).length ≤ 40):=⟨typL_len _ _ hnm_⟩
 have hP1 : PureN.label_Print.f x.f0 = some (ofL (printL (x.f0.map pr))):=by unfold PureN.label_Print.f;exact if_pos ⟨hok.1,fun z hz=>(hok.2 z hz).1⟩
 have hP2:=fixprint_eq x.f1.f0 x.f1.f1 hn
 have hpl2:=printS_len x.f1.f0 x.f1.f1 hn
 obtain ⟨P1,hp1⟩ : ∃ P1 : ByteArray,P1 = ofL (printL (x.f0.map pr)):=⟨_,rfl⟩
 obtain ⟨P2,hp2⟩ : ∃ P2 : ByteArray,P2 = ⟨(printS x.f1.f0 x.f1.f1).toArray⟩:=⟨_,rfl⟩
 rw [← hp1] at hP1
 rw [← hp2] at hP2
 have HP1:=Aside0.mk hP1
 have HP2:=Aside0.mk hP2
 have HC:=Aside0.mk hc
 have hd1 : P1.data.toList = printL (x.f0.map pr):=by rw [hp1]
 have hd2 : P2.data.toList = printS x.f1.f0 x.f1.f1:=by rw [hp2]
 have HJ2 : Aside0 (x.f3 = false → strings_Join.f [P1,P2] (⟨#[32]⟩ : ByteArray) = some (ofL (oneL x))):=⟨fun e=>by
  rw [join2 _ _ _ _ hd1 hd2 (by omega) (by omega)]
  unfold oneL
  rw [e,if_neg (by simp),List.append_nil]⟩
 have hdl : (Lib.decDigits x.f2.toNat).length ≤ 21:=dec_len x.f2.toNat 21 (by omega) (by have:=hix.t1;omega)
 have hI:=itoa_t x.f2 hix.t0 hix.t1
 obtain ⟨P3,hp3⟩ : ∃ P3 : ByteArray,P3 = ofL (Lib.decDigits x.f2.toNat):=⟨_,rfl⟩
 rw [← hp3] at hI
 have HI:=Aside0.mk hI
 have HJ3 : Aside0 (x.f3 = true → strings_Join.f [P1,P2,P3] (⟨#[32]⟩ : ByteArray) = some (ofL (oneL x))):=⟨fun e=>by
  rw [join3 _ _ _ _ _ _ hd1 hd2 (show P3.data.toList = Lib.decDigits x.f2.toNat by rw [hp3]) (by omega) (by omega) (by omega)]
  unfold oneL
  rw [e,if_pos rfl]⟩
 have HOL : Aside0 ((oneL x).length ≤ 3000):=⟨by
  unfold oneL
  split
  ·simp only [List.length_append,List.length_cons];omega
  simp only [List.length_append,List.length_cons,List.length_nil];omega⟩
 have hkt:=kindText_calls x.f4 (by have:=hix.k0;have:=hix.k1;omega)
 obtain ⟨KT,hkt0⟩ : ∃ KT : ByteArray,KT = ofL (kindT x.f4):=⟨_,rfl⟩
 rw [← hkt0] at hkt
 have hktl:=kindT_len x.f4
 have HJ4 : Aside0 (∃ T : ByteArray,strings_Join.f [(⟨#[35]⟩ : ByteArray),(⟨#[84,89,80,69]⟩ : ByteArray),nm,KT] (⟨#[32]⟩ : ByteArray) = some T ∧ T.data.toList ++ [10] = typL (getL (x.f0.map pr) NL) x.f4 ∧ T.size ≤ 40):=⟨by
  refine ⟨_,join4 _ _ _ _ HND.out (show KT.data.toList = kindT x.f4 by rw [hkt0]) (by omega) (by omega),rfl,?_⟩
  rw [ofL_size]
  have h2:=HTL.out
  unfold typL at h2
  rw [List.length_append] at h2
  omega⟩
 have HW4 : Aside0 ((Lit.int .i64 x.f4).wf = true):=⟨WalkArith.wf_i64 (by have:=hix.k0;have:=hix.k1;omega)⟩
 clear hP1 hP2 hp1 hp2 hc hd1 hd2 hI hp3 hdl hpl hpl2 hnl hnm_ hnm hkt0 hktl hix hx hS hm hn hr hg_ hok hM h
 have hxb:=heap_alloc_new w (.cells #[.slice A x.f0.length c,.bool x.f1.f0,.int .i64 x.f1.f1,.int .i64 x.f2,.bool x.f3,.int .i64 x.f4] 34)
 have hbb:=below_alloc (Below.refl w.heap.size w) (.cells #[.slice A x.f0.length c,.bool x.f1.f0,.int .i64 x.f1.f1,.int .i64 x.f2,.bool x.f3,.int .i64 x.f4] 34)
 have HH1:=Aside0.mk (HH.out.below hbb)
 have HX1:=Aside0.mk hxb
 have hmc1:=hmc _ (Kd.C_below HR.out HH1.out.bel)
 clear hxb hbb hmc
 have hk5 : ∀ g : Int,kget K (getL (x.f0.map pr) NL) = g → kget K (getL (x.f0.map pr) NL) = g:=fun g h=>h
 clear hk5
 go_enter Tryz.func51,Tryz.ntmps51
 go_wp2_with (fail)
 refine hmc1.mono ?_
 rintro e2 w2 ⟨rfl,hb2⟩
 have HH2:=Aside0.mk (HH1.out.below hb2)
 have HX2:=Aside0.mk ((hb2.block _ (blk_lt HX1.out)).trans HX1.out)
 clear hmc1 hb2 HH1 HX1 HH
 generalize w.heap.size = xb at HX2 ⊢
 go_wp2_with (fail)
 by_cases hk : kget K (getL (x.f0.map pr) NL) = x.f4
 ·have HPT : Aside0 (putT K S x = S):=⟨if_pos hk⟩
  have HPK : Aside0 (putK K x = K):=⟨if_pos hk⟩
  have HH3:=Aside0.mk (HH2.out.below (below_drew (Below.refl _ _)))
  have HX3:=Aside0.mk (blk_drew HX2.out)
  have hlook:=HH3.out.map.look nm HNM.out
  rw [HND.out,hk] at hlook
  clear HH2 HX2
  refine start_ (n:=10) (S:=fun w'=>w'.cell? ⟨xb,5,none⟩ = some (.int .i64 x.f4) ∧ w'.cell? ⟨pb,0,none⟩ = some (.map (some mb)) ∧ (Instr.lookup 66 (.map (some mb)) (.string nm) false).run Tryz.prog w' = .ok (.int .i64 x.f4) w') (ds:=[]) #[false,false,false,false,false,false,false,false,false,false] (by kernel_rfl) rfl rfl (⟨(blk_cell HX3.out 5).trans rfl,(blk_cell HH3.out.prb.blk 0).trans rfl,hlook⟩) (fun hHeld=>?_)
  clear hlook
  generalize w2.drew = w3 at HH3 HX3 hHeld ⊢
  refine pure_ (i:=0) (N:=some 13) (v:=?_) (a':=?_) #[true,false,false,false,false,false,false,false,false,false] rfl rfl (by kernel_rfl) (fun _ _ _ h=>h) (Or.inl ⟨by first|rfl|exact wanted_on rfl rfl rfl (by rfl),?_⟩) ?_ ?_
  rotate_left
  ·intro w'
   go_simp
   with_reducible rfl
  rotate_left
  ·simp only [Act.put,List.setIfInBounds_toArray,List.set_cons_zero,List.set_cons_succ,i64_w,i32_w]
   rfl
  refine pure_ (i:=2) (N:=some 15) (v:=?_) (a':=?_) #[true,false,true,false,false,false,false,false,false,false] rfl rfl (by kernel_rfl) (fun _ _ _ h=>h) (Or.inl ⟨by first|rfl|exact wanted_on rfl rfl rfl (by rfl),?_⟩) ?_ ?_
  rotate_left
  ·intro w'
   go_simp
   with_reducible rfl
  rotate_left
  ·simp only [Act.put,List.setIfInBounds_toArray,List.set_cons_zero,List.set_cons_succ,i64_w,i32_w]
   rfl
  refine pure_ (i:=3) (N:=some 16) (v:=?_) (a':=?_) #[true,false,true,true,false,false,false,false,false,false] rfl rfl (by kernel_rfl) (fun _ _ _ h=>h) (Or.inl ⟨by first|rfl|exact wanted_on rfl rfl rfl (by rfl),?_⟩) ?_ ?_
  rotate_left
  ·intro w'
   go_simp
   with_reducible rfl
  rotate_left
  ·simp only [Act.put,List.setIfInBounds_toArray,List.set_cons_zero,List.set_cons_succ,i64_w,i32_w]
   rfl
  refine pure_ (i:=4) (N:=some 17) (v:=?_) (a':=?_) #[true,false,true,true,true,false,false,false,false,false] rfl rfl (by kernel_rfl) (fun _ _ _ h=>h) (Or.inl ⟨by first|rfl|exact wanted_on rfl rfl rfl (by rfl),?_⟩) ?_ ?_
  rotate_left
  ·intro w'
   go_simp
   with_reducible rfl
  rotate_left
  ·simp only [Act.put,List.setIfInBounds_toArray,List.set_cons_zero,List.set_cons_succ,i64_w,i32_w]
   rfl
  refine pure_ (i:=5) (N:=some 18) (v:=?_) (a':=?_) #[true,false,true,true,true,true,false,false,false,false] rfl rfl (by kernel_rfl) (fun _ _ _ h=>h) (Or.inl ⟨by first|rfl|exact wanted_on rfl rfl rfl (by rfl),?_⟩) ?_ ?_
  rotate_left
  ·intro w'
   go_simp
   with_reducible rfl
  rotate_left
  ·simp only [Act.put,List.setIfInBounds_toArray,List.set_cons_zero,List.set_cons_succ,i64_w,i32_w]
   rfl
  refine pure_ (i:=7) (N:=some 20) (v:=?_) (a':=?_) #[true,false,true,true,true,true,false,true,false,false] rfl rfl (by kernel_rfl) (fun _ _ _ h=>h) (Or.inl ⟨by first|rfl|exact wanted_on rfl rfl rfl (by rfl),?_⟩) ?_ ?_
  rotate_left
  ·intro w'
   go_simp
   with_reducible rfl
  rotate_left
  ·simp only [Act.put,List.setIfInBounds_toArray,List.set_cons_zero,List.set_cons_succ,i64_w,i32_w]
   rfl
  refine take_ (i:=1) (N:=some 14) (v:=?_) (a':=?_) #[true,true,true,true,true,true,false,true,false,false] rfl rfl (by kernel_rfl) (fun _ _ _ h=>h) (Or.inl ⟨by first|rfl|exact wanted_on rfl rfl rfl (by rfl),?_⟩) hHeld ?_ ?_
  rotate_left
  ·rintro w' ⟨s0,s1,s2⟩
   go_simp
   with_reducible rfl
  rotate_left
  ·simp only [Act.put,List.setIfInBounds_toArray,List.set_cons_zero,List.set_cons_succ,i64_w,i32_w]
   rfl
  refine take_ (i:=6) (N:=some 19) (v:=?_) (a':=?_) #[true,true,true,true,true,true,true,true,false,false] rfl rfl (by kernel_rfl) (fun _ _ _ h=>h) (Or.inl ⟨by first|rfl|exact wanted_on rfl rfl rfl (by rfl),?_⟩) hHeld ?_ ?_
  rotate_left
  ·rintro w' ⟨s0,s1,s2⟩
   go_simp
   with_reducible rfl
  rotate_left
  ·simp only [Act.put,List.setIfInBounds_toArray,List.set_cons_zero,List.set_cons_succ,i64_w,i32_w]
   rfl
  refine take_ (i:=8) (N:=some 21) (v:=?_) (a':=?_) #[true,true,true,true,true,true,true,true,true,false] rfl rfl (by kernel_rfl) (fun _ _ _ h=>h) (Or.inl ⟨by first|rfl|exact wanted_on rfl rfl rfl (by rfl),?_⟩) hHeld ?_ ?_
  rotate_left
  ·rintro w' ⟨s0,s1,s2⟩
   go_simp
   with_reducible rfl
  rotate_left
  ·simp only [Act.put,List.setIfInBounds_toArray,List.set_cons_zero,List.set_cons_succ,i64_w,i32_w]
   rfl
  refine pure_ (i:=9) (N:=some 22) (v:=?_) (a':=?_) #[true,true,true,true,true,true,true,true,true,true] rfl rfl (by kernel_rfl) (fun _ _ _ h=>h) (Or.inl ⟨by first|rfl|exact wanted_on rfl rfl rfl (by rfl),?_⟩) ?_ ?_
  rotate_left
  ·intro w'
   go_simp
   with_reducible rfl
  rotate_left
  ·simp only [Act.put,List.setIfInBounds_toArray,List.set_cons_zero,List.set_cons_succ,i64_w,i32_w]
   rfl
  refine done_ (by kernel_rfl) ?_
  clear hHeld
  go_wp2_with (fail)
  have HH5:=Aside0.mk (HH3.out.below (below_drew (Below.refl _ _)))
  have HX5:=Aside0.mk (blk_drew HX3.out)
  clear HH3 HX3
  refine start_ (n:=8) (S:=fun w'=>w'.cell? ⟨xb,0,none⟩ = some (.slice A x.f0.length c) ∧ w'.cell? ⟨xb,1,none⟩ = some (.bool x.f1.f0) ∧ w'.cell? ⟨xb,2,none⟩ = some (.int .i64 x.f1.f1)) (ds:=[]) #[false,false,false,false,false,false,false,false] (by kernel_rfl) rfl rfl (⟨(blk_cell HX5.out 0).trans rfl,(blk_cell HX5.out 1).trans rfl,(blk_cell HX5.out 2).trans rfl⟩) (fun hHeld=>?_)
  generalize World.drew _ = w5 at HH5 HX5 hHeld ⊢
  refine pure_ (i:=0) (N:=some 38) (v:=?_) (a':=?_) #[true,false,false,false,false,false,false,false] rfl rfl (by kernel_rfl) (fun _ _ _ h=>h) (Or.inl ⟨by first|rfl|exact wanted_on rfl rfl rfl (by rfl),?_⟩) ?_ ?_
  rotate_left
  ·intro w'
   go_simp
   with_reducible rfl
  rotate_left
  ·simp only [Act.put,List.setIfInBounds_toArray,List.set_cons_zero,List.set_cons_succ,i64_w,i32_w]
   rfl
  refine pure_ (i:=3) (N:=some 41) (v:=?_) (a':=?_) #[true,false,false,true,false,false,false,false] rfl rfl (by kernel_rfl) (fun _ _ _ h=>h) (Or.inl ⟨by first|rfl|exact wanted_on rfl rfl rfl (by rfl),?_⟩) ?_ ?_
  rotate_left
  ·intro w'
   go_simp
   with_reducible rfl
  rotate_left
  ·simp only [Act.put,List.setIfInBounds_toArray,List.set_cons_zero,List.set_cons_succ,i64_w,i32_w]
   rfl
  refine take_ (i:=1) (N:=some 39) (v:=?_) (a':=?_) #[true,true,false,true,false,false,false,false] rfl rfl (by kernel_rfl) (fun _ _ _ h=>h) (Or.inl ⟨by first|rfl|exact wanted_on rfl rfl rfl (by rfl),?_⟩) hHeld ?_ ?_
  rotate_left
  ·rintro w' ⟨s0,s1,s2⟩
   go_simp
   with_reducible rfl
  rotate_left
  ·simp only [Act.put,List.setIfInBounds_toArray,List.set_cons_zero,List.set_cons_succ,i64_w,i32_w]
   rfl
  refine take_ (i:=4) (N:=some 42) (v:=?_) (a':=?_) #[true,true,false,true,true,false,false,false] rfl rfl (by kernel_rfl) (fun _ _ _ h=>h) (Or.inl ⟨by first|rfl|exact wanted_on rfl rfl rfl (by rfl),?_⟩) hHeld ?_ ?_
  rotate_left
  ·rintro w' ⟨s0,s1,s2⟩
   go_simp
   with_reducible rfl
  rotate_left
  ·simp only [Act.put,List.setIfInBounds_toArray,List.set_cons_zero,List.set_cons_succ,i64_w,i32_w]
   rfl
  refine one_ (i:=2) (N:=some 40) #[true,true,true,true,true,false,false,false] rfl rfl (by kernel_rfl) (by decide) (fun K_ hK=>?_)
  refine goes_ Tryz.func61 (by kernel_rfl) rfl #[.slice A x.f0.length c] (by rfl) rfl rfl (by (try simp only [List.map_toArray,List.map_cons,List.map_nil]);first|done|rfl) ?_
  refine (label_Print.calls A c x.f0 P1 w5 (Kd.C_below HR.out HH5.out.bel) HC.out HP1.out).mono ?_
  rintro e w6 ⟨rfl,hb6⟩
  refine ⟨_,rfl,?_⟩
  have HH_:=Aside0.mk (HH5.out.below hb6)
  have HX_:=Aside0.mk ((hb6.block _ (blk_lt HX5.out)).trans HX5.out)
  clear HH5 HX5
  have HH5:=HH_
  have HX5:=HX_
  clear HH_ HX_
  clear hb6
  refine hK.out _ _ ⟨(blk_cell HX5.out 0).trans rfl,(blk_cell HX5.out 1).trans rfl,(blk_cell HX5.out 2).trans rfl⟩ (fun hHeld=>?_)
  clear hK
  refine norm_ (a':=?_) ?_ ?_
  rotate_left
  ·show Act.put _ (some 40) _ = _
   simp only [Act.put,List.setIfInBounds_toArray,List.set_cons_zero,List.set_cons_succ,i64_w,i32_w]
   rfl
  refine one_ (i:=5) (N:=some 43) #[true,true,true,true,true,true,false,false] rfl rfl (by kernel_rfl) (by decide) (fun K_ hK=>?_)
  refine goes_ Tryz.func19 (by kernel_rfl) rfl #[.agg #[.bool x.f1.f0,.int .i64 x.f1.f1]] (by rfl) rfl rfl (by (try simp only [List.map_toArray,List.map_cons,List.map_nil]);first|done|rfl) ?_
  refine (fix_Print.calls x.f1.f0 x.f1.f1 P2 w6 (LaidW.below HG.out HH5.out.bel) HP2.out).mono ?_
  rintro e w7 ⟨rfl,hb7⟩
  refine ⟨_,rfl,?_⟩
  have HH_:=Aside0.mk (HH5.out.below hb7)
  have HX_:=Aside0.mk ((hb7.block _ (blk_lt HX5.out)).trans HX5.out)
  clear HH5 HX5
  have HH5:=HH_
  have HX5:=HX_
  clear HH_ HX_
  clear hb7
  refine hK.out _ _ ⟨(blk_cell HX5.out 0).trans rfl,(blk_cell HX5.out 1).trans rfl,(blk_cell HX5.out 2).trans rfl⟩ (fun hHeld=>?_)
  clear hK
  refine norm_ (a':=?_) ?_ ?_
  rotate_left
  ·show Act.put _ (some 43) _ = _
   simp only [Act.put,List.setIfInBounds_toArray,List.set_cons_zero,List.set_cons_succ,i64_w,i32_w]
   rfl
  refine one_ (i:=6) (N:=some 44) #[true,true,true,true,true,true,true,false] rfl rfl (by kernel_rfl) (by decide) (fun K_ hK=>?_)
  refine value_ (w1:=?_) (v:=?_) (by rfl) rfl ?_ ?_
  rotate_left 2
  ·go_simp
   constructor
   ·rfl
   rfl
  have hbl:=below_alloc (Below.refl w7.heap.size w7) (.cells #[.string P1,.string P2] 9)
  have LB:=Aside0.mk (heap_alloc_new w7 (.cells #[.string P1,.string P2] 9))
  have LL : Aside0 (w0.heap.size ≤ w7.heap.size):=⟨HH5.out.bel.size⟩
  have HH_:=Aside0.mk (HH5.out.below hbl)
  have HX_:=Aside0.mk ((hbl.block _ (blk_lt HX5.out)).trans HX5.out)
  clear HH5 HX5
  have HH5:=HH_
  have HX5:=HX_
  clear HH_ HX_
  clear hbl
  refine hK.out _ _ ⟨(blk_cell HX5.out 0).trans rfl,(blk_cell HX5.out 1).trans rfl,(blk_cell HX5.out 2).trans rfl⟩ (fun hHeld=>?_)
  clear hK
  refine norm_ (a':=?_) ?_ ?_
  rotate_left
  ·show Act.put _ (some 44) _ = _
   simp only [Act.put,List.setIfInBounds_toArray,List.set_cons_zero,List.set_cons_succ,i64_w,i32_w]
   rfl
  generalize w7.alloc (.cells #[.string P1,.string P2] 9) = w8 at HH5 HX5 LB hHeld ⊢
  generalize w7.heap.size = lb at LB LL ⊢
  refine pure_ (i:=7) (N:=some 6) (v:=?_) (a':=?_) #[true,true,true,true,true,true,true,true] rfl rfl (by kernel_rfl) (fun _ _ _ h=>h) (Or.inl ⟨by first|rfl|exact wanted_on rfl rfl rfl (by rfl),?_⟩) ?_ ?_
  rotate_left
  ·intro w'
   go_simp
   with_reducible rfl
  rotate_left
  ·simp only [Act.put,List.setIfInBounds_toArray,List.set_cons_zero,List.set_cons_succ,i64_w,i32_w]
   rfl
  refine done_ (by kernel_rfl) ?_
  clear hHeld
  obtain ⟨⟨y0,y1,y2,y3,y4,y5⟩,_⟩:=cel6 HX5.out
  cases e3 : x.f3 with
  | false =>
   rw [e3] at y4
   go_wp2_with (fail)
   refine (prline_calls w0.heap.size pb mb pa pv lg (Lib.byteCells (S)) (some ⟨lb,0,none⟩) 2 [P1,P2] (ofL (oneL x)) w8 HH5.out.prb HH5.out.pa (C_texts (ts:=[P1,P2]) LB.out (by show 2 ≤ 100;omega)) (by show 2 ≤ 2;omega) (HJ2.out e3) (by have:=HOL.out;rw [ofL_size];omega) (by have:=HS.out;have:=HTL.out;rw [Lib.byteCells,List.length_map];omega) HH5.out.bel.size).mono ?_
   rintro e9 w9 ⟨rfl,⟨pv9,hp9⟩,hb9,ho9⟩
   rw [ofL_size] at hp9
   have hfin:=HH5.out.lined (S':=S ++ oneL x ++ [10]) (by rw [Lib.strCells_eq,← Lib.byteCells_append] at hp9;rw [List.append_assoc];exact hp9) (.inr rfl) hb9 ho9
   have HFIN:=Aside0.mk hfin
   clear hfin hp9 hb9 ho9
   go_wp2_with (fail)
   go_end0
   exact ⟨rfl,_,_,by rw [HPT.out,HPK.out];exact HFIN.out.more (Nat.le_succ _)⟩
  | true =>
   rw [e3] at y4
   have HY : Aside0 (LaidW w8):=⟨LaidW.below HG.out HH5.out.bel⟩
   go_wp2_with (fail)
   refine (strconv_Itoa.calls x.f2 P3 _ HY.out HI.out).mono ?_
   rintro e7 w9 ⟨rfl,hb7⟩
   have HH6:=Aside0.mk (HH5.out.below hb7)
   have LB6:=Aside0.mk ((hb7.block _ (blk_lt LB.out)).trans LB.out)
   clear hb7 HH5 LB y0 y1 y2 y3 y4 y5 HX5
   go_wp2_with (first|((with_reducible refine gate_builtin (b:=.append) (xs:=#[.tmp 47,.tmp 51]) rfl ?_);at_builtin;refine Kd.R_append Kd.string (w0:=w0) w0.heap.size rfl (.tmp 47) (.tmp 51) 45 9 (.string ⟨#[]⟩) 16 rfl Tryz.underlying45 info9 rfl (by decide) (by omega) (.slice (some ⟨lb,0,none⟩) 2 2) [P1,P2] P3 [.string P3] (fun _=>True) (fun _=>False) rfl (by first|(go_simp;done)|(go_simp;rfl)) ?aP (fun _ hk=>hk.elim) ?aF ?aO ?aB ?aS ?aL ?_;(case aP=>exact rfl);(case aF=>exact (fun _ _=>trivial));(case aO=>exact R_texts (ts:=[P1,P2]) LB6.out LL.out (by show 2 ≤ 100;omega));(case aB=>exact HH6.out.bel);(case aS=>exact HH6.out.bel.size);(case aL=>show (2 + 1) * 16 ≤ 140737488355328;omega);intro v5' w10 ho4 hb4 hg4 hat4;have HH7:=Aside0.mk (HH6.out.other LB6.out LL.out hg4);obtain ⟨A2,n2,rfl⟩:=Kd.R_slice ho4;have HO:=Aside0.mk (Kd.R_reads' ho4);clear ho4 hb4 hg4 hat4))
   refine (prline_calls w0.heap.size pb mb pa pv lg (Lib.byteCells (S)) A2 n2 [P1,P2,P3] (ofL (oneL x)) w10 HH7.out.prb HH7.out.pa HO.out.2.2 HO.out.2.1 (HJ3.out e3) (by have:=HOL.out;rw [ofL_size];omega) (by have:=HS.out;have:=HTL.out;rw [Lib.byteCells,List.length_map];omega) HH7.out.bel.size).mono ?_
   rintro e9 w9 ⟨rfl,⟨pv9,hp9⟩,hb9,ho9⟩
   rw [ofL_size] at hp9
   have hfin:=HH7.out.lined (S':=S ++ oneL x ++ [10]) (by rw [Lib.strCells_eq,← Lib.byteCells_append] at hp9;rw [List.append_assoc];exact hp9) (.inr rfl) hb9 ho9
   have HFIN:=Aside0.mk hfin
   clear hfin hp9 hb9 ho9
   go_wp2_with (fail)
   go_end0
   exact ⟨rfl,_,_,by rw [HPT.out,HPK.out];exact HFIN.out.more (Nat.le_succ _)⟩
 have HPT : Aside0 (putT K S x = S ++ typL (getL (x.f0.map pr) NL) x.f4):=⟨if_neg hk⟩
 have HPK : Aside0 (putK K x = kset K (getL (x.f0.map pr) NL) x.f4):=⟨if_neg hk⟩
 generalize hk_ : kget K (getL (x.f0.map pr) NL) = kg at hk
 have kn1 : (x.f4 == kg) = false:=beq_eq_false_iff_ne.2 (fun e=>hk e.symm)
 have kn2 : (kg == x.f4) = false:=beq_eq_false_iff_ne.2 hk
 have hk:=hk_
 clear hk_
 have HH3:=Aside0.mk (HH2.out.below (below_drew (Below.refl _ _)))
 have HX3:=Aside0.mk (blk_drew HX2.out)
 have hlook:=HH3.out.map.look nm HNM.out
 rw [HND.out,hk] at hlook
 clear HH2 HX2
 refine start_ (n:=10) (S:=fun w'=>w'.cell? ⟨xb,5,none⟩ = some (.int .i64 x.f4) ∧ w'.cell? ⟨pb,0,none⟩ = some (.map (some mb)) ∧ (Instr.lookup 66 (.map (some mb)) (.string nm) false).run Tryz.prog w' = .ok (.int .i64 kg) w') (ds:=[]) #[false,false,false,false,false,false,false,false,false,false] (by kernel_rfl) rfl rfl (⟨(blk_cell HX3.out 5).trans rfl,(blk_cell HH3.out.prb.blk 0).trans rfl,hlook⟩) (fun hHeld=>?_)
 clear hlook
 generalize w2.drew = w3 at HH3 HX3 hHeld ⊢
 refine pure_ (i:=0) (N:=some 13) (v:=?_) (a':=?_) #[true,false,false,false,false,false,false,false,false,false] rfl rfl (by kernel_rfl) (fun _ _ _ h=>h) (Or.inl ⟨by first|rfl|exact wanted_on rfl rfl rfl (by rfl),?_⟩) ?_ ?_
 rotate_left
 ·intro w'
  go_simp
  with_reducible rfl
 rotate_left
 ·simp only [Act.put,List.setIfInBounds_toArray,List.set_cons_zero,List.set_cons_succ,i64_w,i32_w]
  rfl
 refine pure_ (i:=2) (N:=some 15) (v:=?_) (a':=?_) #[true,false,true,false,false,false,false,false,false,false] rfl rfl (by kernel_rfl) (fun _ _ _ h=>h) (Or.inl ⟨by first|rfl|exact wanted_on rfl rfl rfl (by rfl),?_⟩) ?_ ?_
 rotate_left
 ·intro w'
  go_simp
  with_reducible rfl
 rotate_left
 ·simp only [Act.put,List.setIfInBounds_toArray,List.set_cons_zero,List.set_cons_succ,i64_w,i32_w]
  rfl
 refine pure_ (i:=3) (N:=some 16) (v:=?_) (a':=?_) #[true,false,true,true,false,false,false,false,false,false] rfl rfl (by kernel_rfl) (fun _ _ _ h=>h) (Or.inl ⟨by first|rfl|exact wanted_on rfl rfl rfl (by rfl),?_⟩) ?_ ?_
 rotate_left
 ·intro w'
  go_simp
  with_reducible rfl
 rotate_left
 ·simp only [Act.put,List.setIfInBounds_toArray,List.set_cons_zero,List.set_cons_succ,i64_w,i32_w]
  rfl
 refine pure_ (i:=4) (N:=some 17) (v:=?_) (a':=?_) #[true,false,true,true,true,false,false,false,false,false] rfl rfl (by kernel_rfl) (fun _ _ _ h=>h) (Or.inl ⟨by first|rfl|exact wanted_on rfl rfl rfl (by rfl),?_⟩) ?_ ?_
 rotate_left
 ·intro w'
  go_simp
  with_reducible rfl
 rotate_left
 ·simp only [Act.put,List.setIfInBounds_toArray,List.set_cons_zero,List.set_cons_succ,i64_w,i32_w]
  rfl
 refine pure_ (i:=5) (N:=some 18) (v:=?_) (a':=?_) #[true,false,true,true,true,true,false,false,false,false] rfl rfl (by kernel_rfl) (fun _ _ _ h=>h) (Or.inl ⟨by first|rfl|exact wanted_on rfl rfl rfl (by rfl),?_⟩) ?_ ?_
 rotate_left
 ·intro w'
  go_simp
  with_reducible rfl
 rotate_left
 ·simp only [Act.put,List.setIfInBounds_toArray,List.set_cons_zero,List.set_cons_succ,i64_w,i32_w]
  rfl
 refine pure_ (i:=7) (N:=some 20) (v:=?_) (a':=?_) #[true,false,true,true,true,true,false,true,false,false] rfl rfl (by kernel_rfl) (fun _ _ _ h=>h) (Or.inl ⟨by first|rfl|exact wanted_on rfl rfl rfl (by rfl),?_⟩) ?_ ?_
 rotate_left
 ·intro w'
  go_simp
  with_reducible rfl
 rotate_left
 ·simp only [Act.put,List.setIfInBounds_toArray,List.set_cons_zero,List.set_cons_succ,i64_w,i32_w]
  rfl
 refine take_ (i:=1) (N:=some 14) (v:=?_) (a':=?_) #[true,true,true,true,true,true,false,true,false,false] rfl rfl (by kernel_rfl) (fun _ _ _ h=>h) (Or.inl ⟨by first|rfl|exact wanted_on rfl rfl rfl (by rfl),?_⟩) hHeld ?_ ?_
 rotate_left
 ·rintro w' ⟨s0,s1,s2⟩
  go_simp
  with_reducible rfl
 rotate_left
 ·simp only [Act.put,List.setIfInBounds_toArray,List.set_cons_zero,List.set_cons_succ,i64_w,i32_w]
  rfl
 refine take_ (i:=6) (N:=some 19) (v:=?_) (a':=?_) #[true,true,true,true,true,true,true,true,false,false] rfl rfl (by kernel_rfl) (fun _ _ _ h=>h) (Or.inl ⟨by first|rfl|exact wanted_on rfl rfl rfl (by rfl),?_⟩) hHeld ?_ ?_
 rotate_left
 ·rintro w' ⟨s0,s1,s2⟩
  go_simp
  with_reducible rfl
 rotate_left
 ·simp only [Act.put,List.setIfInBounds_toArray,List.set_cons_zero,List.set_cons_succ,i64_w,i32_w]
  rfl
 refine take_ (i:=8) (N:=some 21) (v:=?_) (a':=?_) #[true,true,true,true,true,true,true,true,true,false] rfl rfl (by kernel_rfl) (fun _ _ _ h=>h) (Or.inl ⟨by first|rfl|exact wanted_on rfl rfl rfl (by rfl),?_⟩) hHeld ?_ ?_
 rotate_left
 ·rintro w' ⟨s0,s1,s2⟩
  go_simp
  with_reducible rfl
 rotate_left
 ·simp only [Act.put,List.setIfInBounds_toArray,List.set_cons_zero,List.set_cons_succ,i64_w,i32_w]
  rfl
 refine pure_ (i:=9) (N:=some 22) (v:=?_) (a':=?_) #[true,true,true,true,true,true,true,true,true,true] rfl rfl (by kernel_rfl) (fun _ _ _ h=>h) (Or.inl ⟨by first|rfl|exact wanted_on rfl rfl rfl (by rfl),?_⟩) ?_ ?_
 rotate_left
 ·intro w'
  go_simp
  with_reducible rfl
 rotate_left
 ·simp only [Act.put,List.setIfInBounds_toArray,List.set_cons_zero,List.set_cons_succ,i64_w,i32_w]
  rfl
 refine done_ (by kernel_rfl) ?_
 clear hHeld
 clear hk
 go_wp2_with (fail)
 have HH4:=Aside0.mk (HH3.out.below (below_drew (Below.refl _ _)))
 have HX4:=Aside0.mk (blk_drew HX3.out)
 clear HH3 HX3
 have hdr : ({ w3 with drawn:=w3.drawn + 1 } : World) = w3.drew:=rfl
 refine wp_region_still_tail 8 (by kernel_rfl) (by kernel_rfl) ?_
 rw [hdr]
 clear hdr
 generalize w3.drew = w4 at HH4 HX4 ⊢
 have c0 : w4.cell? ⟨pb,0,none⟩ = some (.map (some mb)):=(blk_cell HH4.out.prb.blk 0).trans rfl
 have c5 : w4.cell? ⟨xb,5,none⟩ = some (.int .i64 x.f4):=(blk_cell HX4.out 5).trans rfl
 obtain ⟨W',hrun,hM4,hG4⟩:=HH4.out.map.upd (by have:=HN.out;unfold maxLen;omega) nm HNM.out x.f4 HW4.out
 rw [HND.out] at hM4
 have HH6:=Aside0.mk (HH4.out.mapped hM4 hG4)
 have HX6:=Aside0.mk ((hG4.block xb (blk_lt HX4.out) (fun e=>HH4.out.map.apart HX4.out (by injection e with e;exact e.symm))).trans HX4.out)
 have HPX : Aside0 (some xb ≠ some pb):=⟨fun e=>by
  injection e with e
  have h1:=HX4.out
  rw [e,HH4.out.prb.blk] at h1
  injection h1 with h1
  injection h1 with _ h1
  exact absurd h1 (by decide)⟩
 clear hM4 hG4 HH4 HX4
 simp only [List.take_succ_cons,List.take_zero,List.drop_succ_cons,List.drop_zero]
 repeat still_step
 refine wpStill_nil ?_
 have z5 : W'.cell? ⟨xb,5,none⟩ = some (.int .i64 x.f4):=(blk_cell HX6.out 5).trans rfl
 go_wp2_with (go_at_call 85;refine (hkt _).mono ?_;rintro e w' ⟨rfl,rfl⟩)
 clear c0 c5 hrun z5 hkt kn1 kn2
 have hbl:=below_alloc (Below.refl w'.heap.size w') (.cells #[.string ⟨#[35]⟩,.string ⟨#[84,89,80,69]⟩,.string nm,.string KT] 9)
 have LB4:=Aside0.mk (heap_alloc_new w' (.cells #[.string ⟨#[35]⟩,.string ⟨#[84,89,80,69]⟩,.string nm,.string KT] 9))
 have HH7:=Aside0.mk (HH6.out.below hbl)
 have HX7:=Aside0.mk ((hbl.block _ (blk_lt HX6.out)).trans HX6.out)
 clear hbl HH6 HX6
 obtain ⟨T,hT1,hT2,hT3⟩:=HJ4.out
 refine (prline_calls w0.heap.size pb mb pa pv lg (Lib.byteCells S) (some ⟨w'.heap.size,0,none⟩) 4 [⟨#[35]⟩,⟨#[84,89,80,69]⟩,nm,KT] T _ HH7.out.prb HH7.out.pa (C_texts (ts:=[⟨#[35]⟩,⟨#[84,89,80,69]⟩,nm,KT]) LB4.out (by show 4 ≤ 100;omega)) (by show 4 ≤ 4;omega) hT1 (by omega) (by have:=HS.out;rw [Lib.byteCells,List.length_map];omega) HH7.out.bel.size).mono ?_
 rintro e8 w8 ⟨rfl,⟨pv8,hp8⟩,hb8,ho8⟩
 rw [decide_eq_false (by omega : ¬ 300 < T.size),Bool.or_false,Lib.strCells_eq,← Lib.byteCells_append,show (T ++ (⟨#[10]⟩ : ByteArray)).data.toList = typL (getL (x.f0.map pr) NL) x.f4 from by rw [← hT2];simp] at hp8
 have HH3:=Aside0.mk (HH7.out.lined hp8 (.inr rfl) hb8 ho8)
 have HX3:=Aside0.mk (ho8 xb _ HX7.out HPX.out (fun c fz e=>by injection e with _ e;exact absurd e (by decide)))
 clear hp8 hb8 ho8 HH7 HX7 hT1 hT2 hT3 LB4 HPX
 go_wp2_with (fail)
 have HH5:=Aside0.mk (HH3.out.below (below_drew (Below.refl _ _)))
 have HX5:=Aside0.mk (blk_drew HX3.out)
 clear HH3 HX3
 refine start_ (n:=8) (S:=fun w'=>w'.cell? ⟨xb,0,none⟩ = some (.slice A x.f0.length c) ∧ w'.cell? ⟨xb,1,none⟩ = some (.bool x.f1.f0) ∧ w'.cell? ⟨xb,2,none⟩ = some (.int .i64 x.f1.f1)) (ds:=[]) #[false,false,false,false,false,false,false,false] (by kernel_rfl) rfl rfl (⟨(blk_cell HX5.out 0).trans rfl,(blk_cell HX5.out 1).trans rfl,(blk_cell HX5.out 2).trans rfl⟩) (fun hHeld=>?_)
 generalize World.drew _ = w5 at HH5 HX5 hHeld ⊢
 refine pure_ (i:=0) (N:=some 38) (v:=?_) (a':=?_) #[true,false,false,false,false,false,false,false] rfl rfl (by kernel_rfl) (fun _ _ _ h=>h) (Or.inl ⟨by first|rfl|exact wanted_on rfl rfl rfl (by rfl),?_⟩) ?_ ?_
 rotate_left
 ·intro w'
  go_simp
  with_reducible rfl
 rotate_left
 ·simp only [Act.put,List.setIfInBounds_toArray,List.set_cons_zero,List.set_cons_succ,i64_w,i32_w]
  rfl
 refine pure_ (i:=3) (N:=some 41) (v:=?_) (a':=?_) #[true,false,false,true,false,false,false,false] rfl rfl (by kernel_rfl) (fun _ _ _ h=>h) (Or.inl ⟨by first|rfl|exact wanted_on rfl rfl rfl (by rfl),?_⟩) ?_ ?_
 rotate_left
 ·intro w'
  go_simp
  with_reducible rfl
 rotate_left
 ·simp only [Act.put,List.setIfInBounds_toArray,List.set_cons_zero,List.set_cons_succ,i64_w,i32_w]
  rfl
 refine take_ (i:=1) (N:=some 39) (v:=?_) (a':=?_) #[true,true,false,true,false,false,false,false] rfl rfl (by kernel_rfl) (fun _ _ _ h=>h) (Or.inl ⟨by first|rfl|exact wanted_on rfl rfl rfl (by rfl),?_⟩) hHeld ?_ ?_
 rotate_left
 ·rintro w' ⟨s0,s1,s2⟩
  go_simp
  with_reducible rfl
 rotate_left
 ·simp only [Act.put,List.setIfInBounds_toArray,List.set_cons_zero,List.set_cons_succ,i64_w,i32_w]
  rfl
 refine take_ (i:=4) (N:=some 42) (v:=?_) (a':=?_) #[true,true,false,true,true,false,false,false] rfl rfl (by kernel_rfl) (fun _ _ _ h=>h) (Or.inl ⟨by first|rfl|exact wanted_on rfl rfl rfl (by rfl),?_⟩) hHeld ?_ ?_
 rotate_left
 ·rintro w' ⟨s0,s1,s2⟩
  go_simp
  with_reducible rfl
 rotate_left
 ·simp only [Act.put,List.setIfInBounds_toArray,List.set_cons_zero,List.set_cons_succ,i64_w,i32_w]
  rfl
 refine one_ (i:=2) (N:=some 40) #[true,true,true,true,true,false,false,false] rfl rfl (by kernel_rfl) (by decide) (fun K_ hK=>?_)
 refine goes_ Tryz.func61 (by kernel_rfl) rfl #[.slice A x.f0.length c] (by rfl) rfl rfl (by (try simp only [List.map_toArray,List.map_cons,List.map_nil]);first|done|rfl) ?_
 refine (label_Print.calls A c x.f0 P1 w5 (Kd.C_below HR.out HH5.out.bel) HC.out HP1.out).mono ?_
 rintro e w6 ⟨rfl,hb6⟩
 refine ⟨_,rfl,?_⟩
 have HH_:=Aside0.mk (HH5.out.below hb6)
 have HX_:=Aside0.mk ((hb6.block _ (blk_lt HX5.out)).trans HX5.out)
 clear HH5 HX5
 have HH5:=HH_
 have HX5:=HX_
 clear HH_ HX_
 clear hb6
 refine hK.out _ _ ⟨(blk_cell HX5.out 0).trans rfl,(blk_cell HX5.out 1).trans rfl,(blk_cell HX5.out 2).trans rfl⟩ (fun hHeld=>?_)
 clear hK
 refine norm_ (a':=?_) ?_ ?_
 rotate_left
 ·show Act.put _ (some 40) _ = _
  simp only [Act.put,List.setIfInBounds_toArray,List.set_cons_zero,List.set_cons_succ,i64_w,i32_w]
  rfl
 refine one_ (i:=5) (N:=some 43) #[true,true,true,true,true,true,false,false] rfl rfl (by kernel_rfl) (by decide) (fun K_ hK=>?_)
 refine goes_ Tryz.func19 (by kernel_rfl) rfl #[.agg #[.bool x.f1.f0,.int .i64 x.f1.f1]] (by rfl) rfl rfl (by (try simp only [List.map_toArray,List.map_cons,List.map_nil]);first|done|rfl) ?_
 refine (fix_Print.calls x.f1.f0 x.f1.f1 P2 w6 (LaidW.below HG.out HH5.out.bel) HP2.out).mono ?_
 rintro e w7 ⟨rfl,hb7⟩
 refine ⟨_,rfl,?_⟩
 have HH_:=Aside0.mk (HH5.out.below hb7)
 have HX_:=Aside0.mk ((hb7.block _ (blk_lt HX5.out)).trans HX5.out)
 clear HH5 HX5
 have HH5:=HH_
 have HX5:=HX_
 clear HH_ HX_
 clear hb7
 refine hK.out _ _ ⟨(blk_cell HX5.out 0).trans rfl,(blk_cell HX5.out 1).trans rfl,(blk_cell HX5.out 2).trans rfl⟩ (fun hHeld=>?_)
 clear hK
 refine norm_ (a':=?_) ?_ ?_
 rotate_left
 ·show Act.put _ (some 43) _ = _
  simp only [Act.put,List.setIfInBounds_toArray,List.set_cons_zero,List.set_cons_succ,i64_w,i32_w]
  rfl
 refine one_ (i:=6) (N:=some 44) #[true,true,true,true,true,true,true,false] rfl rfl (by kernel_rfl) (by decide) (fun K_ hK=>?_)
 refine value_ (w1:=?_) (v:=?_) (by rfl) rfl ?_ ?_
 rotate_left 2
 ·go_simp
  constructor
  ·rfl
  rfl
 have hbl:=below_alloc (Below.refl w7.heap.size w7) (.cells #[.string P1,.string P2] 9)
 have LB:=Aside0.mk (heap_alloc_new w7 (.cells #[.string P1,.string P2] 9))
 have LL : Aside0 (w0.heap.size ≤ w7.heap.size):=⟨HH5.out.bel.size⟩
 have HH_:=Aside0.mk (HH5.out.below hbl)
 have HX_:=Aside0.mk ((hbl.block _ (blk_lt HX5.out)).trans HX5.out)
 clear HH5 HX5
 have HH5:=HH_
 have HX5:=HX_
 clear HH_ HX_
 clear hbl
 refine hK.out _ _ ⟨(blk_cell HX5.out 0).trans rfl,(blk_cell HX5.out 1).trans rfl,(blk_cell HX5.out 2).trans rfl⟩ (fun hHeld=>?_)
 clear hK
 refine norm_ (a':=?_) ?_ ?_
 rotate_left
 ·show Act.put _ (some 44) _ = _
  simp only [Act.put,List.setIfInBounds_toArray,List.set_cons_zero,List.set_cons_succ,i64_w,i32_w]
  rfl
 generalize w7.alloc (.cells #[.string P1,.string P2] 9) = w8 at HH5 HX5 LB hHeld ⊢
 generalize w7.heap.size = lb at LB LL ⊢
 refine pure_ (i:=7) (N:=some 6) (v:=?_) (a':=?_) #[true,true,true,true,true,true,true,true] rfl rfl (by kernel_rfl) (fun _ _ _ h=>h) (Or.inl ⟨by first|rfl|exact wanted_on rfl rfl rfl (by rfl),?_⟩) ?_ ?_
 rotate_left
 ·intro w'
  go_simp
  with_reducible rfl
 rotate_left
 ·simp only [Act.put,List.setIfInBounds_toArray,List.set_cons_zero,List.set_cons_succ,i64_w,i32_w]
  rfl
 refine done_ (by kernel_rfl) ?_
 clear hHeld
 obtain ⟨⟨y0,y1,y2,y3,y4,y5⟩,_⟩:=cel6 HX5.out
 cases e3 : x.f3 with
 | false =>
  rw [e3] at y4
  go_wp2_with (fail)
  refine (prline_calls w0.heap.size pb mb (.pointer (some ⟨pb,1,none⟩)) pv8 lg (Lib.byteCells (S ++ typL (getL (x.f0.map pr) NL) x.f4)) (some ⟨lb,0,none⟩) 2 [P1,P2] (ofL (oneL x)) w8 HH5.out.prb HH5.out.pa (C_texts (ts:=[P1,P2]) LB.out (by show 2 ≤ 100;omega)) (by show 2 ≤ 2;omega) (HJ2.out e3) (by have:=HOL.out;rw [ofL_size];omega) (by have:=HS.out;have:=HTL.out;rw [Lib.byteCells,List.length_map];rw [List.length_append];omega) HH5.out.bel.size).mono ?_
  rintro e9 w9 ⟨rfl,⟨pv9,hp9⟩,hb9,ho9⟩
  rw [ofL_size] at hp9
  have hfin:=HH5.out.lined (S':=S ++ typL (getL (x.f0.map pr) NL) x.f4 ++ oneL x ++ [10]) (by rw [Lib.strCells_eq,← Lib.byteCells_append] at hp9;rw [List.append_assoc];exact hp9) (.inr rfl) hb9 ho9
  have HFIN:=Aside0.mk hfin
  clear hfin hp9 hb9 ho9
  go_wp2_with (fail)
  go_end0
  exact ⟨rfl,_,_,by rw [HPT.out,HPK.out];exact HFIN.out⟩
 | true =>
  rw [e3] at y4
  have HY : Aside0 (LaidW w8):=⟨LaidW.below HG.out HH5.out.bel⟩
  go_wp2_with (fail)
  refine (strconv_Itoa.calls x.f2 P3 _ HY.out HI.out).mono ?_
  rintro e7 w9 ⟨rfl,hb7⟩
  have HH6:=Aside0.mk (HH5.out.below hb7)
  have LB6:=Aside0.mk ((hb7.block _ (blk_lt LB.out)).trans LB.out)
  clear hb7 HH5 LB y0 y1 y2 y3 y4 y5 HX5
  go_wp2_with (first|((with_reducible refine gate_builtin (b:=.append) (xs:=#[.tmp 47,.tmp 51]) rfl ?_);at_builtin;refine Kd.R_append Kd.string (w0:=w0) w0.heap.size rfl (.tmp 47) (.tmp 51) 45 9 (.string ⟨#[]⟩) 16 rfl Tryz.underlying45 info9 rfl (by decide) (by omega) (.slice (some ⟨lb,0,none⟩) 2 2) [P1,P2] P3 [.string P3] (fun _=>True) (fun _=>False) rfl (by first|(go_simp;done)|(go_simp;rfl)) ?aP (fun _ hk=>hk.elim) ?aF ?aO ?aB ?aS ?aL ?_;(case aP=>exact rfl);(case aF=>exact (fun _ _=>trivial));(case aO=>exact R_texts (ts:=[P1,P2]) LB6.out LL.out (by show 2 ≤ 100;omega));(case aB=>exact HH6.out.bel);(case aS=>exact HH6.out.bel.size);(case aL=>show (2 + 1) * 16 ≤ 140737488355328;omega);intro v5' w10 ho4 hb4 hg4 hat4;have HH7:=Aside0.mk (HH6.out.other LB6.out LL.out hg4);obtain ⟨A2,n2,rfl⟩:=Kd.R_slice ho4;have HO:=Aside0.mk (Kd.R_reads' ho4);clear ho4 hb4 hg4 hat4))
  refine (prline_calls w0.heap.size pb mb (.pointer (some ⟨pb,1,none⟩)) pv8 lg (Lib.byteCells (S ++ typL (getL (x.f0.map pr) NL) x.f4)) A2 n2 [P1,P2,P3] (ofL (oneL x)) w10 HH7.out.prb HH7.out.pa HO.out.2.2 HO.out.2.1 (HJ3.out e3) (by have:=HOL.out;rw [ofL_size];omega) (by have:=HS.out;have:=HTL.out;rw [Lib.byteCells,List.length_map];rw [List.length_append];omega) HH7.out.bel.size).mono ?_
  rintro e9 w9 ⟨rfl,⟨pv9,hp9⟩,hb9,ho9⟩
  rw [ofL_size] at hp9
  have hfin:=HH7.out.lined (S':=S ++ typL (getL (x.f0.map pr) NL) x.f4 ++ oneL x ++ [10]) (by rw [Lib.strCells_eq,← Lib.byteCells_append] at hp9;rw [List.append_assoc];exact hp9) (.inr rfl) hb9 ho9
  have HFIN:=Aside0.mk hfin
  clear hfin hp9 hb9 ho9
  go_wp2_with (fail)
  go_end0
  exact ⟨rfl,_,_,by rw [HPT.out,HPK.out];exact HFIN.out⟩
end Go.Proofs.YtfgffjchphignaaGreatDoor.Print
end
section
namespace Go.Proofs.YtfgffjchphignaaGreatDoor.Print
open Go.Sort Go.Shelf
open Go.RowKit Go.Proofs.YtfgffjchphignaaGreatDoorX Go.Proofs.YtfgffjchphignaaGreatDoorW.PrintWords Go.Proofs.YtfgffjchphignaaGreatDoorW.PrintLast Go.Proofs.YtfgffjchphignaaGreatDoorW.PrintMore
/-! (*strings.Builder).String of a builder within a printer. -/
set_option maxHeartbeats 2000000 in
set_option maxRecDepth 100000 in
theorem stringP (B pb mb : Nat) (pa pv : Value) (lg : Bool) (l : List UInt8) (w : World) (h : PrB B pb mb pa pv lg (Lib.byteCells l) w) (h0 : l ≠ []) :
  Calls Tryz.prog 52 #[.pointer (some ⟨pb,1,none⟩)] w fun e w'=>e = .returned (.string ⟨l.toArray⟩) ∧ Below B w w':=by
 obtain ⟨hB,hbk,hown,hne⟩:=h
 have hl0 : l.length ≠ 0:=by simpa using h0
 rw [Lib.byteCells_length] at hown
 obtain ⟨g,cap,cur,fz,rfl,hbg,hg,hfz,hnc,hcm,hcs,htake⟩ : ∃ g cap cur fz,pv = .slice (some ⟨g,0,none⟩) l.length cap ∧ B ≤ g ∧ w.heap[g]? = some (.cells cur 5 fz) ∧ fz.2 ≤ l.length * 1 ∧ l.length ≤ cap ∧ cap ≤ maxLen ∧ cur.size = cap * 1 ∧ cur.toList.take (l.length * 1) = Lib.byteCells l:=by
  rcases hown.2 with ⟨_,hz⟩|⟨g,cap,cur,fz,hv,r⟩
  ·exact absurd hz hl0
  exact ⟨g,cap,cur,fz,hv,r⟩
 have c1 : w.drew.cell? ⟨pb,2,none⟩ = some (.slice (some ⟨g,0,none⟩) l.length cap):=by
  have : w.drew.heap[pb]? = some (.cells #[.map (some mb),pa,.slice (some ⟨g,0,none⟩) l.length cap,.bool lg] 104 (0,0)):=hbk
  rw [Lib.cell_of_heap this];rfl
 have hSD : (Builtin.unsafeSliceData_ #[47] 138 #[.slice (some ⟨g,0,none⟩) l.length cap]).run Tryz.prog w.drew = .ok (.pointer (some ⟨g,0,none⟩)) w.drew :=
  Lib.run_unsafeSliceData_row _ _ _ _ _ _ (by omega)
 have t138 : Tryz.prog.underlying 138 = some (.pointer 5):=by kernel_rfl
 have hUS : (Builtin.unsafeString_ #[138,3] 9 #[.pointer (some ⟨g,0,none⟩),.int .i64 l.length]).run Tryz.prog w.drew = .ok (.string ⟨l.toArray⟩) (w.drew.freeze ⟨g,0,none⟩ l.length):=by
  refine Lib.run_unsafeString_row w.drew 138 3 9 5 t138 (by kernel_rfl) g cur.size (by have hg' : w.drew.heap[g]? = some (.cells cur 5 fz):=hg;simp [World.shape?,hg']) l h0 (by omega) (by unfold maxLen at hcm;omega) ?_
  intro j x hx
  have:=hown.cells (g:=g) rfl j (.int .u8 x.toNat) (by simp [Lib.byteCells,hx])
  exact this
 have mixed : Tryz.prog.follows .mixedOrders = true:=by kernel_rfl
 go_enter Tryz.func52,Tryz.ntmps52
 go_wp2
 go_region_o
 all_goals (go_wp2;go_ret;exact ⟨rfl,Lib.below_freeze (Below.drew (Below.refl B w)) (p:=⟨g,0,none⟩) hbg _⟩)
set_option maxHeartbeats 2000000 in
set_option maxRecDepth 100000 in
theorem stringP_nil (B pb mb : Nat) (pa : Value) (lg : Bool) (w : World) (h : PrB B pb mb pa (.slice none 0 0) lg [] w) :
  Calls Tryz.prog 52 #[.pointer (some ⟨pb,1,none⟩)] w fun e w'=>e = .returned (.string ⟨#[]⟩) ∧ Below B w w':=by
 obtain ⟨hB,hbk,hown,hne⟩:=h
 have hUS : (Builtin.unsafeString_ #[138,3] 9 #[.pointer none,.int .i64 0]).run Tryz.prog w.drew = .ok (.string ⟨#[]⟩) w.drew:=rfl
 have c1 : w.drew.cell? ⟨pb,2,none⟩ = some (.slice none 0 0):=by
  have : w.drew.heap[pb]? = some (.cells #[.map (some mb),pa,.slice none 0 0,.bool lg] 104 (0,0)):=hbk
  rw [Lib.cell_of_heap this];rfl
 have hSD : (Builtin.unsafeSliceData_ #[47] 138 #[.slice none 0 0]).run Tryz.prog w.drew = .ok (.pointer none) w.drew:=rfl
 have mixed : Tryz.prog.follows .mixedOrders = true:=by kernel_rfl
 go_enter Tryz.func52,Tryz.ntmps52
 go_wp2
 go_region_o
 all_goals (go_wp2;go_ret;exact ⟨rfl,Below.drew (Below.refl B w)⟩)
end Go.Proofs.YtfgffjchphignaaGreatDoor.Print
end
section
namespace Go.Proofs.YtfgffjchphignaaGreatDoor.Print
open Go.Sort Go.Shelf PureN
open Go.RowKit Go.Proofs.YtfgffjchphignaaGreatDoorX Go.Proofs.YtfgffjchphignaaGreatDoorW.PrintWords Go.Proofs.YtfgffjchphignaaGreatDoorW.PrintLast Go.Proofs.YtfgffjchphignaaGreatDoorW.PrintMore
/-! The document's kinds of metrics: names and kinds side by side. -/
def rkget : List ByteArray → List Int → ByteArray → Int
 | a :: ns,k :: ks,n=>if a = n then k else rkget ns ks n
 | _,_,_=>0
theorem rkget_set (n : ByteArray) (v : Int) (m : ByteArray) : ∀ (ns : List ByteArray) (ks : List Int) (i : Nat),ks.length = ns.length → (∀ j,j < i → ns[j]? ≠ some n) → ns[i]? = some n → rkget ns (ks.set i v) m = if n = m then v else rkget ns ks m
 | [],_,i,_,_,h=>by simp at h
 | a :: ns,[],i,h,_,_=>by simp at h
 | a :: ns,k :: ks,0,h,_,h2=>by
  obtain rfl : a = n:=by simpa using h2
  rw [List.set_cons_zero,rkget,rkget]
  split <;> rfl
 | a :: ns,k :: ks,i + 1,h,h1,h2=>by
  have hne : a ≠ n:=fun e=>h1 0 (by omega) (by simp [e])
  rw [List.set_cons_succ,rkget,rkget,rkget_set n v m ns ks i (by simpa using h) (fun j hj=>by simpa using h1 (j + 1) (by omega)) (by simpa using h2)]
  by_cases e : a = m
  ·rw [if_pos e,if_pos e,if_neg (fun e2=>hne (e.trans e2.symm))]
  rw [if_neg e,if_neg e]
theorem rkget_app (n : ByteArray) (v : Int) (m : ByteArray) : ∀ (ns : List ByteArray) (ks : List Int),ks.length = ns.length → n ∉ ns → rkget (ns ++ [n]) (ks ++ [v]) m = if n = m then v else rkget ns ks m
 | [],[],_,_=>rfl
 | [],k :: ks,h,_=>by simp at h
 | a :: ns,[],h,_=>by simp at h
 | a :: ns,k :: ks,h,h1=>by
  have hne : a ≠ n:=fun e=>h1 (by simp [e])
  rw [List.cons_append,List.cons_append,rkget,rkget,rkget_app n v m ns ks (by simpa using h) (fun e=>h1 (by simp [e]))]
  by_cases e : a = m
  ·rw [if_pos e,if_pos e,if_neg (fun e2=>hne (e.trans e2.symm))]
  rw [if_neg e,if_neg e]
theorem wrap_succ_ (i : Nat) (h : i ≤ 1000000000) : wrap64 ((i : Int) + 1) = ((i + 1 : Nat) : Int):=by
 unfold wrap64
 omega
theorem ba_inj_ {a b : ByteArray} (h : a.data.toList = b.data.toList) : a = b:=by
 cases a;cases b
 rename_i x y
 cases x;cases y
 cases h
 rfl
theorem kget_kset (K : Kinds) (n m : List UInt8) (v : Int) : kget (kset K n v) m = if n = m then v else kget K m:=by
 unfold kget kset
 rw [List.find?_cons]
 by_cases e : n = m
 ·rw [if_pos e,show ((n,v).1 == m) = true from beq_iff_eq.2 e]
  rfl
 rw [if_neg e,show ((n,v).1 == m) = false from beq_eq_false_iff_ne.2 e]
structure RkA (ns : List ByteArray) (ks : List Int) (K : Kinds) : Prop where
 len : ks.length = ns.length
 agr : ∀ m : ByteArray,rkget ns ks m = kget K m.data.toList
theorem RkA.nil : RkA [] [] []:=⟨rfl,fun _=>rfl⟩
theorem RkA.at_ {ns : List ByteArray} {ks : List Int} {K : Kinds} (h : RkA ns ks K) (n : ByteArray) (v : Int) (i : Nat) (h1 : ∀ j,j < i → ns[j]? ≠ some n) (h2 : ns[i]? = some n) : RkA ns (ks.set i v) (kset K n.data.toList v):=by
 refine ⟨by rw [List.length_set];exact h.len,fun m=>?_⟩
 rw [rkget_set n v m ns ks i h.len h1 h2,kget_kset,h.agr]
 by_cases e : n = m
 ·rw [if_pos e,if_pos (by rw [e])]
 rw [if_neg e,if_neg (fun e2=>e (ba_inj_ e2))]
theorem RkA.new {ns : List ByteArray} {ks : List Int} {K : Kinds} (h : RkA ns ks K) (n : ByteArray) (v : Int) (h1 : n ∉ ns) : RkA (ns ++ [n]) (ks ++ [v]) (kset K n.data.toList v):=by
 refine ⟨by rw [List.length_append,List.length_append,h.len];rfl,fun m=>?_⟩
 rw [rkget_app n v m ns ks h.len h1,kget_kset,h.agr]
 by_cases e : n = m
 ·rw [if_pos e,if_pos (by rw [e])]
 rw [if_neg e,if_neg (fun e2=>e (ba_inj_ e2))]
set_option maxHeartbeats 4000000 in
set_option maxRecDepth 100000 in
theorem kinds_get (w : World) (kb base : Nat) (ok1 ok2 : Nat → Prop) (vn vk : Value) (ns : List ByteArray) (ks : List Int) (n : ByteArray) (hb : w.heap[kb]? = some (.cells #[vn,vk] 75 (0,0))) (hn : Kd.R Kd.string 9 w base ok1 vn ns) (hk : Kd.R (Kd.int .i64) 3 w base ok2 vk ks) (hl : ks.length = ns.length) (hlen : ns.length ≤ 100000) :
  Calls Tryz.prog 32 #[.pointer (some ⟨kb,0,none⟩),.string n] w fun e w'=>e = .returned (.int .i64 (rkget ns ks n)) ∧ w' = w:=by
 obtain ⟨A1,c1,rfl⟩:=Kd.R_slice hn
 obtain ⟨A2,c2,rfl⟩:=Kd.R_slice hk
 have hC1:=(Kd.R_reads' hn).2.2
 have hC2:=(Kd.R_reads' hk).2.2
 have p0 : w.cell? ⟨kb,0,none⟩ = some (.slice A1 ns.length c1):=(blk_cell hb 0).trans rfl
 have p1 : w.cell? ⟨kb,1,none⟩ = some (.slice A2 ks.length c2):=(blk_cell hb 1).trans rfl
 have HC1:=Aside0.mk hC1
 have HC2:=Aside0.mk hC2
 have HN:=Aside0.mk hlen
 clear hb hn hk hC1 hC2 hlen
 rw [hl] at p1 HC2
 go_enter Tryz.func32,Tryz.ntmps32
 go_wp2_with (fail)
 go_loopg [5] ns.length (fun gg s5 wr=>∃ i : Nat,s5 = .int .i64 i ∧ ns.length - i ≤ gg ∧ Aside0 (i ≤ ns.length) ∧ Aside0 (rkget (ns.drop i) (ks.drop i) n = rkget ns ks n) ∧ wr = w)
 case atStart=>exact ⟨0,rfl,by omega,⟨by omega⟩,⟨rfl⟩,rfl⟩
 obtain ⟨i,rfl,hgg,HI,HQ,rfl⟩:=hrel
 by_cases hlt : i < ns.length
 ·have hltz : (i : Int) < (ns.length : Int):=by omega
  obtain ⟨ad1,rfl,hx1⟩:=Kd.at_string HC1.out (i : Int) (by omega) (by omega)
  obtain ⟨ad2,rfl,hx2⟩:=Kd.at_int HC2.out (i : Int) (by omega) (by omega)
  rw [Int.toNat_natCast] at hx1 hx2
  have hq:=HQ.out
  have e1 : rdOf ByteArray.empty ns (i : Int) = ns[i]:=by
   unfold rdOf
   rw [Int.toNat_natCast,List.getD_eq_getElem?_getD,List.getElem?_eq_getElem hlt]
   rfl
  have e2 : rd ks (i : Int) = ks[i]'(by omega):=by
   unfold rd
   rw [Int.toNat_natCast,List.getD_eq_getElem?_getD,List.getElem?_eq_getElem (by omega)]
   rfl
  rw [e1] at hx1
  rw [e2] at hx2
  rw [List.drop_eq_getElem_cons hlt,List.drop_eq_getElem_cons (show i < ks.length by omega),rkget] at hq
  generalize ns[i] = a at hx1 hq
  generalize ks[i]'(by omega) = k at hx2 hq
  have HQ2:=Aside0.mk hq
  clear hq HQ e1 e2 hl
  by_cases he : a = n
  ·subst he
   have hq:=HQ2.out
   rw [if_pos rfl] at hq
   have hbe : (a.toList == a.toList) = true:=beq_self_eq_true _
   go_wp2_with (fail)
   go_ret
   exact ⟨by rw [← hq];rfl,rfl⟩
  have hq:=HQ2.out
  rw [if_neg he] at hq
  have HQ3:=Aside0.mk hq
  have hbe : (a.toList == n.toList) = false:=beq_eq_false_iff_ne.2 (fun e=>he (ba_inj_ (by rw [ByteArray.toList_eq,ByteArray.toList_eq] at e;exact e)))
  have hw:=wrap_succ_ i (by have:=HN.out;omega)
  clear hq HQ2
  go_wp2_with (fail)
  go_roundg (ns.length - (i + 1))
  case measure=>omega
  case rel=>exact ⟨i + 1,by rw [hw],by omega,⟨by omega⟩,HQ3,rfl⟩
 obtain rfl : i = ns.length:=by have:=HI.out;omega
 have hltz : ¬ ((ns.length : Int) < (ns.length : Int)):=by omega
 have hq:=HQ.out
 rw [List.drop_length,rkget] at hq
 go_wp2_with (fail)
 go_ret
 exact ⟨by rw [← hq];rfl,rfl⟩
/-! The document's kind. -/
theorem bq_ne {a b : ByteArray} (h : a ≠ b) : (a.toList == b.toList) = false:=beq_eq_false_iff_ne.2 (fun e=>h (ba_inj_ (by rw [ByteArray.toList_eq,ByteArray.toList_eq] at e;exact e)))
end Go.Proofs.YtfgffjchphignaaGreatDoor.Print
end
section
namespace Go.Proofs.YtfgffjchphignaaGreatDoor.Print
open Go.Sort Go.Shelf PureN Go.Maps Go.WideMaps
open Go.RowKit Go.Proofs.YtfgffjchphignaaGreatDoorX Go.Proofs.YtfgffjchphignaaGreatDoorW.PrintWords Go.Proofs.YtfgffjchphignaaGreatDoorW.PrintLast Go.Proofs.YtfgffjchphignaaGreatDoorW.PrintMore
/-! What the document's printer holds. -/
theorem own_baseH {α : Type} {d : Kd α} {e base : Nat} {ok : Nat → Prop} {w : World} {v : Value} {xs : List α} (h : d.R e w base ok v xs) : ∀ k,v.ownBlock = some k → base ≤ k:=by
 intro k hk
 exact ((Kd.R_bound h).1 k hk).2.1
abbrev kJ : Kd Int:=Kd.int .i64
abbrev arr3 : Array Value:=#[.string ⟨#[117,110,116,121,112,101,100]⟩,.string ⟨#[99,111,117,110,116,101,114]⟩,.string ⟨#[103,97,117,103,101]⟩]
/-- What the document's printer holds. -/
structure RfH (w0 w : World) (kb : Nat) (bn bk vn vk : Value) (ns : List ByteArray) (ks : List Int) : Prop where
 blk : w.heap[kb]? = some (.cells #[bn,bk] 75 (0,0))
 arr : w.heap[kb + 1]? = some (.cells arr3 49 (0,0))
 nam : Kd.R Kd.string 9 w w0.heap.size (fun _=>True) vn ns
 kin : Kd.R kJ 3 w w0.heap.size (fun _=>True) vk ks
 low : w0.heap.size ≤ kb
 bel : Below w0.heap.size w0 w
section
variable {w0 w w' : World} {kb : Nat} {bn bk vn vk : Value} {ns : List ByteArray} {ks : List Int}
theorem RfH.below (h : RfH w0 w kb bn bk vn vk ns ks) (hb : Below w.heap.size w w') : RfH w0 w' kb bn bk vn vk ns ks :=
 ⟨(hb.block kb (blk_lt h.blk)).trans h.blk,(hb.block (kb + 1) (blk_lt h.arr)).trans h.arr,Kd.R_below h.nam hb,Kd.R_below h.kin hb,h.low,below_step h.bel hb⟩
theorem RfH.cell (h : RfH w0 w kb bn bk vn vk ns ks) (j : Nat) (u bn' bk' : Value) (hj : (#[bn,bk] : Array Value).setIfInBounds j u = #[bn',bk']) : RfH w0 (w.setCell ⟨kb,j,none⟩ u) kb bn' bk' vn vk ns ks :=
 ⟨(blk_set h.blk j u).trans (by rw [hj]),blk_far h.arr (by omega),Kd.R_set h.nam h.blk (by decide) j u,Kd.R_set h.kin h.blk (by decide) j u,h.low,below_set h.bel h.low⟩
theorem RfH.named {vn' : Value} {ns' : List ByteArray} (h : RfH w0 w kb bn bk vn vk ns ks) (hR : Kd.R Kd.string 9 w' w0.heap.size (fun _=>True) vn' ns') (hb : Below w0.heap.size w0 w') (hg : w.grownBy w' vn.ownBlock) (hat : vn'.ownBlock = vn.ownBlock ∨ ∃ b,vn'.ownBlock = some b ∧ w.heap.size ≤ b) : RfH w0 w' kb bn bk vn' vk ns' ks :=
 ⟨blk_grown h.blk hg (Kd.R_ne h.nam h.blk (by decide)),blk_grown h.arr hg (Kd.R_ne h.nam h.arr (by decide)),hR,Kd.R_over' h.kin (Kd.R_typed h.nam) (by decide) hg,h.low,hb⟩
theorem RfH.kinded {vk' : Value} {ks' : List Int} (h : RfH w0 w kb bn bk vn vk ns ks) (hR : Kd.R kJ 3 w' w0.heap.size (fun _=>True) vk' ks') (hb : Below w0.heap.size w0 w') (hg : w.grownBy w' vk.ownBlock) (hat : vk'.ownBlock = vk.ownBlock ∨ ∃ b,vk'.ownBlock = some b ∧ w.heap.size ≤ b) : RfH w0 w' kb bn bk vn vk' ns ks' :=
 ⟨blk_grown h.blk hg (Kd.R_ne h.kin h.blk (by decide)),blk_grown h.arr hg (Kd.R_ne h.kin h.arr (by decide)),Kd.R_over' h.nam (Kd.R_typed h.kin) (by decide) hg,hR,h.low,hb⟩
/-- A kind is written over. -/
theorem RfH.put (h : RfH w0 w kb bn bk vn vk ns ks) (i : Nat) (hi : i < ks.length) (v : Int) : ∃ g c,vk = .slice (some ⟨g,0,none⟩) ks.length c ∧ w.frozen? ⟨g,i,none⟩ = false ∧ RfH w0 (w.setCell ⟨g,i,none⟩ (.int .i64 v)) kb bn bk vn vk ns (ks.set i v):=by
 have hk:=h.kin
 obtain ⟨g,c,rfl⟩ : ∃ g c,vk = .slice (some ⟨g,0,none⟩) ks.length c:=by
  obtain ⟨_,inner,ho,hr⟩:=hk
  rcases ho.2 with ⟨_,h1⟩|⟨g,cap,cur,h1,_⟩
  ·omega
  exact ⟨g,cap,h1⟩
 have hc:=Kd.R_cell (enc:=fun n=>Value.int .i64 n) (h1:=fun _=>rfl) (0 : Int) hk (i : Int) (by omega) (by omega)
 have hp:=Kd.R_put (enc:=fun n=>Value.int .i64 n) (h1:=fun _=>rfl) hk (i : Int) v
 rw [Int.toNat_natCast] at hc hp
 obtain ⟨hR,hg⟩:=hp
 have hb : Below w0.heap.size w0 (w.setCell ⟨g,i,none⟩ (.int .i64 v)):=below_set h.bel (own_baseH hk g rfl)
 refine ⟨g,c,rfl,hc.2,?_⟩
 refine h.kinded ?_ hb hg (Or.inl rfl)
 exact hR
end
/-! The document's (*kinds).set, for its printer. -/
theorem lit_rowsH {α : Type} {enc : α → Value} {W : World} {b e : Nat} {x : α} (h : W.heap[b]? = some (.cells #[enc x] e (0,0))) : ReadsRow (fun y cs=>cs = [enc y]) 1 W (some ⟨b,0,none⟩) 1 [x]:=by
 refine ⟨rfl,by omega,fun _=>⟨_,rfl,fun j p hj=>?_⟩⟩
 cases j with
 | zero =>
  obtain rfl : x = p:=by simpa using hj
  refine ⟨[enc x],rfl,rfl,fun i u hu=>?_⟩
  cases i with
  | zero =>
   obtain rfl : enc x = u:=by simpa using hu
   exact (blk_cell h 0).trans rfl
  | succ i=>simp at hu
 | succ j=>simp at hj
set_option maxHeartbeats 4000000 in
set_option maxRecDepth 100000 in
theorem kinds_setH {w0 w : World} {kb : Nat} {vn vk : Value} {ns : List ByteArray} {ks : List Int} (K : Kinds) (n : ByteArray) (v : Int) (h : RfH w0 w kb vn vk vn vk ns ks) (hA : RkA ns ks K) (hlen : ns.length ≤ 100000) :
  Calls Tryz.prog 31 #[.pointer (some ⟨kb,0,none⟩),.string n,.int .i64 v] w fun e w'=>e = .returned (.tuple #[]) ∧ ∃ vn' vk' ns' ks',RfH w0 w' kb vn' vk' vn' vk' ns' ks' ∧ RkA ns' ks' (kset K n.data.toList v) ∧ ns'.length ≤ ns.length + 1:=by
 have hl:=hA.len
 obtain ⟨A1,c1,rfl⟩:=Kd.R_slice h.nam
 obtain ⟨A2,c2,rfl⟩:=Kd.R_slice h.kin
 have p0 : w.cell? ⟨kb,0,none⟩ = some (.slice A1 ns.length c1):=(blk_cell h.blk 0).trans rfl
 have p1 : w.cell? ⟨kb,1,none⟩ = some (.slice A2 ks.length c2):=(blk_cell h.blk 1).trans rfl
 have HC1:=Aside0.mk (Kd.R_reads' h.nam).2.2
 have HH:=Aside0.mk h
 have HA:=Aside0.mk hA
 have HN:=Aside0.mk hlen
 clear h hA hlen
 go_enter Tryz.func31,Tryz.ntmps31
 go_wp2_with (fail)
 go_loopg [6] ns.length (fun gg s6 wr=>∃ i : Nat,s6 = .int .i64 i ∧ ns.length - i ≤ gg ∧ Aside0 (i ≤ ns.length) ∧ Aside0 (∀ j,j < i → ns[j]? ≠ some n) ∧ wr = w)
 case atStart=>exact ⟨0,rfl,by omega,⟨by omega⟩,⟨fun j hj=>by omega⟩,rfl⟩
 obtain ⟨i,rfl,hgg,HI,HQ,rfl⟩:=hrel
 by_cases hlt : i < ns.length
 ·have hltz : (i : Int) < (ns.length : Int):=by omega
  obtain ⟨ad1,rfl,hx1⟩:=Kd.at_string HC1.out (i : Int) (by omega) (by omega)
  rw [Int.toNat_natCast] at hx1
  have hget : ns[i]? = some ns[i]:=List.getElem?_eq_getElem hlt
  have e1 : rdOf ByteArray.empty ns (i : Int) = ns[i]:=by
   unfold rdOf
   rw [Int.toNat_natCast,List.getD_eq_getElem?_getD,hget]
   rfl
  rw [e1] at hx1
  generalize ns[i] = a at hx1 hget
  have HG:=Aside0.mk hget
  clear hget e1
  by_cases he : a = n
  ·subst he
   have hbe : (a.toList == a.toList) = true:=beq_self_eq_true _
   obtain ⟨g,c,hgk,hfr,hput⟩:=HH.out.put i (by rw [hl];exact hlt) v
   have hAk : A2 = some ⟨g,0,none⟩:=by
    have h2:=hgk
    simp only [Value.slice.injEq] at h2
    exact h2.1
   subst hAk
   have HP:=Aside0.mk hput
   have HA2:=Aside0.mk (HA.out.at_ a v i HQ.out HG.out)
   have hcell : ∃ u,wr.cell? ⟨g,i,none⟩ = some u:=by
    have hk:=HH.out.kin
    exact ⟨_,by have h3:=(Kd.R_cell (enc:=fun n=>Value.int .i64 n) (h1:=fun _=>rfl) (0 : Int) hk (i : Int) (by omega) (by rw [hl];omega)).1;rwa [Int.toNat_natCast] at h3⟩
   obtain ⟨u,hcell⟩:=hcell
   clear hput hgk HQ HG
   go_wp2_with (fail)
   (try simp only [Exit.inBlock,Exit.then]);refine bodyPost_ret (results_none rfl _ _ _) rfl ?_
   exact ⟨rfl,_,_,_,_,HP.out,HA2.out,by omega⟩
  have HQ3 : Aside0 (∀ j,j < i + 1 → ns[j]? ≠ some n):=⟨fun j hj=>by
   by_cases e : j = i
   ·subst e
    rw [HG.out]
    exact fun e=>he (Option.some.inj e)
   exact HQ.out j (by omega)⟩
  have hbe : (a.toList == n.toList) = false:=bq_ne he
  have hw:=wrap_succ_ i (by have:=HN.out;omega)
  clear HQ HG
  go_wp2_with (fail)
  go_roundg (ns.length - (i + 1))
  case measure=>omega
  case rel=>exact ⟨i + 1,by rw [hw],by omega,⟨by omega⟩,HQ3,rfl⟩
 obtain rfl : i = ns.length:=by have:=HI.out;omega
 have hltz : ¬ ((ns.length : Int) < (ns.length : Int)):=by omega
 have HNI : Aside0 (n ∉ ns):=⟨fun hm=>by
  obtain ⟨j,hj,e⟩:=List.getElem_of_mem hm
  exact HQ.out j hj (by rw [List.getElem?_eq_getElem hj,e])⟩
 have HA2:=Aside0.mk (HA.out.new n v HNI.out)
 clear HQ HNI HI hlt hgg HC1
 go_wp2_with (fail)
 have HR:=Aside0.mk (HH.out.below (below_drew (Below.refl _ _)))
 have HL:=Aside0.mk hl
 clear HH hltz p0 p1 hl
 refine start_ (n:=22) (S:=fun w'=>w'.cell? ⟨kb,0,none⟩ = some (.slice A1 ns.length c1) ∧ w'.cell? ⟨kb,1,none⟩ = some (.slice A2 ks.length c2)) (ds:=[18,21]) #[false,false,false,false,false,false,false,false,false,false,false,false,false,false,false,false,false,false,false,false,false,false] (by kernel_rfl) rfl rfl (⟨(blk_cell HR.out.blk 0).trans rfl,(blk_cell HR.out.blk 1).trans rfl⟩) (fun hHeld=>?_)
 generalize wr.drew = w4 at HR hHeld ⊢
 refine pure_ (i:=0) (N:=some 32) (v:=?_) (a':=?_) #[true,false,false,false,false,false,false,false,false,false,false,false,false,false,false,false,false,false,false,false,false,false] rfl rfl (by kernel_rfl) (fun _ _ _ h=>h) (Or.inl ⟨by first|rfl|exact wanted_on rfl rfl rfl (by rfl),?_⟩) ?_ ?_
 rotate_left
 ·intro w'
  go_simp
  with_reducible rfl
 rotate_left
 ·simp only [Act.put,List.setIfInBounds_toArray,List.set_cons_zero,List.set_cons_succ,i64_w,i32_w]
  rfl
 refine pure_ (i:=1) (N:=some 33) (v:=?_) (a':=?_) #[true,true,false,false,false,false,false,false,false,false,false,false,false,false,false,false,false,false,false,false,false,false] rfl rfl (by kernel_rfl) (fun _ _ _ h=>h) (Or.inl ⟨by first|rfl|exact wanted_on rfl rfl rfl (by rfl),?_⟩) ?_ ?_
 rotate_left
 ·intro w'
  go_simp
  with_reducible rfl
 rotate_left
 ·simp only [Act.put,List.setIfInBounds_toArray,List.set_cons_zero,List.set_cons_succ,i64_w,i32_w]
  rfl
 refine pure_ (i:=2) (N:=some 34) (v:=?_) (a':=?_) #[true,true,true,false,false,false,false,false,false,false,false,false,false,false,false,false,false,false,false,false,false,false] rfl rfl (by kernel_rfl) (fun _ _ _ h=>h) (Or.inl ⟨by first|rfl|exact wanted_on rfl rfl rfl (by rfl),?_⟩) ?_ ?_
 rotate_left
 ·intro w'
  go_simp
  with_reducible rfl
 rotate_left
 ·simp only [Act.put,List.setIfInBounds_toArray,List.set_cons_zero,List.set_cons_succ,i64_w,i32_w]
  rfl
 refine pure_ (i:=3) (N:=some 35) (v:=?_) (a':=?_) #[true,true,true,true,false,false,false,false,false,false,false,false,false,false,false,false,false,false,false,false,false,false] rfl rfl (by kernel_rfl) (fun _ _ _ h=>h) (Or.inl ⟨by first|rfl|exact wanted_on rfl rfl rfl (by rfl),?_⟩) ?_ ?_
 rotate_left
 ·intro w'
  go_simp
  with_reducible rfl
 rotate_left
 ·simp only [Act.put,List.setIfInBounds_toArray,List.set_cons_zero,List.set_cons_succ,i64_w,i32_w]
  rfl
 refine pure_ (i:=4) (N:=some 36) (v:=?_) (a':=?_) #[true,true,true,true,true,false,false,false,false,false,false,false,false,false,false,false,false,false,false,false,false,false] rfl rfl (by kernel_rfl) (fun _ _ _ h=>h) (Or.inl ⟨by first|rfl|exact wanted_on rfl rfl rfl (by rfl),?_⟩) ?_ ?_
 rotate_left
 ·intro w'
  go_simp
  with_reducible rfl
 rotate_left
 ·simp only [Act.put,List.setIfInBounds_toArray,List.set_cons_zero,List.set_cons_succ,i64_w,i32_w]
  rfl
 refine take_ (i:=5) (N:=some 37) (v:=?_) (a':=?_) #[true,true,true,true,true,true,false,false,false,false,false,false,false,false,false,false,false,false,false,false,false,false] rfl rfl (by kernel_rfl) (fun _ _ _ h=>h) (Or.inl ⟨by first|rfl|exact wanted_on rfl rfl rfl (by rfl),?_⟩) hHeld ?_ ?_
 rotate_left
 ·rintro w' ⟨s0,s1⟩
  go_simp
  with_reducible rfl
 rotate_left
 ·simp only [Act.put,List.setIfInBounds_toArray,List.set_cons_zero,List.set_cons_succ,i64_w,i32_w]
  rfl
 refine pure_ (i:=6) (N:=some 38) (v:=?_) (a':=?_) #[true,true,true,true,true,true,true,false,false,false,false,false,false,false,false,false,false,false,false,false,false,false] rfl rfl (by kernel_rfl) (fun _ _ _ h=>h) (Or.inl ⟨by first|rfl|exact wanted_on rfl rfl rfl (by rfl),?_⟩) ?_ ?_
 rotate_left
 ·intro w'
  go_simp
  with_reducible rfl
 rotate_left
 ·simp only [Act.put,List.setIfInBounds_toArray,List.set_cons_zero,List.set_cons_succ,i64_w,i32_w]
  rfl
 refine pure_ (i:=9) (N:=some 41) (v:=?_) (a':=?_) #[true,true,true,true,true,true,true,false,false,true,false,false,false,false,false,false,false,false,false,false,false,false] rfl rfl (by kernel_rfl) (fun _ _ _ h=>h) (Or.inl ⟨by first|rfl|exact wanted_on rfl rfl rfl (by rfl),?_⟩) ?_ ?_
 rotate_left
 ·intro w'
  go_simp
  with_reducible rfl
 rotate_left
 ·simp only [Act.put,List.setIfInBounds_toArray,List.set_cons_zero,List.set_cons_succ,i64_w,i32_w]
  rfl
 refine pure_ (i:=10) (N:=some 42) (v:=?_) (a':=?_) #[true,true,true,true,true,true,true,false,false,true,true,false,false,false,false,false,false,false,false,false,false,false] rfl rfl (by kernel_rfl) (fun _ _ _ h=>h) (Or.inl ⟨by first|rfl|exact wanted_on rfl rfl rfl (by rfl),?_⟩) ?_ ?_
 rotate_left
 ·intro w'
  go_simp
  with_reducible rfl
 rotate_left
 ·simp only [Act.put,List.setIfInBounds_toArray,List.set_cons_zero,List.set_cons_succ,i64_w,i32_w]
  rfl
 refine pure_ (i:=11) (N:=some 43) (v:=?_) (a':=?_) #[true,true,true,true,true,true,true,false,false,true,true,true,false,false,false,false,false,false,false,false,false,false] rfl rfl (by kernel_rfl) (fun _ _ _ h=>h) (Or.inl ⟨by first|rfl|exact wanted_on rfl rfl rfl (by rfl),?_⟩) ?_ ?_
 rotate_left
 ·intro w'
  go_simp
  with_reducible rfl
 rotate_left
 ·simp only [Act.put,List.setIfInBounds_toArray,List.set_cons_zero,List.set_cons_succ,i64_w,i32_w]
  rfl
 refine take_ (i:=12) (N:=some 44) (v:=?_) (a':=?_) #[true,true,true,true,true,true,true,false,false,true,true,true,true,false,false,false,false,false,false,false,false,false] rfl rfl (by kernel_rfl) (fun _ _ _ h=>h) (Or.inl ⟨by first|rfl|exact wanted_on rfl rfl rfl (by rfl),?_⟩) hHeld ?_ ?_
 rotate_left
 ·rintro w' ⟨s0,s1⟩
  go_simp
  with_reducible rfl
 rotate_left
 ·simp only [Act.put,List.setIfInBounds_toArray,List.set_cons_zero,List.set_cons_succ,i64_w,i32_w]
  rfl
 refine pure_ (i:=13) (N:=some 45) (v:=?_) (a':=?_) #[true,true,true,true,true,true,true,false,false,true,true,true,true,true,false,false,false,false,false,false,false,false] rfl rfl (by kernel_rfl) (fun _ _ _ h=>h) (Or.inl ⟨by first|rfl|exact wanted_on rfl rfl rfl (by rfl),?_⟩) ?_ ?_
 rotate_left
 ·intro w'
  go_simp
  with_reducible rfl
 rotate_left
 ·simp only [Act.put,List.setIfInBounds_toArray,List.set_cons_zero,List.set_cons_succ,i64_w,i32_w]
  rfl
 refine two_ (i:=7) (j:=14) (Ni:=some 39) (Nj:=some 46) #[true,true,true,true,true,true,true,true,false,true,true,true,true,true,false,false,false,false,false,false,false,false] #[true,true,true,true,true,true,true,false,false,true,true,true,true,true,true,false,false,false,false,false,false,false] rfl rfl rfl rfl (by kernel_rfl) (by decide) (by decide) (fun K hK=>?_) (fun K hK=>?_)
 ·refine value_ (w1:=?_) (v:=?_) (by rfl) rfl ?_ ?_
  rotate_left 2
  ·go_simp
   constructor
   ·rfl
   rfl
  have HR':=Aside0.mk (HR.out.below (below_alloc (Below.refl _ _) (.cells #[.string n] 9)))
  have LN_:=Aside0.mk (heap_alloc_new w4 (.cells #[.string n] 9))
  refine hK.out _ _ ⟨(blk_cell HR'.out.blk 0).trans rfl,(blk_cell HR'.out.blk 1).trans rfl⟩ (fun hHeld=>?_)
  clear hK K HR
  have HR:=HR'
  clear HR'
  refine norm_ (a':=?_) ?_ ?_
  rotate_left
  ·show Act.put _ (some 39) _ = _
   simp only [Act.put,List.setIfInBounds_toArray,List.set_cons_zero,List.set_cons_succ,i64_w,i32_w]
   rfl
  generalize w4.alloc (.cells #[.string n] 9) = w5 at HR LN_ hHeld ⊢
  generalize w4.heap.size = bn_ at LN_ ⊢
  refine two_ (i:=8) (j:=14) (Ni:=some 40) (Nj:=some 46) #[true,true,true,true,true,true,true,true,true,true,true,true,true,true,false,false,false,false,false,false,false,false] #[true,true,true,true,true,true,true,true,false,true,true,true,true,true,true,false,false,false,false,false,false,false] rfl rfl rfl rfl (by kernel_rfl) (by decide) (by decide) (fun K hK=>?_) (fun K hK=>?_)
  ·refine Kd.R_append_rows_step Kd.string (Rr:=fun x cs=>cs = [Value.string x]) (w0:=w0) w0.heap.size (by rfl) (.tmp 37) (.tmp 39) 45 9 (.string ⟨#[]⟩) 16 rfl Tryz.underlying45 info9 rfl (by decide) (by omega) (.slice A1 ns.length c1) ns [n] (some ⟨bn_,0,none⟩) 1 1 (fun _=>True) (fun _=>False) rfl rfl ?aO (lit_rowsH (enc:=Value.string) LN_.out) (fun _ _ h=>h) (fun _ hk=>hk.elim) (fun _ _=>trivial) ?aB ?aS ?aL ?_
   (case aO=>exact HR.out.nam)
   (case aB=>exact HR.out.bel)
   (case aS=>exact HR.out.bel.size)
   (case aL=>have:=HN.out;omega)
   intro vn' wn' ho hb hg hat
   have HR':=Aside0.mk (HR.out.named ho hb hg hat)
   obtain ⟨An,cn,rfl⟩:=Kd.R_slice ho
   simp only [List.length_append,List.length_singleton] at HR'
   refine hK.out _ _ ⟨(blk_cell HR'.out.blk 0).trans rfl,(blk_cell HR'.out.blk 1).trans rfl⟩ (fun hHeld=>?_)
   clear hK K HR ho hb hg hat
   have HR:=HR'
   clear HR'
   refine norm_ (a':=?_) ?_ ?_
   rotate_left
   ·show Act.put _ (some 40) _ = _
    simp only [Act.put,List.setIfInBounds_toArray,List.set_cons_zero,List.set_cons_succ,i64_w,i32_w]
    rfl
   refine one_ (i:=14) (N:=some 46) #[true,true,true,true,true,true,true,true,true,true,true,true,true,true,true,false,false,false,false,false,false,false] rfl rfl (by kernel_rfl) (by decide) (fun K hK=>?_)
   refine value_ (w1:=?_) (v:=?_) (by rfl) rfl ?_ ?_
   rotate_left 2
   ·go_simp
    constructor
    ·rfl
    rfl
   have HR':=Aside0.mk (HR.out.below (below_alloc (Below.refl _ _) (.cells #[.int .i64 v] 3)))
   have LK_:=Aside0.mk (heap_alloc_new wn' (.cells #[.int .i64 v] 3))
   refine hK.out _ _ ⟨(blk_cell HR'.out.blk 0).trans rfl,(blk_cell HR'.out.blk 1).trans rfl⟩ (fun hHeld=>?_)
   clear hK K HR
   have HR:=HR'
   clear HR'
   refine norm_ (a':=?_) ?_ ?_
   rotate_left
   ·show Act.put _ (some 46) _ = _
    simp only [Act.put,List.setIfInBounds_toArray,List.set_cons_zero,List.set_cons_succ,i64_w,i32_w]
    rfl
   generalize wn'.alloc (.cells #[.int .i64 v] 3) = w6 at HR LK_ hHeld ⊢
   generalize wn'.heap.size = bk_ at LK_ ⊢
   refine one_ (i:=15) (N:=some 47) #[true,true,true,true,true,true,true,true,true,true,true,true,true,true,true,true,false,false,false,false,false,false] rfl rfl (by kernel_rfl) (by decide) (fun K hK=>?_)
   refine Kd.R_append_rows_step kJ (Rr:=fun x cs=>cs = [Value.int .i64 x]) (w0:=w0) w0.heap.size (by rfl) (.tmp 44) (.tmp 46) 27 3 (.int .i64 0) 8 rfl Tryz.underlying27 info3 rfl (by decide) (by omega) (.slice A2 ks.length c2) ks [v] (some ⟨bk_,0,none⟩) 1 1 (fun _=>True) (fun _=>False) rfl rfl ?aO (lit_rowsH (enc:=fun n=>Value.int .i64 n) LK_.out) (fun _ _ h=>h) (fun _ hk=>hk.elim) (fun _ _=>trivial) ?aB ?aS ?aL ?_
   (case aO=>exact HR.out.kin)
   (case aB=>exact HR.out.bel)
   (case aS=>exact HR.out.bel.size)
   (case aL=>have:=HN.out;have:=HL.out;omega)
   intro vk' wk' ho hb hg hat
   have HR':=Aside0.mk (HR.out.kinded ho hb hg hat)
   obtain ⟨Ak,ck,rfl⟩:=Kd.R_slice ho
   simp only [List.length_append,List.length_singleton] at HR'
   refine hK.out _ _ ⟨(blk_cell HR'.out.blk 0).trans rfl,(blk_cell HR'.out.blk 1).trans rfl⟩ (fun hHeld=>?_)
   clear hK K HR ho hb hg hat
   have HR:=HR'
   clear HR'
   refine norm_ (a':=?_) ?_ ?_
   rotate_left
   ·show Act.put _ (some 47) _ = _
    simp only [Act.put,List.setIfInBounds_toArray,List.set_cons_zero,List.set_cons_succ,i64_w,i32_w]
    rfl
   have hk:=HR.out.blk
   have p0:=(blk_cell hk 0).trans (show _ = some (Value.slice A1 ns.length c1) from rfl)
   have p1:=(blk_cell hk 1).trans (show _ = some (Value.slice A2 ks.length c2) from rfl)
   have f0:=blk_frozen hk 0
   have f1:=blk_frozen hk 1
   clear hk
   refine pure_ (i:=16) (N:=some 48) (v:=?_) (a':=?_) #[true,true,true,true,true,true,true,true,true,true,true,true,true,true,true,true,true,false,false,false,false,false] rfl rfl (by kernel_rfl) (fun _ _ _ h=>h) (Or.inl ⟨by first|rfl|exact wanted_on rfl rfl rfl (by rfl),?_⟩) ?_ ?_
   rotate_left
   ·intro w'
    go_simp
    with_reducible rfl
   rotate_left
   ·simp only [Act.put,List.setIfInBounds_toArray,List.set_cons_zero,List.set_cons_succ,i64_w,i32_w]
    rfl
   refine pure_ (i:=17) (N:=some 49) (v:=?_) (a':=?_) #[true,true,true,true,true,true,true,true,true,true,true,true,true,true,true,true,true,true,false,false,false,false] rfl rfl (by kernel_rfl) (fun _ _ _ h=>h) (Or.inl ⟨by first|rfl|exact wanted_on rfl rfl rfl (by rfl),?_⟩) ?_ ?_
   rotate_left
   ·intro w'
    go_simp
    with_reducible rfl
   rotate_left
   ·simp only [Act.put,List.setIfInBounds_toArray,List.set_cons_zero,List.set_cons_succ,i64_w,i32_w]
    rfl
   refine last_ (i:=18) (N:=none) #[true,true,true,true,true,true,true,true,true,true,true,true,true,true,true,true,true,true,true,false,false,false] rfl rfl (by kernel_rfl) (by decide) (fun Kz hKz=>?_)
   refine skip_ (w1:=wk'.setCell ⟨kb,0,none⟩ (.slice An (ns.length + 1) cn)) rfl rfl ?hrun ?_
   case hrun =>
    clear hHeld
    first|(go_simp;done)|(go_simp;rfl)
   refine hKz.out _ _ ?_
   clear hKz Kz
   refine pure_ (i:=19) (N:=some 50) (v:=?_) (a':=?_) #[true,true,true,true,true,true,true,true,true,true,true,true,true,true,true,true,true,true,true,true,false,false] rfl rfl (by kernel_rfl) (fun _ _ _ h=>h) (Or.inl ⟨by first|rfl|exact wanted_on rfl rfl rfl (by rfl),?_⟩) ?_ ?_
   rotate_left
   ·intro w'
    go_simp
    with_reducible rfl
   rotate_left
   ·simp only [Act.put,List.setIfInBounds_toArray,List.set_cons_zero,List.set_cons_succ,i64_w,i32_w]
    rfl
   refine pure_ (i:=20) (N:=some 51) (v:=?_) (a':=?_) #[true,true,true,true,true,true,true,true,true,true,true,true,true,true,true,true,true,true,true,true,true,false] rfl rfl (by kernel_rfl) (fun _ _ _ h=>h) (Or.inl ⟨by first|rfl|exact wanted_on rfl rfl rfl (by rfl),?_⟩) ?_ ?_
   rotate_left
   ·intro w'
    go_simp
    with_reducible rfl
   rotate_left
   ·simp only [Act.put,List.setIfInBounds_toArray,List.set_cons_zero,List.set_cons_succ,i64_w,i32_w]
    rfl
   refine last_ (i:=21) (N:=none) #[true,true,true,true,true,true,true,true,true,true,true,true,true,true,true,true,true,true,true,true,true,true] rfl rfl (by kernel_rfl) (by decide) (fun Kz hKz=>?_)
   refine skip_ (w1:=(wk'.setCell ⟨kb,0,none⟩ (.slice An (ns.length + 1) cn)).setCell ⟨kb,1,none⟩ (.slice Ak (ks.length + 1) ck)) rfl rfl ?hrun ?_
   case hrun =>
    clear hHeld
    first|(go_simp;done)|(go_simp;rfl)
   refine hKz.out _ _ ?_
   clear hKz Kz
   refine done_ (by kernel_rfl) ?_
   go_wp2
   go_end0
   exact ⟨rfl,_,_,_,_,(HR.out.cell 0 _ _ _ rfl).cell 1 _ _ _ rfl,HA2.out,by simp⟩
  refine value_ (w1:=?_) (v:=?_) (by rfl) rfl ?_ ?_
  rotate_left 2
  ·go_simp
   constructor
   ·rfl
   rfl
  have HR':=Aside0.mk (HR.out.below (below_alloc (Below.refl _ _) (.cells #[.int .i64 v] 3)))
  have LK_:=Aside0.mk (heap_alloc_new w5 (.cells #[.int .i64 v] 3))
  have LN_':=Aside0.mk (blk_alloc LN_.out (.cells #[.int .i64 v] 3))
  refine hK.out _ _ ⟨(blk_cell HR'.out.blk 0).trans rfl,(blk_cell HR'.out.blk 1).trans rfl⟩ (fun hHeld=>?_)
  clear hK K HR LN_
  have HR:=HR'
  clear HR'
  have LN_:=LN_'
  clear LN_'
  refine norm_ (a':=?_) ?_ ?_
  rotate_left
  ·show Act.put _ (some 46) _ = _
   simp only [Act.put,List.setIfInBounds_toArray,List.set_cons_zero,List.set_cons_succ,i64_w,i32_w]
   rfl
  generalize w5.alloc (.cells #[.int .i64 v] 3) = w6 at HR LK_ LN_ hHeld ⊢
  generalize w5.heap.size = bk_ at LK_ ⊢
  refine one_ (i:=8) (N:=some 40) #[true,true,true,true,true,true,true,true,true,true,true,true,true,true,true,false,false,false,false,false,false,false] rfl rfl (by kernel_rfl) (by decide) (fun K hK=>?_)
  refine Kd.R_append_rows_step Kd.string (Rr:=fun x cs=>cs = [Value.string x]) (w0:=w0) w0.heap.size (by rfl) (.tmp 37) (.tmp 39) 45 9 (.string ⟨#[]⟩) 16 rfl Tryz.underlying45 info9 rfl (by decide) (by omega) (.slice A1 ns.length c1) ns [n] (some ⟨bn_,0,none⟩) 1 1 (fun _=>True) (fun _=>False) rfl rfl ?aO (lit_rowsH (enc:=Value.string) LN_.out) (fun _ _ h=>h) (fun _ hk=>hk.elim) (fun _ _=>trivial) ?aB ?aS ?aL ?_
  (case aO=>exact HR.out.nam)
  (case aB=>exact HR.out.bel)
  (case aS=>exact HR.out.bel.size)
  (case aL=>have:=HN.out;omega)
  intro vn' wn' ho hb hg hat
  have HR':=Aside0.mk (HR.out.named ho hb hg hat)
  have LK_':=Aside0.mk (blk_grown LK_.out hg (Kd.R_ne HR.out.nam LK_.out (by decide)))
  obtain ⟨An,cn,rfl⟩:=Kd.R_slice ho
  simp only [List.length_append,List.length_singleton] at HR'
  refine hK.out _ _ ⟨(blk_cell HR'.out.blk 0).trans rfl,(blk_cell HR'.out.blk 1).trans rfl⟩ (fun hHeld=>?_)
  clear hK K HR ho hb hg hat LK_
  have HR:=HR'
  clear HR'
  have LK_:=LK_'
  clear LK_'
  refine norm_ (a':=?_) ?_ ?_
  rotate_left
  ·show Act.put _ (some 40) _ = _
   simp only [Act.put,List.setIfInBounds_toArray,List.set_cons_zero,List.set_cons_succ,i64_w,i32_w]
   rfl
  refine one_ (i:=15) (N:=some 47) #[true,true,true,true,true,true,true,true,true,true,true,true,true,true,true,true,false,false,false,false,false,false] rfl rfl (by kernel_rfl) (by decide) (fun K hK=>?_)
  refine Kd.R_append_rows_step kJ (Rr:=fun x cs=>cs = [Value.int .i64 x]) (w0:=w0) w0.heap.size (by rfl) (.tmp 44) (.tmp 46) 27 3 (.int .i64 0) 8 rfl Tryz.underlying27 info3 rfl (by decide) (by omega) (.slice A2 ks.length c2) ks [v] (some ⟨bk_,0,none⟩) 1 1 (fun _=>True) (fun _=>False) rfl rfl ?aO (lit_rowsH (enc:=fun n=>Value.int .i64 n) LK_.out) (fun _ _ h=>h) (fun _ hk=>hk.elim) (fun _ _=>trivial) ?aB ?aS ?aL ?_
  (case aO=>exact HR.out.kin)
  (case aB=>exact HR.out.bel)
  (case aS=>exact HR.out.bel.size)
  (case aL=>have:=HN.out;have:=HL.out;omega)
  intro vk' wk' ho hb hg hat
  have HR':=Aside0.mk (HR.out.kinded ho hb hg hat)
  obtain ⟨Ak,ck,rfl⟩:=Kd.R_slice ho
  simp only [List.length_append,List.length_singleton] at HR'
  refine hK.out _ _ ⟨(blk_cell HR'.out.blk 0).trans rfl,(blk_cell HR'.out.blk 1).trans rfl⟩ (fun hHeld=>?_)
  clear hK K HR ho hb hg hat
  have HR:=HR'
  clear HR'
  refine norm_ (a':=?_) ?_ ?_
  rotate_left
  ·show Act.put _ (some 47) _ = _
   simp only [Act.put,List.setIfInBounds_toArray,List.set_cons_zero,List.set_cons_succ,i64_w,i32_w]
   rfl
  have hk:=HR.out.blk
  have p0:=(blk_cell hk 0).trans (show _ = some (Value.slice A1 ns.length c1) from rfl)
  have p1:=(blk_cell hk 1).trans (show _ = some (Value.slice A2 ks.length c2) from rfl)
  have f0:=blk_frozen hk 0
  have f1:=blk_frozen hk 1
  clear hk
  refine pure_ (i:=16) (N:=some 48) (v:=?_) (a':=?_) #[true,true,true,true,true,true,true,true,true,true,true,true,true,true,true,true,true,false,false,false,false,false] rfl rfl (by kernel_rfl) (fun _ _ _ h=>h) (Or.inl ⟨by first|rfl|exact wanted_on rfl rfl rfl (by rfl),?_⟩) ?_ ?_
  rotate_left
  ·intro w'
   go_simp
   with_reducible rfl
  rotate_left
  ·simp only [Act.put,List.setIfInBounds_toArray,List.set_cons_zero,List.set_cons_succ,i64_w,i32_w]
   rfl
  refine pure_ (i:=17) (N:=some 49) (v:=?_) (a':=?_) #[true,true,true,true,true,true,true,true,true,true,true,true,true,true,true,true,true,true,false,false,false,false] rfl rfl (by kernel_rfl) (fun _ _ _ h=>h) (Or.inl ⟨by first|rfl|exact wanted_on rfl rfl rfl (by rfl),?_⟩) ?_ ?_
  rotate_left
  ·intro w'
   go_simp
   with_reducible rfl
  rotate_left
  ·simp only [Act.put,List.setIfInBounds_toArray,List.set_cons_zero,List.set_cons_succ,i64_w,i32_w]
   rfl
  refine last_ (i:=18) (N:=none) #[true,true,true,true,true,true,true,true,true,true,true,true,true,true,true,true,true,true,true,false,false,false] rfl rfl (by kernel_rfl) (by decide) (fun Kz hKz=>?_)
  refine skip_ (w1:=wk'.setCell ⟨kb,0,none⟩ (.slice An (ns.length + 1) cn)) rfl rfl ?hrun ?_
  case hrun =>
   clear hHeld
   first|(go_simp;done)|(go_simp;rfl)
  refine hKz.out _ _ ?_
  clear hKz Kz
  refine pure_ (i:=19) (N:=some 50) (v:=?_) (a':=?_) #[true,true,true,true,true,true,true,true,true,true,true,true,true,true,true,true,true,true,true,true,false,false] rfl rfl (by kernel_rfl) (fun _ _ _ h=>h) (Or.inl ⟨by first|rfl|exact wanted_on rfl rfl rfl (by rfl),?_⟩) ?_ ?_
  rotate_left
  ·intro w'
   go_simp
   with_reducible rfl
  rotate_left
  ·simp only [Act.put,List.setIfInBounds_toArray,List.set_cons_zero,List.set_cons_succ,i64_w,i32_w]
   rfl
  refine pure_ (i:=20) (N:=some 51) (v:=?_) (a':=?_) #[true,true,true,true,true,true,true,true,true,true,true,true,true,true,true,true,true,true,true,true,true,false] rfl rfl (by kernel_rfl) (fun _ _ _ h=>h) (Or.inl ⟨by first|rfl|exact wanted_on rfl rfl rfl (by rfl),?_⟩) ?_ ?_
  rotate_left
  ·intro w'
   go_simp
   with_reducible rfl
  rotate_left
  ·simp only [Act.put,List.setIfInBounds_toArray,List.set_cons_zero,List.set_cons_succ,i64_w,i32_w]
   rfl
  refine last_ (i:=21) (N:=none) #[true,true,true,true,true,true,true,true,true,true,true,true,true,true,true,true,true,true,true,true,true,true] rfl rfl (by kernel_rfl) (by decide) (fun Kz hKz=>?_)
  refine skip_ (w1:=(wk'.setCell ⟨kb,0,none⟩ (.slice An (ns.length + 1) cn)).setCell ⟨kb,1,none⟩ (.slice Ak (ks.length + 1) ck)) rfl rfl ?hrun ?_
  case hrun =>
   clear hHeld
   first|(go_simp;done)|(go_simp;rfl)
  refine hKz.out _ _ ?_
  clear hKz Kz
  refine done_ (by kernel_rfl) ?_
  go_wp2
  go_end0
  exact ⟨rfl,_,_,_,_,(HR.out.cell 0 _ _ _ rfl).cell 1 _ _ _ rfl,HA2.out,by simp⟩
 refine value_ (w1:=?_) (v:=?_) (by rfl) rfl ?_ ?_
 rotate_left 2
 ·go_simp
  constructor
  ·rfl
  rfl
 have HR':=Aside0.mk (HR.out.below (below_alloc (Below.refl _ _) (.cells #[.int .i64 v] 3)))
 have LK_:=Aside0.mk (heap_alloc_new w4 (.cells #[.int .i64 v] 3))
 refine hK.out _ _ ⟨(blk_cell HR'.out.blk 0).trans rfl,(blk_cell HR'.out.blk 1).trans rfl⟩ (fun hHeld=>?_)
 clear hK K HR
 have HR:=HR'
 clear HR'
 refine norm_ (a':=?_) ?_ ?_
 rotate_left
 ·show Act.put _ (some 46) _ = _
  simp only [Act.put,List.setIfInBounds_toArray,List.set_cons_zero,List.set_cons_succ,i64_w,i32_w]
  rfl
 generalize w4.alloc (.cells #[.int .i64 v] 3) = w5 at HR LK_ hHeld ⊢
 generalize w4.heap.size = bk_ at LK_ ⊢
 refine one_ (i:=7) (N:=some 39) #[true,true,true,true,true,true,true,true,false,true,true,true,true,true,true,false,false,false,false,false,false,false] rfl rfl (by kernel_rfl) (by decide) (fun K hK=>?_)
 refine value_ (w1:=?_) (v:=?_) (by rfl) rfl ?_ ?_
 rotate_left 2
 ·go_simp
  constructor
  ·rfl
  rfl
 have HR':=Aside0.mk (HR.out.below (below_alloc (Below.refl _ _) (.cells #[.string n] 9)))
 have LN_:=Aside0.mk (heap_alloc_new w5 (.cells #[.string n] 9))
 have LK_':=Aside0.mk (blk_alloc LK_.out (.cells #[.string n] 9))
 refine hK.out _ _ ⟨(blk_cell HR'.out.blk 0).trans rfl,(blk_cell HR'.out.blk 1).trans rfl⟩ (fun hHeld=>?_)
 clear hK K HR LK_
 have HR:=HR'
 clear HR'
 have LK_:=LK_'
 clear LK_'
 refine norm_ (a':=?_) ?_ ?_
 rotate_left
 ·show Act.put _ (some 39) _ = _
  simp only [Act.put,List.setIfInBounds_toArray,List.set_cons_zero,List.set_cons_succ,i64_w,i32_w]
  rfl
 generalize w5.alloc (.cells #[.string n] 9) = w6 at HR LN_ LK_ hHeld ⊢
 generalize w5.heap.size = bn_ at LN_ ⊢
 refine one_ (i:=8) (N:=some 40) #[true,true,true,true,true,true,true,true,true,true,true,true,true,true,true,false,false,false,false,false,false,false] rfl rfl (by kernel_rfl) (by decide) (fun K hK=>?_)
 refine Kd.R_append_rows_step Kd.string (Rr:=fun x cs=>cs = [Value.string x]) (w0:=w0) w0.heap.size (by rfl) (.tmp 37) (.tmp 39) 45 9 (.string ⟨#[]⟩) 16 rfl Tryz.underlying45 info9 rfl (by decide) (by omega) (.slice A1 ns.length c1) ns [n] (some ⟨bn_,0,none⟩) 1 1 (fun _=>True) (fun _=>False) rfl rfl ?aO (lit_rowsH (enc:=Value.string) LN_.out) (fun _ _ h=>h) (fun _ hk=>hk.elim) (fun _ _=>trivial) ?aB ?aS ?aL ?_
 (case aO=>exact HR.out.nam)
 (case aB=>exact HR.out.bel)
 (case aS=>exact HR.out.bel.size)
 (case aL=>have:=HN.out;omega)
 intro vn' wn' ho hb hg hat
 have HR':=Aside0.mk (HR.out.named ho hb hg hat)
 have LK_':=Aside0.mk (blk_grown LK_.out hg (Kd.R_ne HR.out.nam LK_.out (by decide)))
 obtain ⟨An,cn,rfl⟩:=Kd.R_slice ho
 simp only [List.length_append,List.length_singleton] at HR'
 refine hK.out _ _ ⟨(blk_cell HR'.out.blk 0).trans rfl,(blk_cell HR'.out.blk 1).trans rfl⟩ (fun hHeld=>?_)
 clear hK K HR ho hb hg hat LK_
 have HR:=HR'
 clear HR'
 have LK_:=LK_'
 clear LK_'
 refine norm_ (a':=?_) ?_ ?_
 rotate_left
 ·show Act.put _ (some 40) _ = _
  simp only [Act.put,List.setIfInBounds_toArray,List.set_cons_zero,List.set_cons_succ,i64_w,i32_w]
  rfl
 refine one_ (i:=15) (N:=some 47) #[true,true,true,true,true,true,true,true,true,true,true,true,true,true,true,true,false,false,false,false,false,false] rfl rfl (by kernel_rfl) (by decide) (fun K hK=>?_)
 refine Kd.R_append_rows_step kJ (Rr:=fun x cs=>cs = [Value.int .i64 x]) (w0:=w0) w0.heap.size (by rfl) (.tmp 44) (.tmp 46) 27 3 (.int .i64 0) 8 rfl Tryz.underlying27 info3 rfl (by decide) (by omega) (.slice A2 ks.length c2) ks [v] (some ⟨bk_,0,none⟩) 1 1 (fun _=>True) (fun _=>False) rfl rfl ?aO (lit_rowsH (enc:=fun n=>Value.int .i64 n) LK_.out) (fun _ _ h=>h) (fun _ hk=>hk.elim) (fun _ _=>trivial) ?aB ?aS ?aL ?_
 (case aO=>exact HR.out.kin)
 (case aB=>exact HR.out.bel)
 (case aS=>exact HR.out.bel.size)
 (case aL=>have:=HN.out;have:=HL.out;omega)
 intro vk' wk' ho hb hg hat
 have HR':=Aside0.mk (HR.out.kinded ho hb hg hat)
 obtain ⟨Ak,ck,rfl⟩:=Kd.R_slice ho
 simp only [List.length_append,List.length_singleton] at HR'
 refine hK.out _ _ ⟨(blk_cell HR'.out.blk 0).trans rfl,(blk_cell HR'.out.blk 1).trans rfl⟩ (fun hHeld=>?_)
 clear hK K HR ho hb hg hat
 have HR:=HR'
 clear HR'
 refine norm_ (a':=?_) ?_ ?_
 rotate_left
 ·show Act.put _ (some 47) _ = _
  simp only [Act.put,List.setIfInBounds_toArray,List.set_cons_zero,List.set_cons_succ,i64_w,i32_w]
  rfl
 have hk:=HR.out.blk
 have p0:=(blk_cell hk 0).trans (show _ = some (Value.slice A1 ns.length c1) from rfl)
 have p1:=(blk_cell hk 1).trans (show _ = some (Value.slice A2 ks.length c2) from rfl)
 have f0:=blk_frozen hk 0
 have f1:=blk_frozen hk 1
 clear hk
 refine pure_ (i:=16) (N:=some 48) (v:=?_) (a':=?_) #[true,true,true,true,true,true,true,true,true,true,true,true,true,true,true,true,true,false,false,false,false,false] rfl rfl (by kernel_rfl) (fun _ _ _ h=>h) (Or.inl ⟨by first|rfl|exact wanted_on rfl rfl rfl (by rfl),?_⟩) ?_ ?_
 rotate_left
 ·intro w'
  go_simp
  with_reducible rfl
 rotate_left
 ·simp only [Act.put,List.setIfInBounds_toArray,List.set_cons_zero,List.set_cons_succ,i64_w,i32_w]
  rfl
 refine pure_ (i:=17) (N:=some 49) (v:=?_) (a':=?_) #[true,true,true,true,true,true,true,true,true,true,true,true,true,true,true,true,true,true,false,false,false,false] rfl rfl (by kernel_rfl) (fun _ _ _ h=>h) (Or.inl ⟨by first|rfl|exact wanted_on rfl rfl rfl (by rfl),?_⟩) ?_ ?_
 rotate_left
 ·intro w'
  go_simp
  with_reducible rfl
 rotate_left
 ·simp only [Act.put,List.setIfInBounds_toArray,List.set_cons_zero,List.set_cons_succ,i64_w,i32_w]
  rfl
 refine last_ (i:=18) (N:=none) #[true,true,true,true,true,true,true,true,true,true,true,true,true,true,true,true,true,true,true,false,false,false] rfl rfl (by kernel_rfl) (by decide) (fun Kz hKz=>?_)
 refine skip_ (w1:=wk'.setCell ⟨kb,0,none⟩ (.slice An (ns.length + 1) cn)) rfl rfl ?hrun ?_
 case hrun =>
  clear hHeld
  first|(go_simp;done)|(go_simp;rfl)
 refine hKz.out _ _ ?_
 clear hKz Kz
 refine pure_ (i:=19) (N:=some 50) (v:=?_) (a':=?_) #[true,true,true,true,true,true,true,true,true,true,true,true,true,true,true,true,true,true,true,true,false,false] rfl rfl (by kernel_rfl) (fun _ _ _ h=>h) (Or.inl ⟨by first|rfl|exact wanted_on rfl rfl rfl (by rfl),?_⟩) ?_ ?_
 rotate_left
 ·intro w'
  go_simp
  with_reducible rfl
 rotate_left
 ·simp only [Act.put,List.setIfInBounds_toArray,List.set_cons_zero,List.set_cons_succ,i64_w,i32_w]
  rfl
 refine pure_ (i:=20) (N:=some 51) (v:=?_) (a':=?_) #[true,true,true,true,true,true,true,true,true,true,true,true,true,true,true,true,true,true,true,true,true,false] rfl rfl (by kernel_rfl) (fun _ _ _ h=>h) (Or.inl ⟨by first|rfl|exact wanted_on rfl rfl rfl (by rfl),?_⟩) ?_ ?_
 rotate_left
 ·intro w'
  go_simp
  with_reducible rfl
 rotate_left
 ·simp only [Act.put,List.setIfInBounds_toArray,List.set_cons_zero,List.set_cons_succ,i64_w,i32_w]
  rfl
 refine last_ (i:=21) (N:=none) #[true,true,true,true,true,true,true,true,true,true,true,true,true,true,true,true,true,true,true,true,true,true] rfl rfl (by kernel_rfl) (by decide) (fun Kz hKz=>?_)
 refine skip_ (w1:=(wk'.setCell ⟨kb,0,none⟩ (.slice An (ns.length + 1) cn)).setCell ⟨kb,1,none⟩ (.slice Ak (ks.length + 1) ck)) rfl rfl ?hrun ?_
 case hrun =>
  clear hHeld
  first|(go_simp;done)|(go_simp;rfl)
 refine hKz.out _ _ ?_
 clear hKz Kz
 refine done_ (by kernel_rfl) ?_
 go_wp2
 go_end0
 exact ⟨rfl,_,_,_,_,(HR.out.cell 0 _ _ _ rfl).cell 1 _ _ _ rfl,HA2.out,by simp⟩
end Go.Proofs.YtfgffjchphignaaGreatDoor.Print
end
section
namespace Go.Proofs.YtfgffjchphignaaGreatDoor.Print
open Go.Sort Go.Shelf PureN
open Go.RowKit Go.Proofs.YtfgffjchphignaaGreatDoorX Go.Proofs.YtfgffjchphignaaGreatDoorW.PrintWords Go.Proofs.YtfgffjchphignaaGreatDoorW.PrintLast Go.Proofs.YtfgffjchphignaaGreatDoorW.PrintMore
/-! spillwayref3.sorted: pairs put into a row one by one. -/
/-- What is asked of a row: its names stand in order. -/
def InOrd (l : List S60) : Prop:=(l.map pr).Pairwise LeP
theorem InOrd.before {l : List S60} (h : InOrd l) (x : S60) (n : Nat) (hn : n < l.length) (hx : ltL x.f0.data.toList (l.getD n z60).f0.data.toList = false) : ∀ y ∈ l.take (n + 1),ltL x.f0.data.toList y.f0.data.toList = false:=by
 intro y hy
 have hg : l.getD n z60 = l[n]:=by rw [List.getD_eq_getElem?_getD,List.getElem?_eq_getElem hn];rfl
 rw [hg] at hx
 obtain ⟨j,hj,rfl⟩:=List.getElem_of_mem hy
 rw [List.length_take] at hj
 rw [List.getElem_take]
 by_cases e : j = n
 ·subst e;exact hx
 have hp:=List.pairwise_iff_getElem.1 h j n (by rw [List.length_map];omega) (by rw [List.length_map];omega) (by omega)
 rw [List.getElem_map,List.getElem_map] at hp
 exact leL_trans hp hx
end Go.Proofs.YtfgffjchphignaaGreatDoor.Print
end
section
namespace Go.Proofs.YtfgffjchphignaaGreatDoor.PureN
open Go.RowKit Go.Proofs.YtfgffjchphignaaGreatDoor.Print
open Go.Proofs.YtfgffjchphignaaGreatDoorX Go.Proofs.YtfgffjchphignaaGreatDoorW.PrintWords Go.Proofs.YtfgffjchphignaaGreatDoorW.PrintLast Go.Proofs.YtfgffjchphignaaGreatDoorW.PrintMore
/-! The document's Print and Parse of label sets. -/
theorem rprint_eq3 (l : List S60) (hsm : small2 l) (k : Nat) (hk : 800 < k) : spillwayref3_Print.f k l = some (ofL (printL (l.map pr))):=by
 have hIs : spillwayref3_Is.f l = some (isS (l.map pr)):=by unfold spillwayref3_Is.f;rw [if_pos hsm]
 unfold spillwayref3_Print.f printL
 rw [hIs,Option.bind_some]
 cases hS : isS (l.map pr) with
 | false=>rw [if_neg (by simp),if_neg (by simp)]
 | true =>
  rw [if_pos rfl,if_pos rfl]
  have hi:=isS_is _ hS
  have hl : l.length ≤ 8:=by have:=hi.len;rwa [List.length_map] at this
  have hG:=rget_eq (⟨#[95,95,110,97,109,101,95,95]⟩ : ByteArray) l (by omega) k (by omega)
  have hNL : (⟨#[95,95,110,97,109,101,95,95]⟩ : ByteArray).data.toList = NL:=rfl
  rw [hNL] at hG
  have hsz : ∀ x ∈ l,x.f0.size ≤ 20 ∧ x.f1.size ≤ 30:=by
   intro x hx
   have h1:=hi.each (pr x) (List.mem_map_of_mem hx)
   have h2 : x.f0.data.toList.length ≤ 20:=by
    cases hc : x.f0.data.toList with
    | nil=>simp
    | cons c r =>
     have h3:=h1.1
     rw [show (pr x).1 = c :: r from hc] at h3
     simp only [nameB,Bool.and_eq_true,decide_eq_true_eq] at h3
     exact h3.2
   have h4 : x.f1.data.toList.length ≤ 30:=by
    have h5:=h1.2
    unfold valB at h5
    simp only [Bool.and_eq_true,decide_eq_true_eq] at h5
    exact h5.1.2
   rw [Array.length_toList] at h2 h4
   exact ⟨h2,h4⟩
  have hnmL : (getL (l.map pr) NL).length ≤ 30:=by
   unfold getL
   cases hf : (l.map pr).find? fun p=>p.1 == NL with
   | none=>simp
   | some p =>
    have hm:=List.mem_of_find?_eq_some hf
    obtain ⟨x,hx,rfl⟩:=List.mem_map.1 hm
    show (pr x).2.length ≤ 30
    have:=(hsz x hx).2
    show x.f1.data.toList.length ≤ 30
    rw [Array.length_toList]
    exact this
  rw [hG,Option.bind_some,rname_eq _ (by rw [ofL_size];omega) k (by rw [ofL_size];omega),Option.bind_some]
  have hds : (ofL (getL (l.map pr) NL)).data.toList = getL (l.map pr) NL:=rfl
  rw [hds]
  obtain ⟨k,rfl⟩ : ∃ m,k = m + 1:=⟨k - 1,by omega⟩
  have e0 : (⟨#[]⟩ : ByteArray) = ofL []:=rfl
  cases hn : nameB (getL (l.map pr) NL) with
  | true =>
   rw [if_pos rfl,if_pos rfl,spillwayref3_Print.j0,e0]
   have hne : getL (l.map pr) NL ≠ []:=by intro e;rw [e] at hn;simp [nameB] at hn
   have h:=rprint_loop l hsz hl (getL (l.map pr) NL) (by omega) l.length 0 k [] 0 (by omega) (by omega) (by simp) (by omega)
   rw [List.drop_zero] at h
   have hkp : keptP (getL (l.map pr) NL) (l.map pr) = restP (l.map pr):=by unfold keptP restP;rw [if_neg hne]
   rw [hkp,stepJ_all] at h
   rw [show ((0 : Nat) : Int) = 0 from rfl] at h
   rw [h]
   unfold finP
   by_cases hr : restP (l.map pr) = []
   ·rw [if_pos hr,hr,if_neg (fun hh=>hh.elim (by simp) hne)]
    simp [joinP]
   rw [if_neg hr,if_pos (.inl (List.length_pos_iff.2 hr))]
  | false =>
   rw [if_neg (by simp),if_neg (by simp),spillwayref3_Print.j0,e0]
   have h:=rprint_loop l hsz hl [] (by simp) l.length 0 k [] 0 (by omega) (by omega) (by simp) (by omega)
   rw [List.drop_zero] at h
   have hkp : keptP [] (l.map pr) = l.map pr:=by unfold keptP;rw [if_pos rfl]
   rw [hkp,stepJ_all] at h
   rw [show ((0 : Nat) : Int) = 0 from rfl] at h
   rw [h]
   unfold finP
   rw [if_pos (.inr rfl)]
   rfl
end Go.Proofs.YtfgffjchphignaaGreatDoor.PureN
end
section
namespace Go.Proofs.YtfgffjchphignaaGreatDoor.Print
open Go.RowKit Go.Proofs.YtfgffjchphignaaGreatDoorX Go.Proofs.YtfgffjchphignaaGreatDoorW.PrintWords Go.Proofs.YtfgffjchphignaaGreatDoorW.PrintLast Go.Proofs.YtfgffjchphignaaGreatDoorW.PrintMore
/-! ### spillwayref2_Digits: function 20 -/
def spillwayref2_Digits.l0 : Nat → Int → ByteArray → Option (ByteArray)
 | 0,_,_=>none
 | k + 1,x0,x3=>(some (([(IntKind.u64.wrap (48 + (Int.tmod x0 10))) % 256] : List Int) : List Int)).bind fun y400=>(if (strOfNums y400).size + x3.size ≤ 9223372036854775807 then (if (IntKind.u64.wrap (Int.tdiv x0 10)) = 0 then (some ((strOfNums y400) ++ x3)) else (spillwayref2_Digits.l0 k (IntKind.u64.wrap (Int.tdiv x0 10)) ((strOfNums y400) ++ x3))) else (none))
def spillwayref2_Digits.f (k : Nat) (a0 : Int) : Option (ByteArray):=spillwayref2_Digits.l0 k a0 (⟨#[]⟩ : ByteArray)
set_option maxHeartbeats 8000000 in
set_option maxRecDepth 100000 in
theorem spillwayref2_Digits.calls (k : Nat) (a0 : Int) (r : ByteArray) (w : World) (h : spillwayref2_Digits.f k a0 = some r) :
  Calls Tryz.prog 20 #[.int .u64 a0] w fun e w'=>e = .returned (.string r) ∧ Below w.heap.size w w':=by
 have HB:=Aside0.mk (Below.refl w.heap.size w)
 have H : (spillwayref2_Digits.l0 k a0 (⟨#[]⟩ : ByteArray)) = some r:=h
 clear h
 have H':=Aside0.mk H
 clear H
 go_enter Tryz.func20,Tryz.ntmps20
 go_wp2
 go_loopg [0,3] k (fun kq v0 v3 w'=>∃ (x0_1 : Int) (x3_1 : ByteArray),v0 = .int .u64 x0_1 ∧ v3 = .string x3_1 ∧ Aside0 (spillwayref2_Digits.l0 kq x0_1 x3_1 = some r) ∧ Aside0 (kq ≤ k) ∧ Aside0 (Below w.heap.size w w'))
 case atStart=>exact ⟨(a0),((⟨#[]⟩ : ByteArray)),(by first|rfl|(simp;done)|(simp [*];done)),(by first|rfl|(simp;done)|(simp [*];done)),H',⟨Nat.le_refl _⟩,⟨by repeat (first|(with_reducible first|exact HB.out|apply below_alloc|apply pw_below_drewN|apply below_drew1)|exact HB.out)⟩⟩
 clear H'
 obtain ⟨x0_1,x3_1,rfl,rfl,HA,HK1,HB⟩:=hrel
 cases gk with
 | zero=>exact absurd HA.out (by simp [spillwayref2_Digits.l0])
 | succ k1 =>
  have H:=HA.out
  clear HA
  simp only [spillwayref2_Digits.l0] at H
  obtain ⟨y400,hy400⟩ : ∃ y_ : List Int,y_ = (([(IntKind.u64.wrap (48 + (Int.tmod x0_1 10))) % 256] : List Int)):=⟨_,rfl⟩
  replace H : (if (strOfNums y400).size + x3_1.size ≤ 9223372036854775807 then (if (IntKind.u64.wrap (Int.tdiv x0_1 10)) = 0 then (some ((strOfNums y400) ++ x3_1)) else (spillwayref2_Digits.l0 k1 (IntKind.u64.wrap (Int.tdiv x0_1 10)) ((strOfNums y400) ++ x3_1))) else (none)) = some r:=by first|(rw [hy400];with_reducible exact H)|(have H2_:=(Option.bind_some _ _).symm.trans H;rw [hy400];with_reducible exact H2_)|(have H2_:=(Option.bind_some _ _).symm.trans H;with_reducible exact H2_)|with_reducible exact H|(rw [hy400];exact H)|exact H
  have Ny400:=Aside0.mk hy400
  clear hy400
  by_cases c2 : (strOfNums y400).size + x3_1.size ≤ 9223372036854775807
  ·rw [if_pos c2] at H
   have c2b0:=eq_true c2
   have c2b1 : decide ((strOfNums y400).size + x3_1.size ≤ 9223372036854775807) = true:=decide_eq_true c2
   try have c2b2 : (9223372036854775807 < (strOfNums y400).size + x3_1.size) = False:=eq_false (Nat.not_lt.2 c2)
   by_cases c3 : (IntKind.u64.wrap (Int.tdiv x0_1 10)) = 0
   ·rw [if_pos c3] at H
    have c3b0 : ((IntKind.u64.wrap (Int.tdiv x0_1 10)) == 0) = true:=beq_iff_eq.mpr c3
    have c3b1 : ((IntKind.u64.wrap (Int.tdiv x0_1 10)) != 0) = false:=bne_eq_false_iff_eq.mpr c3
    clear c3
    obtain rfl:=Option.some.inj H
    go_wp2_with (first|((with_reducible refine gate_dst (N:=8) rfl ?_);refine Kd.R_lit (Kd.int .u8) _ 5 ?hg (N:=8) ?hd (xs:=([(IntKind.u64.wrap (48 + (Int.tmod x0_1 10))) % 256] : List Int)) (inner:=[.int .u8 ((IntKind.u64.wrap (48 + (Int.tmod x0_1 10))) % 256)]) (ok:=fun _=>True) (okp:=fun _=>True) ?hr ?hp (fun _ hk=>hk) trivial (Below.refl _ _) (Nat.le_refl _) (by simp) ?_;(case hd=>rfl);(case hg=>rfl);(case hr=>first|(go_simp;done)|(go_simp;rfl));(case hp=>exact (Reps.one (show Kd.M (Kd.int .u8) _ _ _ ((IntKind.u64.wrap (48 + (Int.tmod x0_1 10))) % 256) [.int .u8 ((IntKind.u64.wrap (48 + (Int.tmod x0_1 10))) % 256)] from rfl) (Reps.none _ _)));intro v401 w4 ho5 hb hg_ hnew_;clear hg_ hnew_;(first|rw [← Ny400.out] at ho5|(simp only [Int.reduceToNat] at ho5;rw [← Ny400.out] at ho5));have n0_:=Aside0.mk (Kd.R_lower ho5 (below_size (by repeat (first|(with_reducible first|exact HB.out|apply below_alloc|apply pw_below_drewN|apply below_drew1)|exact HB.out))));have n1_:=Aside0.mk (below_step (by repeat (first|(with_reducible first|exact HB.out|apply below_alloc|apply pw_below_drewN|apply below_drew1)|exact HB.out)) hb);clear HB;have HO402:=n0_;have HB:=n1_;clear n0_ n1_;clear hb ho5;have hcv6:=own_string (P:=Tryz.prog) Tryz.underlying47 Tryz.underlying5 Tryz.underlying9 (Kd.own_of_R HO402.out)))
    go_ret
    exact ⟨by first|rfl|(simp [errW_none,errW_some] <;> rfl)|(simp [*,errW_none,errW_some] <;> rfl),by repeat (first|(with_reducible first|exact HB.out|apply below_alloc|apply pw_below_drewN|apply below_drew1)|exact HB.out)⟩
   rw [if_neg c3] at H
   have c3b0 : ((IntKind.u64.wrap (Int.tdiv x0_1 10)) == 0) = false:=beq_eq_false_iff_ne.mpr c3
   have c3b1 : ((IntKind.u64.wrap (Int.tdiv x0_1 10)) != 0) = true:=bne_iff_ne.mpr c3
   have H':=Aside0.mk H
   clear H
   go_wp2_with (first|((with_reducible refine gate_dst (N:=8) rfl ?_);refine Kd.R_lit (Kd.int .u8) _ 5 ?hg (N:=8) ?hd (xs:=([(IntKind.u64.wrap (48 + (Int.tmod x0_1 10))) % 256] : List Int)) (inner:=[.int .u8 ((IntKind.u64.wrap (48 + (Int.tmod x0_1 10))) % 256)]) (ok:=fun _=>True) (okp:=fun _=>True) ?hr ?hp (fun _ hk=>hk) trivial (Below.refl _ _) (Nat.le_refl _) (by simp) ?_;(case hd=>rfl);(case hg=>rfl);(case hr=>first|(go_simp;done)|(go_simp;rfl));(case hp=>exact (Reps.one (show Kd.M (Kd.int .u8) _ _ _ ((IntKind.u64.wrap (48 + (Int.tmod x0_1 10))) % 256) [.int .u8 ((IntKind.u64.wrap (48 + (Int.tmod x0_1 10))) % 256)] from rfl) (Reps.none _ _)));intro v401 w7 ho8 hb hg_ hnew_;clear hg_ hnew_;(first|rw [← Ny400.out] at ho8|(simp only [Int.reduceToNat] at ho8;rw [← Ny400.out] at ho8));have n0_:=Aside0.mk (Kd.R_lower ho8 (below_size (by repeat (first|(with_reducible first|exact HB.out|apply below_alloc|apply pw_below_drewN|apply below_drew1)|exact HB.out))));have n1_:=Aside0.mk (below_step (by repeat (first|(with_reducible first|exact HB.out|apply below_alloc|apply pw_below_drewN|apply below_drew1)|exact HB.out)) hb);clear HB;have HO402:=n0_;have HB:=n1_;clear n0_ n1_;clear hb ho8;have hcv9:=own_string (P:=Tryz.prog) Tryz.underlying47 Tryz.underlying5 Tryz.underlying9 (Kd.own_of_R HO402.out)))
   go_roundg k1
   case measure=>have:=HK1.out;omega
   case rel=>exact ⟨(IntKind.u64.wrap (Int.tdiv x0_1 10)),((strOfNums y400) ++ x3_1),(by first|rfl|(simp;done)|(simp [*];done)),(by first|rfl|(simp;done)|(simp [*];done)),H',⟨by have:=HK1.out;omega⟩,⟨by repeat (first|(with_reducible first|exact HB.out|apply below_alloc|apply pw_below_drewN|apply below_drew1)|exact HB.out)⟩⟩
  rw [if_neg c2] at H
  exact absurd H (by simp)
end Go.Proofs.YtfgffjchphignaaGreatDoor.Print
end
section
namespace Go.Proofs.YtfgffjchphignaaGreatDoor.PureN
open Go.RowKit Go.Proofs.YtfgffjchphignaaGreatDoor.Print Go.Proofs.YtfgffjchphignaaGreatDoor.Pure Go.Proofs.YtfgffjchphignaaGreatDoorW.PrintWords Go.Proofs.YtfgffjchphignaaGreatDoorW.PrintLast Go.Proofs.YtfgffjchphignaaGreatDoorW.PrintMore
/-! The document's digits. -/
theorem str_one (d : Nat) (h : d < 10) : strOfNums [(IntKind.u64.wrap (48 + (d : Int))) % 256] = ⟨[UInt8.ofNat (48 + d)].toArray⟩:=by
 unfold strOfNums
 have : (IntKind.u64.wrap (48 + (d : Int)) % 256).toNat = 48 + d:=by
  rw [IntKind.wrap_u64]
  omega
 rw [List.map_cons,List.map_nil,this]
theorem digits_dec : ∀ (k n : Nat) (acc : List UInt8),1 ≤ k → n < 10 ^ k → n < 18446744073709551616 → acc.length + k ≤ 1000 → spillwayref2_Digits.l0 k (n : Int) ⟨acc.toArray⟩ = some ⟨(Lib.decDigits n ++ acc).toArray⟩
 | 0,_,_,h,_,_,_=>absurd h (by omega)
 | k + 1,n,acc,_,hn,h64,hl=>by
  simp only [spillwayref2_Digits.l0]
  have e1 : Int.tmod (n : Int) 10 = ((n % 10 : Nat) : Int):=by rw [Int.tmod_eq_emod_of_nonneg (by omega)];omega
  have e2 : IntKind.u64.wrap (Int.tdiv (n : Int) 10) = ((n / 10 : Nat) : Int):=by rw [Int.tdiv_eq_ediv_of_nonneg (by omega),IntKind.wrap_u64];omega
  rw [e1,e2,Option.bind_some,str_one _ (by omega),app_list,size_list,size_list,if_pos (by rw [List.length_singleton];omega)]
  rw [Lib.decDigits]
  by_cases c : n < 10
  ·rw [if_pos (by omega),dif_pos c,show n % 10 = n by omega]
  rw [if_neg (by omega),dif_neg c]
  have hk : 1 ≤ k:=by
   rcases Nat.eq_zero_or_pos k with rfl|h'
   ·simp at hn
    omega
   exact h'
  rw [Nat.pow_succ] at hn
  rw [digits_dec k (n / 10) _ hk (by omega) (by omega) (by simp;omega),List.append_assoc]
theorem rDigits_eq (k n : Nat) (hk : 25 < k) (hk2 : k ≤ 900) (h : n < 18446744073709551616) : spillwayref2_Digits.f k (n : Int) = some ⟨(Lib.decDigits n).toArray⟩:=by
 unfold spillwayref2_Digits.f
 have hp : 10 ^ 20 ≤ 10 ^ k:=Nat.pow_le_pow_right (by omega) (by omega)
 have:=digits_dec k n [] (by omega) (by omega) h (by simp;omega)
 rw [List.append_nil] at this
 exact this
end Go.Proofs.YtfgffjchphignaaGreatDoor.PureN
end
section
namespace Go.Proofs.YtfgffjchphignaaGreatDoor.Print
open Go.RowKit Go.Proofs.YtfgffjchphignaaGreatDoorX Go.Proofs.YtfgffjchphignaaGreatDoorW.PrintWords Go.Proofs.YtfgffjchphignaaGreatDoorW.PrintLast Go.Proofs.YtfgffjchphignaaGreatDoorW.PrintMore
/-! ### spillwayref2_size: function 86 -/
def spillwayref2_size.f (a0 : Int) : Option (Int):=if a0 < 0 then (some (IntKind.u64.wrap (wrap64 (-a0)))) else (some (IntKind.u64.wrap (a0)))
set_option maxHeartbeats 8000000 in
set_option maxRecDepth 100000 in
theorem spillwayref2_size.calls (a0 : Int) (r : Int) (w : World) (h : spillwayref2_size.f a0 = some r) :
  Calls Tryz.prog 86 #[.int .i64 a0] w fun e w'=>e = .returned (.int .u64 r) ∧ Drawn0 w w':=by
 have H : (if a0 < 0 then (some (IntKind.u64.wrap (wrap64 (-a0)))) else (some (IntKind.u64.wrap (a0)))) = some r:=h
 clear h
 by_cases c2 : a0 < 0
 ·rw [if_pos c2] at H
  have c2b0 : decide (a0 < 0) = true:=decide_eq_true c2
  clear c2
  obtain rfl:=Option.some.inj H
  go_enter Tryz.func86,Tryz.ntmps86
  go_wp2
  go_ret
  exact ⟨by first|rfl|(simp;done)|(simp [*];done),by repeat (first|exact Drawn0.refl _|apply Drawn0.step)⟩
 rw [if_neg c2] at H
 have c2b0 : decide (a0 < 0) = false:=decide_eq_false c2
 clear c2
 obtain rfl:=Option.some.inj H
 go_enter Tryz.func86,Tryz.ntmps86
 go_wp2
 go_ret
 exact ⟨by first|rfl|(simp;done)|(simp [*];done),by repeat (first|exact Drawn0.refl _|apply Drawn0.step)⟩

end Go.Proofs.YtfgffjchphignaaGreatDoor.Print

namespace Go.Proofs.YtfgffjchphignaaGreatDoor.Print
open Go.RowKit Go.Proofs.YtfgffjchphignaaGreatDoorX Go.Proofs.YtfgffjchphignaaGreatDoorW.PrintWords Go.Proofs.YtfgffjchphignaaGreatDoorW.PrintLast Go.Proofs.YtfgffjchphignaaGreatDoorW.PrintMore

/-! ### spillwayref2_Print: function 54 -/
mutual
def spillwayref2_Print.j0 : Nat → Bool → Bool → Int → Option (ByteArray)
 | 0,_,_,_=>none
 | k + 1,x12,x250000,x250001=>if x12 = true then (some (⟨#[111,118,102]⟩ : ByteArray)) else ((spillwayref2_size.f x250001).bind fun t251=>((spillwayref2_Digits.f k (IntKind.u64.wrap (Int.tdiv t251 1000000))).bind fun t252=>((spillwayref2_Digits.f k (IntKind.u64.wrap ((Int.tmod t251 1000000) + 1000000))).bind fun t253=>(if 1 ≤ (t253.size : Int) then (spillwayref2_Print.l0 k t252 (t253.extract 1 t253.size) x250000 x250001) else (none)))))
def spillwayref2_Print.j2 : Nat → ByteArray → ByteArray → Bool → Int → Option (ByteArray)
 | 0,_,_,_,_=>none
 | k + 1,x4,x5,x250000,x250001=>if x5.toList = ([] : List UInt8) then (if x250001 < 0 then (if 1 + x4.size ≤ 9223372036854775807 then (some ((⟨#[45]⟩ : ByteArray) ++ x4)) else (none)) else (some x4)) else (if x4.size + 1 ≤ 9223372036854775807 then (if (x4 ++ (⟨#[46]⟩ : ByteArray)).size + x5.size ≤ 9223372036854775807 then (if x250001 < 0 then (if 1 + ((x4 ++ (⟨#[46]⟩ : ByteArray)) ++ x5).size ≤ 9223372036854775807 then (some ((⟨#[45]⟩ : ByteArray) ++ ((x4 ++ (⟨#[46]⟩ : ByteArray)) ++ x5))) else (none)) else (some ((x4 ++ (⟨#[46]⟩ : ByteArray)) ++ x5))) else (none)) else (none))
def spillwayref2_Print.l0 : Nat → ByteArray → ByteArray → Bool → Int → Option (ByteArray)
 | 0,_,_,_,_=>none
 | k + 1,x4,x5,x250000,x250001=>if (x5.size : Int) > 0 then (if 0 ≤ (wrap64 ((x5.size : Int) - 1)) then (if (wrap64 ((x5.size : Int) - 1)) < (x5.size : Int) then (if (bt x5 (wrap64 ((x5.size : Int) - 1))) = 48 then (if (wrap64 ((x5.size : Int) - 1)) ≤ (x5.size : Int) then (spillwayref2_Print.l0 k x4 (x5.extract 0 ((wrap64 ((x5.size : Int) - 1)) : Int).toNat) x250000 x250001) else (none)) else (spillwayref2_Print.j2 k x4 x5 x250000 x250001)) else (none)) else (none)) else (spillwayref2_Print.j2 k x4 x5 x250000 x250001)
end
def spillwayref2_Print.f (k : Nat) (a0_0 : Bool) (a0_1 : Int) : Option (ByteArray):=if a0_0 = true then (spillwayref2_Print.j0 k true a0_0 a0_1) else ((spillwayref2_Is.f a0_0 a0_1).bind fun t250=>(spillwayref2_Print.j0 k (!t250) a0_0 a0_1))
set_option maxHeartbeats 8000000 in
set_option maxRecDepth 100000 in
theorem spillwayref2_Print.calls (k : Nat) (a0_0 : Bool) (a0_1 : Int) (r : ByteArray) (w : World) (h : spillwayref2_Print.f k a0_0 a0_1 = some r) :
  Calls Tryz.prog 54 #[.agg #[.bool a0_0,.int .i64 a0_1]] w fun e w'=>e = .returned (.string r) ∧ Below w.heap.size w w':=by
 have hu32:=Tryz.underlying32
 have HB:=Aside0.mk (Below.refl w.heap.size w)
 have H : (if a0_0 = true then (spillwayref2_Print.j0 k true a0_0 a0_1) else ((spillwayref2_Is.f a0_0 a0_1).bind fun t250=>(spillwayref2_Print.j0 k (!t250) a0_0 a0_1))) = some r:=h
 clear h
 have HC2:=Aside0.mk H
 clear H
 go_enter Tryz.func54,Tryz.ntmps54
 go_upto_region 1 with (first|((with_reducible refine gate_dst (N:=1) rfl ?_);(try (refine gate_guard (by rfl) ?_;dsimp only));refine box_event ?hg (N:=1) ?hd (cs:=#[.bool a0_0,.int .i64 a0_1]) (t:=32) ?hr ?_;(case hd=>rfl);(case hg=>rfl);(case hr=>first|(go_simp;done)|(go_simp;rfl));intro gb249 hg w3 hbox hb;have n0_:=Aside0.mk (below_step (by repeat (first|(with_reducible first|exact HB.out|apply below_alloc|apply pw_below_drewN|apply below_drew1)|exact HB.out)) hb);have n1_:=Aside0.mk (hbox);have n2_:=Aside0.mk ((by rw [hg];exact (below_size (by repeat (first|(with_reducible first|exact HB.out|apply below_alloc|apply pw_below_drewN|apply below_drew1)|exact HB.out))) : w.heap.size ≤ gb249));have n3_:=Aside0.mk ((by rw [hg];exact (below_size (by repeat (first|(with_reducible first|exact HB.out|apply below_alloc|apply pw_below_drewN|apply below_drew1)|exact HB.out))) : w.heap.size ≤ gb249));clear HB;have HB:=n0_;have BK249:=n1_;have GW249:=n2_;have GE249:=n3_;clear n0_ n1_ n2_ n3_;clear hb hbox hg))
 (try simp only [Act.put,List.setIfInBounds_toArray,List.set_cons_zero,List.set_cons_succ])
 go_cut [12] (fun v12 wc=>∃ (kq : Nat) (x12_1 : Bool),v12 = .bool x12_1 ∧ Aside0 (spillwayref2_Print.j0 kq x12_1 a0_0 a0_1 = some r) ∧ Aside0 (kq ≤ k) ∧ Aside0 (wc.heap[gb249]? = some (.cells #[.bool a0_0,.int .i64 a0_1] 32 (0,0))) ∧ Aside0 (Below w.heap.size w wc))
 case first =>
  have H:=HC2.out
  clear HC2
  by_cases c4 : a0_0 = true
  ·subst c4
   have H1 : (spillwayref2_Print.j0 k true true a0_1) = some r:=by rw [if_pos rfl] at H;exact H
   clear H
   have H:=H1
   clear H1
   have H':=Aside0.mk H
   clear H
   have hcz5_0 : w3.cell? ⟨gb249,0,none⟩ = some (.bool true):=(blk_cell BK249.out 0).trans rfl
   have hcz5_1 : w3.cell? ⟨gb249,1,none⟩ = some (.int .i64 a0_1):=(blk_cell BK249.out 1).trans rfl
   have hfz5_0:=blk_frozen BK249.out 0
   have hfz5_1:=blk_frozen BK249.out 1
   go_wp2
   go_meet
   case rel=>exact ⟨_,(true),(by first|rfl|(simp;done)|(simp [*];done)),H',⟨by first|omega|exact Nat.le_refl _⟩,⟨by (with_reducible repeat (first|refine blk_drewN ?_ _|refine blk_drew ?_|refine blk_alloc ?_ _));exact BK249.out⟩,⟨by repeat (first|(with_reducible first|exact HB.out|apply below_alloc|apply pw_below_drewN|apply below_drew1|refine below_set ?_ GE249.out)|exact HB.out)⟩⟩
  replace c4:=Bool.eq_false_iff.mpr c4
  subst c4
  have H1 : ((spillwayref2_Is.f false a0_1).bind fun t250=>(spillwayref2_Print.j0 k (!t250) false a0_1)) = some r:=by rw [if_neg (show ¬ (false = true) by decide)] at H;exact H
  clear H
  have H:=H1
  clear H1
  replace H:=Option.bind_eq_some_iff.mp H
  obtain ⟨t250,A60,H⟩:=H
  replace H : (spillwayref2_Print.j0 k (!t250) false a0_1) = some r:=H
  have A6:=Aside0.mk A60
  clear A60
  have H':=Aside0.mk H
  clear H
  have hcz7_0 : w3.cell? ⟨gb249,0,none⟩ = some (.bool false):=(blk_cell BK249.out 0).trans rfl
  have hcz7_1 : w3.cell? ⟨gb249,1,none⟩ = some (.int .i64 a0_1):=(blk_cell BK249.out 1).trans rfl
  have hfz7_0:=blk_frozen BK249.out 0
  have hfz7_1:=blk_frozen BK249.out 1
  go_wp2_with (first|(go_at_call 50;(with_reducible refine (spillwayref2_Is.calls false a0_1 t250 _ A6.out).mono ?_);rintro e w8 ⟨rfl,hb⟩;have n0_:=Aside0.mk (blk_below (g:=gb249) (o:=.cells #[.bool false,.int .i64 a0_1] 32 (0,0)) (by (with_reducible repeat (first|refine blk_drewN ?_ _|refine blk_drew ?_|refine blk_alloc ?_ _));exact BK249.out) hb);have n1_:=Aside0.mk (below_step (by repeat (first|(with_reducible first|exact HB.out|apply below_alloc|apply pw_below_drewN|apply below_drew1|refine below_set ?_ GE249.out)|exact HB.out)) hb);clear BK249;clear HB;have BK249:=n0_;have HB:=n1_;clear n0_ n1_;(try clear hb);(try clear hb2);(try clear hk);(try clear hi)))
  go_meet
  case rel=>exact ⟨_,(!t250),(by first|rfl|(simp;done)|(simp [*];done)),H',⟨by first|omega|exact Nat.le_refl _⟩,⟨by (with_reducible repeat (first|refine blk_drewN ?_ _|refine blk_drew ?_|refine blk_alloc ?_ _));exact BK249.out⟩,⟨by repeat (first|(with_reducible first|exact HB.out|apply below_alloc|apply pw_below_drewN|apply below_drew1|refine below_set ?_ GE249.out)|exact HB.out)⟩⟩
 clear HC2
 try clear p2
 try clear c4
 try clear c5
 try clear hcz5_0
 try clear hcz5_1
 try clear hcz7_0
 try clear hcz7_1
 try clear hfz5_0
 try clear hfz5_1
 try clear hfz7_0
 try clear hfz7_1
 obtain ⟨kq,x12_1,rfl,HA,HJ1,BK249,HB⟩:=hcut
 cases kq with
 | zero=>exact absurd HA.out (by simp [spillwayref2_Print.j0])
 | succ kj1 =>
  have H:=HA.out
  clear HA
  simp only [spillwayref2_Print.j0] at H
  by_cases c9 : x12_1 = true
  ·subst c9
   have H1 : (some (⟨#[111,118,102]⟩ : ByteArray)) = some r:=by rw [if_pos rfl] at H;exact H
   clear H
   have H:=H1
   clear H1
   obtain rfl:=Option.some.inj H
   go_wp2
   go_ret
   exact ⟨by first|rfl|(simp [errW_none,errW_some] <;> rfl)|(simp [*,errW_none,errW_some] <;> rfl),by repeat (first|(with_reducible first|exact HB.out|apply below_alloc|apply pw_below_drewN|apply below_drew1|refine below_set ?_ GE249.out)|exact HB.out)⟩
  replace c9:=Bool.eq_false_iff.mpr c9
  subst c9
  have H1 : ((spillwayref2_size.f a0_1).bind fun t251=>((spillwayref2_Digits.f kj1 (IntKind.u64.wrap (Int.tdiv t251 1000000))).bind fun t252=>((spillwayref2_Digits.f kj1 (IntKind.u64.wrap ((Int.tmod t251 1000000) + 1000000))).bind fun t253=>(if 1 ≤ (t253.size : Int) then (spillwayref2_Print.l0 kj1 t252 (t253.extract 1 t253.size) a0_0 a0_1) else (none))))) = some r:=by rw [if_neg (show ¬ (false = true) by decide)] at H;exact H
  clear H
  have H:=H1
  clear H1
  replace H:=Option.bind_eq_some_iff.mp H
  obtain ⟨t251,A100,H⟩:=H
  replace H : ((spillwayref2_Digits.f kj1 (IntKind.u64.wrap (Int.tdiv t251 1000000))).bind fun t252=>((spillwayref2_Digits.f kj1 (IntKind.u64.wrap ((Int.tmod t251 1000000) + 1000000))).bind fun t253=>(if 1 ≤ (t253.size : Int) then (spillwayref2_Print.l0 kj1 t252 (t253.extract 1 t253.size) a0_0 a0_1) else (none)))) = some r:=H
  have A10:=Aside0.mk A100
  clear A100
  replace H:=Option.bind_eq_some_iff.mp H
  obtain ⟨t252,A110,H⟩:=H
  replace H : ((spillwayref2_Digits.f kj1 (IntKind.u64.wrap ((Int.tmod t251 1000000) + 1000000))).bind fun t253=>(if 1 ≤ (t253.size : Int) then (spillwayref2_Print.l0 kj1 t252 (t253.extract 1 t253.size) a0_0 a0_1) else (none))) = some r:=H
  have A11:=Aside0.mk A110
  clear A110
  replace H:=Option.bind_eq_some_iff.mp H
  obtain ⟨t253,A120,H⟩:=H
  replace H : (if 1 ≤ (t253.size : Int) then (spillwayref2_Print.l0 kj1 t252 (t253.extract 1 t253.size) a0_0 a0_1) else (none)) = some r:=H
  have A12:=Aside0.mk A120
  clear A120
  by_cases c13 : 1 ≤ (t253.size : Int)
  ·rw [if_pos c13] at H
   have c13b0:=eq_true c13
   have c13b1 : decide (1 ≤ (t253.size : Int)) = true:=decide_eq_true c13
   clear c13
   have HC14:=Aside0.mk H
   clear H
   have hcz15_0 : wc.cell? ⟨gb249,0,none⟩ = some (.bool a0_0):=(blk_cell BK249.out 0).trans rfl
   have hcz15_1 : wc.cell? ⟨gb249,1,none⟩ = some (.int .i64 a0_1):=(blk_cell BK249.out 1).trans rfl
   have hfz15_0:=blk_frozen BK249.out 0
   have hfz15_1:=blk_frozen BK249.out 1
   go_upto_block 0 with (first|((with_reducible refine gate_callee (f:=86) rfl ?_);refine goesL_ (some 15) rfl rfl Tryz.func86 (by kernel_rfl) rfl #[.int .i64 a0_1] rfl (by (try simp only [List.map_toArray,List.map_cons,List.map_nil]);first|done|rfl|(simp only [List.length_drop,List.length_take];rfl)) ?_;(with_reducible refine (spillwayref2_size.calls a0_1 t251 _ A10.out).mono ?_);rintro e w' ⟨rfl,⟨nd,rfl⟩⟩;refine ⟨_,rfl,?_⟩)|((with_reducible refine gate_callee (f:=20) rfl ?_);refine goesL_ (some 18) rfl rfl Tryz.func20 (by kernel_rfl) rfl #[.int .u64 (IntKind.u64.wrap (Int.tdiv t251 1000000))] rfl (by (try simp only [List.map_toArray,List.map_cons,List.map_nil]);first|done|rfl|(simp only [List.length_drop,List.length_take];rfl)) ?_;(with_reducible refine (spillwayref2_Digits.calls kj1 (IntKind.u64.wrap (Int.tdiv t251 1000000)) t252 _ A11.out).mono ?_);rintro e w16 ⟨rfl,hb⟩;refine ⟨_,rfl,?_⟩;have n0_:=Aside0.mk (blk_below (g:=gb249) (o:=.cells #[.bool a0_0,.int .i64 a0_1] 32 (0,0)) (by (with_reducible repeat (first|refine blk_drewN ?_ _|refine blk_drew ?_|refine blk_alloc ?_ _));exact BK249.out) hb);have n1_:=Aside0.mk (below_step (by repeat (first|(with_reducible first|exact HB.out|apply below_alloc|apply pw_below_drewN|apply below_drew1|refine below_set ?_ GE249.out)|exact HB.out)) hb);clear BK249;clear HB;have BK249:=n0_;have HB:=n1_;clear n0_ n1_;(try clear hb);(try clear hb2);(try clear hk);(try clear hi))|((with_reducible refine gate_callee (f:=20) rfl ?_);refine goesL_ (some 22) rfl rfl Tryz.func20 (by kernel_rfl) rfl #[.int .u64 (IntKind.u64.wrap ((Int.tmod t251 1000000) + 1000000))] rfl (by (try simp only [List.map_toArray,List.map_cons,List.map_nil]);first|done|rfl|(simp only [List.length_drop,List.length_take];rfl)) ?_;(with_reducible refine (spillwayref2_Digits.calls kj1 (IntKind.u64.wrap ((Int.tmod t251 1000000) + 1000000)) t253 _ A12.out).mono ?_);rintro e w17 ⟨rfl,hb⟩;refine ⟨_,rfl,?_⟩;have n0_:=Aside0.mk (blk_below (g:=gb249) (o:=.cells #[.bool a0_0,.int .i64 a0_1] 32 (0,0)) (by (with_reducible repeat (first|refine blk_drewN ?_ _|refine blk_drew ?_|refine blk_alloc ?_ _));exact BK249.out) hb);have n1_:=Aside0.mk (below_step (by repeat (first|(with_reducible first|exact HB.out|apply below_alloc|apply pw_below_drewN|apply below_drew1|refine below_set ?_ GE249.out)|exact HB.out)) hb);clear BK249;clear HB;have BK249:=n0_;have HB:=n1_;clear n0_ n1_;(try clear hb);(try clear hb2);(try clear hk);(try clear hi)))
   (try simp only [Act.put,List.setIfInBounds_toArray,List.set_cons_zero,List.set_cons_succ])
   go_cut [5] (fun v5 wc=>∃ (kq : Nat) (x5_13 : ByteArray),v5 = .string x5_13 ∧ Aside0 (spillwayref2_Print.j2 kq t252 x5_13 a0_0 a0_1 = some r) ∧ Aside0 (kq ≤ kj1) ∧ Aside0 (wc.heap[gb249]? = some (.cells #[.bool a0_0,.int .i64 a0_1] 32 (0,0))) ∧ Aside0 (Below w.heap.size w wc))
   case first =>
    have H:=HC14.out
    clear HC14
    have H':=Aside0.mk H
    clear H
    go_wp2
    go_loopg [5] kj1 (fun kq v5 w'=>∃ (x5_2 : ByteArray),v5 = .string x5_2 ∧ Aside0 (spillwayref2_Print.l0 kq t252 x5_2 a0_0 a0_1 = some r) ∧ Aside0 (kq ≤ kj1) ∧ Aside0 (w'.heap[gb249]? = some (.cells #[.bool a0_0,.int .i64 a0_1] 32 (0,0))) ∧ Aside0 (Below w.heap.size w w'))
    case atStart=>exact ⟨(t253.extract 1 t253.size),(by first|rfl|(simp;done)|(simp [*];done)),H',⟨Nat.le_refl _⟩,⟨by (with_reducible repeat (first|refine blk_drewN ?_ _|refine blk_drew ?_|refine blk_alloc ?_ _));exact BK249.out⟩,⟨by repeat (first|(with_reducible first|exact HB.out|apply below_alloc|apply pw_below_drewN|apply below_drew1|refine below_set ?_ GE249.out)|exact HB.out)⟩⟩
    clear H'
    try clear c1
    try clear c2
    try clear p2
    try clear c4
    try clear c5
    try clear c8
    try clear c9
    try clear c13
    try clear c13b0
    try clear c13b1
    try clear hcz15_0
    try clear hcz15_1
    try clear hcz5_0
    try clear hcz5_1
    try clear hcz7_0
    try clear hcz7_1
    try clear hfz15_0
    try clear hfz15_1
    try clear hfz5_0
    try clear hfz5_1
    try clear hfz7_0
    try clear hfz7_1
    try clear p2
    obtain ⟨x5_2,rfl,HA,HK2,BK249,HB⟩:=hrel
    cases gk with
    | zero=>exact absurd HA.out (by simp [spillwayref2_Print.l0])
    | succ k2 =>
     have H:=HA.out
     clear HA
     simp only [spillwayref2_Print.l0] at H
     by_cases c18 : (x5_2.size : Int) > 0
     ·rw [if_pos c18] at H
      have c18b0 : decide (0 < (x5_2.size : Int)) = true:=decide_eq_true c18
      have c18b1 : decide (0 < x5_2.size) = true:=decide_eq_true (by omega)
      clear c18
      (first|rw [c18b0]|(simp only [i64_w,i32_w];rw [c18b0])|skip)
      obtain ⟨ji19,hji19⟩ : ∃ j_ : Int,(wrap64 ((x5_2.size : Int) - 1)) = j_:=⟨_,rfl⟩
      replace H : (if 0 ≤ (ji19) then (if (ji19) < (x5_2.size : Int) then (if (bt x5_2 (ji19)) = 48 then (if (ji19) ≤ (x5_2.size : Int) then (spillwayref2_Print.l0 k2 t252 (x5_2.extract 0 ((ji19) : Int).toNat) a0_0 a0_1) else (none)) else (spillwayref2_Print.j2 k2 t252 x5_2 a0_0 a0_1)) else (none)) else (none)) = some r:=by first|(rw [hji19] at H;exact H)|(simp only [hji19] at H ⊢;exact H)
      have hji19w : (IntKind.i64.wrap ((x5_2.size : Int) - 1)) = ji19:=(i64_w _).trans hji19
      by_cases c20 : 0 ≤ (ji19)
      ·rw [if_pos c20] at H
       have c20b0 : decide (0 ≤ (ji19)) = true:=decide_eq_true c20
       clear c20
       by_cases c21 : (ji19) < (x5_2.size : Int)
       ·rw [if_pos c21] at H
        have c21b0 : decide ((ji19) < (x5_2.size : Int)) = true:=decide_eq_true c21
        clear c21
        by_cases c23 : (bt x5_2 (ji19)) = 48
        ·rw [if_pos c23] at H
         have c23b0 : ((bt x5_2 (ji19)) == 48) = true:=beq_iff_eq.mpr c23
         have c23b1 : ((bt x5_2 (ji19)) != 48) = false:=bne_eq_false_iff_eq.mpr c23
         clear c23
         have c24b0:=eq_true (of_decide_eq_true (by first|(with_reducible assumption)|assumption) : 0 ≤ (ji19))
         by_cases c25 : (ji19) ≤ (x5_2.size : Int)
         ·rw [if_pos c25] at H
          have c25b0:=eq_true c25
          have c25b1 : decide ((ji19) ≤ (x5_2.size : Int)) = true:=decide_eq_true c25
          clear c25
          have H':=Aside0.mk H
          clear H
          have p22 : 0 ≤ ((ji19) : Int):=of_decide_eq_true (by first|(with_reducible assumption)|assumption)
          have q22 : (ji19) < (x5_2.size : Int):=of_decide_eq_true (by first|(with_reducible assumption)|assumption)
          have hx22:=bt_at x5_2 (ji19)
          replace p22:=eq_true p22
          replace q22:=eq_true q22
          go_wp2
          go_roundg k2
          case measure=>have:=HJ1.out;have:=HK2.out;omega
          case rel=>exact ⟨(x5_2.extract 0 ((ji19) : Int).toNat),(by first|rfl|(simp;done)|(simp only [← hji19] <;> (first|rfl|simp))|(simp [*];done)),H',⟨by have:=HJ1.out;have:=HK2.out;omega⟩,⟨by (with_reducible repeat (first|refine blk_drewN ?_ _|refine blk_drew ?_|refine blk_alloc ?_ _));exact BK249.out⟩,⟨by repeat (first|(with_reducible first|exact HB.out|apply below_alloc|apply pw_below_drewN|apply below_drew1|refine below_set ?_ GE249.out)|exact HB.out)⟩⟩
         rw [if_neg c25] at H
         exact absurd H (by simp)
        rw [if_neg c23] at H
        have c23b0 : ((bt x5_2 (ji19)) == 48) = false:=beq_eq_false_iff_ne.mpr c23
        have c23b1 : ((bt x5_2 (ji19)) != 48) = true:=bne_iff_ne.mpr c23
        have H':=Aside0.mk H
        clear H
        have p22 : 0 ≤ ((ji19) : Int):=of_decide_eq_true (by first|(with_reducible assumption)|assumption)
        have q22 : (ji19) < (x5_2.size : Int):=of_decide_eq_true (by first|(with_reducible assumption)|assumption)
        have hx22:=bt_at x5_2 (ji19)
        replace p22:=eq_true p22
        replace q22:=eq_true q22
        go_wp2
        go_meet
        case rel=>exact ⟨_,(x5_2),(by first|rfl|(simp;done)|(simp [*];done)),H',⟨by have:=HJ1.out;have:=HK2.out;first|omega|exact Nat.le_refl _⟩,⟨by (with_reducible repeat (first|refine blk_drewN ?_ _|refine blk_drew ?_|refine blk_alloc ?_ _));exact BK249.out⟩,⟨by repeat (first|(with_reducible first|exact HB.out|apply below_alloc|apply pw_below_drewN|apply below_drew1|refine below_set ?_ GE249.out)|exact HB.out)⟩⟩
       rw [if_neg c21] at H
       exact absurd H (by simp)
      rw [if_neg c20] at H
      exact absurd H (by simp)
     rw [if_neg c18] at H
     have c18b0 : decide (0 < (x5_2.size : Int)) = false:=decide_eq_false c18
     have c18b1 : decide (0 < x5_2.size) = false:=decide_eq_false (by omega)
     clear c18
     (first|rw [c18b0]|(simp only [i64_w,i32_w];rw [c18b0])|skip)
     have H':=Aside0.mk H
     clear H
     go_wp2
     go_meet
     case rel=>exact ⟨_,(x5_2),(by first|rfl|(simp;done)|(simp [*];done)),H',⟨by have:=HJ1.out;have:=HK2.out;first|omega|exact Nat.le_refl _⟩,⟨by (with_reducible repeat (first|refine blk_drewN ?_ _|refine blk_drew ?_|refine blk_alloc ?_ _));exact BK249.out⟩,⟨by repeat (first|(with_reducible first|exact HB.out|apply below_alloc|apply pw_below_drewN|apply below_drew1|refine below_set ?_ GE249.out)|exact HB.out)⟩⟩
   clear HC14
   try clear c1
   try clear c2
   try clear p2
   try clear q2
   try clear hx2
   try clear c4
   try clear c5
   try clear p6
   try clear c8
   try clear c9
   try clear c13
   try clear c13b0
   try clear c13b1
   try clear c18
   try clear c18b0
   try clear c18b1
   try clear c20
   try clear c20b0
   try clear c21
   try clear c21b0
   try clear p22
   try clear q22
   try clear hx22
   try clear c23
   try clear c23b0
   try clear c23b1
   try clear c24
   try clear c24b0
   try clear c25
   try clear c25b0
   try clear c25b1
   try clear hcz15_0
   try clear hcz15_1
   try clear hcz5_0
   try clear hcz5_1
   try clear hcz7_0
   try clear hcz7_1
   try clear hfz15_0
   try clear hfz15_1
   try clear hfz5_0
   try clear hfz5_1
   try clear hfz7_0
   try clear hfz7_1
   try clear p2
   try clear p22
   try clear q22
   obtain ⟨kq,x5_13,rfl,HA,HJ13,BK249,HB⟩:=hcut
   cases kq with
   | zero=>exact absurd HA.out (by simp [spillwayref2_Print.j2])
   | succ kj13 =>
    have H:=HA.out
    clear HA
    simp only [spillwayref2_Print.j2] at H
    by_cases c26 : x5_13.toList = ([] : List UInt8)
    ·rw [if_pos c26] at H
     have c26b0 : (x5_13.toList == ([] : List UInt8)) = true:=beq_iff_eq.mpr c26
     have c26b1 : (x5_13.toList != ([] : List UInt8)) = false:=bne_eq_false_iff_eq.mpr c26
     clear c26
     by_cases c27 : a0_1 < 0
     ·rw [if_pos c27] at H
      have c27b0 : decide (a0_1 < 0) = true:=decide_eq_true c27
      clear c27
      by_cases c28 : 1 + t252.size ≤ 9223372036854775807
      ·rw [if_pos c28] at H
       have c28b0:=eq_true c28
       have c28b1 : decide (1 + t252.size ≤ 9223372036854775807) = true:=decide_eq_true c28
       try have c28b2 : (9223372036854775807 < 1 + t252.size) = False:=eq_false (Nat.not_lt.2 c28)
       obtain rfl:=Option.some.inj H
       have hcz29_0 : wc.cell? ⟨gb249,0,none⟩ = some (.bool a0_0):=(blk_cell BK249.out 0).trans rfl
       have hcz29_1 : wc.cell? ⟨gb249,1,none⟩ = some (.int .i64 a0_1):=(blk_cell BK249.out 1).trans rfl
       have hfz29_0:=blk_frozen BK249.out 0
       have hfz29_1:=blk_frozen BK249.out 1
       go_wp2
       go_ret
       exact ⟨by first|rfl|(simp [errW_none,errW_some] <;> rfl)|(simp [*,errW_none,errW_some] <;> rfl),by repeat (first|(with_reducible first|exact HB.out|apply below_alloc|apply pw_below_drewN|apply below_drew1|refine below_set ?_ GE249.out)|exact HB.out)⟩
      rw [if_neg c28] at H
      exact absurd H (by simp)
     rw [if_neg c27] at H
     have c27b0 : decide (a0_1 < 0) = false:=decide_eq_false c27
     clear c27
     obtain rfl:=Option.some.inj H
     have hcz30_0 : wc.cell? ⟨gb249,0,none⟩ = some (.bool a0_0):=(blk_cell BK249.out 0).trans rfl
     have hcz30_1 : wc.cell? ⟨gb249,1,none⟩ = some (.int .i64 a0_1):=(blk_cell BK249.out 1).trans rfl
     have hfz30_0:=blk_frozen BK249.out 0
     have hfz30_1:=blk_frozen BK249.out 1
     go_wp2
     go_ret
     exact ⟨by first|rfl|(simp [errW_none,errW_some] <;> rfl)|(simp [*,errW_none,errW_some] <;> rfl),by repeat (first|(with_reducible first|exact HB.out|apply below_alloc|apply pw_below_drewN|apply below_drew1|refine below_set ?_ GE249.out)|exact HB.out)⟩
    rw [if_neg c26] at H
    have c26b0 : (x5_13.toList == ([] : List UInt8)) = false:=beq_eq_false_iff_ne.mpr c26
    have c26b1 : (x5_13.toList != ([] : List UInt8)) = true:=bne_iff_ne.mpr c26
    by_cases c31 : t252.size + 1 ≤ 9223372036854775807
    ·rw [if_pos c31] at H
     have c31b0:=eq_true c31
     have c31b1 : decide (t252.size + 1 ≤ 9223372036854775807) = true:=decide_eq_true c31
     try have c31b2 : (9223372036854775807 < t252.size + 1) = False:=eq_false (Nat.not_lt.2 c31)
     by_cases c32 : (t252 ++ (⟨#[46]⟩ : ByteArray)).size + x5_13.size ≤ 9223372036854775807
     ·rw [if_pos c32] at H
      have c32b0:=eq_true c32
      have c32b1 : decide ((t252 ++ (⟨#[46]⟩ : ByteArray)).size + x5_13.size ≤ 9223372036854775807) = true:=decide_eq_true c32
      try have c32b2 : (9223372036854775807 < (t252 ++ (⟨#[46]⟩ : ByteArray)).size + x5_13.size) = False:=eq_false (Nat.not_lt.2 c32)
      try (have c32b3:=c32;simp only [ByteArray.size_append,sz_one] at c32b3;have c32b4:=eq_false (Nat.not_lt.2 c32b3);clear c32b3)
      by_cases c33 : a0_1 < 0
      ·rw [if_pos c33] at H
       have c33b0 : decide (a0_1 < 0) = true:=decide_eq_true c33
       clear c33
       by_cases c34 : 1 + ((t252 ++ (⟨#[46]⟩ : ByteArray)) ++ x5_13).size ≤ 9223372036854775807
       ·rw [if_pos c34] at H
        have c34b0:=eq_true c34
        have c34b1 : decide (1 + ((t252 ++ (⟨#[46]⟩ : ByteArray)) ++ x5_13).size ≤ 9223372036854775807) = true:=decide_eq_true c34
        try have c34b2 : (9223372036854775807 < 1 + ((t252 ++ (⟨#[46]⟩ : ByteArray)) ++ x5_13).size) = False:=eq_false (Nat.not_lt.2 c34)
        try (have c34b3:=c34;simp only [ByteArray.size_append,sz_one] at c34b3;have c34b4:=eq_false (Nat.not_lt.2 c34b3);clear c34b3)
        obtain rfl:=Option.some.inj H
        have hcz35_0 : wc.cell? ⟨gb249,0,none⟩ = some (.bool a0_0):=(blk_cell BK249.out 0).trans rfl
        have hcz35_1 : wc.cell? ⟨gb249,1,none⟩ = some (.int .i64 a0_1):=(blk_cell BK249.out 1).trans rfl
        have hfz35_0:=blk_frozen BK249.out 0
        have hfz35_1:=blk_frozen BK249.out 1
        go_wp2
        go_ret
        exact ⟨by first|rfl|(simp [errW_none,errW_some] <;> rfl)|(simp [*,errW_none,errW_some] <;> rfl),by repeat (first|(with_reducible first|exact HB.out|apply below_alloc|apply pw_below_drewN|apply below_drew1|refine below_set ?_ GE249.out)|exact HB.out)⟩
       rw [if_neg c34] at H
       exact absurd H (by simp)
      rw [if_neg c33] at H
      have c33b0 : decide (a0_1 < 0) = false:=decide_eq_false c33
      clear c33
      obtain rfl:=Option.some.inj H
      have hcz36_0 : wc.cell? ⟨gb249,0,none⟩ = some (.bool a0_0):=(blk_cell BK249.out 0).trans rfl
      have hcz36_1 : wc.cell? ⟨gb249,1,none⟩ = some (.int .i64 a0_1):=(blk_cell BK249.out 1).trans rfl
      have hfz36_0:=blk_frozen BK249.out 0
      have hfz36_1:=blk_frozen BK249.out 1
      go_wp2
      go_ret
      exact ⟨by first|rfl|(simp [errW_none,errW_some] <;> rfl)|(simp [*,errW_none,errW_some] <;> rfl),by repeat (first|(with_reducible first|exact HB.out|apply below_alloc|apply pw_below_drewN|apply below_drew1|refine below_set ?_ GE249.out)|exact HB.out)⟩
     rw [if_neg c32] at H
     exact absurd H (by simp)
    rw [if_neg c31] at H
    exact absurd H (by simp)
  rw [if_neg c13] at H
  exact absurd H (by simp)
end Go.Proofs.YtfgffjchphignaaGreatDoor.Print
end
section
namespace Go.Proofs.YtfgffjchphignaaGreatDoor.PureN
open Go.RowKit Go.Proofs.YtfgffjchphignaaGreatDoor.Print Go.Proofs.YtfgffjchphignaaGreatDoor.Pure Go.Proofs.YtfgffjchphignaaGreatDoorW.PrintWords Go.Proofs.YtfgffjchphignaaGreatDoorW.PrintLast Go.Proofs.YtfgffjchphignaaGreatDoorW.PrintMore
/-! The document's numbers come to the same. -/
theorem ris_false (n : Int) : spillwayref2_Is.f false n = some (!over false n):=by
 unfold spillwayref2_Is.f over isOver
 by_cases c : n = -9223372036854775808
 ·simp [c]
 simp [c]
theorem rsize_eq (n : Int) (h : R n) : spillwayref2_size.f n = some (ab n):=by
 obtain ⟨h1,h2⟩:=h
 unfold spillwayref2_size.f ab
 simp only [u64_mod]
 by_cases c : n < 0
 ·rw [if_pos c,if_pos c]
  congr 1
  unfold wrap64
  omega
 rw [if_neg c,if_neg c]
 congr 1
 omega
theorem trim_snoc (Q : List UInt8) (c : UInt8) : Lib.trimRightB (Q ++ [c]) 48 = if c = 48 then Lib.trimRightB Q 48 else Q ++ [c]:=by
 unfold Lib.trimRightB
 rw [List.reverse_append,List.reverse_singleton,List.singleton_append,List.dropWhile_cons]
 by_cases h : c = 48
 ·rw [if_pos h,if_pos (by simpa using h)]
 rw [if_neg h,if_neg (by simpa using h)]
 simp
theorem rprint_l0 (x4 : ByteArray) (a : Bool) (n : Int) : ∀ (d : Nat) (P : List UInt8) (k : Nat),P.length = d → d ≤ 100 → d < k → ∃ m,k ≤ m + d + 1 ∧ spillwayref2_Print.l0 k x4 ⟨P.toArray⟩ a n = spillwayref2_Print.j2 m x4 ⟨(Lib.trimRightB P 48).toArray⟩ a n:=by
 intro d
 induction d with
 | zero =>
  intro P k hP hd hk
  obtain ⟨m,rfl⟩ : ∃ m,k = m + 1:=⟨k - 1,by omega⟩
  obtain rfl:=List.eq_nil_of_length_eq_zero hP
  refine ⟨m,by omega,?_⟩
  simp only [spillwayref2_Print.l0]
  rw [size_list,if_neg (by simp)]
  rfl
 | succ d ih =>
  intro P k hP hd hk
  obtain ⟨m,rfl⟩ : ∃ m,k = m + 1:=⟨k - 1,by omega⟩
  have hne : P ≠ []:=by rintro rfl;simp at hP
  obtain ⟨Q,c,rfl⟩ : ∃ Q c,P = Q ++ [c]:=⟨P.dropLast,P.getLast hne,(List.dropLast_concat_getLast hne).symm⟩
  have hQ : Q.length = d:=by simpa using hP
  have e5 : wrap64 (((d + 1 : Nat) : Int) - 1) = (d : Int):=by rw [wrap_id (by omega) (by omega)];omega
  simp only [spillwayref2_Print.l0]
  rw [size_list,hP,if_pos (by omega),e5,if_pos (by omega),if_pos (by omega),bt_list _ d (by omega),trim_snoc]
  have hc : (Q ++ [c])[d]'(by omega) = c:=by
   rw [List.getElem_append_right (by omega)]
   simp
  rw [hc]
  by_cases g : c = 48
  ·subst g
   rw [if_pos (by rfl),if_pos rfl,if_pos (by omega)]
   have ex : (⟨(Q ++ [48]).toArray⟩ : ByteArray).extract 0 ((d : Int).toNat) = ⟨Q.toArray⟩:=by
    rw [ByteArray.extract_mk]
    congr 1
    apply Array.toList_inj.1
    simp only [List.extract_toArray,List.extract_eq_take_drop,Int.toNat_natCast,List.drop_zero,Nat.sub_zero]
    rw [← hQ,List.take_left]
   rw [ex]
   obtain ⟨m',h1,h2⟩:=ih Q m hQ (by omega) (by omega)
   exact ⟨m',by omega,h2⟩
  have : ¬ (c.toNat : Int) = 48:=by
   intro h
   apply g
   apply UInt8.toNat_inj.1
   have : (48 : UInt8).toNat = 48:=rfl
   omega
  rw [if_neg this,if_neg g]
  exact ⟨m,by omega,rfl⟩
theorem frac_none (N : Nat) (h : N % 1000000 = 0) : Lib.trimRightB ((Lib.decDigits (N % 1000000 + 1000000)).drop 1) 48 = []:=by
 obtain ⟨P,e,hl,ha,hv⟩:=frac (N % 1000000) (by omega)
 rw [e,List.drop_one,List.tail_cons]
 have ht:=trim_app P 48
 have hlast:=trim_last P 48
 obtain ⟨p,hp⟩ : ∃ p,Lib.trimRightB P 48 = p:=⟨_,rfl⟩
 rw [hp] at ht hlast ⊢
 by_cases hne : p = []
 ·exact hne
 exfalso
 obtain ⟨q,c,rfl⟩ : ∃ q c,p = q ++ [c]:=⟨p.dropLast,p.getLast hne,(List.dropLast_concat_getLast hne).symm⟩
 have hc : c ≠ 48:=hlast c (by simp)
 have hcd : isD c = true:=by
  have:=List.all_eq_true.1 ha c (by rw [ht];simp)
  exact this
 have h1 : 48 ≤ c.toNat ∧ c.toNat ≤ 57:=by
  unfold isD at hcd
  simpa using hcd
 have h2 : c.toNat ≠ 48:=fun h=>hc (UInt8.toNat_inj.1 h)
 have hv2 : valN P = valN (q ++ [c]) * 10 ^ (P.length - (q ++ [c]).length):=by
  conv=>lhs;rw [ht]
  rw [valN_append,valN_zeros,List.length_replicate,Nat.add_zero]
 rw [hv,h,valN_append,val_one] at hv2
 have hp10 : 0 < 10 ^ (P.length - (q ++ [c]).length):=Nat.pow_pos (by omega)
 have h3 : 0 < valN q * 10 ^ [c].length + (c.toNat - 48):=by omega
 have:=Nat.mul_pos h3 hp10
 omega
theorem rprint_eq (a : Bool) (n : Int) (hn : R n) : spillwayref2_Print.f 300 a n = some ⟨(printS a n).toArray⟩:=by
 have hj : ∀ b,spillwayref2_Print.j0 300 true b n = some ⟨[111,118,102].toArray⟩:=fun b=>rfl
 unfold spillwayref2_Print.f printS
 cases a
 ·rw [if_neg (by simp),ris_false,Option.bind_some,Bool.not_not]
  cases h : over false n
  ·have hr:=ab_R hn
   obtain ⟨N,hN⟩ : ∃ N : Nat,ab n = N:=⟨(ab n).toNat,by omega⟩
   obtain ⟨J,hJ⟩ : ∃ J : Nat,J = 299:=⟨_,rfl⟩
   rw [show (300 : Nat) = J + 1 by omega]
   simp only [spillwayref2_Print.j0,Bool.false_eq_true,if_false]
   rw [rsize_eq n hn,Option.bind_some,hN,Int.toNat_natCast]
   rw [hN] at hr
   have e1 : IntKind.u64.wrap (Int.tdiv (N : Int) 1000000) = ((N / 1000000 : Nat) : Int):=by
    rw [Int.tdiv_eq_ediv_of_nonneg (by omega),IntKind.wrap_u64]
    omega
   have e0 : Int.tmod (N : Int) 1000000 = ((N % 1000000 : Nat) : Int):=by
    rw [Int.tmod_eq_emod_of_nonneg (by omega)]
    omega
   have e2 : IntKind.u64.wrap (((N % 1000000 : Nat) : Int) + 1000000) = ((N % 1000000 + 1000000 : Nat) : Int):=by
    rw [IntKind.wrap_u64]
    omega
   rw [e1,e0,e2,rDigits_eq J _ (by omega) (by omega) (by omega),Option.bind_some,rDigits_eq J _ (by omega) (by omega) (by omega),Option.bind_some]
   have l1:=dec_len (N / 1000000) 20 (by omega) (by omega)
   have l2:=dec_pos (N % 1000000 + 1000000)
   have l3:=dec_len (N % 1000000 + 1000000) 20 (by omega) (by omega)
   rw [size_list,if_pos (by omega),extract_list]
   obtain ⟨m,hm,e⟩:=rprint_l0 ⟨(Lib.decDigits (N / 1000000)).toArray⟩ false n _ ((Lib.decDigits (N % 1000000 + 1000000)).drop 1) J rfl (by rw [List.length_drop];omega) (by rw [List.length_drop];omega)
   rw [e]
   rw [List.length_drop] at hm
   obtain ⟨m,rfl⟩ : ∃ x,m = x + 1:=⟨m - 1,by omega⟩
   simp only [spillwayref2_Print.j2]
   rw [toList_list]
   unfold bodyS
   by_cases c : 0 < N % 1000000
   ·obtain ⟨p,ep,hp,hv,_,hpl,hpne⟩:=frac_trim (N % 1000000) (by omega) c
    rw [ep,if_neg hpne,if_pos c,size_list,if_pos (by omega),show (⟨(Lib.decDigits (N / 1000000)).toArray⟩ ++ (⟨#[46]⟩ : ByteArray)) = ⟨(Lib.decDigits (N / 1000000) ++ [46]).toArray⟩ from app_list _ [46],size_list,size_list,List.length_append,List.length_singleton,if_pos (by omega),app_list,List.append_assoc,List.singleton_append]
    by_cases s : n < 0
    ·rw [if_pos s,if_pos s,size_list,List.length_append,List.length_cons,if_pos (by omega)]
     exact congrArg some (app_list [45] _)
    rw [if_neg s,if_neg s]
   rw [frac_none N (by omega),if_pos rfl,if_neg c,List.append_nil]
   by_cases s : n < 0
   ·rw [if_pos s,if_pos s,size_list,if_pos (by omega)]
    exact congrArg some (app_list [45] _)
   rw [if_neg s,if_neg s]
  exact hj false
 rw [if_pos rfl]
 exact hj true
end Go.Proofs.YtfgffjchphignaaGreatDoor.PureN
end
