/- A part of the proof of ExpoTells: what the functions that the law reaches come to. -/
import Derived.Test.YtfgffjchphignaaGreatDoorC01
import Derived.Test.YtfgffjchphignaaGreatDoorC05
import Derived.Test.YtfgffjchphignaaGreatDoorC03
import Derived.Test.YtfgffjchphignaaGreatDoorC04
set_option linter.unusedVariables false
set_option linter.unusedSimpArgs false
section
namespace Go.Proofs.YtfgffjchphignaaGreatDoor.Print
open Go.RowKit Go.Proofs.YtfgffjchphignaaGreatDoorX Go.Proofs.YtfgffjchphignaaGreatDoorW.PrintWords Go.Proofs.YtfgffjchphignaaGreatDoorW.PrintLast Go.Proofs.YtfgffjchphignaaGreatDoorW.PrintMore
/-! ### spillwayref2_Whole: function 41 -/
mutual
def spillwayref2_Whole.j0 : Nat → ByteArray → Bool → Option (Int)
 | 0,_,_=>none
 | k + 1,x0,x32=>if x32 = true then (some (-1)) else (spillwayref2_Whole.l0 k x0 0 0)
def spillwayref2_Whole.l0 : Nat → ByteArray → Int → Int → Option (Int)
 | 0,_,_,_=>none
 | k + 1,x0,x5,x6=>if x6 < (x0.size : Int) then (if 0 ≤ x6 then (spillwayref2_Whole.l0 k x0 (wrap64 ((wrap64 (10 * x5)) + (((bt x0 x6) - 48) % 256))) (wrap64 (x6 + 1))) else (none)) else (some x5)
end
def spillwayref2_Whole.f (k : Nat) (a0 : ByteArray) (a1 : Int) : Option (Int):=if (a0.size : Int) < 1 then (spillwayref2_Whole.j0 k a0 true) else (if (a0.size : Int) > a1 then (spillwayref2_Whole.j0 k a0 true) else (if (a0.size : Int) > 1 then (if 0 < (a0.size : Int) then (if (bt a0 0) = 48 then (spillwayref2_Whole.j0 k a0 true) else ((spillwayref2_digits.f k a0).bind fun t260=>(spillwayref2_Whole.j0 k a0 (t260 != (a0.size : Int))))) else (none)) else ((spillwayref2_digits.f k a0).bind fun t261=>(spillwayref2_Whole.j0 k a0 (t261 != (a0.size : Int))))))
set_option maxHeartbeats 8000000 in
set_option maxRecDepth 100000 in
theorem spillwayref2_Whole.calls (k : Nat) (a0 : ByteArray) (a1 : Int) (r : Int) (w : World) (h : spillwayref2_Whole.f k a0 a1 = some r) :
  Calls Tryz.prog 41 #[.string a0,.int .i64 a1] w fun e w'=>e = .returned (.int .i64 r) ∧ Drawn0 w w':=by
 have H : (if (a0.size : Int) < 1 then (spillwayref2_Whole.j0 k a0 true) else (if (a0.size : Int) > a1 then (spillwayref2_Whole.j0 k a0 true) else (if (a0.size : Int) > 1 then (if 0 < (a0.size : Int) then (if (bt a0 0) = 48 then (spillwayref2_Whole.j0 k a0 true) else ((spillwayref2_digits.f k a0).bind fun t260=>(spillwayref2_Whole.j0 k a0 (t260 != (a0.size : Int))))) else (none)) else ((spillwayref2_digits.f k a0).bind fun t261=>(spillwayref2_Whole.j0 k a0 (t261 != (a0.size : Int))))))) = some r:=h
 clear h
 have HC3:=Aside0.mk H
 clear H
 go_enter Tryz.func41,Tryz.ntmps41
 go_upto_region 1 with (fail)
 go_cut [32] (fun v32 wc=>∃ (kq : Nat) (x32_2 : Bool),v32 = .bool x32_2 ∧ Aside0 (spillwayref2_Whole.j0 kq a0 x32_2 = some r) ∧ Aside0 (kq ≤ k) ∧ Drawn0 w wc)
 case first =>
  have H:=HC3.out
  clear HC3
  by_cases c4 : (a0.size : Int) < 1
  ·rw [if_pos c4] at H
   have c4b0 : decide ((a0.size : Int) < 1) = true:=decide_eq_true c4
   have c4b1 : decide (a0.size < 1) = true:=decide_eq_true (by omega)
   clear c4
   (first|rw [c4b0]|(simp only [i64_w,i32_w];rw [c4b0])|skip)
   have H':=Aside0.mk H
   clear H
   go_wp2
   go_meet
   case rel=>exact ⟨_,(true),(by first|rfl|(simp;done)|(simp [*];done)),H',⟨by first|omega|exact Nat.le_refl _⟩,by repeat (first|exact Drawn0.refl _|apply Drawn0.step)⟩
  rw [if_neg c4] at H
  have c4b0 : decide ((a0.size : Int) < 1) = false:=decide_eq_false c4
  have c4b1 : decide (a0.size < 1) = false:=decide_eq_false (by omega)
  clear c4
  (first|rw [c4b0]|(simp only [i64_w,i32_w];rw [c4b0])|skip)
  by_cases c5 : (a0.size : Int) > a1
  ·rw [if_pos c5] at H
   have c5b0 : decide (a1 < (a0.size : Int)) = true:=decide_eq_true c5
   clear c5
   have H':=Aside0.mk H
   clear H
   go_wp2
   go_meet
   case rel=>exact ⟨_,(true),(by first|rfl|(simp;done)|(simp [*];done)),H',⟨by first|omega|exact Nat.le_refl _⟩,by repeat (first|exact Drawn0.refl _|apply Drawn0.step)⟩
  rw [if_neg c5] at H
  have c5b0 : decide (a1 < (a0.size : Int)) = false:=decide_eq_false c5
  clear c5
  by_cases c6 : (a0.size : Int) > 1
  ·rw [if_pos c6] at H
   have c6b0 : decide (1 < (a0.size : Int)) = true:=decide_eq_true c6
   have c6b1 : decide (1 < a0.size) = true:=decide_eq_true (by omega)
   clear c6
   by_cases c7 : 0 < (a0.size : Int)
   ·rw [if_pos c7] at H
    have c7b0 : decide (0 < (a0.size : Int)) = true:=decide_eq_true c7
    have c7b1 : decide (0 < a0.size) = true:=decide_eq_true (by omega)
    clear c7
    by_cases c9 : (bt a0 0) = 48
    ·rw [if_pos c9] at H
     have c9b0 : ((bt a0 0) == 48) = true:=beq_iff_eq.mpr c9
     have c9b1 : ((bt a0 0) != 48) = false:=bne_eq_false_iff_eq.mpr c9
     clear c9
     have H':=Aside0.mk H
     clear H
     have p8 : 0 ≤ (0 : Int):=(by omega)
     have q8 : 0 < a0.size:=(by have : (0 : Int) < (a0.size : Int):=of_decide_eq_true (by first|(with_reducible assumption)|assumption);omega)
     have hx8 : ∀ h : 0 < a0.size,((a0[0]'h).toNat : Int) = bt a0 0:=bt_at a0 0
     clear p8
     have qi8 : (0 < (a0.size : Int)) = True:=eq_true (of_decide_eq_true (by first|(with_reducible assumption)|assumption))
     replace q8:=eq_true q8
     go_wp2
     go_meet
     case rel=>exact ⟨_,(true),(by first|rfl|(simp;done)|(simp [*];done)),H',⟨by first|omega|exact Nat.le_refl _⟩,by repeat (first|exact Drawn0.refl _|apply Drawn0.step)⟩
    rw [if_neg c9] at H
    have c9b0 : ((bt a0 0) == 48) = false:=beq_eq_false_iff_ne.mpr c9
    have c9b1 : ((bt a0 0) != 48) = true:=bne_iff_ne.mpr c9
    replace H:=Option.bind_eq_some_iff.mp H
    obtain ⟨t260,A100,H⟩:=H
    replace H : (spillwayref2_Whole.j0 k a0 (t260 != (a0.size : Int))) = some r:=H
    have A10:=Aside0.mk A100
    clear A100
    have H':=Aside0.mk H
    clear H
    have p8 : 0 ≤ (0 : Int):=(by omega)
    have q8 : 0 < a0.size:=(by have : (0 : Int) < (a0.size : Int):=of_decide_eq_true (by first|(with_reducible assumption)|assumption);omega)
    have hx8 : ∀ h : 0 < a0.size,((a0[0]'h).toNat : Int) = bt a0 0:=bt_at a0 0
    clear p8
    have qi8 : (0 < (a0.size : Int)) = True:=eq_true (of_decide_eq_true (by first|(with_reducible assumption)|assumption))
    replace q8:=eq_true q8
    go_wp2_with (first|(go_at_call 75;(with_reducible refine (spillwayref2_digits.calls k a0 t260 _ A10.out).mono ?_);rintro e w' ⟨rfl,⟨nd,rfl⟩⟩))
    go_meet
    case rel=>exact ⟨_,((t260 != (a0.size : Int))),(by first|rfl|(simp;done)|(simp [*];done)),H',⟨by first|omega|exact Nat.le_refl _⟩,by repeat (first|exact Drawn0.refl _|apply Drawn0.step)⟩
   rw [if_neg c7] at H
   exact absurd H (by simp)
  rw [if_neg c6] at H
  have c6b0 : decide (1 < (a0.size : Int)) = false:=decide_eq_false c6
  have c6b1 : decide (1 < a0.size) = false:=decide_eq_false (by omega)
  clear c6
  replace H:=Option.bind_eq_some_iff.mp H
  obtain ⟨t261,A110,H⟩:=H
  replace H : (spillwayref2_Whole.j0 k a0 (t261 != (a0.size : Int))) = some r:=H
  have A11:=Aside0.mk A110
  clear A110
  have H':=Aside0.mk H
  clear H
  go_wp2_with (first|(go_at_call 75;(with_reducible refine (spillwayref2_digits.calls k a0 t261 _ A11.out).mono ?_);rintro e w' ⟨rfl,⟨nd,rfl⟩⟩))
  go_meet
  case rel=>exact ⟨_,((t261 != (a0.size : Int))),(by first|rfl|(simp;done)|(simp [*];done)),H',⟨by first|omega|exact Nat.le_refl _⟩,by repeat (first|exact Drawn0.refl _|apply Drawn0.step)⟩
 clear HC3
 try clear p2
 try clear c4
 try clear c4b0
 try clear c4b1
 try clear c5
 try clear c5b0
 try clear c6
 try clear c6b0
 try clear c6b1
 try clear c7
 try clear c7b0
 try clear c7b1
 try clear p8
 try clear q8
 try clear hx8
 try clear qi8
 try clear c9
 try clear c9b0
 try clear c9b1
 try clear p8
 try clear q8
 obtain ⟨kq,x32_2,rfl,HA,HJ2,⟨mc2,rfl⟩⟩:=hcut
 cases kq with
 | zero=>exact absurd HA.out (by simp [spillwayref2_Whole.j0])
 | succ kj2 =>
  have H:=HA.out
  clear HA
  simp only [spillwayref2_Whole.j0] at H
  by_cases c12 : x32_2 = true
  ·subst c12
   have H1 : (some (-1)) = some r:=by rw [if_pos rfl] at H;exact H
   clear H
   have H:=H1
   clear H1
   obtain rfl:=Option.some.inj H
   go_wp2
   go_ret
   exact ⟨by first|rfl|(simp;done)|(simp [*];done),by repeat (first|exact Drawn0.refl _|apply Drawn0.step)⟩
  replace c12:=Bool.eq_false_iff.mpr c12
  subst c12
  have H1 : (spillwayref2_Whole.l0 kj2 a0 0 0) = some r:=by rw [if_neg (show ¬ (false = true) by decide)] at H;exact H
  clear H
  have H:=H1
  clear H1
  have H':=Aside0.mk H
  clear H
  go_wp2
  go_loopg [5,6] kj2 (fun kq v5 v6 w'=>∃ (x5_2 : Int) (x6_2 : Int),v5 = .int .i64 x5_2 ∧ v6 = .int .i64 x6_2 ∧ Aside0 (spillwayref2_Whole.l0 kq a0 x5_2 x6_2 = some r) ∧ Aside0 (kq ≤ kj2) ∧ Drawn0 w w')
  case atStart=>exact ⟨(0),(0),(by first|rfl|(simp;done)|(simp [*];done)),(by first|rfl|(simp;done)|(simp [*];done)),H',⟨Nat.le_refl _⟩,by repeat (first|exact Drawn0.refl _|apply Drawn0.step)⟩
  clear H'
  try clear c1
  try clear c2
  try clear p2
  try clear c4
  try clear c4b0
  try clear c4b1
  try clear c5
  try clear c5b0
  try clear c6
  try clear c6b0
  try clear c6b1
  try clear c7
  try clear c7b0
  try clear c7b1
  try clear p8
  try clear q8
  try clear hx8
  try clear qi8
  try clear c9
  try clear c9b0
  try clear c9b1
  try clear c12
  try clear p2
  try clear p8
  try clear q8
  obtain ⟨x5_2,x6_2,rfl,rfl,HA,HK2,⟨m2,rfl⟩⟩:=hrel
  cases gk with
  | zero=>exact absurd HA.out (by simp [spillwayref2_Whole.l0])
  | succ k2 =>
   have H:=HA.out
   clear HA
   simp only [spillwayref2_Whole.l0] at H
   by_cases c13 : x6_2 < (a0.size : Int)
   ·rw [if_pos c13] at H
    have c13b0 : decide (x6_2 < (a0.size : Int)) = true:=decide_eq_true c13
    clear c13
    by_cases c14 : 0 ≤ x6_2
    ·rw [if_pos c14] at H
     have c14b0 : decide (0 ≤ x6_2) = true:=decide_eq_true c14
     clear c14
     have H':=Aside0.mk H
     clear H
     have p15 : 0 ≤ (x6_2 : Int):=of_decide_eq_true (by first|(with_reducible assumption)|assumption)
     have q15 : x6_2 < (a0.size : Int):=of_decide_eq_true (by first|(with_reducible assumption)|assumption)
     have hx15:=bt_at a0 x6_2
     replace p15:=eq_true p15
     replace q15:=eq_true q15
     go_wp2
     go_roundg k2
     case measure=>have:=HJ2.out;have:=HK2.out;omega
     case rel=>exact ⟨(wrap64 ((wrap64 (10 * x5_2)) + (((bt a0 x6_2) - 48) % 256))),(wrap64 (x6_2 + 1)),(by first|rfl|(simp;done)|(simp [*];done)),(by first|rfl|(simp;done)|(simp [*];done)),H',⟨by have:=HJ2.out;have:=HK2.out;omega⟩,by repeat (first|exact Drawn0.refl _|apply Drawn0.step)⟩
    rw [if_neg c14] at H
    exact absurd H (by simp)
   rw [if_neg c13] at H
   have c13b0 : decide (x6_2 < (a0.size : Int)) = false:=decide_eq_false c13
   clear c13
   obtain rfl:=Option.some.inj H
   go_wp2
   go_ret
   exact ⟨by first|rfl|(simp;done)|(simp [*];done),by repeat (first|exact Drawn0.refl _|apply Drawn0.step)⟩
/-! ### spillwayref2_Ovf: function 74 -/
def spillwayref2_Ovf.f  : Option (Bool × Int):=some (true,0)
set_option maxHeartbeats 8000000 in
set_option maxRecDepth 100000 in
theorem spillwayref2_Ovf.calls  (r1 : Bool) (r2 : Int) (w : World) (h : spillwayref2_Ovf.f  = some (r1,r2)) :
  Calls Tryz.prog 74 #[] w fun e w'=>e = .returned (.agg #[.bool r1,.int .i64 r2]) ∧ Below w.heap.size w w':=by
 have hu32:=Tryz.underlying32
 have HB:=Aside0.mk (Below.refl w.heap.size w)
 have H : (some (true,0)) = some (r1,r2):=h
 clear h
 simp only [Option.some.injEq,Prod.mk.injEq] at H
 obtain ⟨rfl,rfl⟩:=H
 go_enter Tryz.func74,Tryz.ntmps74
 go_wp2_with (first|((with_reducible refine gate_dst (N:=0) rfl ?_);refine box_event ?hg (N:=0) ?hd (cs:=#[.bool false,.int .i64 0]) (t:=32) ?hr ?_;(case hd=>rfl);(case hg=>rfl);(case hr=>first|(go_simp;done)|(go_simp;rfl));intro gb247 hg w1 hbox hb;have n0_:=Aside0.mk (below_step (by repeat (first|(with_reducible first|exact HB.out|apply below_alloc|apply pw_below_drewN|apply below_drew1)|exact HB.out)) hb);have n1_:=Aside0.mk (hbox);have n2_:=Aside0.mk ((by rw [hg];exact (below_size (by repeat (first|(with_reducible first|exact HB.out|apply below_alloc|apply pw_below_drewN|apply below_drew1)|exact HB.out))) : w.heap.size ≤ gb247));have n3_:=Aside0.mk ((by rw [hg];exact (below_size (by repeat (first|(with_reducible first|exact HB.out|apply below_alloc|apply pw_below_drewN|apply below_drew1)|exact HB.out))) : w.heap.size ≤ gb247));clear HB;have HB:=n0_;have BK247:=n1_;have GW247:=n2_;have GE247:=n3_;clear n0_ n1_ n2_ n3_;clear hb hbox hg;have hcz2_0 : w1.cell? ⟨gb247,0,none⟩ = some (.bool false):=(blk_cell BK247.out 0).trans rfl;have hcz2_1 : w1.cell? ⟨gb247,1,none⟩ = some (.int .i64 0):=(blk_cell BK247.out 1).trans rfl;have hfz2_0:=blk_frozen BK247.out 0;have hfz2_1:=blk_frozen BK247.out 1))
 refine bodyPost_ret (results_cell_row rfl _ _ gb247 32 #[.bool true,.int .i64 0] (0,0) _ rfl (by (with_reducible repeat (first|refine blk_drewN ?_ _|refine blk_drew ?_|refine blk_alloc ?_ _));refine blk_put (cs:=#[.bool true,.int .i64 0]) ?_ 1 _ rfl;(with_reducible repeat (first|refine blk_drewN ?_ _|refine blk_drew ?_|refine blk_alloc ?_ _));refine blk_put (cs:=#[.bool false,.int .i64 0]) ?_ 0 _ rfl;(with_reducible repeat (first|refine blk_drewN ?_ _|refine blk_drew ?_|refine blk_alloc ?_ _));exact BK247.out) Tryz.underlying32 rfl (by kernel_rfl)) rfl ?_
 exact ⟨by first|rfl|(simp [errW_none,errW_some] <;> rfl)|(simp [*,errW_none,errW_some] <;> rfl),by repeat (first|(with_reducible first|exact HB.out|apply below_alloc|apply pw_below_drewN|apply below_drew1|refine below_set ?_ GE247.out)|exact HB.out)⟩
/-! ### spillwayref2_signed: function 76 -/
def spillwayref2_signed.f (a0 : Int) (a1 : Bool) : Option (Bool × Int):=if a0 > 9223372036854775807 then ((spillwayref2_Ovf.f).bind fun bt249=>(some (bt249.1,bt249.2))) else (if a1 = true then (some (false,wrap64 (-(wrap64 (a0))))) else (some (false,wrap64 (a0))))
set_option maxHeartbeats 8000000 in
set_option maxRecDepth 100000 in
theorem spillwayref2_signed.calls (a0 : Int) (a1 : Bool) (r1 : Bool) (r2 : Int) (w : World) (h : spillwayref2_signed.f a0 a1 = some (r1,r2)) :
  Calls Tryz.prog 76 #[.int .u64 a0,.bool a1] w fun e w'=>e = .returned (.agg #[.bool r1,.int .i64 r2]) ∧ Below w.heap.size w w':=by
 have hu32:=Tryz.underlying32
 have HB:=Aside0.mk (Below.refl w.heap.size w)
 have H : (if a0 > 9223372036854775807 then ((spillwayref2_Ovf.f).bind fun bt249=>(some (bt249.1,bt249.2))) else (if a1 = true then (some (false,wrap64 (-(wrap64 (a0))))) else (some (false,wrap64 (a0))))) = some (r1,r2):=h
 clear h
 by_cases c3 : a0 > 9223372036854775807
 ·rw [if_pos c3] at H
  have c3b0 : decide (9223372036854775807 < a0) = true:=decide_eq_true c3
  clear c3
  replace H:=Option.bind_eq_some_iff.mp H
  obtain ⟨⟨t249,t250⟩,A40,H⟩:=H
  replace H : (some (t249,t250)) = some (r1,r2):=H
  have A4:=Aside0.mk A40
  clear A40
  simp only [Option.some.injEq,Prod.mk.injEq] at H
  obtain ⟨rfl,rfl⟩:=H
  go_enter Tryz.func76,Tryz.ntmps76
  go_wp2_with (first|((with_reducible refine gate_dst (N:=4) rfl ?_);refine box_event ?hg (N:=4) ?hd (cs:=#[.bool false,.int .i64 0]) (t:=32) ?hr ?_;(case hd=>rfl);(case hg=>rfl);(case hr=>first|(go_simp;done)|(go_simp;rfl));intro gb248 hg w5 hbox hb;have n0_:=Aside0.mk (below_step (by repeat (first|(with_reducible first|exact HB.out|apply below_alloc|apply pw_below_drewN|apply below_drew1)|exact HB.out)) hb);have n1_:=Aside0.mk (hbox);have n2_:=Aside0.mk ((by rw [hg];exact (below_size (by repeat (first|(with_reducible first|exact HB.out|apply below_alloc|apply pw_below_drewN|apply below_drew1)|exact HB.out))) : w.heap.size ≤ gb248));have n3_:=Aside0.mk ((by rw [hg];exact (below_size (by repeat (first|(with_reducible first|exact HB.out|apply below_alloc|apply pw_below_drewN|apply below_drew1)|exact HB.out))) : w.heap.size ≤ gb248));clear HB;have HB:=n0_;have BK248:=n1_;have GW248:=n2_;have GE248:=n3_;clear n0_ n1_ n2_ n3_;clear hb hbox hg)|((with_reducible refine gate_callee (f:=74) rfl ?_);refine goesL_ (some 7) rfl rfl Tryz.func74 (by kernel_rfl) rfl #[] rfl (by (try simp only [List.map_toArray,List.map_cons,List.map_nil]);first|done|rfl|(simp only [List.length_drop,List.length_take];rfl)) ?_;(with_reducible refine (spillwayref2_Ovf.calls  t249 t250 _ A4.out).mono ?_);rintro e w6 ⟨rfl,hb⟩;refine ⟨_,rfl,?_⟩;have n0_:=Aside0.mk (blk_below (g:=gb248) (o:=.cells #[.bool false,.int .i64 0] 32 (0,0)) (by (with_reducible repeat (first|refine blk_drewN ?_ _|refine blk_drew ?_|refine blk_alloc ?_ _));exact BK248.out) hb);have n1_:=Aside0.mk (below_step (by repeat (first|(with_reducible first|exact HB.out|apply below_alloc|apply pw_below_drewN|apply below_drew1|refine below_set ?_ GE248.out)|exact HB.out)) hb);clear BK248;clear HB;have BK248:=n0_;have HB:=n1_;clear n0_ n1_;(try clear hb);(try clear hb2);(try clear hk);(try clear hi);have hcz7_0 : w6.cell? ⟨gb248,0,none⟩ = some (.bool false):=(blk_cell BK248.out 0).trans rfl;have hcz7_1 : w6.cell? ⟨gb248,1,none⟩ = some (.int .i64 0):=(blk_cell BK248.out 1).trans rfl;have hfz7_0:=blk_frozen BK248.out 0;have hfz7_1:=blk_frozen BK248.out 1))
  refine bodyPost_ret (results_cell_row rfl _ _ gb248 32 #[.bool t249,.int .i64 t250] (0,0) _ rfl (by (with_reducible repeat (first|refine blk_drewN ?_ _|refine blk_drew ?_|refine blk_alloc ?_ _));refine blk_put (cs:=#[.bool t249,.int .i64 0]) ?_ 1 _ rfl;(with_reducible repeat (first|refine blk_drewN ?_ _|refine blk_drew ?_|refine blk_alloc ?_ _));refine blk_put (cs:=#[.bool false,.int .i64 0]) ?_ 0 _ rfl;(with_reducible repeat (first|refine blk_drewN ?_ _|refine blk_drew ?_|refine blk_alloc ?_ _));exact BK248.out) Tryz.underlying32 rfl (by kernel_rfl)) rfl ?_
  exact ⟨by first|rfl|(simp [errW_none,errW_some] <;> rfl)|(simp [*,errW_none,errW_some] <;> rfl),by repeat (first|(with_reducible first|exact HB.out|apply below_alloc|apply pw_below_drewN|apply below_drew1|refine below_set ?_ GE248.out)|exact HB.out)⟩
 rw [if_neg c3] at H
 have c3b0 : decide (9223372036854775807 < a0) = false:=decide_eq_false c3
 clear c3
 by_cases c8 : a1 = true
 ·subst c8
  have H1 : (some (false,wrap64 (-(wrap64 (a0))))) = some (r1,r2):=by rw [if_pos rfl] at H;exact H
  clear H
  have H:=H1
  clear H1
  simp only [Option.some.injEq,Prod.mk.injEq] at H
  obtain ⟨rfl,rfl⟩:=H
  go_enter Tryz.func76,Tryz.ntmps76
  go_wp2_with (first|((with_reducible refine gate_dst (N:=4) rfl ?_);refine box_event ?hg (N:=4) ?hd (cs:=#[.bool false,.int .i64 0]) (t:=32) ?hr ?_;(case hd=>rfl);(case hg=>rfl);(case hr=>first|(go_simp;done)|(go_simp;rfl));intro gb248 hg w9 hbox hb;have n0_:=Aside0.mk (below_step (by repeat (first|(with_reducible first|exact HB.out|apply below_alloc|apply pw_below_drewN|apply below_drew1)|exact HB.out)) hb);have n1_:=Aside0.mk (hbox);have n2_:=Aside0.mk ((by rw [hg];exact (below_size (by repeat (first|(with_reducible first|exact HB.out|apply below_alloc|apply pw_below_drewN|apply below_drew1)|exact HB.out))) : w.heap.size ≤ gb248));have n3_:=Aside0.mk ((by rw [hg];exact (below_size (by repeat (first|(with_reducible first|exact HB.out|apply below_alloc|apply pw_below_drewN|apply below_drew1)|exact HB.out))) : w.heap.size ≤ gb248));clear HB;have HB:=n0_;have BK248:=n1_;have GW248:=n2_;have GE248:=n3_;clear n0_ n1_ n2_ n3_;clear hb hbox hg;have hcz10_0 : w9.cell? ⟨gb248,0,none⟩ = some (.bool false):=(blk_cell BK248.out 0).trans rfl;have hcz10_1 : w9.cell? ⟨gb248,1,none⟩ = some (.int .i64 0):=(blk_cell BK248.out 1).trans rfl;have hfz10_0:=blk_frozen BK248.out 0;have hfz10_1:=blk_frozen BK248.out 1))
  refine bodyPost_ret (results_cell_row rfl _ _ gb248 32 #[.bool false,.int .i64 (wrap64 (-(wrap64 (a0))))] (0,0) _ rfl (by (with_reducible repeat (first|refine blk_drewN ?_ _|refine blk_drew ?_|refine blk_alloc ?_ _));refine blk_put (cs:=#[.bool false,.int .i64 0]) ?_ 1 _ rfl;(with_reducible repeat (first|refine blk_drewN ?_ _|refine blk_drew ?_|refine blk_alloc ?_ _));refine blk_put (cs:=#[.bool false,.int .i64 0]) ?_ 0 _ rfl;(with_reducible repeat (first|refine blk_drewN ?_ _|refine blk_drew ?_|refine blk_alloc ?_ _));exact BK248.out) Tryz.underlying32 rfl (by kernel_rfl)) rfl ?_
  exact ⟨by first|rfl|(simp [errW_none,errW_some] <;> rfl)|(simp [*,errW_none,errW_some] <;> rfl),by repeat (first|(with_reducible first|exact HB.out|apply below_alloc|apply pw_below_drewN|apply below_drew1|refine below_set ?_ GE248.out)|exact HB.out)⟩
 replace c8:=Bool.eq_false_iff.mpr c8
 subst c8
 have H1 : (some (false,wrap64 (a0))) = some (r1,r2):=by rw [if_neg (show ¬ (false = true) by decide)] at H;exact H
 clear H
 have H:=H1
 clear H1
 simp only [Option.some.injEq,Prod.mk.injEq] at H
 obtain ⟨rfl,rfl⟩:=H
 go_enter Tryz.func76,Tryz.ntmps76
 go_wp2_with (first|((with_reducible refine gate_dst (N:=4) rfl ?_);refine box_event ?hg (N:=4) ?hd (cs:=#[.bool false,.int .i64 0]) (t:=32) ?hr ?_;(case hd=>rfl);(case hg=>rfl);(case hr=>first|(go_simp;done)|(go_simp;rfl));intro gb248 hg w11 hbox hb;have n0_:=Aside0.mk (below_step (by repeat (first|(with_reducible first|exact HB.out|apply below_alloc|apply pw_below_drewN|apply below_drew1)|exact HB.out)) hb);have n1_:=Aside0.mk (hbox);have n2_:=Aside0.mk ((by rw [hg];exact (below_size (by repeat (first|(with_reducible first|exact HB.out|apply below_alloc|apply pw_below_drewN|apply below_drew1)|exact HB.out))) : w.heap.size ≤ gb248));have n3_:=Aside0.mk ((by rw [hg];exact (below_size (by repeat (first|(with_reducible first|exact HB.out|apply below_alloc|apply pw_below_drewN|apply below_drew1)|exact HB.out))) : w.heap.size ≤ gb248));clear HB;have HB:=n0_;have BK248:=n1_;have GW248:=n2_;have GE248:=n3_;clear n0_ n1_ n2_ n3_;clear hb hbox hg;have hcz12_0 : w11.cell? ⟨gb248,0,none⟩ = some (.bool false):=(blk_cell BK248.out 0).trans rfl;have hcz12_1 : w11.cell? ⟨gb248,1,none⟩ = some (.int .i64 0):=(blk_cell BK248.out 1).trans rfl;have hfz12_0:=blk_frozen BK248.out 0;have hfz12_1:=blk_frozen BK248.out 1))
 refine bodyPost_ret (results_cell_row rfl _ _ gb248 32 #[.bool false,.int .i64 (wrap64 (a0))] (0,0) _ rfl (by (with_reducible repeat (first|refine blk_drewN ?_ _|refine blk_drew ?_|refine blk_alloc ?_ _));refine blk_put (cs:=#[.bool false,.int .i64 0]) ?_ 1 _ rfl;(with_reducible repeat (first|refine blk_drewN ?_ _|refine blk_drew ?_|refine blk_alloc ?_ _));refine blk_put (cs:=#[.bool false,.int .i64 0]) ?_ 0 _ rfl;(with_reducible repeat (first|refine blk_drewN ?_ _|refine blk_drew ?_|refine blk_alloc ?_ _));exact BK248.out) Tryz.underlying32 rfl (by kernel_rfl)) rfl ?_
 exact ⟨by first|rfl|(simp [errW_none,errW_some] <;> rfl)|(simp [*,errW_none,errW_some] <;> rfl),by repeat (first|(with_reducible first|exact HB.out|apply below_alloc|apply pw_below_drewN|apply below_drew1|refine below_set ?_ GE248.out)|exact HB.out)⟩
/-! ### spillwayref2_Parse: function 40 -/
mutual
def spillwayref2_Parse.j0 : Nat → ByteArray → Bool → Option (Bool × Int × Bool)
 | 0,_,_=>none
 | k + 1,x0,x4=>if x4 = true then (if 1 ≤ (x0.size : Int) then (spillwayref2_Parse.j1 k (x0.extract 1 x0.size) x4) else (none)) else (spillwayref2_Parse.j1 k x0 x4)
def spillwayref2_Parse.j1 : Nat → ByteArray → Bool → Option (Bool × Int × Bool)
 | 0,_,_=>none
 | k + 1,x0,x4=>(spillwayref2_digits.f k x0).bind fun t254=>(if t254 < 1 then (spillwayref2_Parse.j2 k x0 x4 t254 true) else (if t254 > 13 then (spillwayref2_Parse.j2 k x0 x4 t254 true) else (if t254 > 1 then (if 0 < (x0.size : Int) then (spillwayref2_Parse.j2 k x0 x4 t254 ((bt x0 0) == 48)) else (none)) else (spillwayref2_Parse.j2 k x0 x4 t254 false))))
def spillwayref2_Parse.j2 : Nat → ByteArray → Bool → Int → Bool → Option (Bool × Int × Bool)
 | 0,_,_,_,_=>none
 | k + 1,x0,x4,x5,x41=>if x41 = true then (some (false,0,false)) else (spillwayref2_Parse.l0 k x0 x4 x5 0 0)
def spillwayref2_Parse.l0 : Nat → ByteArray → Bool → Int → Int → Int → Option (Bool × Int × Bool)
 | 0,_,_,_,_,_=>none
 | k + 1,x0,x4,x5,x6,x7=>if x7 < x5 then (if 0 ≤ x7 then (if x7 < (x0.size : Int) then (spillwayref2_Parse.l0 k x0 x4 x5 (IntKind.u64.wrap ((IntKind.u64.wrap (x6 * 10)) + (((bt x0 x7) - 48) % 256))) (wrap64 (x7 + 1))) else (none)) else (none)) else (if (x0.size : Int) > x5 then (if 0 ≤ (wrap64 (x5 + 1)) then (if (wrap64 (x5 + 1)) ≤ (x0.size : Int) then ((spillwayref2_digits.f k (x0.extract ((wrap64 (x5 + 1)) : Int).toNat x0.size)).bind fun t255=>(if 0 ≤ x5 then (if x5 < (x0.size : Int) then (if (bt x0 x5) = 46 then (if t255 < 1 then (spillwayref2_Parse.j4 k x0 x4 x5 x6 0 t255 true) else (if t255 > 6 then (spillwayref2_Parse.j4 k x0 x4 x5 x6 0 t255 true) else (spillwayref2_Parse.j4 k x0 x4 x5 x6 0 t255 ((wrap64 ((wrap64 (x5 + 1)) + t255)) != (x0.size : Int))))) else (spillwayref2_Parse.j4 k x0 x4 x5 x6 0 t255 true)) else (none)) else (none))) else (none)) else (none)) else ((spillwayref2_signed.f (IntKind.u64.wrap ((IntKind.u64.wrap (x6 * 1000000)) + 0)) x4).bind fun bt258=>(some (bt258.1,bt258.2,true))))
def spillwayref2_Parse.j4 : Nat → ByteArray → Bool → Int → Int → Int → Int → Bool → Option (Bool × Int × Bool)
 | 0,_,_,_,_,_,_,_=>none
 | k + 1,x0,x4,x5,x6,x8,x9,x85=>if x85 = true then (some (false,0,false)) else (spillwayref2_Parse.l1 k x0 x4 x5 x6 x8 x9 0)
def spillwayref2_Parse.l1 : Nat → ByteArray → Bool → Int → Int → Int → Int → Int → Option (Bool × Int × Bool)
 | 0,_,_,_,_,_,_,_=>none
 | k + 1,x0,x4,x5,x6,x8,x9,x10=>if x10 < 6 then (if x10 < x9 then (if 0 ≤ (wrap64 ((wrap64 (x5 + 1)) + x10)) then (if (wrap64 ((wrap64 (x5 + 1)) + x10)) < (x0.size : Int) then (spillwayref2_Parse.l1 k x0 x4 x5 x6 (IntKind.u64.wrap ((IntKind.u64.wrap (x8 * 10)) + (((bt x0 (wrap64 ((wrap64 (x5 + 1)) + x10))) - 48) % 256))) x9 (wrap64 (x10 + 1))) else (none)) else (none)) else (spillwayref2_Parse.l1 k x0 x4 x5 x6 (IntKind.u64.wrap (x8 * 10)) x9 (wrap64 (x10 + 1)))) else ((spillwayref2_signed.f (IntKind.u64.wrap ((IntKind.u64.wrap (x6 * 1000000)) + x8)) x4).bind fun bt256=>(some (bt256.1,bt256.2,true)))
end
def spillwayref2_Parse.f (k : Nat) (a0 : ByteArray) : Option (Bool × Int × Bool):=if a0.toList = ([111,118,102] : List UInt8) then ((spillwayref2_Ovf.f).bind fun bt252=>(some (bt252.1,bt252.2,true))) else (if (a0.size : Int) > 0 then (if 0 < (a0.size : Int) then (spillwayref2_Parse.j0 k a0 ((bt a0 0) == 45)) else (none)) else (spillwayref2_Parse.j0 k a0 false))
set_option maxHeartbeats 8000000 in
set_option maxRecDepth 100000 in
theorem spillwayref2_Parse.calls (k : Nat) (a0 : ByteArray) (r1 : Bool) (r2 : Int) (r3 : Bool) (w : World) (h : spillwayref2_Parse.f k a0 = some (r1,r2,r3)) :
  Calls Tryz.prog 40 #[.string a0] w fun e w'=>e = .returned (.tuple #[.agg #[.bool r1,.int .i64 r2],.bool r3]) ∧ Below w.heap.size w w':=by
 have hu32:=Tryz.underlying32
 have HB:=Aside0.mk (Below.refl w.heap.size w)
 have H : (if a0.toList = ([111,118,102] : List UInt8) then ((spillwayref2_Ovf.f).bind fun bt252=>(some (bt252.1,bt252.2,true))) else (if (a0.size : Int) > 0 then (if 0 < (a0.size : Int) then (spillwayref2_Parse.j0 k a0 ((bt a0 0) == 45)) else (none)) else (spillwayref2_Parse.j0 k a0 false))) = some (r1,r2,r3):=h
 clear h
 by_cases c2 : a0.toList = ([111,118,102] : List UInt8)
 ·rw [if_pos c2] at H
  have c2b0 : (a0.toList == ([111,118,102] : List UInt8)) = true:=beq_iff_eq.mpr c2
  have c2b1 : (a0.toList != ([111,118,102] : List UInt8)) = false:=bne_eq_false_iff_eq.mpr c2
  clear c2
  replace H:=Option.bind_eq_some_iff.mp H
  obtain ⟨⟨t252,t253⟩,A30,H⟩:=H
  replace H : (some (t252,t253,true)) = some (r1,r2,r3):=H
  have A3:=Aside0.mk A30
  clear A30
  simp only [Option.some.injEq,Prod.mk.injEq] at H
  obtain ⟨rfl,rfl,rfl⟩:=H
  go_enter Tryz.func40,Tryz.ntmps40
  go_wp2_with (first|((with_reducible refine gate_dst (N:=2) rfl ?_);(try (refine gate_guard (by rfl) ?_;dsimp only));refine box_event ?hg (N:=2) ?hd (cs:=#[.bool false,.int .i64 0]) (t:=32) ?hr ?_;(case hd=>rfl);(case hg=>rfl);(case hr=>first|(go_simp;done)|(go_simp;rfl));intro gb251 hg w4 hbox hb;have n0_:=Aside0.mk (below_step (by repeat (first|(with_reducible first|exact HB.out|apply below_alloc|apply pw_below_drewN|apply below_drew1)|exact HB.out)) hb);have n1_:=Aside0.mk (hbox);have n2_:=Aside0.mk ((by rw [hg];exact (below_size (by repeat (first|(with_reducible first|exact HB.out|apply below_alloc|apply pw_below_drewN|apply below_drew1)|exact HB.out))) : w.heap.size ≤ gb251));have n3_:=Aside0.mk ((by rw [hg];exact (below_size (by repeat (first|(with_reducible first|exact HB.out|apply below_alloc|apply pw_below_drewN|apply below_drew1)|exact HB.out))) : w.heap.size ≤ gb251));clear HB;have HB:=n0_;have BK251:=n1_;have GW251:=n2_;have GE251:=n3_;clear n0_ n1_ n2_ n3_;clear hb hbox hg)|((with_reducible refine gate_callee (f:=74) rfl ?_);refine goesL_ (some 13) rfl rfl Tryz.func74 (by kernel_rfl) rfl #[] rfl (by (try simp only [List.map_toArray,List.map_cons,List.map_nil]);first|done|rfl|(simp only [List.length_drop,List.length_take];rfl)) ?_;(with_reducible refine (spillwayref2_Ovf.calls  t252 t253 _ A3.out).mono ?_);rintro e w5 ⟨rfl,hb⟩;refine ⟨_,rfl,?_⟩;have n0_:=Aside0.mk (blk_below (g:=gb251) (o:=.cells #[.bool false,.int .i64 0] 32 (0,0)) (by (with_reducible repeat (first|refine blk_drewN ?_ _|refine blk_drew ?_|refine blk_alloc ?_ _));exact BK251.out) hb);have n1_:=Aside0.mk (below_step (by repeat (first|(with_reducible first|exact HB.out|apply below_alloc|apply pw_below_drewN|apply below_drew1|refine below_set ?_ GE251.out)|exact HB.out)) hb);clear BK251;clear HB;have BK251:=n0_;have HB:=n1_;clear n0_ n1_;(try clear hb);(try clear hb2);(try clear hk);(try clear hi);have hcz6_0 : w5.cell? ⟨gb251,0,none⟩ = some (.bool false):=(blk_cell BK251.out 0).trans rfl;have hcz6_1 : w5.cell? ⟨gb251,1,none⟩ = some (.int .i64 0):=(blk_cell BK251.out 1).trans rfl;have hfz6_0:=blk_frozen BK251.out 0;have hfz6_1:=blk_frozen BK251.out 1))
  refine bodyPost_ret (results_ct rfl _ _ gb251 32 #[.bool t252,.int .i64 t253] (0,0) _ rfl (by (with_reducible repeat (first|refine blk_drewN ?_ _|refine blk_drew ?_|refine blk_alloc ?_ _));refine blk_put (cs:=#[.bool t252,.int .i64 0]) ?_ 1 _ rfl;(with_reducible repeat (first|refine blk_drewN ?_ _|refine blk_drew ?_|refine blk_alloc ?_ _));refine blk_put (cs:=#[.bool false,.int .i64 0]) ?_ 0 _ rfl;(with_reducible repeat (first|refine blk_drewN ?_ _|refine blk_drew ?_|refine blk_alloc ?_ _));exact BK251.out) Tryz.underlying32 rfl (by kernel_rfl)) rfl ?_
  exact ⟨by first|rfl|(simp [errW_none,errW_some] <;> rfl)|(simp [*,errW_none,errW_some] <;> rfl),by repeat (first|(with_reducible first|exact HB.out|apply below_alloc|apply pw_below_drewN|apply below_drew1|refine below_set ?_ GE251.out)|exact HB.out)⟩
 rw [if_neg c2] at H
 have c2b0 : (a0.toList == ([111,118,102] : List UInt8)) = false:=beq_eq_false_iff_ne.mpr c2
 have c2b1 : (a0.toList != ([111,118,102] : List UInt8)) = true:=bne_iff_ne.mpr c2
 have HC7:=Aside0.mk H
 clear H
 go_enter Tryz.func40,Tryz.ntmps40
 go_upto_region 3 with (first|((with_reducible refine gate_dst (N:=2) rfl ?_);(try (refine gate_guard (by rfl) ?_;dsimp only));refine box_event ?hg (N:=2) ?hd (cs:=#[.bool false,.int .i64 0]) (t:=32) ?hr ?_;(case hd=>rfl);(case hg=>rfl);(case hr=>first|(go_simp;done)|(go_simp;rfl));intro gb251 hg w8 hbox hb;have n0_:=Aside0.mk (below_step (by repeat (first|(with_reducible first|exact HB.out|apply below_alloc|apply pw_below_drewN|apply below_drew1)|exact HB.out)) hb);have n1_:=Aside0.mk (hbox);have n2_:=Aside0.mk ((by rw [hg];exact (below_size (by repeat (first|(with_reducible first|exact HB.out|apply below_alloc|apply pw_below_drewN|apply below_drew1)|exact HB.out))) : w.heap.size ≤ gb251));have n3_:=Aside0.mk ((by rw [hg];exact (below_size (by repeat (first|(with_reducible first|exact HB.out|apply below_alloc|apply pw_below_drewN|apply below_drew1)|exact HB.out))) : w.heap.size ≤ gb251));clear HB;have HB:=n0_;have BK251:=n1_;have GW251:=n2_;have GE251:=n3_;clear n0_ n1_ n2_ n3_;clear hb hbox hg))
 (try simp only [Act.put,List.setIfInBounds_toArray,List.set_cons_zero,List.set_cons_succ])
 go_cut [4] (fun v4 wc=>∃ (kq : Nat) (x4_6 : Bool),v4 = .bool x4_6 ∧ Aside0 (spillwayref2_Parse.j0 kq a0 x4_6 = some (r1,r2,r3)) ∧ Aside0 (kq ≤ k) ∧ Aside0 (wc.heap[gb251]? = some (.cells #[.bool false,.int .i64 0] 32 (0,0))) ∧ Aside0 (Below w.heap.size w wc))
 case first =>
  have H:=HC7.out
  clear HC7
  by_cases c9 : (a0.size : Int) > 0
  ·rw [if_pos c9] at H
   have c9b0 : decide (0 < (a0.size : Int)) = true:=decide_eq_true c9
   have c9b1 : decide (0 < a0.size) = true:=decide_eq_true (by omega)
   clear c9
   (first|rw [c9b0]|(simp only [i64_w,i32_w];rw [c9b0])|skip)
   by_cases c10 : 0 < (a0.size : Int)
   ·rw [if_pos c10] at H
    have c10b0 : decide (0 < (a0.size : Int)) = true:=decide_eq_true c10
    have c10b1 : decide (0 < a0.size) = true:=decide_eq_true (by omega)
    clear c10
    have H':=Aside0.mk H
    clear H
    have p11 : 0 ≤ (0 : Int):=(by omega)
    have q11 : 0 < a0.size:=(by have : (0 : Int) < (a0.size : Int):=of_decide_eq_true (by first|(with_reducible assumption)|assumption);omega)
    have hx11 : ∀ h : 0 < a0.size,((a0[0]'h).toNat : Int) = bt a0 0:=bt_at a0 0
    clear p11
    have qi11 : (0 < (a0.size : Int)) = True:=eq_true (of_decide_eq_true (by first|(with_reducible assumption)|assumption))
    replace q11:=eq_true q11
    go_wp2
    go_meet
    case rel=>exact ⟨_,(((bt a0 0) == 45)),(by first|rfl|(simp;done)|(simp [*];done)),H',⟨by first|omega|exact Nat.le_refl _⟩,⟨by (with_reducible repeat (first|refine blk_drewN ?_ _|refine blk_drew ?_|refine blk_alloc ?_ _));exact BK251.out⟩,⟨by repeat (first|(with_reducible first|exact HB.out|apply below_alloc|apply pw_below_drewN|apply below_drew1|refine below_set ?_ GE251.out)|exact HB.out)⟩⟩
   rw [if_neg c10] at H
   exact absurd H (by simp)
  rw [if_neg c9] at H
  have c9b0 : decide (0 < (a0.size : Int)) = false:=decide_eq_false c9
  have c9b1 : decide (0 < a0.size) = false:=decide_eq_false (by omega)
  clear c9
  (first|rw [c9b0]|(simp only [i64_w,i32_w];rw [c9b0])|skip)
  have H':=Aside0.mk H
  clear H
  go_wp2
  go_meet
  case rel=>exact ⟨_,(false),(by first|rfl|(simp;done)|(simp [*];done)),H',⟨by first|omega|exact Nat.le_refl _⟩,⟨by (with_reducible repeat (first|refine blk_drewN ?_ _|refine blk_drew ?_|refine blk_alloc ?_ _));exact BK251.out⟩,⟨by repeat (first|(with_reducible first|exact HB.out|apply below_alloc|apply pw_below_drewN|apply below_drew1|refine below_set ?_ GE251.out)|exact HB.out)⟩⟩
 clear HC7
 try clear c1
 try clear p1
 try clear q1
 try clear hx1
 try clear qi1
 try clear c2
 try clear c2b0
 try clear c2b1
 try clear p2
 try clear c4
 try clear c7
 try clear c9
 try clear c9b0
 try clear c9b1
 try clear c10
 try clear c10b0
 try clear c10b1
 try clear p11
 try clear q11
 try clear hx11
 try clear qi11
 try clear hcz6_0
 try clear hcz6_1
 try clear hfz6_0
 try clear hfz6_1
 try clear p11
 try clear q11
 obtain ⟨kq,x4_6,rfl,HA,HJ6,BK251,HB⟩:=hcut
 cases kq with
 | zero=>exact absurd HA.out (by simp [spillwayref2_Parse.j0])
 | succ kj6 =>
  have H:=HA.out
  clear HA
  simp only [spillwayref2_Parse.j0] at H
  have HC12:=Aside0.mk H
  clear H
  go_upto_if 22 with (fail)
  go_cut [0] (fun v0 wc=>∃ (kq : Nat) (x0_11 : ByteArray),v0 = .string x0_11 ∧ Aside0 (spillwayref2_Parse.j1 kq x0_11 x4_6 = some (r1,r2,r3)) ∧ Aside0 (kq ≤ kj6) ∧ Aside0 (wc.heap[gb251]? = some (.cells #[.bool false,.int .i64 0] 32 (0,0))) ∧ Aside0 (Below w.heap.size w wc))
  case first =>
   have H:=HC12.out
   clear HC12
   by_cases c13 : x4_6 = true
   ·subst c13
    have H1 : (if 1 ≤ (a0.size : Int) then (spillwayref2_Parse.j1 kj6 (a0.extract 1 a0.size) true) else (none)) = some (r1,r2,r3):=by rw [if_pos rfl] at H;exact H
    clear H
    have H:=H1
    clear H1
    by_cases c14 : 1 ≤ (a0.size : Int)
    ·rw [if_pos c14] at H
     have c14b0:=eq_true c14
     have c14b1 : decide (1 ≤ (a0.size : Int)) = true:=decide_eq_true c14
     clear c14
     have H':=Aside0.mk H
     clear H
     go_wp2
     go_meet
     case rel=>exact ⟨_,(a0.extract 1 a0.size),(by first|rfl|(simp;done)|(simp [*];done)),H',⟨by have:=HJ6.out;first|omega|exact Nat.le_refl _⟩,⟨by (with_reducible repeat (first|refine blk_drewN ?_ _|refine blk_drew ?_|refine blk_alloc ?_ _));exact BK251.out⟩,⟨by repeat (first|(with_reducible first|exact HB.out|apply below_alloc|apply pw_below_drewN|apply below_drew1|refine below_set ?_ GE251.out)|exact HB.out)⟩⟩
    rw [if_neg c14] at H
    exact absurd H (by simp)
   replace c13:=Bool.eq_false_iff.mpr c13
   subst c13
   have H1 : (spillwayref2_Parse.j1 kj6 a0 false) = some (r1,r2,r3):=by rw [if_neg (show ¬ (false = true) by decide)] at H;exact H
   clear H
   have H:=H1
   clear H1
   have H':=Aside0.mk H
   clear H
   go_wp2
   go_meet
   case rel=>exact ⟨_,(a0),(by first|rfl|(simp;done)|(simp [*];done)),H',⟨by have:=HJ6.out;first|omega|exact Nat.le_refl _⟩,⟨by (with_reducible repeat (first|refine blk_drewN ?_ _|refine blk_drew ?_|refine blk_alloc ?_ _));exact BK251.out⟩,⟨by repeat (first|(with_reducible first|exact HB.out|apply below_alloc|apply pw_below_drewN|apply below_drew1|refine below_set ?_ GE251.out)|exact HB.out)⟩⟩
  clear HC12
  try clear c1
  try clear p1
  try clear q1
  try clear hx1
  try clear qi1
  try clear c2
  try clear c2b0
  try clear c2b1
  try clear p2
  try clear c4
  try clear c7
  try clear c9
  try clear c9b0
  try clear c9b1
  try clear c10
  try clear c10b0
  try clear c10b1
  try clear p11
  try clear q11
  try clear hx11
  try clear qi11
  try clear c13
  try clear c14
  try clear c14b0
  try clear c14b1
  try clear hcz6_0
  try clear hcz6_1
  try clear hfz6_0
  try clear hfz6_1
  try clear p1
  try clear p11
  try clear p2
  try clear q1
  try clear q11
  obtain ⟨kq,x0_11,rfl,HA,HJ11,BK251,HB⟩:=hcut
  cases kq with
  | zero=>exact absurd HA.out (by simp [spillwayref2_Parse.j1])
  | succ kj11 =>
   have H:=HA.out
   clear HA
   simp only [spillwayref2_Parse.j1] at H
   replace H:=Option.bind_eq_some_iff.mp H
   obtain ⟨t254,A150,H⟩:=H
   replace H : (if t254 < 1 then (spillwayref2_Parse.j2 kj11 x0_11 x4_6 t254 true) else (if t254 > 13 then (spillwayref2_Parse.j2 kj11 x0_11 x4_6 t254 true) else (if t254 > 1 then (if 0 < (x0_11.size : Int) then (spillwayref2_Parse.j2 kj11 x0_11 x4_6 t254 ((bt x0_11 0) == 48)) else (none)) else (spillwayref2_Parse.j2 kj11 x0_11 x4_6 t254 false)))) = some (r1,r2,r3):=H
   have A15:=Aside0.mk A150
   clear A150
   have HC16:=Aside0.mk H
   clear H
   go_upto_region 7 with (first|((with_reducible refine gate_callee (f:=75) rfl ?_);refine goesL_ (some 26) rfl rfl Tryz.func75 (by kernel_rfl) rfl #[.string x0_11] rfl (by (try simp only [List.map_toArray,List.map_cons,List.map_nil]);first|done|rfl|(simp only [List.length_drop,List.length_take];rfl)) ?_;(with_reducible refine (spillwayref2_digits.calls kj11 x0_11 t254 _ A15.out).mono ?_);rintro e w' ⟨rfl,⟨nd,rfl⟩⟩;refine ⟨_,rfl,?_⟩))
   (try simp only [Act.put,List.setIfInBounds_toArray,List.set_cons_zero,List.set_cons_succ])
   go_cut [41] (fun v41 wc=>∃ (kq : Nat) (x41_15 : Bool),v41 = .bool x41_15 ∧ Aside0 (spillwayref2_Parse.j2 kq x0_11 x4_6 t254 x41_15 = some (r1,r2,r3)) ∧ Aside0 (kq ≤ kj11) ∧ Aside0 (wc.heap[gb251]? = some (.cells #[.bool false,.int .i64 0] 32 (0,0))) ∧ Aside0 (Below w.heap.size w wc))
   case first =>
    have H:=HC16.out
    clear HC16
    by_cases c17 : t254 < 1
    ·rw [if_pos c17] at H
     have c17b0 : decide (t254 < 1) = true:=decide_eq_true c17
     clear c17
     (first|rw [c17b0]|(simp only [i64_w,i32_w];rw [c17b0])|skip)
     have H':=Aside0.mk H
     clear H
     go_wp2
     go_meet
     case rel=>exact ⟨_,(true),(by first|rfl|(simp;done)|(simp [*];done)),H',⟨by have:=HJ6.out;have:=HJ11.out;first|omega|exact Nat.le_refl _⟩,⟨by (with_reducible repeat (first|refine blk_drewN ?_ _|refine blk_drew ?_|refine blk_alloc ?_ _));exact BK251.out⟩,⟨by repeat (first|(with_reducible first|exact HB.out|apply below_alloc|apply pw_below_drewN|apply below_drew1|refine below_set ?_ GE251.out)|exact HB.out)⟩⟩
    rw [if_neg c17] at H
    have c17b0 : decide (t254 < 1) = false:=decide_eq_false c17
    clear c17
    (first|rw [c17b0]|(simp only [i64_w,i32_w];rw [c17b0])|skip)
    by_cases c18 : t254 > 13
    ·rw [if_pos c18] at H
     have c18b0 : decide (13 < t254) = true:=decide_eq_true c18
     clear c18
     have H':=Aside0.mk H
     clear H
     go_wp2
     go_meet
     case rel=>exact ⟨_,(true),(by first|rfl|(simp;done)|(simp [*];done)),H',⟨by have:=HJ6.out;have:=HJ11.out;first|omega|exact Nat.le_refl _⟩,⟨by (with_reducible repeat (first|refine blk_drewN ?_ _|refine blk_drew ?_|refine blk_alloc ?_ _));exact BK251.out⟩,⟨by repeat (first|(with_reducible first|exact HB.out|apply below_alloc|apply pw_below_drewN|apply below_drew1|refine below_set ?_ GE251.out)|exact HB.out)⟩⟩
    rw [if_neg c18] at H
    have c18b0 : decide (13 < t254) = false:=decide_eq_false c18
    clear c18
    by_cases c19 : t254 > 1
    ·rw [if_pos c19] at H
     have c19b0 : decide (1 < t254) = true:=decide_eq_true c19
     clear c19
     by_cases c20 : 0 < (x0_11.size : Int)
     ·rw [if_pos c20] at H
      have c20b0 : decide (0 < (x0_11.size : Int)) = true:=decide_eq_true c20
      have c20b1 : decide (0 < x0_11.size) = true:=decide_eq_true (by omega)
      clear c20
      have H':=Aside0.mk H
      clear H
      have p21 : 0 ≤ (0 : Int):=(by omega)
      have q21 : 0 < x0_11.size:=(by have : (0 : Int) < (x0_11.size : Int):=of_decide_eq_true (by first|(with_reducible assumption)|assumption);omega)
      have hx21 : ∀ h : 0 < x0_11.size,((x0_11[0]'h).toNat : Int) = bt x0_11 0:=bt_at x0_11 0
      clear p21
      have qi21 : (0 < (x0_11.size : Int)) = True:=eq_true (of_decide_eq_true (by first|(with_reducible assumption)|assumption))
      replace q21:=eq_true q21
      go_wp2
      go_meet
      case rel=>exact ⟨_,(((bt x0_11 0) == 48)),(by first|rfl|(simp;done)|(simp [*];done)),H',⟨by have:=HJ6.out;have:=HJ11.out;first|omega|exact Nat.le_refl _⟩,⟨by (with_reducible repeat (first|refine blk_drewN ?_ _|refine blk_drew ?_|refine blk_alloc ?_ _));exact BK251.out⟩,⟨by repeat (first|(with_reducible first|exact HB.out|apply below_alloc|apply pw_below_drewN|apply below_drew1|refine below_set ?_ GE251.out)|exact HB.out)⟩⟩
     rw [if_neg c20] at H
     exact absurd H (by simp)
    rw [if_neg c19] at H
    have c19b0 : decide (1 < t254) = false:=decide_eq_false c19
    clear c19
    have H':=Aside0.mk H
    clear H
    go_wp2
    go_meet
    case rel=>exact ⟨_,(false),(by first|rfl|(simp;done)|(simp [*];done)),H',⟨by have:=HJ6.out;have:=HJ11.out;first|omega|exact Nat.le_refl _⟩,⟨by (with_reducible repeat (first|refine blk_drewN ?_ _|refine blk_drew ?_|refine blk_alloc ?_ _));exact BK251.out⟩,⟨by repeat (first|(with_reducible first|exact HB.out|apply below_alloc|apply pw_below_drewN|apply below_drew1|refine below_set ?_ GE251.out)|exact HB.out)⟩⟩
   clear HC16
   try clear c1
   try clear p1
   try clear q1
   try clear hx1
   try clear qi1
   try clear c2
   try clear c2b0
   try clear c2b1
   try clear p2
   try clear q2
   try clear hx2
   try clear qi2
   try clear c4
   try clear c7
   try clear c9
   try clear c9b0
   try clear c9b1
   try clear c10
   try clear c10b0
   try clear c10b1
   try clear p11
   try clear q11
   try clear hx11
   try clear qi11
   try clear c13
   try clear c14
   try clear c14b0
   try clear c14b1
   try clear c17
   try clear c17b0
   try clear c18
   try clear c18b0
   try clear c19
   try clear c19b0
   try clear c20
   try clear c20b0
   try clear c20b1
   try clear p21
   try clear q21
   try clear hx21
   try clear qi21
   try clear hcz6_0
   try clear hcz6_1
   try clear hfz6_0
   try clear hfz6_1
   try clear p1
   try clear p11
   try clear p2
   try clear p21
   try clear q1
   try clear q11
   try clear q21
   obtain ⟨kq,x41_15,rfl,HA,HJ15,BK251,HB⟩:=hcut
   cases kq with
   | zero=>exact absurd HA.out (by simp [spillwayref2_Parse.j2])
   | succ kj15 =>
    have H:=HA.out
    clear HA
    simp only [spillwayref2_Parse.j2] at H
    by_cases c22 : x41_15 = true
    ·subst c22
     have H1 : (some (false,0,false)) = some (r1,r2,r3):=by rw [if_pos rfl] at H;exact H
     clear H
     have H:=H1
     clear H1
     simp only [Option.some.injEq,Prod.mk.injEq] at H
     obtain ⟨rfl,rfl,rfl⟩:=H
     have hcz23_0 : wc.cell? ⟨gb251,0,none⟩ = some (.bool false):=(blk_cell BK251.out 0).trans rfl
     have hcz23_1 : wc.cell? ⟨gb251,1,none⟩ = some (.int .i64 0):=(blk_cell BK251.out 1).trans rfl
     have hfz23_0:=blk_frozen BK251.out 0
     have hfz23_1:=blk_frozen BK251.out 1
     go_wp2
     refine bodyPost_ret (results_ct rfl _ _ gb251 32 #[.bool false,.int .i64 0] (0,0) _ rfl (by (with_reducible repeat (first|refine blk_drewN ?_ _|refine blk_drew ?_|refine blk_alloc ?_ _));refine blk_put (cs:=#[.bool false,.int .i64 0]) ?_ 1 _ rfl;(with_reducible repeat (first|refine blk_drewN ?_ _|refine blk_drew ?_|refine blk_alloc ?_ _));refine blk_put (cs:=#[.bool false,.int .i64 0]) ?_ 0 _ rfl;(with_reducible repeat (first|refine blk_drewN ?_ _|refine blk_drew ?_|refine blk_alloc ?_ _));exact BK251.out) Tryz.underlying32 rfl (by kernel_rfl)) rfl ?_
     exact ⟨by first|rfl|(simp [errW_none,errW_some] <;> rfl)|(simp [*,errW_none,errW_some] <;> rfl),by repeat (first|(with_reducible first|exact HB.out|apply below_alloc|apply pw_below_drewN|apply below_drew1|refine below_set ?_ GE251.out)|exact HB.out)⟩
    replace c22:=Bool.eq_false_iff.mpr c22
    subst c22
    have H1 : (spillwayref2_Parse.l0 kj15 x0_11 x4_6 t254 0 0) = some (r1,r2,r3):=by rw [if_neg (show ¬ (false = true) by decide)] at H;exact H
    clear H
    have H:=H1
    clear H1
    have H':=Aside0.mk H
    clear H
    go_wp2
    go_loopg [6,7] kj15 (fun kq v6 v7 w'=>∃ (x6_4 : Int) (x7_4 : Int),v6 = .int .u64 x6_4 ∧ v7 = .int .i64 x7_4 ∧ Aside0 (spillwayref2_Parse.l0 kq x0_11 x4_6 t254 x6_4 x7_4 = some (r1,r2,r3)) ∧ Aside0 (kq ≤ kj15) ∧ Aside0 (w'.heap[gb251]? = some (.cells #[.bool false,.int .i64 0] 32 (0,0))) ∧ Aside0 (Below w.heap.size w w'))
    case atStart=>exact ⟨(0),(0),(by first|rfl|(simp;done)|(simp [*];done)),(by first|rfl|(simp;done)|(simp [*];done)),H',⟨Nat.le_refl _⟩,⟨by (with_reducible repeat (first|refine blk_drewN ?_ _|refine blk_drew ?_|refine blk_alloc ?_ _));exact BK251.out⟩,⟨by repeat (first|(with_reducible first|exact HB.out|apply below_alloc|apply pw_below_drewN|apply below_drew1|refine below_set ?_ GE251.out)|exact HB.out)⟩⟩
    clear H'
    try clear c1
    try clear p1
    try clear q1
    try clear hx1
    try clear qi1
    try clear c2
    try clear c2b0
    try clear c2b1
    try clear p2
    try clear q2
    try clear hx2
    try clear qi2
    try clear c4
    try clear c7
    try clear c9
    try clear c9b0
    try clear c9b1
    try clear c10
    try clear c10b0
    try clear c10b1
    try clear p11
    try clear q11
    try clear hx11
    try clear qi11
    try clear c13
    try clear c14
    try clear c14b0
    try clear c14b1
    try clear c17
    try clear c17b0
    try clear c18
    try clear c18b0
    try clear c19
    try clear c19b0
    try clear c20
    try clear c20b0
    try clear c20b1
    try clear p21
    try clear q21
    try clear hx21
    try clear qi21
    try clear c22
    try clear hcz23_0
    try clear hcz23_1
    try clear hcz6_0
    try clear hcz6_1
    try clear hfz23_0
    try clear hfz23_1
    try clear hfz6_0
    try clear hfz6_1
    try clear p1
    try clear p11
    try clear p2
    try clear p21
    try clear q1
    try clear q11
    try clear q2
    try clear q21
    obtain ⟨x6_4,x7_4,rfl,rfl,HA,HK4,BK251,HB⟩:=hrel
    cases gk with
    | zero=>exact absurd HA.out (by simp [spillwayref2_Parse.l0])
    | succ k4 =>
     have H:=HA.out
     clear HA
     simp only [spillwayref2_Parse.l0] at H
     by_cases c24 : x7_4 < t254
     ·rw [if_pos c24] at H
      have c24b0 : decide (x7_4 < t254) = true:=decide_eq_true c24
      clear c24
      by_cases c25 : 0 ≤ x7_4
      ·rw [if_pos c25] at H
       have c25b0 : decide (0 ≤ x7_4) = true:=decide_eq_true c25
       clear c25
       by_cases c26 : x7_4 < (x0_11.size : Int)
       ·rw [if_pos c26] at H
        have c26b0 : decide (x7_4 < (x0_11.size : Int)) = true:=decide_eq_true c26
        clear c26
        have H':=Aside0.mk H
        clear H
        have p27 : 0 ≤ (x7_4 : Int):=of_decide_eq_true (by first|(with_reducible assumption)|assumption)
        have q27 : x7_4 < (x0_11.size : Int):=of_decide_eq_true (by first|(with_reducible assumption)|assumption)
        have hx27:=bt_at x0_11 x7_4
        replace p27:=eq_true p27
        replace q27:=eq_true q27
        go_wp2
        go_roundg k4
        case measure=>have:=HJ6.out;have:=HJ11.out;have:=HJ15.out;have:=HK4.out;omega
        case rel=>exact ⟨(IntKind.u64.wrap ((IntKind.u64.wrap (x6_4 * 10)) + (((bt x0_11 x7_4) - 48) % 256))),(wrap64 (x7_4 + 1)),(by first|rfl|(simp;done)|(simp [*];done)),(by first|rfl|(simp;done)|(simp [*];done)),H',⟨by have:=HJ6.out;have:=HJ11.out;have:=HJ15.out;have:=HK4.out;omega⟩,⟨by (with_reducible repeat (first|refine blk_drewN ?_ _|refine blk_drew ?_|refine blk_alloc ?_ _));exact BK251.out⟩,⟨by repeat (first|(with_reducible first|exact HB.out|apply below_alloc|apply pw_below_drewN|apply below_drew1|refine below_set ?_ GE251.out)|exact HB.out)⟩⟩
       rw [if_neg c26] at H
       exact absurd H (by simp)
      rw [if_neg c25] at H
      exact absurd H (by simp)
     rw [if_neg c24] at H
     have c24b0 : decide (x7_4 < t254) = false:=decide_eq_false c24
     clear c24
     by_cases c28 : (x0_11.size : Int) > t254
     ·rw [if_pos c28] at H
      have c28b0 : decide (t254 < (x0_11.size : Int)) = true:=decide_eq_true c28
      clear c28
      obtain ⟨ji29,hji29⟩ : ∃ j_ : Int,(wrap64 (t254 + 1)) = j_:=⟨_,rfl⟩
      replace H : (if 0 ≤ (ji29) then (if (ji29) ≤ (x0_11.size : Int) then ((spillwayref2_digits.f k4 (x0_11.extract ((ji29) : Int).toNat x0_11.size)).bind fun t255=>(if 0 ≤ t254 then (if t254 < (x0_11.size : Int) then (if (bt x0_11 t254) = 46 then (if t255 < 1 then (spillwayref2_Parse.j4 k4 x0_11 x4_6 t254 x6_4 0 t255 true) else (if t255 > 6 then (spillwayref2_Parse.j4 k4 x0_11 x4_6 t254 x6_4 0 t255 true) else (spillwayref2_Parse.j4 k4 x0_11 x4_6 t254 x6_4 0 t255 ((wrap64 ((ji29) + t255)) != (x0_11.size : Int))))) else (spillwayref2_Parse.j4 k4 x0_11 x4_6 t254 x6_4 0 t255 true)) else (none)) else (none))) else (none)) else (none)) = some (r1,r2,r3):=by first|(rw [hji29] at H;exact H)|(simp only [hji29] at H ⊢;exact H)
      have hji29w : (IntKind.i64.wrap (t254 + 1)) = ji29:=(i64_w _).trans hji29
      by_cases c30 : 0 ≤ (ji29)
      ·rw [if_pos c30] at H
       have c30b0:=eq_true c30
       have c30b1 : decide (0 ≤ (ji29)) = true:=decide_eq_true c30
       clear c30
       by_cases c31 : (ji29) ≤ (x0_11.size : Int)
       ·rw [if_pos c31] at H
        have c31b0:=eq_true c31
        have c31b1 : decide ((ji29) ≤ (x0_11.size : Int)) = true:=decide_eq_true c31
        clear c31
        replace H:=Option.bind_eq_some_iff.mp H
        obtain ⟨t255,A320,H⟩:=H
        replace H : (if 0 ≤ t254 then (if t254 < (x0_11.size : Int) then (if (bt x0_11 t254) = 46 then (if t255 < 1 then (spillwayref2_Parse.j4 k4 x0_11 x4_6 t254 x6_4 0 t255 true) else (if t255 > 6 then (spillwayref2_Parse.j4 k4 x0_11 x4_6 t254 x6_4 0 t255 true) else (spillwayref2_Parse.j4 k4 x0_11 x4_6 t254 x6_4 0 t255 ((wrap64 ((ji29) + t255)) != (x0_11.size : Int))))) else (spillwayref2_Parse.j4 k4 x0_11 x4_6 t254 x6_4 0 t255 true)) else (none)) else (none)) = some (r1,r2,r3):=H
        have A32:=Aside0.mk A320
        clear A320
        have HC33:=Aside0.mk H
        clear H
        go_upto_region 17 with (first|((with_reducible refine gate_callee (f:=75) rfl ?_);refine goesL_ (some 64) rfl rfl Tryz.func75 (by kernel_rfl) rfl #[.string (x0_11.extract ((ji29) : Int).toNat x0_11.size)] rfl (by (try simp only [List.map_toArray,List.map_cons,List.map_nil]);first|done|(simp only [hji29];rfl)|rfl|(simp only [List.length_drop,List.length_take];rfl)) ?_;(with_reducible refine (spillwayref2_digits.calls k4 (x0_11.extract ((ji29) : Int).toNat x0_11.size) t255 _ A32.out).mono ?_);rintro e w' ⟨rfl,⟨nd,rfl⟩⟩;refine ⟨_,rfl,?_⟩))
        (try simp only [Act.put,List.setIfInBounds_toArray,List.set_cons_zero,List.set_cons_succ])
        go_cut [85] (fun v85 wc=>∃ (kq : Nat) (x85_32 : Bool),v85 = .bool x85_32 ∧ Aside0 (spillwayref2_Parse.j4 kq x0_11 x4_6 t254 x6_4 0 t255 x85_32 = some (r1,r2,r3)) ∧ Aside0 (kq ≤ k4) ∧ Aside0 (wc.heap[gb251]? = some (.cells #[.bool false,.int .i64 0] 32 (0,0))) ∧ Aside0 (Below w.heap.size w wc))
        case first =>
         have H:=HC33.out
         clear HC33
         by_cases c34 : 0 ≤ t254
         ·rw [if_pos c34] at H
          have c34b0 : decide (0 ≤ t254) = true:=decide_eq_true c34
          clear c34
          (first|rw [c34b0]|(simp only [i64_w,i32_w];rw [c34b0])|skip)
          by_cases c35 : t254 < (x0_11.size : Int)
          ·rw [if_pos c35] at H
           have c35b0 : decide (t254 < (x0_11.size : Int)) = true:=decide_eq_true c35
           clear c35
           by_cases c37 : (bt x0_11 t254) = 46
           ·rw [if_pos c37] at H
            have c37b0 : ((bt x0_11 t254) == 46) = true:=beq_iff_eq.mpr c37
            have c37b1 : ((bt x0_11 t254) != 46) = false:=bne_eq_false_iff_eq.mpr c37
            clear c37
            by_cases c38 : t255 < 1
            ·rw [if_pos c38] at H
             have c38b0 : decide (t255 < 1) = true:=decide_eq_true c38
             clear c38
             have H':=Aside0.mk H
             clear H
             have p36 : 0 ≤ (t254 : Int):=of_decide_eq_true (by first|(with_reducible assumption)|assumption)
             have q36 : t254 < (x0_11.size : Int):=of_decide_eq_true (by first|(with_reducible assumption)|assumption)
             have hx36:=bt_at x0_11 t254
             replace p36:=eq_true p36
             replace q36:=eq_true q36
             go_wp2
             go_meet
             case rel=>exact ⟨_,(true),(by first|rfl|(simp;done)|(simp [*];done)),H',⟨by have:=HJ6.out;have:=HJ11.out;have:=HJ15.out;have:=HK4.out;first|omega|exact Nat.le_refl _⟩,⟨by (with_reducible repeat (first|refine blk_drewN ?_ _|refine blk_drew ?_|refine blk_alloc ?_ _));exact BK251.out⟩,⟨by repeat (first|(with_reducible first|exact HB.out|apply below_alloc|apply pw_below_drewN|apply below_drew1|refine below_set ?_ GE251.out)|exact HB.out)⟩⟩
            rw [if_neg c38] at H
            have c38b0 : decide (t255 < 1) = false:=decide_eq_false c38
            clear c38
            by_cases c39 : t255 > 6
            ·rw [if_pos c39] at H
             have c39b0 : decide (6 < t255) = true:=decide_eq_true c39
             clear c39
             have H':=Aside0.mk H
             clear H
             have p36 : 0 ≤ (t254 : Int):=of_decide_eq_true (by first|(with_reducible assumption)|assumption)
             have q36 : t254 < (x0_11.size : Int):=of_decide_eq_true (by first|(with_reducible assumption)|assumption)
             have hx36:=bt_at x0_11 t254
             replace p36:=eq_true p36
             replace q36:=eq_true q36
             go_wp2
             go_meet
             case rel=>exact ⟨_,(true),(by first|rfl|(simp;done)|(simp [*];done)),H',⟨by have:=HJ6.out;have:=HJ11.out;have:=HJ15.out;have:=HK4.out;first|omega|exact Nat.le_refl _⟩,⟨by (with_reducible repeat (first|refine blk_drewN ?_ _|refine blk_drew ?_|refine blk_alloc ?_ _));exact BK251.out⟩,⟨by repeat (first|(with_reducible first|exact HB.out|apply below_alloc|apply pw_below_drewN|apply below_drew1|refine below_set ?_ GE251.out)|exact HB.out)⟩⟩
            rw [if_neg c39] at H
            have c39b0 : decide (6 < t255) = false:=decide_eq_false c39
            clear c39
            have H':=Aside0.mk H
            clear H
            have p36 : 0 ≤ (t254 : Int):=of_decide_eq_true (by first|(with_reducible assumption)|assumption)
            have q36 : t254 < (x0_11.size : Int):=of_decide_eq_true (by first|(with_reducible assumption)|assumption)
            have hx36:=bt_at x0_11 t254
            replace p36:=eq_true p36
            replace q36:=eq_true q36
            go_wp2
            go_meet
            case rel=>exact ⟨_,(((wrap64 ((ji29) + t255)) != (x0_11.size : Int))),(by first|rfl|(simp;done)|(simp only [← hji29] <;> (first|rfl|simp))|(simp [*];done)),H',⟨by have:=HJ6.out;have:=HJ11.out;have:=HJ15.out;have:=HK4.out;first|omega|exact Nat.le_refl _⟩,⟨by (with_reducible repeat (first|refine blk_drewN ?_ _|refine blk_drew ?_|refine blk_alloc ?_ _));exact BK251.out⟩,⟨by repeat (first|(with_reducible first|exact HB.out|apply below_alloc|apply pw_below_drewN|apply below_drew1|refine below_set ?_ GE251.out)|exact HB.out)⟩⟩
           rw [if_neg c37] at H
           have c37b0 : ((bt x0_11 t254) == 46) = false:=beq_eq_false_iff_ne.mpr c37
           have c37b1 : ((bt x0_11 t254) != 46) = true:=bne_iff_ne.mpr c37
           have H':=Aside0.mk H
           clear H
           have p36 : 0 ≤ (t254 : Int):=of_decide_eq_true (by first|(with_reducible assumption)|assumption)
           have q36 : t254 < (x0_11.size : Int):=of_decide_eq_true (by first|(with_reducible assumption)|assumption)
           have hx36:=bt_at x0_11 t254
           replace p36:=eq_true p36
           replace q36:=eq_true q36
           go_wp2
           go_meet
           case rel=>exact ⟨_,(true),(by first|rfl|(simp;done)|(simp [*];done)),H',⟨by have:=HJ6.out;have:=HJ11.out;have:=HJ15.out;have:=HK4.out;first|omega|exact Nat.le_refl _⟩,⟨by (with_reducible repeat (first|refine blk_drewN ?_ _|refine blk_drew ?_|refine blk_alloc ?_ _));exact BK251.out⟩,⟨by repeat (first|(with_reducible first|exact HB.out|apply below_alloc|apply pw_below_drewN|apply below_drew1|refine below_set ?_ GE251.out)|exact HB.out)⟩⟩
          rw [if_neg c35] at H
          exact absurd H (by simp)
         rw [if_neg c34] at H
         exact absurd H (by simp)
        clear HC33
        try clear c1
        try clear p1
        try clear q1
        try clear hx1
        try clear qi1
        try clear c2
        try clear c2b0
        try clear c2b1
        try clear p2
        try clear q2
        try clear hx2
        try clear qi2
        try clear c3
        try clear p3
        try clear q3
        try clear hx3
        try clear c4
        try clear p6
        try clear c7
        try clear c9
        try clear c9b0
        try clear c9b1
        try clear c10
        try clear c10b0
        try clear c10b1
        try clear p11
        try clear q11
        try clear hx11
        try clear qi11
        try clear c13
        try clear c14
        try clear c14b0
        try clear c14b1
        try clear c17
        try clear c17b0
        try clear c18
        try clear c18b0
        try clear c19
        try clear c19b0
        try clear c20
        try clear c20b0
        try clear c20b1
        try clear p21
        try clear q21
        try clear hx21
        try clear qi21
        try clear c22
        try clear c24
        try clear c24b0
        try clear c25
        try clear c25b0
        try clear c26
        try clear c26b0
        try clear p27
        try clear q27
        try clear hx27
        try clear c28
        try clear c28b0
        try clear c30
        try clear c30b0
        try clear c30b1
        try clear c31
        try clear c31b0
        try clear c31b1
        try clear c34
        try clear c34b0
        try clear c35
        try clear c35b0
        try clear p36
        try clear q36
        try clear hx36
        try clear c37
        try clear c37b0
        try clear c37b1
        try clear c38
        try clear c38b0
        try clear c39
        try clear c39b0
        try clear hcz23_0
        try clear hcz23_1
        try clear hcz6_0
        try clear hcz6_1
        try clear hfz23_0
        try clear hfz23_1
        try clear hfz6_0
        try clear hfz6_1
        try clear p1
        try clear p11
        try clear p2
        try clear p21
        try clear p27
        try clear p36
        try clear q1
        try clear q11
        try clear q2
        try clear q21
        try clear q27
        try clear q36
        obtain ⟨kq,x85_32,rfl,HA,HJ32,BK251,HB⟩:=hcut
        cases kq with
        | zero=>exact absurd HA.out (by simp [spillwayref2_Parse.j4])
        | succ kj32 =>
         have H:=HA.out
         clear HA
         simp only [spillwayref2_Parse.j4] at H
         by_cases c40 : x85_32 = true
         ·subst c40
          have H1 : (some (false,0,false)) = some (r1,r2,r3):=by rw [if_pos rfl] at H;exact H
          clear H
          have H:=H1
          clear H1
          simp only [Option.some.injEq,Prod.mk.injEq] at H
          obtain ⟨rfl,rfl,rfl⟩:=H
          have hcz41_0 : wc.cell? ⟨gb251,0,none⟩ = some (.bool false):=(blk_cell BK251.out 0).trans rfl
          have hcz41_1 : wc.cell? ⟨gb251,1,none⟩ = some (.int .i64 0):=(blk_cell BK251.out 1).trans rfl
          have hfz41_0:=blk_frozen BK251.out 0
          have hfz41_1:=blk_frozen BK251.out 1
          go_wp2
          refine bodyPost_ret (results_ct rfl _ _ gb251 32 #[.bool false,.int .i64 0] (0,0) _ rfl (by (with_reducible repeat (first|refine blk_drewN ?_ _|refine blk_drew ?_|refine blk_alloc ?_ _));refine blk_put (cs:=#[.bool false,.int .i64 0]) ?_ 1 _ rfl;(with_reducible repeat (first|refine blk_drewN ?_ _|refine blk_drew ?_|refine blk_alloc ?_ _));refine blk_put (cs:=#[.bool false,.int .i64 0]) ?_ 0 _ rfl;(with_reducible repeat (first|refine blk_drewN ?_ _|refine blk_drew ?_|refine blk_alloc ?_ _));exact BK251.out) Tryz.underlying32 rfl (by kernel_rfl)) rfl ?_
          exact ⟨by first|rfl|(simp [errW_none,errW_some] <;> rfl)|(simp only [← hji29];first|rfl|(simp [errW_none,errW_some] <;> rfl))|(simp [*,errW_none,errW_some] <;> rfl),by repeat (first|(with_reducible first|exact HB.out|apply below_alloc|apply pw_below_drewN|apply below_drew1|refine below_set ?_ GE251.out)|exact HB.out)⟩
         replace c40:=Bool.eq_false_iff.mpr c40
         subst c40
         have H1 : (spillwayref2_Parse.l1 kj32 x0_11 x4_6 t254 x6_4 0 t255 0) = some (r1,r2,r3):=by rw [if_neg (show ¬ (false = true) by decide)] at H;exact H
         clear H
         have H:=H1
         clear H1
         have H':=Aside0.mk H
         clear H
         go_wp2
         go_loopg [8,10] kj32 (fun kq v8 v10 w'=>∃ (x8_6 : Int) (x10_6 : Int),v8 = .int .u64 x8_6 ∧ v10 = .int .i64 x10_6 ∧ Aside0 (spillwayref2_Parse.l1 kq x0_11 x4_6 t254 x6_4 x8_6 t255 x10_6 = some (r1,r2,r3)) ∧ Aside0 (kq ≤ kj32) ∧ Aside0 (w'.heap[gb251]? = some (.cells #[.bool false,.int .i64 0] 32 (0,0))) ∧ Aside0 (Below w.heap.size w w'))
         case atStart=>exact ⟨(0),(0),(by first|rfl|(simp;done)|(simp [*];done)),(by first|rfl|(simp;done)|(simp [*];done)),H',⟨Nat.le_refl _⟩,⟨by (with_reducible repeat (first|refine blk_drewN ?_ _|refine blk_drew ?_|refine blk_alloc ?_ _));exact BK251.out⟩,⟨by repeat (first|(with_reducible first|exact HB.out|apply below_alloc|apply pw_below_drewN|apply below_drew1|refine below_set ?_ GE251.out)|exact HB.out)⟩⟩
         clear H'
         try clear c1
         try clear p1
         try clear q1
         try clear hx1
         try clear qi1
         try clear c2
         try clear c2b0
         try clear c2b1
         try clear p2
         try clear q2
         try clear hx2
         try clear qi2
         try clear c3
         try clear p3
         try clear q3
         try clear hx3
         try clear c4
         try clear p6
         try clear c7
         try clear c9
         try clear c9b0
         try clear c9b1
         try clear c10
         try clear c10b0
         try clear c10b1
         try clear p11
         try clear q11
         try clear hx11
         try clear qi11
         try clear c13
         try clear c14
         try clear c14b0
         try clear c14b1
         try clear c17
         try clear c17b0
         try clear c18
         try clear c18b0
         try clear c19
         try clear c19b0
         try clear c20
         try clear c20b0
         try clear c20b1
         try clear p21
         try clear q21
         try clear hx21
         try clear qi21
         try clear c22
         try clear c24
         try clear c24b0
         try clear c25
         try clear c25b0
         try clear c26
         try clear c26b0
         try clear p27
         try clear q27
         try clear hx27
         try clear c28
         try clear c28b0
         try clear c30
         try clear c30b0
         try clear c30b1
         try clear c31
         try clear c31b0
         try clear c31b1
         try clear c34
         try clear c34b0
         try clear c35
         try clear c35b0
         try clear p36
         try clear q36
         try clear hx36
         try clear c37
         try clear c37b0
         try clear c37b1
         try clear c38
         try clear c38b0
         try clear c39
         try clear c39b0
         try clear c40
         try clear hcz23_0
         try clear hcz23_1
         try clear hcz41_0
         try clear hcz41_1
         try clear hcz6_0
         try clear hcz6_1
         try clear hfz23_0
         try clear hfz23_1
         try clear hfz41_0
         try clear hfz41_1
         try clear hfz6_0
         try clear hfz6_1
         try clear p1
         try clear p11
         try clear p2
         try clear p21
         try clear p27
         try clear p3
         try clear p36
         try clear p6
         try clear q1
         try clear q11
         try clear q2
         try clear q21
         try clear q27
         try clear q3
         try clear q36
         obtain ⟨x8_6,x10_6,rfl,rfl,HA,HK6,BK251,HB⟩:=hrel
         cases gk with
         | zero=>exact absurd HA.out (by simp [spillwayref2_Parse.l1])
         | succ k6 =>
          have H:=HA.out
          clear HA
          simp only [spillwayref2_Parse.l1] at H
          by_cases c42 : x10_6 < 6
          ·rw [if_pos c42] at H
           have c42b0 : decide (x10_6 < 6) = true:=decide_eq_true c42
           clear c42
           by_cases c43 : x10_6 < t255
           ·rw [if_pos c43] at H
            have c43b0 : decide (x10_6 < t255) = true:=decide_eq_true c43
            clear c43
            obtain ⟨ji44,hji44⟩ : ∃ j_ : Int,(wrap64 ((wrap64 (t254 + 1)) + x10_6)) = j_:=⟨_,rfl⟩
            replace H : (if 0 ≤ (ji44) then (if (ji44) < (x0_11.size : Int) then (spillwayref2_Parse.l1 k6 x0_11 x4_6 t254 x6_4 (IntKind.u64.wrap ((IntKind.u64.wrap (x8_6 * 10)) + (((bt x0_11 (ji44)) - 48) % 256))) t255 (wrap64 (x10_6 + 1))) else (none)) else (none)) = some (r1,r2,r3):=by first|(rw [hji44] at H;exact H)|(simp only [hji44] at H ⊢;exact H)
            have hji44w : (IntKind.i64.wrap ((wrap64 (t254 + 1)) + x10_6)) = ji44:=(i64_w _).trans hji44
            rw [hji29] at hji44 hji44w
            by_cases c45 : 0 ≤ (ji44)
            ·rw [if_pos c45] at H
             have c45b0 : decide (0 ≤ (ji44)) = true:=decide_eq_true c45
             clear c45
             by_cases c46 : (ji44) < (x0_11.size : Int)
             ·rw [if_pos c46] at H
              have c46b0 : decide ((ji44) < (x0_11.size : Int)) = true:=decide_eq_true c46
              clear c46
              have H':=Aside0.mk H
              clear H
              have p47 : 0 ≤ ((ji44) : Int):=of_decide_eq_true (by first|(with_reducible assumption)|assumption)
              have q47 : (ji44) < (x0_11.size : Int):=of_decide_eq_true (by first|(with_reducible assumption)|assumption)
              have hx47:=bt_at x0_11 (ji44)
              replace p47:=eq_true p47
              replace q47:=eq_true q47
              go_wp2
              go_roundg k6
              case measure=>have:=HJ6.out;have:=HJ11.out;have:=HJ15.out;have:=HK4.out;have:=HJ32.out;have:=HK6.out;omega
              case rel=>exact ⟨(IntKind.u64.wrap ((IntKind.u64.wrap (x8_6 * 10)) + (((bt x0_11 (ji44)) - 48) % 256))),(wrap64 (x10_6 + 1)),(by first|rfl|(simp;done)|(simp only [← hji44] <;> (first|rfl|simp))|(simp [*];done)),(by first|rfl|(simp;done)|(simp [*];done)),H',⟨by have:=HJ6.out;have:=HJ11.out;have:=HJ15.out;have:=HK4.out;have:=HJ32.out;have:=HK6.out;omega⟩,⟨by (with_reducible repeat (first|refine blk_drewN ?_ _|refine blk_drew ?_|refine blk_alloc ?_ _));exact BK251.out⟩,⟨by repeat (first|(with_reducible first|exact HB.out|apply below_alloc|apply pw_below_drewN|apply below_drew1|refine below_set ?_ GE251.out)|exact HB.out)⟩⟩
             rw [if_neg c46] at H
             exact absurd H (by simp)
            rw [if_neg c45] at H
            exact absurd H (by simp)
           rw [if_neg c43] at H
           have c43b0 : decide (x10_6 < t255) = false:=decide_eq_false c43
           clear c43
           have H':=Aside0.mk H
           clear H
           go_wp2
           go_roundg k6
           case measure=>have:=HJ6.out;have:=HJ11.out;have:=HJ15.out;have:=HK4.out;have:=HJ32.out;have:=HK6.out;omega
           case rel=>exact ⟨(IntKind.u64.wrap (x8_6 * 10)),(wrap64 (x10_6 + 1)),(by first|rfl|(simp;done)|(simp [*];done)),(by first|rfl|(simp;done)|(simp [*];done)),H',⟨by have:=HJ6.out;have:=HJ11.out;have:=HJ15.out;have:=HK4.out;have:=HJ32.out;have:=HK6.out;omega⟩,⟨by (with_reducible repeat (first|refine blk_drewN ?_ _|refine blk_drew ?_|refine blk_alloc ?_ _));exact BK251.out⟩,⟨by repeat (first|(with_reducible first|exact HB.out|apply below_alloc|apply pw_below_drewN|apply below_drew1|refine below_set ?_ GE251.out)|exact HB.out)⟩⟩
          rw [if_neg c42] at H
          have c42b0 : decide (x10_6 < 6) = false:=decide_eq_false c42
          clear c42
          replace H:=Option.bind_eq_some_iff.mp H
          obtain ⟨⟨t256,t257⟩,A480,H⟩:=H
          replace H : (some (t256,t257,true)) = some (r1,r2,r3):=H
          have A48:=Aside0.mk A480
          clear A480
          simp only [Option.some.injEq,Prod.mk.injEq] at H
          obtain ⟨rfl,rfl,rfl⟩:=H
          go_wp2_with (first|((with_reducible refine gate_callee (f:=76) rfl ?_);refine goesL_ (some 111) rfl rfl Tryz.func76 (by kernel_rfl) rfl #[.int .u64 (IntKind.u64.wrap ((IntKind.u64.wrap (x6_4 * 1000000)) + x8_6)),.bool x4_6] rfl (by (try simp only [List.map_toArray,List.map_cons,List.map_nil]);first|done|rfl|(simp only [List.length_drop,List.length_take];rfl)) ?_;(with_reducible refine (spillwayref2_signed.calls (IntKind.u64.wrap ((IntKind.u64.wrap (x6_4 * 1000000)) + x8_6)) x4_6 t256 t257 _ A48.out).mono ?_);rintro e w49 ⟨rfl,hb⟩;refine ⟨_,rfl,?_⟩;have n0_:=Aside0.mk (blk_below (g:=gb251) (o:=.cells #[.bool false,.int .i64 0] 32 (0,0)) (by (with_reducible repeat (first|refine blk_drewN ?_ _|refine blk_drew ?_|refine blk_alloc ?_ _));exact BK251.out) hb);have n1_:=Aside0.mk (below_step (by repeat (first|(with_reducible first|exact HB.out|apply below_alloc|apply pw_below_drewN|apply below_drew1|refine below_set ?_ GE251.out)|exact HB.out)) hb);clear BK251;clear HB;have BK251:=n0_;have HB:=n1_;clear n0_ n1_;(try clear hb);(try clear hb2);(try clear hk);(try clear hi);have hcz50_0 : w49.cell? ⟨gb251,0,none⟩ = some (.bool false):=(blk_cell BK251.out 0).trans rfl;have hcz50_1 : w49.cell? ⟨gb251,1,none⟩ = some (.int .i64 0):=(blk_cell BK251.out 1).trans rfl;have hfz50_0:=blk_frozen BK251.out 0;have hfz50_1:=blk_frozen BK251.out 1))
          refine bodyPost_ret (results_ct rfl _ _ gb251 32 #[.bool t256,.int .i64 t257] (0,0) _ rfl (by (with_reducible repeat (first|refine blk_drewN ?_ _|refine blk_drew ?_|refine blk_alloc ?_ _));refine blk_put (cs:=#[.bool t256,.int .i64 0]) ?_ 1 _ rfl;(with_reducible repeat (first|refine blk_drewN ?_ _|refine blk_drew ?_|refine blk_alloc ?_ _));refine blk_put (cs:=#[.bool false,.int .i64 0]) ?_ 0 _ rfl;(with_reducible repeat (first|refine blk_drewN ?_ _|refine blk_drew ?_|refine blk_alloc ?_ _));exact BK251.out) Tryz.underlying32 rfl (by kernel_rfl)) rfl ?_
          exact ⟨by first|rfl|(simp [errW_none,errW_some] <;> rfl)|(simp only [← hji29];first|rfl|(simp [errW_none,errW_some] <;> rfl))|(simp [*,errW_none,errW_some] <;> rfl),by repeat (first|(with_reducible first|exact HB.out|apply below_alloc|apply pw_below_drewN|apply below_drew1|refine below_set ?_ GE251.out)|exact HB.out)⟩
       rw [if_neg c31] at H
       exact absurd H (by simp)
      rw [if_neg c30] at H
      exact absurd H (by simp)
     rw [if_neg c28] at H
     have c28b0 : decide (t254 < (x0_11.size : Int)) = false:=decide_eq_false c28
     clear c28
     replace H:=Option.bind_eq_some_iff.mp H
     obtain ⟨⟨t258,t259⟩,A510,H⟩:=H
     replace H : (some (t258,t259,true)) = some (r1,r2,r3):=H
     have A51:=Aside0.mk A510
     clear A510
     simp only [Option.some.injEq,Prod.mk.injEq] at H
     obtain ⟨rfl,rfl,rfl⟩:=H
     go_wp2_with (first|((with_reducible refine gate_callee (f:=76) rfl ?_);refine goesL_ (some 111) rfl rfl Tryz.func76 (by kernel_rfl) rfl #[.int .u64 (IntKind.u64.wrap ((IntKind.u64.wrap (x6_4 * 1000000)) + 0)),.bool x4_6] rfl (by (try simp only [List.map_toArray,List.map_cons,List.map_nil]);first|done|rfl|(rw [Int.add_zero];rfl)|(simp only [Int.add_zero];done)|(simp [Int.add_zero];done)|(simp only [List.length_drop,List.length_take];rfl)) ?_;(with_reducible refine (spillwayref2_signed.calls (IntKind.u64.wrap ((IntKind.u64.wrap (x6_4 * 1000000)) + 0)) x4_6 t258 t259 _ A51.out).mono ?_);rintro e w52 ⟨rfl,hb⟩;refine ⟨_,rfl,?_⟩;have n0_:=Aside0.mk (blk_below (g:=gb251) (o:=.cells #[.bool false,.int .i64 0] 32 (0,0)) (by (with_reducible repeat (first|refine blk_drewN ?_ _|refine blk_drew ?_|refine blk_alloc ?_ _));exact BK251.out) hb);have n1_:=Aside0.mk (below_step (by repeat (first|(with_reducible first|exact HB.out|apply below_alloc|apply pw_below_drewN|apply below_drew1|refine below_set ?_ GE251.out)|exact HB.out)) hb);clear BK251;clear HB;have BK251:=n0_;have HB:=n1_;clear n0_ n1_;(try clear hb);(try clear hb2);(try clear hk);(try clear hi);have hcz53_0 : w52.cell? ⟨gb251,0,none⟩ = some (.bool false):=(blk_cell BK251.out 0).trans rfl;have hcz53_1 : w52.cell? ⟨gb251,1,none⟩ = some (.int .i64 0):=(blk_cell BK251.out 1).trans rfl;have hfz53_0:=blk_frozen BK251.out 0;have hfz53_1:=blk_frozen BK251.out 1))
     refine bodyPost_ret (results_ct rfl _ _ gb251 32 #[.bool t258,.int .i64 t259] (0,0) _ rfl (by (with_reducible repeat (first|refine blk_drewN ?_ _|refine blk_drew ?_|refine blk_alloc ?_ _));refine blk_put (cs:=#[.bool t258,.int .i64 0]) ?_ 1 _ rfl;(with_reducible repeat (first|refine blk_drewN ?_ _|refine blk_drew ?_|refine blk_alloc ?_ _));refine blk_put (cs:=#[.bool false,.int .i64 0]) ?_ 0 _ rfl;(with_reducible repeat (first|refine blk_drewN ?_ _|refine blk_drew ?_|refine blk_alloc ?_ _));exact BK251.out) Tryz.underlying32 rfl (by kernel_rfl)) rfl ?_
     exact ⟨by first|rfl|(simp [errW_none,errW_some] <;> rfl)|(simp [*,errW_none,errW_some] <;> rfl),by repeat (first|(with_reducible first|exact HB.out|apply below_alloc|apply pw_below_drewN|apply below_drew1|refine below_set ?_ GE251.out)|exact HB.out)⟩
end Go.Proofs.YtfgffjchphignaaGreatDoor.Print
end
section
namespace Go.Proofs.YtfgffjchphignaaGreatDoor.PureN
open Go.RowKit Go.Proofs.YtfgffjchphignaaGreatDoor.Print Go.Proofs.YtfgffjchphignaaGreatDoor.Pure Go.Proofs.YtfgffjchphignaaGreatDoorW.PrintWords Go.Proofs.YtfgffjchphignaaGreatDoorW.PrintLast Go.Proofs.YtfgffjchphignaaGreatDoorW.PrintMore
/-! The document's reading of a number's text. -/
def refS (r : Bool × Int × Int) : Bool × Int × Bool:=(r.1,r.2.1,r.2.2 == 0)
theorem rdigits_l0 (l : List UInt8) (hl : l.length ≤ 1000) (d : Nat) : ∀ (k i : Nat),i + d = l.length → d < k →
  spillwayref2_digits.l0 k ⟨l.toArray⟩ i = some ((i + ((l.drop i).takeWhile isD).length : Nat) : Int):=by
 induction d with
 | zero =>
  intro k i hi hk
  obtain ⟨m,rfl⟩ : ∃ m,k = m + 1:=⟨k - 1,by omega⟩
  obtain rfl : i = l.length:=by omega
  simp only [spillwayref2_digits.l0]
  rw [size_list,if_neg (by omega),List.drop_length]
  rfl
 | succ d ih =>
  intro k i hi hk
  obtain ⟨m,rfl⟩ : ∃ m,k = m + 1:=⟨k - 1,by omega⟩
  have hil : i < l.length:=by omega
  have e2 : wrap64 ((i : Int) + 1) = ((i + 1 : Nat) : Int):=by rw [wrap_id (by omega) (by omega)];omega
  have ed : l.drop i = l[i] :: l.drop (i + 1):=List.drop_eq_getElem_cons hil
  simp only [spillwayref2_digits.l0]
  rw [size_list,if_pos (by omega),if_pos (by omega),bt_list l i hil,e2,ed,List.takeWhile_cons]
  have no : isD l[i] = false → some ((i : Nat) : Int) = some ((i + (if isD l[i] = true then l[i] :: (l.drop (i + 1)).takeWhile isD else []).length : Nat) : Int):=fun hd=>by
   rw [hd]
   simp
  by_cases c1 : (l[i].toNat : Int) ≥ 48
  ·rw [if_pos c1]
   by_cases c2 : (l[i].toNat : Int) ≤ 57
   ·rw [if_pos c2,ih m (i + 1) (by omega) (by omega)]
    have : isD l[i] = true:=by unfold isD;simp;omega
    rw [if_pos this,List.length_cons]
    congr 2
    omega
   rw [if_neg c2]
   exact no (by unfold isD;simp;omega)
  rw [if_neg c1]
  exact no (by unfold isD;simp;omega)
theorem rdigits_eq (k : Nat) (l : List UInt8) (hl : l.length ≤ 1000) (hk : 1001 < k) : spillwayref2_digits.f k ⟨l.toArray⟩ = some (((l.takeWhile isD).length : Nat) : Int):=by
 have h:=rdigits_l0 l hl l.length k 0 (by omega) (by omega)
 unfold spillwayref2_digits.f
 simpa using h
theorem signed_eq (n : Nat) (minus : Bool) (h : n < 18446744073709551616) : spillwayref2_signed.f (n : Int) minus = some (sgn minus (n : Int)):=by
 unfold spillwayref2_signed.f sgn
 by_cases c : (n : Int) > 9223372036854775807
 ·rw [if_pos c,if_pos (by omega)]
  rfl
 have w1 : wrap64 (n : Int) = n:=wrap_id (by omega) (by omega)
 have w2 : wrap64 (-(n : Int)) = -n:=wrap_id (by omega) (by omega)
 have g2 : ¬ 9223372036854775807 < (n : Int):=by omega
 rw [if_neg c,if_neg g2,w1,w2]
 cases minus <;> rfl
theorem dig_val (c : UInt8) (h : isD c = true) : ((c.toNat : Int) - 48) % 256 = ((c.toNat - 48 : Nat) : Int) ∧ c.toNat - 48 ≤ 9:=by
 unfold isD at h
 simp at h
 omega
theorem w_add {K i : Nat} (h : K + 1 + i < 1000) : wrap64 (wrap64 ((K : Int) + 1) + (i : Int)) = ((K + 1 + i : Nat) : Int):=by
 rw [wrap_id (n:=(K : Int) + 1) (by omega) (by omega),wrap_id (by omega) (by omega)]
 omega
theorem w_add2 {K i : Nat} (h : K + i < 1000) : wrap64 (((K : Nat) : Int) + (i : Int)) = ((K + i : Nat) : Int):=by
 rw [wrap_id (by omega) (by omega)]
 omega
theorem w_succ {i : Nat} (h : i < 1000) : wrap64 ((i : Int) + 1) = ((i + 1 : Nat) : Int):=by
 rw [wrap_id (by omega) (by omega)]
 omega
theorem w_ten {V D : Nat} (hV : V < 10000000000000) (hD : D ≤ 9) : IntKind.u64.wrap (IntKind.u64.wrap ((V : Int) * 10) + (D : Int)) = ((V * 10 + D : Nat) : Int):=by
 rw [IntKind.wrap_u64,IntKind.wrap_u64]
 omega
theorem w_ten0 {V : Nat} (hV : V < 10000000000000) : IntKind.u64.wrap ((V : Int) * 10) = ((V * 10 + 0 : Nat) : Int):=by
 rw [IntKind.wrap_u64]
 omega
theorem w_mil {V v : Nat} (hV : V < 10000000000000) (hD : v < 1000000) : IntKind.u64.wrap (IntKind.u64.wrap ((V : Int) * 1000000) + (v : Int)) = ((V * 1000000 + v : Nat) : Int):=by
 rw [IntKind.wrap_u64,IntKind.wrap_u64]
 omega
theorem w_mil0 {V : Nat} (hV : V < 10000000000000) : IntKind.u64.wrap (IntKind.u64.wrap ((V : Int) * 1000000) + 0) = ((V * 1000000 : Nat) : Int):=by
 rw [IntKind.wrap_u64,IntKind.wrap_u64]
 omega
theorem v_lt13 {l : List UInt8} (h : l.all isD = true) (hl : l.length ≤ 13) : valN l < 10000000000000:=by
 have h1:=valN_lt l h
 have h2 : 10 ^ l.length ≤ 10 ^ 13:=Nat.pow_le_pow_right (by decide) hl
 exact Nat.lt_of_lt_of_le h1 h2
theorem v_part {p : List UInt8} (h : p.all isD = true) (hl : p.length ≤ 6) : valN p * 10 ^ (6 - p.length) < 1000000:=by
 have h1:=valN_lt p h
 have:=Nat.mul_lt_mul_of_pos_right h1 (Nat.pow_pos (n:=6 - p.length) (show 0 < 10 by decide))
 rw [← Nat.pow_add,Nat.add_sub_of_le hl] at this
 exact this
theorem val_snoc (l : List UInt8) (c : UInt8) : valN (l ++ [c]) = valN l * 10 + (c.toNat - 48):=by
 rw [valN_append,val_one]
 simp
/-- The whole part, digit by digit. -/
theorem rl0 (l : List UInt8) (K : Nat) (hK : K ≤ 13) (hKl : K ≤ l.length) (hd : (l.take K).all isD = true) (minus : Bool) (d : Nat) : ∀ (k i : Nat),i + d = K →
  spillwayref2_Parse.l0 (k + d) ⟨l.toArray⟩ minus K (valN (l.take i) : Int) i = spillwayref2_Parse.l0 k ⟨l.toArray⟩ minus K (valN (l.take K) : Int) K:=by
 induction d with
 | zero =>
  intro k i hi
  obtain rfl : i = K:=by omega
  rfl
 | succ d ih =>
  intro k i hi
  have hil : i < l.length:=by omega
  have ht : l.take (i + 1) = l.take i ++ [l[i]]:=by rw [List.take_succ_eq_append_getElem hil]
  have hmem : l[i] ∈ l.take K:=by
   rw [List.mem_take_iff_getElem]
   exact ⟨i,by omega,rfl⟩
  have hdi:=List.all_eq_true.1 hd _ hmem
  obtain ⟨v1,v2⟩:=dig_val _ hdi
  have hall : (l.take i).all isD = true:=by
   rw [List.all_eq_true] at hd ⊢
   intro c hc
   have hs : l.take i = (l.take K).take i:=by rw [List.take_take,Nat.min_eq_left (by omega)]
   rw [hs] at hc
   exact hd c (List.mem_of_mem_take hc)
  have hV:=v_lt13 hall (by rw [List.length_take];omega)
  have h6 : (i : Int) < (K : Int):=by omega
  have h7 : (0 : Int) ≤ (i : Int):=by omega
  have h8 : (i : Int) < (l.length : Int):=by omega
  have h9 : i + 1 + d = K:=by omega
  have e2:=w_succ (i:=i) (by omega)
  have e6:=w_ten hV v2
  refine Eq.trans ?_ (ih k (i + 1) h9)
  rw [show k + (d + 1) = (k + d) + 1 from rfl]
  conv=>lhs;unfold spillwayref2_Parse.l0
  rw [size_list,if_pos h6,if_pos h7,if_pos h8,bt_list l i hil,v1,e2,ht,val_snoc,e6]
set_option maxHeartbeats 4000000 in
/-- The part behind the point, filled with noughts. -/
theorem rl1 (l p : List UInt8) (K : Nat) (hK : K ≤ 13) (hl : l.length = K + 1 + p.length) (hlp : l.drop (K + 1) = p) (hp : p.all isD = true) (hp6 : p.length ≤ 6) (minus : Bool) (x6 : Int) (d : Nat) : ∀ (k i : Nat),i + d = 6 →
  spillwayref2_Parse.l1 (k + d) ⟨l.toArray⟩ minus K x6 (valN ((p ++ List.replicate (6 - p.length) 48).take i) : Int) p.length i = spillwayref2_Parse.l1 k ⟨l.toArray⟩ minus K x6 (valN (p ++ List.replicate (6 - p.length) 48) : Int) p.length 6:=by
 induction d with
 | zero =>
  intro k i hi
  obtain rfl : i = 6:=by omega
  rw [List.take_of_length_le (by simp;omega),Nat.add_zero,show ((6 : Nat) : Int) = 6 from rfl]
 | succ d ih =>
  intro k i hi
  have hi6 : (i : Int) < 6:=by omega
  obtain ⟨P,hP⟩ : ∃ P,p ++ List.replicate (6 - p.length) 48 = P:=⟨_,rfl⟩
  have hPl : P.length = 6:=by rw [← hP];simp;omega
  have hPa : P.all isD = true:=by
   rw [← hP,List.all_append,hp]
   simp [isD]
  rw [hP] at ih ⊢
  have hiP : i < P.length:=by omega
  have ht : P.take (i + 1) = P.take i ++ [P[i]]:=by rw [List.take_succ_eq_append_getElem hiP]
  have hdi:=List.all_eq_true.1 hPa _ (List.getElem_mem hiP)
  obtain ⟨v1,v2⟩:=dig_val _ hdi
  have hall : (P.take i).all isD = true:=by
   rw [List.all_eq_true] at hPa ⊢
   exact fun c hc=>hPa c (List.mem_of_mem_take hc)
  have hV:=v_lt13 hall (by rw [List.length_take];omega)
  have h9 : i + 1 + d = 6:=by omega
  have hb : ∀ h : i < p.length,K + 1 + i < l.length ∧ K + 1 + i < 1000:=by omega
  have e2:=w_succ (i:=i) (by omega)
  have e6:=w_ten hV v2
  refine Eq.trans ?_ (ih k (i + 1) h9)
  rw [show k + (d + 1) = (k + d) + 1 from rfl]
  conv=>lhs;unfold spillwayref2_Parse.l1
  rw [if_pos hi6,e2,ht,val_snoc]
  by_cases c : (i : Int) < (p.length : Int)
  ·have hip : i < p.length:=Int.ofNat_lt.1 c
   obtain ⟨hil,h10⟩:=hb hip
   have e3:=w_add h10
   have h7 : (0 : Int) ≤ ((K + 1 + i : Nat) : Int):=Int.natCast_nonneg _
   have h8 : ((K + 1 + i : Nat) : Int) < (l.length : Int):=Int.ofNat_lt.2 hil
   have e4 : l[K + 1 + i] = P[i]:=by
    have h1 : (l.drop (K + 1))[i]? = p[i]?:=by rw [hlp]
    rw [List.getElem?_drop,List.getElem?_eq_getElem hil,List.getElem?_eq_getElem hip] at h1
    have h2 : (p ++ List.replicate (6 - p.length) 48)[i]? = P[i]?:=by rw [hP]
    rw [List.getElem?_append_left hip,List.getElem?_eq_getElem hip,List.getElem?_eq_getElem hiP] at h2
    exact (Option.some.inj h1).trans (Option.some.inj h2)
   rw [if_pos c,size_list,e3,if_pos h7,if_pos h8,bt_list l (K + 1 + i) hil,e4,v1,e6]
  have e4 : P[i] = 48:=by
   subst hP
   rw [List.getElem_append_right (Nat.not_lt.1 (fun h=>c (Int.ofNat_lt.2 h))),List.getElem_replicate]
  have e5 : P[i].toNat - 48 = 0:=by rw [e4];rfl
  have e7:=w_ten0 hV
  rw [if_neg c,e5,e7]
theorem j2_err (k : Nat) (s : ByteArray) (m : Bool) (t : Int) (hk : 0 < k) : spillwayref2_Parse.j2 k s m t true = some (refS errS):=by
 obtain ⟨k,rfl⟩ : ∃ m,k = m + 1:=⟨k - 1,by omega⟩
 simp only [spillwayref2_Parse.j2,if_true]
 rfl
theorem j4_err (k : Nat) (s : ByteArray) (m : Bool) (a b c d : Int) (hk : 0 < k) : spillwayref2_Parse.j4 k s m a b c d true = some (refS errS):=by
 obtain ⟨k,rfl⟩ : ∃ m,k = m + 1:=⟨k - 1,by omega⟩
 simp only [spillwayref2_Parse.j4,if_true]
 rfl
theorem ref_ok (minus : Bool) (n : Nat) (h : n < 18446744073709551616) : ((spillwayref2_signed.f (n : Int) minus).bind fun bt=>some (bt.1,bt.2,true)) = some (refS (okS (sgn minus (n : Int)))):=by
 rw [signed_eq n minus h]
 rfl
def tailS (neg : Bool) (D r : List UInt8) : Bool × Int × Int :=
 match r with
 | []=>okS (sgn neg ((valN D * 1000000 : Nat) : Int))
 | c :: p=>if c = 46 ∧ partOk p = true then okS (sgn neg ((valN D * 1000000 + valN p * 10 ^ (6 - p.length) : Nat) : Int)) else errS
theorem parseT_eq (neg : Bool) (t : List UInt8) : parseT neg t = if headOk (t.takeWhile isD) = true then tailS neg (t.takeWhile isD) (t.dropWhile isD) else errS:=by
 unfold parseT tailS
 cases t.dropWhile isD <;> rfl
set_option maxHeartbeats 8000000 in
theorem rj1 (k : Nat) (minus : Bool) (l : List UInt8) (hl : l.length ≤ 620) (hk : 1500 < k) : spillwayref2_Parse.j1 k ⟨l.toArray⟩ minus = some (refS (parseT minus l)):=by
 obtain ⟨k,rfl⟩ : ∃ m,k = m + 4:=⟨k - 4,by omega⟩
 have hs:=List.takeWhile_append_dropWhile (p:=isD) (l:=l)
 have hm:=List.all_eq_true.2 (takeWhile_mem (p:=isD) l)
 simp only [spillwayref2_Parse.j1]
 rw [rdigits_eq (k + 3) l (by omega) (by omega),Option.bind_some]
 rw [parseT_eq]
 obtain ⟨D,hD⟩ : ∃ D,l.takeWhile isD = D:=⟨_,rfl⟩
 obtain ⟨r,hr⟩ : ∃ r,l.dropWhile isD = r:=⟨_,rfl⟩
 rw [hD,hr] at hs
 rw [hD] at hm ⊢
 rw [hr]
 have hlen : D.length + r.length = l.length:=by rw [← hs,List.length_append]
 unfold headOk
 by_cases c1 : (D.length : Int) < 1
 ·rw [if_pos c1,j2_err _ _ _ _ (by omega),decide_eq_false (show ¬ 1 ≤ D.length by omega)]
  rfl
 rw [if_neg c1,decide_eq_true (show 1 ≤ D.length by omega)]
 by_cases c2 : (D.length : Int) > 13
 ·rw [if_pos c2,j2_err _ _ _ _ (by omega),decide_eq_false (show ¬ D.length ≤ 13 by omega)]
  rfl
 rw [if_neg c2,decide_eq_true (show D.length ≤ 13 by omega)]
 have htake : l.take D.length = D:=by rw [← hs,List.take_left]
 have hdrop : l.drop D.length = r:=by rw [← hs,List.drop_left]
 have hDl : D.length ≤ 13:=by omega
 have hDV:=v_lt13 hm hDl
 have tail : spillwayref2_Parse.j2 (k + 3) ⟨l.toArray⟩ minus (D.length : Int) false = some (refS (tailS minus D r)):=by
  unfold tailS
  simp only [spillwayref2_Parse.j2,Bool.false_eq_true,if_false]
  have h0:=rl0 l D.length (by omega) (by omega) (by rw [htake];exact hm) minus D.length (k + 2 - D.length) 0 (by omega)
  rw [show k + 2 - D.length + D.length = k + 2 by omega,htake,List.take_zero] at h0
  refine Eq.trans h0 ?_
  obtain ⟨J,hJ⟩ : ∃ J : Nat,k + 2 - D.length = J + 8:=⟨k - 6 - D.length,by omega⟩
  rw [hJ]
  unfold spillwayref2_Parse.l0
  rw [size_list,if_neg (by omega)]
  cases r with
  | nil =>
   simp only [List.length_nil] at hlen
   have hb : valN D * 1000000 < 18446744073709551616:=by omega
   rw [if_neg (by omega),w_mil0 hDV]
   exact ref_ok minus _ hb
  | cons c p =>
   simp only [List.length_cons] at hlen
   have hpd : l.drop (D.length + 1) = p:=by rw [← List.drop_drop,hdrop];rfl
   have hlt : D.length < l.length:=by omega
   have hc : l[D.length] = c:=by
    have:=List.drop_eq_getElem_cons hlt
    rw [hdrop] at this
    injection this with h1 h2
    exact h1.symm
   have hp500 : p.length ≤ 1000:=by omega
   have hJ7 : 1001 < J + 7:=by omega
   have f1 : (l.length : Int) > (D.length : Int):=by omega
   have f2 : (0 : Int) ≤ ((D.length + 1 : Nat) : Int):=by omega
   have f3 : ((D.length + 1 : Nat) : Int) ≤ (l.length : Int):=by omega
   have f4 : (0 : Int) ≤ (D.length : Int):=by omega
   have f5 : (D.length : Int) < (l.length : Int):=by omega
   have e1:=w_succ (i:=D.length) (by omega)
   rw [if_pos f1,e1,if_pos f2,if_pos f3,Int.toNat_natCast,extract_list,hpd,rdigits_eq (J + 7) p hp500 hJ7,Option.bind_some,if_pos f4,if_pos f5,bt_list l D.length hlt,hc]
   clear e1
   simp only
   by_cases g : c = 46
   ·subst g
    rw [if_pos (by rfl)]
    have hps:=List.takeWhile_append_dropWhile (p:=isD) (l:=p)
    have hpl:=congrArg List.length hps
    rw [List.length_append] at hpl
    have hpall : (p.takeWhile isD).length = p.length ↔ p.all isD = true:=by
     constructor
     ·intro h
      have : p.dropWhile isD = []:=List.eq_nil_of_length_eq_zero (by omega)
      rw [this,List.append_nil] at hps
      rw [← hps]
      exact List.all_eq_true.2 (takeWhile_mem (p:=isD) p)
     intro h
     rw [takeWhile_all p (List.all_eq_true.1 h)]
    unfold partOk
    by_cases g1 : ((p.takeWhile isD).length : Int) < 1
    ·rw [if_pos g1,j4_err _ _ _ _ _ _ _ (by omega)]
     have : ¬ (p.all isD && decide (1 ≤ p.length) && decide (p.length ≤ 6)) = true:=by
      intro h
      simp only [Bool.and_eq_true,decide_eq_true_eq] at h
      have:=hpall.2 h.1.1
      omega
     rw [if_neg (fun h=>this h.2)]
    rw [if_neg g1]
    by_cases g2 : ((p.takeWhile isD).length : Int) > 6
    ·rw [if_pos g2,j4_err _ _ _ _ _ _ _ (by omega)]
     have : ¬ (p.all isD && decide (1 ≤ p.length) && decide (p.length ≤ 6)) = true:=by
      intro h
      simp only [Bool.and_eq_true,decide_eq_true_eq] at h
      have:=hpall.2 h.1.1
      omega
     rw [if_neg (fun h=>this h.2)]
    rw [if_neg g2]
    rw [w_add2 (K:=D.length + 1) (i:=(p.takeWhile isD).length) (by omega)]
    by_cases g3 : (p.takeWhile isD).length = p.length
    ·have hpa:=hpall.1 g3
     rw [g3,show (((D.length + 1 + p.length : Nat) : Int) != (l.length : Int)) = false by rw [bne_eq_false_iff_eq];omega]
     rw [g3] at g1 g2
     have : (p.all isD && decide (1 ≤ p.length) && decide (p.length ≤ 6)) = true:=by
      rw [hpa,decide_eq_true (show 1 ≤ p.length by omega),decide_eq_true (show p.length ≤ 6 by omega)]
      rfl
     rw [if_pos ⟨rfl,this⟩]
     simp only [spillwayref2_Parse.j4,Bool.false_eq_true,if_false]
     have h1:=rl1 l p D.length (by omega) (by omega) hpd hpa (by omega) minus (valN D : Int) 6 J 0 (by omega)
     rw [List.take_zero] at h1
     refine Eq.trans h1 ?_
     obtain ⟨I,rfl⟩ : ∃ I : Nat,J = I + 1:=⟨J - 1,by omega⟩
     unfold spillwayref2_Parse.l1
     rw [if_neg (by omega),valN_append,valN_zeros,List.length_replicate,Nat.add_zero]
     have hb:=v_part hpa (by omega)
     generalize valN p * 10 ^ (6 - p.length) = v at *
     have hbb : valN D * 1000000 + v < 18446744073709551616:=by omega
     rw [w_mil hDV hb]
     exact ref_ok minus _ hbb
    rw [show (((D.length + 1 + (p.takeWhile isD).length : Nat) : Int) != (l.length : Int)) = true by rw [bne_iff_ne];omega,j4_err _ _ _ _ _ _ _ (by omega)]
    have : ¬ (p.all isD && decide (1 ≤ p.length) && decide (p.length ≤ 6)) = true:=by
     intro h
     simp only [Bool.and_eq_true,decide_eq_true_eq] at h
     exact g3 (hpall.2 h.1.1)
    rw [if_neg (fun h=>this h.2)]
   have : ¬ ((c.toNat : Int) = 46):=by
    intro h
    apply g
    apply UInt8.toNat_inj.1
    have : (46 : UInt8).toNat = 46:=rfl
    omega
   rw [if_neg this,j4_err _ _ _ _ _ _ _ (by omega),if_neg (fun h=>g h.1)]
 by_cases c3 : (D.length : Int) > 1
 ·have hhead : (bt ⟨l.toArray⟩ 0 = 48) ↔ D.head? = some 48:=by
   rw [head_bt l (by omega),← hs]
   cases D with
   | nil=>simp at c3
   | cons c D=>simp
  rw [if_pos c3,size_list,if_pos (by omega),decide_eq_true (show 1 < D.length by omega)]
  by_cases g : bt ⟨l.toArray⟩ 0 = 48
  ·rw [show (bt ⟨l.toArray⟩ 0 == 48) = true from beq_iff_eq.2 g,j2_err _ _ _ _ (by omega),hhead.1 g]
   rfl
  have : (D.head? == some 48) = false:=beq_eq_false_iff_ne.2 (fun e=>g (hhead.2 e))
  rw [show (bt ⟨l.toArray⟩ 0 == 48) = false from beq_eq_false_iff_ne.2 g,this,if_pos (by rfl)]
  exact tail
 rw [if_neg c3,decide_eq_false (show ¬ 1 < D.length by omega),if_pos (by rfl)]
 exact tail
theorem refparse_eq (k : Nat) (l : List UInt8) (hl : l.length ≤ 620) (hk : 1600 < k) : spillwayref2_Parse.f k ⟨l.toArray⟩ = some (refS (parseS l)):=by
 obtain ⟨k,rfl⟩ : ∃ m,k = m + 1:=⟨k - 1,by omega⟩
 unfold spillwayref2_Parse.f parseS
 rw [toList_list]
 by_cases h : l = [111,118,102]
 ·rw [if_pos h,if_pos h]
  rfl
 rw [if_neg h,if_neg h,size_list]
 cases l with
 | nil =>
  rw [if_neg (by simp)]
  simp only [spillwayref2_Parse.j0,Bool.false_eq_true,if_false]
  rw [rj1 k false [] (by simp) (by omega)]
  rfl
 | cons c r =>
  have hb:=bt_list (c :: r) 0 (by simp)
  rw [show (((0 : Nat) : Int)) = 0 from rfl,List.getElem_cons_zero] at hb
  rw [if_pos (by simp only [List.length_cons];omega),if_pos (by simp only [List.length_cons];omega),hb,List.head?_cons,List.tail_cons]
  by_cases g : c = 45
  ·subst g
   rw [if_pos rfl]
   simp only [spillwayref2_Parse.j0]
   rw [if_pos (by rfl),size_list,if_pos (by simp;omega),extract_list]
   exact rj1 k true r (by simp at hl;omega) (by omega)
  have : ((c.toNat : Int) == 45) = false:=by
   rw [beq_eq_false_iff_ne]
   intro h
   apply g
   apply UInt8.toNat_inj.1
   have : (45 : UInt8).toNat = 45:=rfl
   omega
  rw [this,if_neg (by simpa using g)]
  simp only [spillwayref2_Parse.j0,Bool.false_eq_true,if_false]
  exact rj1 k false (c :: r) hl (by omega)
end Go.Proofs.YtfgffjchphignaaGreatDoor.PureN
end
section
namespace Go.Proofs.YtfgffjchphignaaGreatDoor.PureN
open Go.RowKit Go.Proofs.YtfgffjchphignaaGreatDoor.Print
open Go.Proofs.YtfgffjchphignaaGreatDoorX Go.Proofs.YtfgffjchphignaaGreatDoorW.PrintWords Go.Proofs.YtfgffjchphignaaGreatDoorW.PrintLast Go.Proofs.YtfgffjchphignaaGreatDoorW.PrintMore
/-! The document's whole numbers. -/
theorem val_lt : ∀ (l : List UInt8) (a : Nat),l.all isD = true → valF a l < (a + 1) * 10 ^ l.length
 | [],a,_=>by simp [valF]
 | c :: l,a,h=>by
  rw [List.all_cons,Bool.and_eq_true] at h
  obtain ⟨h1,h2⟩:=isD_le h.1
  have ih:=val_lt l (a * 10 + (c.toNat - 48)) h.2
  show valF (a * 10 + (c.toNat - 48)) l < _
  rw [List.length_cons,Nat.pow_succ]
  refine Nat.lt_of_lt_of_le ih ?_
  have : a * 10 + (c.toNat - 48) + 1 ≤ (a + 1) * 10:=by omega
  calc (a * 10 + (c.toNat - 48) + 1) * 10 ^ l.length ≤ ((a + 1) * 10) * 10 ^ l.length:=Nat.mul_le_mul_right _ this
   _ = (a + 1) * (10 ^ l.length * 10):=by rw [Nat.mul_assoc,Nat.mul_comm 10]
theorem val_small (l : List UInt8) (h : l.all isD = true) (hl : l.length ≤ 7) : valN l < 10000000:=by
 have h1:=val_lt l 0 h
 rw [Nat.zero_add,Nat.one_mul] at h1
 have h2 : 10 ^ l.length ≤ 10 ^ 7:=Nat.pow_le_pow_right (by omega) hl
 have h3 : (10 : Nat) ^ 7 = 10000000:=by decide
 exact Nat.lt_of_lt_of_le h1 (h3 ▸ h2)
theorem whole_step (v : Nat) (c : UInt8) (hv : v < 10000000) (h1 : 48 ≤ c.toNat) (h2 : c.toNat ≤ 57) : wrap64 ((wrap64 (10 * (v : Int))) + (((c.toNat : Int) - 48) % 256)) = ((v * 10 + (c.toNat - 48) : Nat) : Int):=by
 unfold wrap64
 omega
theorem rwhole_loop (l : List UInt8) (hd : l.all isD = true) (hl : l.length ≤ 7) (d : Nat) : ∀ (i k : Nat),i + d = l.length → d < k → spillwayref2_Whole.l0 k (ofL l) (valN (l.take i) : Nat) (i : Int) = some ((valN l : Nat) : Int):=by
 induction d with
 | zero =>
  intro i k h hk
  obtain ⟨k,rfl⟩ : ∃ m,k = m + 1:=⟨k - 1,by omega⟩
  rw [spillwayref2_Whole.l0,ofL_size,if_neg (by omega),List.take_of_length_le (by omega)]
 | succ d ih =>
  intro i k h hk
  obtain ⟨k,rfl⟩ : ∃ m,k = m + 1:=⟨k - 1,by omega⟩
  have hi : i < l.length:=by omega
  have hc:=isD_le (List.all_eq_true.1 hd l[i] (List.getElem_mem hi))
  have hts : (l.take i).all isD = true:=by
   rw [List.all_eq_true] at hd ⊢
   exact fun x hx=>hd x (List.mem_of_mem_take hx)
  have hv:=val_small (l.take i) hts (by rw [List.length_take];omega)
  have hsn : valN (l.take (i + 1)) = valN (l.take i) * 10 + (l[i].toNat - 48):=by
   rw [List.take_succ_eq_append_getElem hi,valN_snoc]
  have hb : bt (ofL l) (i : Int) = (l[i].toNat : Int):=bt_list l i hi
  rw [spillwayref2_Whole.l0,ofL_size,if_pos (by omega),if_pos (by omega),hb,whole_step _ _ hv hc.1 hc.2,wrap_succ i (by omega),← hsn]
  exact ih (i + 1) k (by omega) (by omega)
theorem rwhole_eq (l : List UInt8) (hl : l.length ≤ 300) (k : Nat) (hk : 1010 < k) : ∃ v : Int,spillwayref2_Whole.f k (ofL l) 7 = some v ∧ ((0 ≤ v ∧ v ≤ 1000000 ∧ timeS l = some v) ∨ ((v < 0 ∨ 1000000 < v) ∧ timeS l = none)):=by
 obtain ⟨k,rfl⟩ : ∃ m,k = m + 1:=⟨k - 1,by omega⟩
 have hbad : ∀ b,b = true → spillwayref2_Whole.j0 (k + 1) (ofL l) b = some (-1):=fun b hb=>by rw [spillwayref2_Whole.j0,if_pos hb]
 have none1 : ¬ (1 ≤ l.length ∧ l.length ≤ 7 ∧ l.all isD = true ∧ ¬ (1 < l.length ∧ l.head? = some 48) ∧ valN l ≤ 1000000) → timeS l = none:=fun h=>by unfold timeS;rw [if_neg h]
 have hdig:=rdigits_eq (k + 1) l (by omega) (by omega)
 have hall : (((l.takeWhile isD).length : Nat) : Int) = (l.length : Int) ↔ l.all isD = true:=by
  constructor
  ·intro h
   have h1 : (l.takeWhile isD).length = l.length:=by omega
   have h2 : l.takeWhile isD = l:=(List.takeWhile_sublist _).eq_of_length h1
   rw [← h2]
   exact List.all_takeWhile
  intro h
  rw [(tw_whole l h).1]
 have tail : 1 ≤ l.length → l.length ≤ 7 → ¬ (1 < l.length ∧ l.head? = some 48) → ∃ v : Int,((spillwayref2_digits.f (k + 1) (ofL l)).bind fun t=>spillwayref2_Whole.j0 (k + 1) (ofL l) (t != (l.length : Int))) = some v ∧ ((0 ≤ v ∧ v ≤ 1000000 ∧ timeS l = some v) ∨ ((v < 0 ∨ 1000000 < v) ∧ timeS l = none)):=by
  intro h1 h7 h48
  rw [hdig,Option.bind_some]
  by_cases ha : l.all isD = true
  ·rw [bne_eq_false_iff_eq.2 (hall.2 ha),spillwayref2_Whole.j0,if_neg (by simp)]
   have hlp:=rwhole_loop l ha h7 l.length 0 k (by omega) (by omega)
   have h0 : ((valN (l.take 0) : Nat) : Int) = 0:=rfl
   rw [h0,show ((0 : Nat) : Int) = 0 from rfl] at hlp
   refine ⟨_,hlp,?_⟩
   by_cases hv : valN l ≤ 1000000
   ·left
    refine ⟨by omega,by omega,?_⟩
    unfold timeS
    rw [if_pos ⟨h1,h7,ha,h48,hv⟩]
   right
   exact ⟨.inr (by omega),none1 (fun h=>hv h.2.2.2.2)⟩
  rw [hbad _ (bne_iff_ne.2 (fun e=>ha (hall.1 e)))]
  exact ⟨-1,rfl,.inr ⟨.inl (by omega),none1 (fun h=>ha h.2.2.1)⟩⟩
 unfold spillwayref2_Whole.f
 rw [ofL_size]
 by_cases h1 : 1 ≤ l.length
 ·rw [if_neg (by omega)]
  by_cases h7 : l.length ≤ 7
  ·rw [if_neg (by omega)]
   by_cases h2 : 1 < l.length
   ·rw [if_pos (by omega),if_pos (by omega)]
    obtain ⟨c,r,rfl⟩:=List.exists_cons_of_ne_nil (show l ≠ [] from fun e=>by rw [e] at h1;simp at h1)
    have hb0 : bt (ofL (c :: r)) 0 = (c.toNat : Int):=bt_list (c :: r) 0 (by simp)
    rw [hb0]
    by_cases h48 : c = 48
    ·rw [if_pos (show (c.toNat : Int) = 48 by rw [h48];rfl),hbad _ rfl]
     exact ⟨-1,rfl,.inr ⟨.inl (by omega),none1 (fun h=>h.2.2.2.1 ⟨h2,by rw [h48];rfl⟩)⟩⟩
    rw [if_neg (show ¬ (c.toNat : Int) = 48 from fun e=>h48 ((toNat_is c 48 (by omega)).1 e))]
    exact tail h1 h7 (fun h=>h48 (by simpa using h.2))
   rw [if_neg (by omega)]
   exact tail h1 h7 (fun h=>h2 h.1)
  rw [if_pos (by omega),hbad _ rfl]
  exact ⟨-1,rfl,.inr ⟨.inl (by omega),none1 (fun h=>h7 h.2.1)⟩⟩
 rw [if_pos (by omega),hbad _ rfl]
 exact ⟨-1,rfl,.inr ⟨.inl (by omega),none1 (fun h=>h1 h.1)⟩⟩
end Go.Proofs.YtfgffjchphignaaGreatDoor.PureN
end
section
namespace Go.Proofs.YtfgffjchphignaaGreatDoor.Print
open Go.Sort Go.Shelf PureN
open Go.RowKit Go.Proofs.YtfgffjchphignaaGreatDoorX Go.Proofs.YtfgffjchphignaaGreatDoorW.PrintWords Go.Proofs.YtfgffjchphignaaGreatDoorW.PrintLast Go.Proofs.YtfgffjchphignaaGreatDoorW.PrintMore
/-! spillwayref6.Line: the walk. -/
/-- How it comes back. -/
theorem rline_ret {a : Act} {w w1 : World} {g : Nat} {v0 : Value} {o : List S60 × Bool × Int × Int × Bool × Int × Int} (hd : a.defers = []) (hp : a.tmps.getD 2 undef = .pointer (some ⟨g,0,none⟩)) (hu : a.tmps.getD 3 undef = .int .i64 o.2.2.2.2.2.2)
  (hg : w1.heap[g]? = some (.cells #[v0,.bool o.2.1,.int .i64 o.2.2.1,.int .i64 o.2.2.2.1,.bool o.2.2.2.2.1,.int .i64 o.2.2.2.2.2.1] 34 (0,0))) (hR : Kd.R k60 60 w1 w.heap.size (fun _=>True) v0 o.1) (hb : Below w.heap.size w w1) :
  bodyPost Tryz.prog Tryz.f13 (RLine w o) .ret a w1:=by
 have h:=results_ct (P:=Tryz.prog) (fn:=Tryz.f13) (p:=2) (u:=3) (ty:=34) rfl a.tmps w1 g 34 _ (0,0) _ hp hg Tryz.underlying34 rfl (by kernel_rfl)
 rw [hu] at h
 exact ⟨hd,_,h,v0,rfl,hR,hb⟩
set_option maxHeartbeats 4000000 in
set_option maxRecDepth 100000 in
theorem rline_long (s : ByteArray) (w : World) (h : 300 < s.size) : Calls Tryz.prog 13 #[.string s] w (RLine w ([],false,0,0,false,0,11)):=by
 have q1 : decide ((300 : Int) < (s.size : Int)) = true:=decide_eq_true (by omega)
 have q2 : decide (300 < s.size) = true:=decide_eq_true h
 clear h
 go_enter Tryz.func13,Tryz.ntmps13
 go_wp2_with (fail)
 exact rline_ret rfl rfl rfl (heap_alloc_new _ _) (Kd.R_nil _ _ _ _ _) (below_alloc (Below.refl _ _) _)
set_option maxHeartbeats 4000000 in
set_option maxRecDepth 100000 in
theorem rline_form (s : ByteArray) (w : World) (h : s.size ≤ 300) (W : List ByteArray) (hW : spillwayref6_Words.f 1000 s = some W) (hn : W.length < 2 ∨ 3 < W.length) : Calls Tryz.prog 13 #[.string s] w (RLine w ([],false,0,0,false,0,12)):=by
 have q1 : decide ((300 : Int) < (s.size : Int)) = false:=decide_eq_false (by omega)
 have q2 : decide (300 < s.size) = false:=decide_eq_false (by omega)
 have hb0 : (w.alloc (.cells zero34 34)).heap[w.heap.size]? = some (.cells zero34 34 (0,0)):=heap_alloc_new _ _
 have hwc:=spillwayref6_Words.calls 1000 s W (w.alloc (.cells zero34 34)) hW
 have HB0:=Aside0.mk (below_alloc (Below.refl w.heap.size w) (.cells zero34 34))
 have BX:=Aside0.mk hb0
 clear h hW hb0
 go_enter Tryz.func13,Tryz.ntmps13
 go_wp2_with (fail)
 refine hwc.mono ?_
 rintro e1 w1 ⟨v,rfl,ho,hb⟩
 obtain ⟨A1,c1,rfl⟩:=Kd.R_slice ho
 have BX1:=Aside0.mk ((hb.block _ (blk_lt BX.out)).trans BX.out)
 have HB1:=Aside0.mk (below_step HB0.out hb)
 obtain ⟨⟨x0,x1,x2,x3,x4,x5⟩,⟨f0,f1,f2,f3,f4,f5⟩⟩:=cel6 BX1.out
 clear ho hb BX HB0 hwc
 rcases hn with hn|hn
 ·have k1 : decide (W.length < 2) = true:=decide_eq_true hn
  have k2 : decide ((W.length : Int) < 2) = true:=decide_eq_true (by omega)
  go_wp2_with (fail)
  exact rline_ret rfl rfl rfl (blk6 BX1.out _ _ _ _ _ _) (Kd.R_nil _ _ _ _ _) (bel6 HB1.out (Nat.le_refl _) _ _ _ _ _ _)
 have k1 : decide (W.length < 2) = false:=decide_eq_false (by omega)
 have k2 : decide ((W.length : Int) < 2) = false:=decide_eq_false (by omega)
 have k3 : decide (3 < W.length) = true:=decide_eq_true hn
 have k4 : decide ((3 : Int) < (W.length : Int)) = true:=decide_eq_true (by omega)
 go_wp2_with (fail)
 exact rline_ret rfl rfl rfl (blk6 BX1.out _ _ _ _ _ _) (Kd.R_nil _ _ _ _ _) (bel6 HB1.out (Nat.le_refl _) _ _ _ _ _ _)
set_option maxHeartbeats 8000000 in
set_option maxRecDepth 100000 in
theorem rline_rest (s : ByteArray) (w : World) (h : s.size ≤ 300) (W : List ByteArray) (hW : spillwayref6_Words.f 1000 s = some W) (h2 : 2 ≤ W.length) (h3 : W.length ≤ 3)
  (ps : List S60) (b : Bool) (hP : spillwayref3_Parse.f 4000 (rdOf ByteArray.empty W 0) = some (ps,b))
  (nm : ByteArray) (hG : b = true → spillwayref3_Get.f 100 ps (⟨#[95,95,110,97,109,101,95,95]⟩ : ByteArray) = some nm) (nb : Bool) (hN : b = true → spillwayref3_Name.f 1000 nm = some nb)
  (ov : Bool) (vv : Int) (okn : Bool) (hV : spillwayref2_Parse.f 4000 (rdOf ByteArray.empty W 1) = some (ov,vv,okn)) (tv : Int) (hT : W.length = 3 → spillwayref2_Whole.f 4000 (rdOf ByteArray.empty W 2) 7 = some tv)
  (o : List S60 × Bool × Int × Int × Bool × Int × Int) (hO : Aside0 (o = (if (b && nb) = false then ([],false,0,0,false,0,30) else if okn = false then ([],false,0,0,false,0,20) else if W.length = 3 then (if tv < 0 ∨ 1000000 < tv then ([],false,0,0,false,0,152) else (ps,ov,vv,tv,true,0,0)) else (ps,ov,vv,0,false,0,0)))) :
  Calls Tryz.prog 13 #[.string s] w (RLine w o):=by
 have q1 : decide ((300 : Int) < (s.size : Int)) = false:=decide_eq_false (by omega)
 have q2 : decide (300 < s.size) = false:=decide_eq_false (by omega)
 have k1 : decide (W.length < 2) = false:=decide_eq_false (by omega)
 have k2 : decide ((W.length : Int) < 2) = false:=decide_eq_false (by omega)
 have k3 : decide (3 < W.length) = false:=decide_eq_false (by omega)
 have k4 : decide ((3 : Int) < (W.length : Int)) = false:=decide_eq_false (by omega)
 have hb0 : (w.alloc (.cells zero34 34)).heap[w.heap.size]? = some (.cells zero34 34 (0,0)):=heap_alloc_new _ _
 have hwc:=spillwayref6_Words.calls 1000 s W (w.alloc (.cells zero34 34)) hW
 have HB0:=Aside0.mk (below_alloc (Below.refl w.heap.size w) (.cells zero34 34))
 have BX:=Aside0.mk hb0
 have H2:=Aside0.mk h2
 have HP:=Aside0.mk hP
 have HG:=Aside0.mk hG
 have HN:=Aside0.mk hN
 have HV:=Aside0.mk hV
 have HT:=Aside0.mk hT
 have H3:=Aside0.mk h3
 clear h hW hb0 h2 h3 hP hG hN hV hT
 go_enter Tryz.func13,Tryz.ntmps13
 go_wp2_with (fail)
 refine hwc.mono ?_
 rintro e1 w1 ⟨v,rfl,ho,hb⟩
 obtain ⟨g1,c1,rfl⟩:=R_shape ho (by have:=H2.out;omega)
 have BX1:=Aside0.mk ((hb.block _ (blk_lt BX.out)).trans BX.out)
 have HB1:=Aside0.mk (below_step HB0.out hb)
 have hs:=fun i h0 h1=>(Kd.R_cell (enc:=Value.string) (h1:=fun _=>rfl) ByteArray.empty ho i h0 h1).1
 have z0 : w1.cell? ⟨g1,0,none⟩ = some (.string (rdOf ByteArray.empty W 0)):=hs 0 (by omega) (by have:=H2.out;omega)
 have z1 : w1.cell? ⟨g1,1,none⟩ = some (.string (rdOf ByteArray.empty W 1)):=hs 1 (by omega) (by have:=H2.out;omega)
 have Z2 : Aside0 (W.length = 3 → w1.cell? ⟨g1,2,none⟩ = some (.string (rdOf ByteArray.empty W 2))):=⟨fun h=>hs 2 (by omega) (by omega)⟩
 clear hs
 generalize hr0 : rdOf ByteArray.empty W 0 = a at HP z0
 generalize hr1 : rdOf ByteArray.empty W 1 = bb at HV z1
 generalize hr2 : rdOf ByteArray.empty W 2 = cc at HT Z2
 have Z1:=Aside0.mk z1
 have j0 : (0 < W.length) = True:=eq_true (by have:=H2.out;omega)
 have j1 : (1 < W.length) = True:=eq_true (by have:=H2.out;omega)
 have j2 : ((0 : Int) < (W.length : Int)) = True:=eq_true (by have:=H2.out;omega)
 have j3 : ((1 : Int) < (W.length : Int)) = True:=eq_true (by have:=H2.out;omega)
 clear ho hb BX HB0 hwc hr0 hr1 hr2 z1
 have hpc:=spillwayref3_Parse.calls 4000 a ps b w1 HP.out
 go_wp2_with (fail)
 refine hpc.mono ?_
 rintro e3 w3 ⟨v3,rfl,ho3,hb3⟩
 have BX3:=Aside0.mk ((hb3.block _ (blk_lt BX1.out)).trans BX1.out)
 have HB3:=Aside0.mk (below_step HB1.out hb3)
 have HO3:=Aside0.mk (Kd.R_lower ho3 HB1.out.size)
 have Z13:=Aside0.mk ((hb3.cell (World.block_lt_of_cell? w1 _ Z1.out)).trans Z1.out)
 have HBB:=Aside0.mk hb3
 obtain ⟨A3,c3,rfl⟩:=Kd.R_slice ho3
 have hC3:=Kd.R_reads' ho3
 clear ho3 hb3 BX1 HB1 hpc z0
 cases b with
 | false =>
  obtain ⟨⟨x0,x1,x2,x3,x4,x5⟩,⟨f0,f1,f2,f3,f4,f5⟩⟩:=cel6 BX3.out
  go_wp2_with (fail)
  have hq:=hO.out
  rw [Bool.false_and,if_pos rfl] at hq
  subst hq
  exact rline_ret rfl rfl rfl (blk6 BX3.out _ _ _ _ _ _) (Kd.R_nil _ _ _ _ _) (bel6 HB3.out (Nat.le_refl _) _ _ _ _ _ _)
 | true =>
  have hgc:=spillwayref3_Get.calls 100 A3 c3 ps (⟨#[95,95,110,97,109,101,95,95]⟩ : ByteArray) nm w3 hC3.2.2 hC3.2.1 (HG.out rfl)
  have hnc:=fun W=>spillwayref3_Name.calls 1000 nm nb W (HN.out rfl)
  clear hC3
  go_wp2_with (fail)
  refine hgc.mono ?_
  rintro e4 w4 ⟨rfl,hd4⟩
  obtain ⟨m4,rfl⟩:=hd4.out
  go_wp2_with (fail)
  refine (hnc _).mono ?_
  rintro e5 w5 ⟨rfl,hd5⟩
  obtain ⟨m5,rfl⟩:=hd5.out
  have BX5:=Aside0.mk (blk_drewN BX3.out (m4 + m5))
  have HB5:=Aside0.mk (pw_below_drewN HB3.out (m4 + m5))
  have HO5:=Aside0.mk (Kd.R_drewN HO3.out (m4 + m5))
  have Z15:=Z13.out
  have hvc:=fun W=>spillwayref2_Parse.calls 4000 bb ov vv okn W HV.out
  obtain ⟨⟨x0,x1,x2,x3,x4,x5⟩,⟨f0,f1,f2,f3,f4,f5⟩⟩:=cel6 BX3.out
  clear hgc hnc hd4 hd5 BX3 HB3 HO3 Z13
  cases nb with
  | false =>
   go_wp2_with (fail)
   have hq:=hO.out
   rw [Bool.and_false,if_pos rfl] at hq
   subst hq
   exact rline_ret (o:=([],false,0,0,false,0,30)) rfl rfl rfl (blk6 BX5.out _ _ _ _ _ _) (Kd.R_nil _ _ _ _ _) (bel6 HB5.out (Nat.le_refl _) _ _ _ _ _ _)
  | true =>
   go_wp2_with (fail)
   refine (hvc _).mono ?_
   rintro e6 w6 ⟨rfl,hb6⟩
   have BX6:=Aside0.mk ((hb6.block _ (blk_lt BX5.out)).trans BX5.out)
   have HB6:=Aside0.mk (below_step HB5.out hb6)
   have HO6:=Aside0.mk (Kd.R_below HO5.out hb6)
   have Z6 : Aside0 (W.length = 3 → w6.cell? ⟨g1,2,none⟩ = some (.string cc)):=⟨fun h=>by
    have h1:=(HBB.out.cell (World.block_lt_of_cell? w1 _ (Z2.out h))).trans (Z2.out h)
    have h2 : (w3.drewN (m4 + m5)).cell? ⟨g1,2,none⟩ = some (.string cc):=by rw [World.cell?_drewN];exact h1
    exact (hb6.cell (World.block_lt_of_cell? _ _ h2)).trans h2⟩
   clear hvc hb6 BX5 HB5 HO5 Z15 HBB Z2 x0 x1 x2 x3 x4 x5 f0 f1 f2 f3 f4 f5
   have BX7:=blk_alloc BX6.out (.cells #[.bool ov,.int .i64 vv] 32)
   obtain ⟨⟨x0,x1,x2,x3,x4,x5⟩,⟨f0,f1,f2,f3,f4,f5⟩⟩:=cel6 BX7
   have HX7:=Aside0.mk BX7
   clear BX7
   cases okn with
   | false =>
    go_wp2_with (fail)
    have hq:=hO.out
    rw [if_neg (by decide),if_pos (by trivial)] at hq
    subst hq
    exact rline_ret (o:=([],false,0,0,false,0,20)) rfl rfl rfl (blk6 HX7.out _ _ _ _ _ _) (Kd.R_nil _ _ _ _ _) (bel6 (below_alloc HB6.out _) (Nat.le_refl _) _ _ _ _ _ _)
   | true =>
    have hq:=hO.out
    rw [if_neg (by decide),if_neg (by decide)] at hq
    have HQ:=Aside0.mk hq
    clear hO hq x0 x1 x2 x3 x4 x5 f0 f1 f2 f3 f4 f5
    have BX8:=blk_alloc HX7.out (.cells #[.slice A3 ps.length c3,.bool ov,.int .i64 vv,.int .i64 0,.bool false,.int .i64 0] 34)
    have hbb:=below_alloc (below_alloc (Below.refl _ w6) (.cells #[.bool ov,.int .i64 vv] 32)) (.cells #[.slice A3 ps.length c3,.bool ov,.int .i64 vv,.int .i64 0,.bool false,.int .i64 0] 34)
    have B8 : ((w6.alloc (.cells #[.bool ov,.int .i64 vv] 32)).alloc (.cells #[.slice A3 ps.length c3,.bool ov,.int .i64 vv,.int .i64 0,.bool false,.int .i64 0] 34)).heap[w6.heap.size + 1]? = some (.cells #[.slice A3 ps.length c3,.bool ov,.int .i64 vv,.int .i64 0,.bool false,.int .i64 0] 34 (0,0)):=by
     have h:=heap_alloc_new (w6.alloc (.cells #[.bool ov,.int .i64 vv] 32)) (.cells #[.slice A3 ps.length c3,.bool ov,.int .i64 vv,.int .i64 0,.bool false,.int .i64 0] 34)
     rw [show (w6.alloc (.cells #[.bool ov,.int .i64 vv] 32)).heap.size = w6.heap.size + 1 from by unfold World.alloc;simp] at h
     exact h
    have hO8:=Kd.R_below HO6.out hbb
    have hB8:=below_step HB6.out hbb
    have hlow : w.heap.size < w6.heap.size + 1:=by have:=blk_lt BX6.out;omega
    have HLOW:=Aside0.mk hlow
    by_cases h3 : W.length = 3
    ·have hz2:=(hbb.cell (World.block_lt_of_cell? w6 _ (Z6.out h3))).trans (Z6.out h3)
     have hTc:=fun W_=>spillwayref2_Whole.calls 4000 cc 7 tv W_ (HT.out h3)
     have hq:=HQ.out
     rw [if_pos h3] at hq
     have HQ3:=Aside0.mk hq
     have l1 : ((W.length : Int) == 3) = true:=by rw [h3];rfl
     have l2 : ((2 : Int) < (W.length : Int)) = True:=eq_true (by omega)
     have BX8:=Aside0.mk BX8
     have B8:=Aside0.mk B8
     have HO8:=Aside0.mk hO8
     have HB8:=Aside0.mk hB8
     clear hq HQ hbb hlow hO8 hB8 h3 Z6 HT HX7 BX6 HB6 HO6
     go_wp2_with (fail)
     refine (hTc _).mono ?_
     rintro e9 w9 ⟨rfl,hd9⟩
     obtain ⟨m9,rfl⟩:=hd9.out
     have BX9:=Aside0.mk (blk_drewN BX8.out m9)
     have B9:=Aside0.mk (blk_drewN B8.out m9)
     have HO9:=Aside0.mk (Kd.R_drewN HO8.out m9)
     have HB9:=Aside0.mk (pw_below_drewN HB8.out m9)
     clear hTc hd9 BX8 B8 HO8 HB8 hz2
     generalize ((w6.alloc (.cells #[.bool ov,.int .i64 vv] 32)).alloc (.cells #[.slice A3 ps.length c3,.bool ov,.int .i64 vv,.int .i64 0,.bool false,.int .i64 0] 34)).drewN m9 = w9 at BX9 B9 HO9 HB9 ⊢
     generalize w6.heap.size + 1 = g8 at B9 HLOW ⊢
     generalize w6.heap.size = g7
     obtain ⟨⟨y0,y1,y2,y3,y4,y5⟩,⟨e0,e1,e2,e3,e4,e5⟩⟩:=cel6 B9.out
     obtain ⟨⟨x0,x1,x2,x3,x4,x5⟩,⟨f0,f1,f2,f3,f4,f5⟩⟩:=cel6 BX9.out
     have hne : g8 ≠ w.heap.size:=by have:=HLOW.out;omega
     have hne2 : w.heap.size ≠ g8:=by have:=HLOW.out;omega
     have BX10:=Aside0.mk (blk_far (b:=g8) (j:=4) (u:=.bool true) (blk_far (b:=g8) (j:=3) (u:=.int .i64 tv) BX9.out hne2) hne2)
     have HB10:=Aside0.mk (below_set (g:=g8) (j:=4) (v:=.bool true) (below_set (g:=g8) (j:=3) (v:=.int .i64 tv) HB9.out (Nat.le_of_lt HLOW.out)) (Nat.le_of_lt HLOW.out))
     by_cases h0 : tv < 0
     ·have t0 : decide (tv < 0) = true:=decide_eq_true h0
      go_wp2_with (fail)
      have hq:=HQ3.out
      rw [if_pos (Or.inl h0)] at hq
      subst hq
      exact rline_ret (o:=([],false,0,0,false,0,152)) rfl rfl rfl (blk6 BX10.out _ _ _ _ _ _) (Kd.R_nil _ _ _ _ _) (bel6 HB10.out (Nat.le_refl _) _ _ _ _ _ _)
     have t0 : decide (tv < 0) = false:=decide_eq_false h0
     by_cases h1 : 1000000 < tv
     ·have t1 : decide ((1000000 : Int) < tv) = true:=decide_eq_true h1
      go_wp2_with (fail)
      have hq:=HQ3.out
      rw [if_pos (Or.inr h1)] at hq
      subst hq
      exact rline_ret (o:=([],false,0,0,false,0,152)) rfl rfl rfl (blk6 BX10.out _ _ _ _ _ _) (Kd.R_nil _ _ _ _ _) (bel6 HB10.out (Nat.le_refl _) _ _ _ _ _ _)
     have t1 : decide ((1000000 : Int) < tv) = false:=decide_eq_false h1
     go_wp2_with (fail)
     have hq:=HQ3.out
     rw [if_neg (by omega)] at hq
     subst hq
     exact rline_ret (o:=(ps,ov,vv,tv,true,0,0)) rfl rfl rfl (blk6 BX10.out _ _ _ _ _ _) (R6 (Kd.R_set (Kd.R_set HO9.out B9.out (by decide) 3 (.int .i64 tv)) (blk_set B9.out 3 (.int .i64 tv)) (by decide) 4 (.bool true)) BX10.out _ _ _ _ _ _) (bel6 HB10.out (Nat.le_refl _) _ _ _ _ _ _)
    have hq:=HQ.out
    rw [if_neg h3] at hq
    have HQ3:=Aside0.mk hq
    have l1 : ((W.length : Int) == 3) = false:=beq_eq_false_iff_ne.2 (by omega)
    have BX9:=Aside0.mk BX8
    have HO9:=Aside0.mk hO8
    have HB9:=Aside0.mk hB8
    obtain ⟨⟨y0,y1,y2,y3,y4,y5⟩,⟨e0,e1,e2,e3,e4,e5⟩⟩:=cel6 B8
    obtain ⟨⟨x0,x1,x2,x3,x4,x5⟩,⟨f0,f1,f2,f3,f4,f5⟩⟩:=cel6 BX8
    have hne : w6.heap.size + 1 ≠ w.heap.size:=by have:=HLOW.out;omega
    have hne2 : w.heap.size ≠ w6.heap.size + 1:=by have:=HLOW.out;omega
    clear hq HQ hbb hlow hO8 hB8 h3 Z6 HT HX7 BX6 HB6 HO6 BX8 B8
    go_wp2_with (fail)
    have hq:=HQ3.out
    subst hq
    exact rline_ret (o:=(ps,ov,vv,0,false,0,0)) rfl rfl rfl (blk6 BX9.out _ _ _ _ _ _) (R6 HO9.out BX9.out _ _ _ _ _ _) (bel6 HB9.out (Nat.le_refl _) _ _ _ _ _ _)
/-! spillwayref6.Line is a line, read. -/
theorem rline_two (s : ByteArray) (w : World) (h : s.size ≤ 300) (a b : List UInt8) (c : Option (List UInt8)) (hW : spillwayref6_Words.f 1000 s = some (ws a b c)) (ha : a.length ≤ 300) (hb : b.length ≤ 300) (hc : ∀ x,c = some x → x.length ≤ 300) :
  Calls Tryz.prog 13 #[.string s] w (RLine w (scrOut (lineW a b c))):=by
 have h2 : 2 ≤ (ws a b c).length:=by cases c <;> simp [ws]
 have h3 : (ws a b c).length ≤ 3:=by cases c <;> simp [ws]
 obtain ⟨w0,w1,w2⟩:=ws0 a b c
 have hP:=rparse_eq a (by omega) 4000 (by omega)
 have hV:=refparse_eq 4000 b (by omega) (by omega)
 obtain ⟨tv,hT,hTS⟩ : ∃ tv : Int,((ws a b c).length = 3 → spillwayref2_Whole.f 4000 (rdOf ByteArray.empty (ws a b c) 2) 7 = some tv) ∧ ∀ x,c = some x → ((0 ≤ tv ∧ tv ≤ 1000000 ∧ timeS x = some tv) ∨ ((tv < 0 ∨ 1000000 < tv) ∧ timeS x = none)):=by
  cases c with
  | none=>exact ⟨0,fun e=>by simp [ws] at e,fun x hx=>by cases hx⟩
  | some c =>
   obtain ⟨v,h1,h2⟩:=rwhole_eq c (hc c rfl) 4000 (by omega)
   exact ⟨v,fun _=>h1,fun x hx=>by cases hx;exact h2⟩
 cases hp : parseR a with
 | none =>
  rw [hp] at hP
  refine rline_rest s w h _ hW h2 h3 [] false (by rw [w0];exact hP) ByteArray.empty (fun e=>by cases e) false (fun e=>by cases e) (refS (parseS b)).1 (refS (parseS b)).2.1 (refS (parseS b)).2.2 (by rw [w1];exact hV) tv hT _ ⟨?_⟩
  unfold lineW
  rw [hp]
  rfl
 | some ps =>
  rw [hp] at hP
  have hS:=(parseR_is a ps hp).1
  have hi:=isS_is ps hS
  have hG:=rget_eq (⟨#[95,95,110,97,109,101,95,95]⟩ : ByteArray) (ps.map ofPr) (by rw [List.length_map];have:=hi.len;omega) 100 (by rw [List.length_map];have:=hi.len;omega)
  rw [of_pr_map] at hG
  have hNL : (⟨#[95,95,110,97,109,101,95,95]⟩ : ByteArray).data.toList = NL:=rfl
  rw [hNL] at hG
  have hgl : (getL ps NL).length ≤ 30:=by
   unfold getL
   cases e : ps.find? (fun p=>p.1 == NL) with
   | none=>simp
   | some p =>
    have:=(hi.each p (List.mem_of_find?_eq_some e)).2
    unfold valB at this
    rw [Bool.and_eq_true,Bool.and_eq_true,decide_eq_true_eq,decide_eq_true_eq] at this
    exact this.1.2
  have hN:=rname_eq (ofL (getL ps NL)) (by rw [ofL_size];omega) 1000 (by rw [ofL_size];omega)
  refine rline_rest s w h _ hW h2 h3 (ps.map ofPr) true (by rw [w0];exact hP) (ofL (getL ps NL)) (fun _=>hG) (nameB (getL ps NL)) (fun _=>hN) (refS (parseS b)).1 (refS (parseS b)).2.1 (refS (parseS b)).2.2 (by rw [w1];exact hV) tv hT _ ⟨?_⟩
  unfold lineW
  rw [hp]
  simp only []
  cases hn : nameB (getL ps NL) with
  | false=>rfl
  | true =>
   have hr : (refS (parseS b)).2.2 = ((parseS b).2.2 == 0):=rfl
   rw [hr]
   by_cases he : (parseS b).2.2 = 0
   ·rw [he]
    cases c with
    | none=>rfl
    | some c =>
     rcases hTS c rfl with ⟨t0,t1,ht⟩|⟨t0,ht⟩
     ·simp only [ht]
      simp [ws,scrOut,refS,show ¬ (tv < 0 ∨ 1000000 < tv) by omega]
     simp only [ht]
     simp [ws,scrOut,refS,t0]
   rw [beq_eq_false_iff_ne.2 he]
   simp [he,scrOut]
theorem rline_calls (s : ByteArray) (w : World) : Calls Tryz.prog 13 #[.string s] w (RLine w (scrOut (lineS s.data.toList))):=by
 have hsz : s.data.toList.length = s.size:=Array.length_toList
 by_cases h : 300 < s.size
 ·have e : lineS s.data.toList = .error 11:=by unfold lineS;rw [if_pos (by omega)]
  rw [e]
  exact rline_long s w h
 have hW:=rwords_eq s (by omega) 1000 (by omega)
 have hwl:=word_len s.data.toList s.data.toList.length s.data.toList [] false (Nat.le_refl _)
 unfold lineS
 rw [if_neg (by omega)]
 generalize wordsS false [] s.data.toList = W at hwl hW ⊢
 have hl : ∀ w ∈ W,w.length ≤ 300:=fun w hw=>by have:=hwl w hw;simp only [List.length_nil] at this;omega
 match W,hl,hW with
 | [],_,hW=>exact rline_form s w (by omega) _ hW (by simp)
 | [a],_,hW=>exact rline_form s w (by omega) _ hW (by simp)
 | [a,b],hl,hW=>exact rline_two s w (by omega) a b none hW (hl a (by simp)) (hl b (by simp)) (fun x hx=>by cases hx)
 | [a,b,c],hl,hW=>exact rline_two s w (by omega) a b (some c) hW (hl a (by simp)) (hl b (by simp)) (fun x hx=>by cases hx;exact hl c (by simp))
 | a :: b :: c :: d :: r,_,hW=>exact rline_form s w (by omega) _ hW (by simp)
/-! spillwayref6.Parse: the walk. -/
abbrev nil0 : Value:=.slice none 0 0
theorem RfG.far {w0 w : World} {kb : Nat} {bn bk vl vn vk vo vb vw : Value} {L ns : List ByteArray} {ks : List Int} {O : List Scr} {D1 D2 : List Int} (h : RfG w0 w kb bn bk vl vn vk vo vb vw L ns ks O D1 D2) {xb N : Nat} {cs : Array Value} (BX : w.heap[xb]? = some (.cells cs 34 (0,0))) (hS : Kd.S k34 34 w w0.heap.size (fun k=>k < N) vo (O.map scrS)) (hN : N ≤ xb) (hlow : w0.heap.size ≤ xb) (j : Nat) (u : Value) : RfG w0 (w.setCell ⟨xb,j,none⟩ u) kb bn bk vl vn vk vo vb vw L ns ks O D1 D2 :=
 ⟨blk_far h.blk (ne_of_typ BX h.blk (by decide)),Kd.R_set h.lin BX (by decide) j u,Kd.R_set h.nam BX (by decide) j u,Kd.R_set h.kin BX (by decide) j u,Kd.S_mono (Kd.S_far (p:=⟨xb,j,none⟩) hS (fun k hk e=>by have hk2 : k < N:=hk;have e2 : k = xb:=e;omega) u) (fun _ _=>trivial),Kd.R_set h.bad BX (by decide) j u,Kd.R_set h.why BX (by decide) j u,h.a1,h.a2,h.a3,h.a4,h.low,below_set h.bel hlow⟩
set_option maxHeartbeats 4000000 in
set_option maxRecDepth 100000 in
theorem rparse_long (s : ByteArray) (w : World) (h : 3000 < s.size) :
  Calls Tryz.prog 11 #[.string s] w fun e w'=>∃ v1 v2 : Value,e = .returned (.tuple #[nil0,v1,v2]) ∧ Kd.R kI 3 w' w.heap.size (fun _=>True) v1 [0] ∧ Kd.R kI 3 w' w.heap.size (fun _=>True) v2 [11] ∧ Below w.heap.size w w':=by
 have q1 : decide ((3000 : Int) < (s.size : Int)) = true:=decide_eq_true (by omega)
 have q2 : decide (3000 < s.size) = true:=decide_eq_true (by omega)
 have q3 : (3000 < s.size) = True:=eq_true h
 clear h
 have hb1:=below_alloc (Below.refl w.heap.size w) (.cells #[.int .i64 0] 3)
 have h1 : Kd.R kI 3 (w.alloc (.cells #[.int .i64 0] 3)) w.heap.size (fun _=>True) (.slice (some ⟨w.heap.size,0,none⟩) 1 1) [0]:=by
  refine ⟨fun _ _=>trivial,[.int .i64 0],World.ownsRow_lit (base:=w.heap.size) (e:=3) (size:=1) w #[.int .i64 0] 1 (Nat.le_refl _) (by decide) rfl,rfl,fun j p hj=>?_⟩
  cases j with
  | zero =>
   obtain rfl : (0 : Int) = p:=by simpa using hj
   rfl
  | succ j=>simp at hj
 have h2 : Kd.R kI 3 ((w.alloc (.cells #[.int .i64 0] 3)).alloc (.cells #[.int .i64 11] 3)) w.heap.size (fun _=>True) (.slice (some ⟨(w.alloc (.cells #[.int .i64 0] 3)).heap.size,0,none⟩) 1 1) [11]:=by
  refine ⟨fun _ _=>trivial,[.int .i64 11],World.ownsRow_lit (base:=w.heap.size) (e:=3) (size:=1) (w.alloc (.cells #[.int .i64 0] 3)) #[.int .i64 11] 1 (by unfold World.alloc;simp) (by decide) rfl,rfl,fun j p hj=>?_⟩
  cases j with
  | zero =>
   obtain rfl : (11 : Int) = p:=by simpa using hj
   rfl
  | succ j=>simp at hj
 rw [show (w.alloc (.cells #[.int .i64 0] 3)).heap.size = w.heap.size + 1 from by unfold World.alloc;simp] at h2
 have H1:=Aside0.mk (Kd.R_below h1 (below_alloc (Below.refl _ _) (.cells #[.int .i64 11] 3)))
 have H2:=Aside0.mk h2
 have HB:=Aside0.mk (below_alloc hb1 (.cells #[.int .i64 11] 3))
 clear h1 h2 hb1
 go_enter Tryz.func11,Tryz.ntmps11
 go_wp2_with (fail)
 go_ret3
 exact ⟨_,_,rfl,H1.out,H2.out,HB.out⟩
set_option maxHeartbeats 40000000 in
set_option maxRecDepth 100000 in
theorem rparse_short (s : ByteArray) (w : World) (h : s.size ≤ 3000) :
  Calls Tryz.prog 11 #[.string s] w fun e w'=>∃ v0 v1 v2 : Value,e = .returned (.tuple #[v0,v1,v2]) ∧ Kd.S k34 34 w' w.heap.size (fun _=>True) v0 ((runB ⟨[],[],[]⟩ 1 (linesS [] s.data.toList)).out.map scrS) ∧ Kd.R kI 3 w' w.heap.size (fun _=>True) v1 ((runB ⟨[],[],[]⟩ 1 (linesS [] s.data.toList)).bad.map (·.1)) ∧ Kd.R kI 3 w' w.heap.size (fun _=>True) v2 ((runB ⟨[],[],[]⟩ 1 (linesS [] s.data.toList)).bad.map (·.2)) ∧ Below w.heap.size w w':=by
 have q1 : decide ((3000 : Int) < (s.size : Int)) = false:=decide_eq_false (by omega)
 have q2 : decide (3000 < s.size) = false:=decide_eq_false (by omega)
 have q3 : (3000 < s.size) = False:=eq_false (by omega)
 have hsz : s.data.toList.length = s.size:=Array.length_toList
 have hlen : (linesS [] s.data.toList).length ≤ 10000:=by rw [lines_sep];have:=sep_len 10 s.data.toList [];omega
 have heach : ∀ l ∈ linesS [] s.data.toList,l.length ≤ 3000:=by
  intro l hl
  rw [lines_sep] at hl
  have h1:=sep_each 10 s.data.toList [] l hl
  simp only [List.length_nil] at h1
  omega
 have hli:=rlines_calls s (w.alloc (.cells #[nil0,nil0] 75)) (by omega)
 generalize linesS [] s.data.toList = L at hli hlen heach ⊢
 have HE:=Aside0.mk heach
 have HN:=Aside0.mk hlen
 have hkb : (w.alloc (.cells #[nil0,nil0] 75)).heap[w.heap.size]? = some (.cells #[nil0,nil0] 75 (0,0)):=heap_alloc_new _ _
 have hbb:=below_alloc (Below.refl w.heap.size w) (.cells #[nil0,nil0] 75)
 have HKB:=Aside0.mk hkb
 have HBB:=Aside0.mk hbb
 clear h hsz hlen heach hkb hbb
 go_enter Tryz.func11,Tryz.ntmps11
 go_wp2_with (fail)
 refine hli.mono ?_
 rintro e1 w1 ⟨vl,rfl,hol,hb1⟩
 have hap : ∀ u,Ap nil0 u:=fun u k hk=>by simp [Value.ownBlock] at hk
 have HR0 : Aside0 (RfG w w1 w.heap.size nil0 nil0 vl nil0 nil0 nil0 nil0 nil0 (L.map ofL) [] [] [] [] []):=⟨⟨(hb1.block _ (blk_lt HKB.out)).trans HKB.out,Kd.R_lower hol HBB.out.size,Kd.R_nil _ _ _ _ _,Kd.R_nil _ _ _ _ _,Kd.S_nil _ _ _ _ _,Kd.R_nil _ _ _ _ _,Kd.R_nil _ _ _ _ _,hap _,hap _,hap _,hap _,Nat.le_refl _,below_step HBB.out hb1⟩⟩
 obtain ⟨A0,n0,rfl⟩:=Kd.R_slice hol
 rw [List.length_map]
 clear hap hol hb1 hli HKB HBB
 generalize hkb : w.heap.size = kb at HR0 ⊢
 go_wp2_with (fail)
 go_loopg [5,6,7,10,11,12,13] L.length (fun gg s5 s6 s7 s10 _ _ _ wr=>∃ (i : Nat) (vn vk : Value) (ns : List ByteArray) (ks : List Int) (B : Bod),s10 = .int .i64 i ∧ L.length - i ≤ gg ∧ Aside0 (i ≤ L.length ∧ ns.length ≤ i ∧ B.out.length ≤ i ∧ B.bad.length ≤ i) ∧ Aside0 (runB B ((i : Int) + 1) (L.drop i) = runB ⟨[],[],[]⟩ 1 L) ∧ Aside0 (RfG w wr kb vn vk (.slice A0 (L.map ofL).length n0) vn vk s5 s6 s7 (L.map ofL) ns ks B.out (B.bad.map (·.1)) (B.bad.map (·.2))) ∧ Aside0 (RkA ns ks B.of))
 case atStart=>exact ⟨0,_,_,[],[],⟨[],[],[]⟩,rfl,by omega,⟨by simp⟩,⟨rfl⟩,HR0,⟨RkA.nil⟩⟩
 clear HR0
 obtain ⟨i,vn,vk,ns,ks,B,rfl,hgg,HI,HQ,HR,HA⟩:=hrel
 by_cases hlt : i < L.length
 ·have hltz : (i : Int) < (L.length : Int):=by omega
  have HC:=Aside0.mk (Kd.R_reads' HR.out.lin).2.2
  obtain ⟨ad,rfl,hx⟩:=Kd.at_string HC.out (i : Int) (by omega) (by rw [List.length_map];omega)
  have hr : rdOf ByteArray.empty (L.map ofL) (i : Int) = ofL L[i]:=by
   unfold rdOf
   rw [Int.toNat_natCast,List.getD_eq_getElem?_getD,List.getElem?_map,List.getElem?_eq_getElem hlt]
   rfl
  rw [hr,Int.toNat_natCast] at hx
  have HX:=Aside0.mk hx
  have HL:=Aside0.mk (HE.out L[i] (List.getElem_mem hlt))
  have HD:=Aside0.mk (show L.drop i = L[i] :: L.drop (i + 1) from List.drop_eq_getElem_cons hlt)
  have hq:=HQ.out
  rw [HD.out,runB] at hq
  have HQ1 : Aside0 (runB (stepB B ((i + 1 : Nat) : Int) L[i]) (((i + 1 : Nat) : Int) + 1) (L.drop (i + 1)) = runB ⟨[],[],[]⟩ 1 L):=⟨by push_cast;exact hq⟩
  have hw:=wrap_succ_ i (by have:=HI.out;have:=HN.out;omega)
  clear hr hq HQ HD HC
  generalize L[i] = l at hx HX HL HQ1
  cases hc : l with
  | nil =>
   subst hc
   have hne : ((ofL []).toList == ([] : List UInt8)) = true:=by rw [ByteArray.toList_eq];rfl
   have hemp : (ofL []).toList.isEmpty = true:=by rw [ByteArray.toList_eq];rfl
   generalize ofL [] = t at hx hne hemp
   clear HL HX
   go_wp2_with (fail)
   go_roundg (L.length - (i + 1))
   case measure=>omega
   case rel=>exact ⟨i + 1,vn,vk,ns,ks,B,by first|rw [hw]|(push_cast;rfl),by omega,⟨by have:=HI.out;omega⟩,HQ1,HR,HA⟩
  | cons c r =>
   have ht1 : (ofL l).data.toList = l:=rfl
   have hsz : (ofL l).size = l.length:=ofL_size l
   rw [hsz.symm] at HL
   generalize hofl : ofL l = t at hx HX ht1 HL
   have HT:=Aside0.mk ht1
   by_cases h35 : c = 35
   ·subst h35
    have hp : 0 < t.size:=by have : t.data.toList.length = t.size:=Array.length_toList;rw [ht1,hc] at this;simp at this;omega
    have hne : (t.toList == ([] : List UInt8)) = false:=by rw [ByteArray.toList_eq,ht1,hc];rfl
    have hemp : t.toList.isEmpty = false:=by rw [ByteArray.toList_eq,ht1,hc];rfl
    have q3 : (0 < t.size) = True:=eq_true hp
    have hx3 : ∀ h : 0 < t.size,((t[0]'h).toNat : Int) = bt t 0:=bt_at t 0
    have qi3 : (0 < (t.size : Int)) = True:=eq_true (by omega)
    have f1 : (bt t 0 == 35) = true:=by
     obtain ⟨c2,hcb,hcd⟩:=bt_drop2 t 0 hp
     rw [List.drop_zero,ht1,hc] at hcd
     obtain rfl : (35 : UInt8) = c2:=by injection hcd
     rw [show (0 : Int) = ((0 : Nat) : Int) from rfl,hcb]
     rfl
    have hWE:=rwords_eq t (by have:=HL.out;omega) 7000 (by have:=HL.out;omega)
    have hwc:=spillwayref6_Words.calls 7000 t _ wr hWE
    have hty:=type_words l
    have hst : stepB B ((i + 1 : Nat) : Int) l = (match typeS l with|some x=>{ B with of:=kset B.of x.1 x.2 }|none=>B):=by
     rw [hc];unfold stepB;simp only [if_true];cases typeS (35 :: r) <;> rfl
    rw [ht1] at hwc
    have hwl : ∀ u ∈ wordsS false [] l,u.length ≤ 3000:=fun u hu=>by
     have h1:=word_len l l.length l [] false (Nat.le_refl _) u hu
     have h2:=HL.out
     rw [← hofl,hsz] at h2
     simp only [List.length_nil] at h1
     omega
    generalize wordsS false [] l = W at hwc hty hwl
    have HWL:=Aside0.mk hwl
    clear hwl
    have HTY:=Aside0.mk hty
    have HST:=Aside0.mk hst
    have HOL:=Aside0.mk hofl
    clear hWE hst hty hp ht1 hofl hc hsz
    by_cases l4 : W.length = 4
    ·obtain ⟨a,b,nq,kq,rfl⟩ : ∃ a b n k,W = [a,b,n,k]:=by
      rcases W with _|⟨a,_|⟨b,_|⟨n,_|⟨k,_|⟨z,r⟩⟩⟩⟩⟩
      all_goals first|exact ⟨_,_,_,_,rfl⟩|(simp at l4)
     clear l4
     go_wp2_with (fail)
     refine hwc.mono ?_
     rintro e1 w2 ⟨v,rfl,ho,hb⟩
     obtain ⟨g1,c1,rfl⟩:=R_shape ho (by simp)
     have HR2:=Aside0.mk (HR.out.below hb)
     have HZ2:=Aside0.mk ho
     have z0:=(show World.cell? _ ⟨g1,0,none⟩ = some (.string (ofL a)) from (Kd.R_cell (enc:=Value.string) (h1:=fun _=>rfl) ByteArray.empty HZ2.out 0 (by decide) (by simp)).1)
     have z1:=(show World.cell? _ ⟨g1,1,none⟩ = some (.string (ofL b)) from (Kd.R_cell (enc:=Value.string) (h1:=fun _=>rfl) ByteArray.empty HZ2.out 1 (by decide) (by simp)).1)
     have z2:=(show World.cell? _ ⟨g1,2,none⟩ = some (.string (ofL nq)) from (Kd.R_cell (enc:=Value.string) (h1:=fun _=>rfl) ByteArray.empty HZ2.out 2 (by decide) (by simp)).1)
     have z3:=(show World.cell? _ ⟨g1,3,none⟩ = some (.string (ofL kq)) from (Kd.R_cell (enc:=Value.string) (h1:=fun _=>rfl) ByteArray.empty HZ2.out 3 (by decide) (by simp)).1)
     clear hwc HR ho hb hx HX
     by_cases ha : a = [35]
     ·have ea : ((ofL a).toList == ([35] : List UInt8)) = true:=by rw [toList_list,ha];rfl
      by_cases hbq : b = [84,89,80,69]
      ·have eb : ((ofL b).toList == ([84,89,80,69] : List UInt8)) = true:=by rw [toList_list,hbq];rfl
       have hnl:=HWL.out nq (by simp)
       have hN:=rname_eq (ofL nq) (by rw [ofL_size];omega) 4000 (by rw [ofL_size];omega)
       have hdn : (ofL nq).data.toList = nq:=rfl
       rw [hdn] at hN
       have hnc:=fun W_=>spillwayref3_Name.calls 4000 (ofL nq) _ W_ hN
       clear hnl hN hdn
       cases hnb : nameB nq with
       | false =>
        have HSB : Aside0 (stepB B ((i + 1 : Nat) : Int) l = B):=⟨by rw [HST.out,← HTY.out];unfold typeW;simp only [];rw [if_neg (fun h=>by have:=h.2.2;rw [hnb] at this;cases this)]⟩
        rw [hnb] at hnc
        go_wp2_with (fail)
        refine (hnc _).mono ?_
        rintro e3 w3 ⟨rfl,hd⟩
        obtain ⟨m,rfl⟩:=hd.out
        have HR3:=Aside0.mk (HR2.out.below (pw_below_drewN (Below.refl w2.heap.size w2) m))
        clear hnc hd HR2
        go_wp2_with (fail)
        go_roundg (L.length - (i + 1))
        case measure=>omega
        case rel=>exact ⟨i + 1,vn,vk,ns,ks,B,by first|rw [hw]|(push_cast;rfl),by omega,⟨by have:=HI.out;omega⟩,⟨by have h:=HQ1.out;rw [HSB.out] at h;exact h⟩,⟨HR3.out⟩,HA⟩
       | true =>
        rw [hnb] at hnc
        go_wp2_with (fail)
        refine (hnc _).mono ?_
        rintro e3 w3 ⟨rfl,hd⟩
        obtain ⟨m,rfl⟩:=hd.out
        have HR3:=Aside0.mk (HR2.out.below (pw_below_drewN (Below.refl w2.heap.size w2) m))
        have HZ3:=Aside0.mk (Kd.R_drewN HZ2.out m)
        clear hnc hd HR2 HZ2
        have hkc:=fun W_=>kind_calls (ofL kq) W_
        have hki : kindI (ofL kq) = match kindS kq with|some k=>k|none=>-1:=rfl
        cases hks : kindS kq with
        | none =>
         have HSB : Aside0 (stepB B ((i + 1 : Nat) : Int) l = B):=⟨by rw [HST.out,← HTY.out];rw [show typeW [a,b,nq,kq] = none from by unfold typeW;simp only [];rw [hks];split <;> rfl]⟩
         rw [hks] at hki
         rw [hki] at hkc
         go_wp2_with (fail)
         refine (hkc _).mono ?_
         rintro e4 w4 ⟨rfl,hb4⟩
         have HR4:=Aside0.mk (HR3.out.below hb4)
         clear hkc HR3 hb4
         go_wp2_with (fail)
         go_roundg (L.length - (i + 1))
         case measure=>omega
         case rel=>exact ⟨i + 1,vn,vk,ns,ks,B,by first|rw [hw]|(push_cast;rfl),by omega,⟨by have:=HI.out;omega⟩,⟨by have h:=HQ1.out;rw [HSB.out] at h;exact h⟩,⟨HR4.out⟩,HA⟩
        | some kv =>
         rw [hks] at hki
         have HKI : Aside0 (kindI (ofL kq) = kv):=⟨hki⟩
         have hk0 : decide (0 ≤ kv) = true:=decide_eq_true (by
          have h:=hks
          unfold kindS at h
          split at h
          ·cases h;omega
          split at h
          ·cases h;omega
          split at h
          ·cases h;omega
          cases h)
         have hst:=HST.out
         rw [← HTY.out] at hst
         have htw : typeW [a,b,nq,kq] = some (nq,kv):=by unfold typeW;simp only [];rw [if_pos ⟨ha,hbq,hnb⟩,hks];rfl
         rw [htw] at hst
         have HSB:=Aside0.mk hst
         rw [hki] at hkc
         clear hst htw hks hki
         go_wp2_with (fail)
         refine (hkc _).mono ?_
         rintro e4 w4 ⟨rfl,hb4⟩
         have HR4:=Aside0.mk (HR3.out.below hb4)
         have HZ4:=Aside0.mk (Kd.R_below HZ3.out hb4)
         clear hkc HR3 HZ3 hb4
         go_wp2_with (fail)
         have HR5:=Aside0.mk (HR4.out.below (below_drew (Below.refl _ _)))
         have HZ5:=Aside0.mk (Kd.R_drew HZ4.out)
         clear HR4 HZ4 z0 z1 z2 z3
         refine start_ (n:=9) (S:=fun w'=>w'.cell? ⟨g1,2,none⟩ = some (.string (ofL nq)) ∧ w'.cell? ⟨g1,3,none⟩ = some (.string (ofL kq))) (ds:=[8]) #[false,false,false,false,false,false,false,false,false] (by kernel_rfl) rfl rfl (⟨(show World.cell? _ ⟨g1,2,none⟩ = some (.string (ofL nq)) from (Kd.R_cell (enc:=Value.string) (h1:=fun _=>rfl) ByteArray.empty HZ5.out 2 (by decide) (by simp)).1),(show World.cell? _ ⟨g1,3,none⟩ = some (.string (ofL kq)) from (Kd.R_cell (enc:=Value.string) (h1:=fun _=>rfl) ByteArray.empty HZ5.out 3 (by decide) (by simp)).1)⟩) (fun hHeld=>?_)
         generalize w4.drew = w5 at HR5 HZ5 hHeld ⊢
         refine pure_ (i:=0) (N:=some 73) (v:=?_) (a':=?_) #[true,false,false,false,false,false,false,false,false] rfl rfl (by kernel_rfl) (fun _ _ _ h=>h) (Or.inl ⟨by first|rfl|exact wanted_on rfl rfl rfl (by rfl),?_⟩) ?_ ?_
         rotate_left
         ·intro w'
          go_simp
          with_reducible rfl
         rotate_left
         ·simp only [Act.put,List.setIfInBounds_toArray,List.set_cons_zero,List.set_cons_succ,i64_w,i32_w]
          rfl
         refine pure_ (i:=1) (N:=some 74) (v:=?_) (a':=?_) #[true,true,false,false,false,false,false,false,false] rfl rfl (by kernel_rfl) (fun _ _ _ h=>h) (Or.inl ⟨by first|rfl|exact wanted_on rfl rfl rfl (by rfl),?_⟩) ?_ ?_
         rotate_left
         ·intro w'
          go_simp
          with_reducible rfl
         rotate_left
         ·simp only [Act.put,List.setIfInBounds_toArray,List.set_cons_zero,List.set_cons_succ,i64_w,i32_w]
          rfl
         refine pure_ (i:=2) (N:=some 75) (v:=?_) (a':=?_) #[true,true,true,false,false,false,false,false,false] rfl rfl (by kernel_rfl) (fun _ _ _ h=>h) (Or.inl ⟨by first|rfl|exact wanted_on rfl rfl rfl (by rfl),?_⟩) ?_ ?_
         rotate_left
         ·intro w'
          go_simp
          with_reducible rfl
         rotate_left
         ·simp only [Act.put,List.setIfInBounds_toArray,List.set_cons_zero,List.set_cons_succ,i64_w,i32_w]
          rfl
         refine take_ (i:=3) (N:=some 76) (v:=?_) (a':=?_) #[true,true,true,true,false,false,false,false,false] rfl rfl (by kernel_rfl) (fun _ _ _ h=>h) (Or.inl ⟨by first|rfl|exact wanted_on rfl rfl rfl (by rfl),?_⟩) hHeld ?_ ?_
         rotate_left
         ·rintro w' ⟨s0,s1⟩
          go_simp
          with_reducible rfl
         rotate_left
         ·simp only [Act.put,List.setIfInBounds_toArray,List.set_cons_zero,List.set_cons_succ,i64_w,i32_w]
          rfl
         refine pure_ (i:=4) (N:=some 77) (v:=?_) (a':=?_) #[true,true,true,true,true,false,false,false,false] rfl rfl (by kernel_rfl) (fun _ _ _ h=>h) (Or.inl ⟨by first|rfl|exact wanted_on rfl rfl rfl (by rfl),?_⟩) ?_ ?_
         rotate_left
         ·intro w'
          go_simp
          with_reducible rfl
         rotate_left
         ·simp only [Act.put,List.setIfInBounds_toArray,List.set_cons_zero,List.set_cons_succ,i64_w,i32_w]
          rfl
         refine pure_ (i:=5) (N:=some 78) (v:=?_) (a':=?_) #[true,true,true,true,true,true,false,false,false] rfl rfl (by kernel_rfl) (fun _ _ _ h=>h) (Or.inl ⟨by first|rfl|exact wanted_on rfl rfl rfl (by rfl),?_⟩) ?_ ?_
         rotate_left
         ·intro w'
          go_simp
          with_reducible rfl
         rotate_left
         ·simp only [Act.put,List.setIfInBounds_toArray,List.set_cons_zero,List.set_cons_succ,i64_w,i32_w]
          rfl
         refine take_ (i:=6) (N:=some 79) (v:=?_) (a':=?_) #[true,true,true,true,true,true,true,false,false] rfl rfl (by kernel_rfl) (fun _ _ _ h=>h) (Or.inl ⟨by first|rfl|exact wanted_on rfl rfl rfl (by rfl),?_⟩) hHeld ?_ ?_
         rotate_left
         ·rintro w' ⟨s0,s1⟩
          go_simp
          with_reducible rfl
         rotate_left
         ·simp only [Act.put,List.setIfInBounds_toArray,List.set_cons_zero,List.set_cons_succ,i64_w,i32_w]
          rfl
         refine one_ (i:=7) (N:=some 80) #[true,true,true,true,true,true,true,true,false] rfl rfl (by kernel_rfl) (by decide) (fun K hK=>?_)
         refine goes_ Tryz.func30 (by kernel_rfl) rfl #[.string (ofL kq)] (by rfl) rfl rfl (by (try simp only [List.map_toArray,List.map_cons,List.map_nil]);first|done|rfl) ?_
         refine (kind_calls (ofL kq) w5).mono ?_
         rintro e6 w6 ⟨rfl,hb6⟩
         refine ⟨_,rfl,?_⟩
         have HR6:=Aside0.mk (HR5.out.below hb6)
         have HZ6:=Aside0.mk (Kd.R_below HZ5.out hb6)
         clear HR5 HZ5 hb6
         refine hK.out _ _ ⟨(show World.cell? _ ⟨g1,2,none⟩ = some (.string (ofL nq)) from (Kd.R_cell (enc:=Value.string) (h1:=fun _=>rfl) ByteArray.empty HZ6.out 2 (by decide) (by simp)).1),(show World.cell? _ ⟨g1,3,none⟩ = some (.string (ofL kq)) from (Kd.R_cell (enc:=Value.string) (h1:=fun _=>rfl) ByteArray.empty HZ6.out 3 (by decide) (by simp)).1)⟩ (fun hHeld=>?_)
         clear hK K
         rw [HKI.out]
         refine norm_ (a':=?_) ?_ ?_
         rotate_left
         ·show Act.put _ (some 80) _ = _
          simp only [Act.put,List.setIfInBounds_toArray,List.set_cons_zero,List.set_cons_succ,i64_w,i32_w]
          rfl
         refine last_ (i:=8) (N:=some 81) #[true,true,true,true,true,true,true,true,true] rfl rfl (by kernel_rfl) (by decide) (fun Kz hKz=>?_)
         refine goes_ Tryz.func31 (by kernel_rfl) rfl #[.pointer (some ⟨kb,0,none⟩),.string (ofL nq),.int .i64 kv] (by rfl) rfl rfl (by (try simp only [List.map_toArray,List.map_cons,List.map_nil]);first|done|rfl) ?_
         refine (kinds_set B.of (ofL nq) kv HR6.out HA.out (by have:=HI.out;have:=HN.out;omega)).mono ?_
         rintro e7 w7 ⟨rfl,vn',vk',ns',ks',h1,h2,h3⟩
         refine ⟨_,rfl,?_⟩
         have HR7:=Aside0.mk h1
         have HA7:=Aside0.mk h2
         have HN7:=Aside0.mk h3
         clear h1 h2 h3 HR6 HZ6 hHeld
         refine hKz.out _ _ ?_
         clear hKz Kz
         refine norm_ (a':=?_) ?_ ?_
         rotate_left
         ·show Act.put _ (some 81) _ = _
          simp only [Act.put,List.setIfInBounds_toArray,List.set_cons_zero,List.set_cons_succ,i64_w,i32_w]
          rfl
         refine done_ (by kernel_rfl) ?_
         go_wp2_with (fail)
         go_roundg (L.length - (i + 1))
         case measure=>omega
         case rel=>exact ⟨i + 1,vn',vk',ns',ks',{ B with of:=kset B.of nq kv },by first|rw [hw]|(push_cast;rfl),by omega,⟨by have:=HI.out;have:=HN7.out;simp only [];omega⟩,⟨by have h:=HQ1.out;rw [HSB.out] at h;exact h⟩,HR7,HA7⟩
      have eb : ((ofL b).toList == ([84,89,80,69] : List UInt8)) = false:=by rw [toList_list];exact beq_eq_false_iff_ne.2 hbq
      have HSB : Aside0 (stepB B ((i + 1 : Nat) : Int) l = B):=⟨by rw [HST.out,← HTY.out];unfold typeW;simp only [];rw [if_neg (fun h=>hbq h.2.1)]⟩
      go_wp2_with (fail)
      go_roundg (L.length - (i + 1))
      case measure=>omega
      case rel=>exact ⟨i + 1,vn,vk,ns,ks,B,by first|rw [hw]|(push_cast;rfl),by omega,⟨by have:=HI.out;omega⟩,⟨by have h:=HQ1.out;rw [HSB.out] at h;exact h⟩,⟨HR2.out⟩,HA⟩
     have ea : ((ofL a).toList == ([35] : List UInt8)) = false:=by rw [toList_list];exact beq_eq_false_iff_ne.2 ha
     have HSB : Aside0 (stepB B ((i + 1 : Nat) : Int) l = B):=⟨by rw [HST.out,← HTY.out];unfold typeW;simp only [];rw [if_neg (fun h=>ha h.1)]⟩
     go_wp2_with (fail)
     go_roundg (L.length - (i + 1))
     case measure=>omega
     case rel=>exact ⟨i + 1,vn,vk,ns,ks,B,by first|rw [hw]|(push_cast;rfl),by omega,⟨by have:=HI.out;omega⟩,⟨by have h:=HQ1.out;rw [HSB.out] at h;exact h⟩,⟨HR2.out⟩,HA⟩
    have l1 : ((W.length : Int) == 4) = false:=beq_eq_false_iff_ne.2 (by omega)
    have HSB : Aside0 (stepB B ((i + 1 : Nat) : Int) l = B):=⟨by rw [HST.out,← HTY.out];(rcases W with _|⟨a,_|⟨b,_|⟨n,_|⟨k,_|⟨z,r⟩⟩⟩⟩⟩;all_goals first|rfl|(simp at l4))⟩
    clear l4
    go_wp2_with (fail)
    refine hwc.mono ?_
    rintro e1 w2 ⟨v,rfl,ho,hb⟩
    obtain ⟨A1,c1,rfl⟩:=Kd.R_slice ho
    have HR2:=Aside0.mk (HR.out.below hb)
    clear hwc HR ho hb hx HX
    go_wp2_with (fail)
    go_roundg (L.length - (i + 1))
    case measure=>omega
    case rel=>exact ⟨i + 1,vn,vk,ns,ks,B,by first|rw [hw]|(push_cast;rfl),by omega,⟨by have:=HI.out;omega⟩,⟨by have h:=HQ1.out;rw [HSB.out] at h;exact h⟩,⟨HR2.out⟩,HA⟩
   obtain ⟨hp,hne,hemp,f1⟩:=first_byte t c r (by rw [ht1,hc]) h35
   have q3 : (0 < t.size) = True:=eq_true hp
   have hx3 : ∀ h : 0 < t.size,((t[0]'h).toNat : Int) = bt t 0:=bt_at t 0
   have qi3 : (0 < (t.size : Int)) = True:=eq_true (by omega)
   have hst : stepB B ((i + 1 : Nat) : Int) l = (match lineS l with|.error e=>{ B with bad:=B.bad ++ [(((i + 1 : Nat) : Int),e)] }|.ok x=>{ B with out:=B.out ++ [{ x with kind:=kget B.of (getL x.labels NL) }] }):=by
    rw [hc];exact if_neg h35
   have hlc:=fun W_=>rline_calls t W_
   rw [ht1] at hlc
   have HST:=Aside0.mk hst
   clear hst hp ht1 hofl hc h35 hsz
   cases hl : lineS l with
   | error er =>
    have hst:=HST.out
    rw [hl] at hst
    have HST2:=Aside0.mk hst
    have hlc1 : Calls Tryz.prog 13 #[.string t] wr fun e w'=>∃ v0_ : Value,e = .returned (.tuple #[.agg #[v0_,.bool false,.int .i64 0,.int .i64 0,.bool false,.int .i64 0],.int .i64 er]) ∧ Kd.R k60 60 w' wr.heap.size (fun _=>True) v0_ [] ∧ Below wr.heap.size wr w':=by
     have h:=hlc wr
     rw [hl] at h
     exact h
    have hen : (er != 0) = true:=bne_iff_ne.2 (lineS_err _ _ hl)
    clear hlc hst HST hl
    go_wp2_with (fail)
    refine hlc1.mono ?_
    rintro e1 w2 ⟨v0,rfl,ho,hb⟩
    obtain ⟨A1,c1,rfl⟩:=Kd.R_slice ho
    have HR2:=Aside0.mk ((HR.out.below hb).below (below_alloc (Below.refl _ _) (.cells #[.slice A1 0 c1,.bool false,.int .i64 0,.int .i64 0,.bool false,.int .i64 0] 34)))
    clear hlc1 HR ho hb hx HX
    go_wp2_with (first|((with_reducible refine gate_builtin (b:=.append) (xs:=#[.tmp 92,.tmp 95]) rfl ?_);at_builtin;refine Kd.R_append kI (w0:=w) w.heap.size rfl (.tmp 92) (.tmp 95) 27 3 (.int .i64 0) 8 rfl Tryz.underlying27 info3 rfl (by decide) (by omega) u6 (B.bad.map (·.1)) ((i : Int) + 1) [.int .i64 ((i : Int) + 1)] (fun _=>True) (fun _=>False) rfl (by first|(go_simp;done)|(go_simp;rfl)) ?aP (fun _ hk=>hk.elim) ?aF ?aO ?aB ?aS ?aL ?_;(case aP=>exact rfl);(case aF=>exact (fun _ _=>trivial));(case aO=>exact HR2.out.bad);(case aB=>exact HR2.out.bel);(case aS=>exact HR2.out.bel.size);(case aL=>have:=HI.out;have:=HN.out;simp only [List.length_map];omega);intro v6 w4 ho4 hb4 hg4 hat4;have HR3:=Aside0.mk (HR2.out.badded ho4 hb4 hg4 hat4);clear HR2 ho4 hb4 hg4 hat4)|((with_reducible refine gate_builtin (b:=.append) (xs:=#[.tmp 97,.tmp 99]) rfl ?_);at_builtin;refine Kd.R_append kI (w0:=w) w.heap.size rfl (.tmp 97) (.tmp 99) 27 3 (.int .i64 0) 8 rfl Tryz.underlying27 info3 rfl (by decide) (by omega) u7 (B.bad.map (·.2)) er [.int .i64 er] (fun _=>True) (fun _=>False) rfl (by first|(go_simp;done)|(go_simp;rfl)) ?aP (fun _ hk=>hk.elim) ?aF ?aO ?aB ?aS ?aL ?_;(case aP=>exact rfl);(case aF=>exact (fun _ _=>trivial));(case aO=>exact HR3.out.why);(case aB=>exact HR3.out.bel);(case aS=>exact HR3.out.bel.size);(case aL=>have:=HI.out;have:=HN.out;simp only [List.length_map];omega);intro v7 w5 ho4 hb4 hg4 hat4;have HR4:=Aside0.mk (HR3.out.whyed ho4 hb4 hg4 hat4);clear HR3 ho4 hb4 hg4 hat4))
    go_roundg (L.length - (i + 1))
    case measure=>omega
    refine ⟨i + 1,vn,vk,ns,ks,{ B with bad:=B.bad ++ [(((i + 1 : Nat) : Int),er)] },by first|rw [hw]|(push_cast;rfl),by omega,⟨by have:=HI.out;simp only [List.length_append,List.length_singleton];omega⟩,⟨by have h:=HQ1.out;rw [HST2.out] at h;exact h⟩,⟨?_⟩,HA⟩
    have h:=HR4.out
    simp only [List.map_append,List.map_cons,List.map_nil]
    push_cast
    exact h
   | ok x =>
    have hst:=HST.out
    rw [hl] at hst
    have HST2:=Aside0.mk hst
    have hlc1 : Calls Tryz.prog 13 #[.string t] wr fun e w'=>∃ v0_ : Value,e = .returned (.tuple #[.agg #[v0_,.bool x.ovf,.int .i64 x.v,.int .i64 x.t,.bool x.hasT,.int .i64 0],.int .i64 0]) ∧ Kd.R k60 60 w' wr.heap.size (fun _=>True) v0_ (x.labels.map ofPr) ∧ Below wr.heap.size wr w':=by
     have h:=hlc wr
     rw [hl] at h
     exact h
    obtain ⟨hS,hnm,hk0⟩:=lineS_ok _ _ hl
    have hi:=isS_is x.labels hS
    have hG:=rget_eq (⟨#[95,95,110,97,109,101,95,95]⟩ : ByteArray) (x.labels.map ofPr) (by rw [List.length_map];have:=hi.len;omega) 100 (by rw [List.length_map];have:=hi.len;omega)
    rw [of_pr_map,show (⟨#[95,95,110,97,109,101,95,95]⟩ : ByteArray).data.toList = NL from rfl] at hG
    have HQ : Aside0 (∀ kd,(⟨x.labels.map ofPr,⟨x.ovf,x.v⟩,x.t,x.hasT,kd⟩ : S34) = scrS { x with kind:=kd }):=⟨fun _=>rfl⟩
    have HKD : Aside0 (rkget ns ks (ofL (getL x.labels NL)) = kget B.of (getL x.labels NL)):=⟨HA.out.agr _⟩
    generalize x.labels.map ofPr = P at hlc1 hG HQ
    generalize ofL (getL x.labels NL) = nm at hG HKD
    clear hlc hst HST hl hS hnm hk0 hi
    go_wp2_with (fail)
    refine hlc1.mono ?_
    rintro e2 w2 ⟨v0,rfl,ho,hb⟩
    have HLB:=Aside0.mk (Kd.R_mono (ok':=fun k=>wr.heap.size ≤ k) (Kd.R_lower (Kd.R_bound ho) HR.out.bel.size) (fun k hk=>hk.2.1))
    have HVT:=Aside0.mk (Kd.S_lt HR.out.out)
    have HVS:=Aside0.mk (Kd.S_below (Kd.S_mono (ok':=fun k=>k < wr.heap.size) (Kd.S_bound HR.out.out) (fun _ hk=>hk.2.2.1)) hb)
    obtain ⟨A1,c1,rfl⟩:=Kd.R_slice ho
    have hbw:=below_alloc (Below.refl w2.heap.size w2) (.cells #[.slice A1 P.length c1,.bool x.ovf,.int .i64 x.v,.int .i64 x.t,.bool x.hasT,.int .i64 0] 34)
    have BX:=Aside0.mk (heap_alloc_new w2 (.cells #[.slice A1 P.length c1,.bool x.ovf,.int .i64 x.v,.int .i64 x.t,.bool x.hasT,.int .i64 0] 34))
    have HR3:=Aside0.mk ((HR.out.below hb).below hbw)
    have HL3:=Aside0.mk (Kd.R_below HLB.out hbw)
    have HS3:=Aside0.mk (Kd.S_below HVS.out hbw)
    have HLOW:=Aside0.mk (show wr.heap.size ≤ w2.heap.size from hb.size)
    have HLOW0:=Aside0.mk (show w.heap.size ≤ wr.heap.size from HR.out.bel.size)
    have hC3:=Kd.R_reads' HL3.out
    have hgc:=spillwayref3_Get.calls 100 A1 c1 P (⟨#[95,95,110,97,109,101,95,95]⟩ : ByteArray) nm (w2.alloc (.cells #[.slice A1 P.length c1,.bool x.ovf,.int .i64 x.v,.int .i64 x.t,.bool x.hasT,.int .i64 0] 34)) hC3.2.2 hC3.2.1 hG
    have c0 : (w2.alloc (.cells #[.slice A1 P.length c1,.bool x.ovf,.int .i64 x.v,.int .i64 x.t,.bool x.hasT,.int .i64 0] 34)).cell? ⟨w2.heap.size,0,none⟩ = some (.slice A1 P.length c1):=(blk_cell BX.out 0).trans rfl
    clear hlc1 HR ho hb hx HX hbw HLB HVS hG hC3
    go_wp2_with (fail)
    refine hgc.mono ?_
    rintro e3 w3 ⟨rfl,hd⟩
    obtain ⟨m,rfl⟩:=hd.out
    have hdn:=pw_below_drewN (Below.refl (w2.alloc (.cells #[.slice A1 P.length c1,.bool x.ovf,.int .i64 x.v,.int .i64 x.t,.bool x.hasT,.int .i64 0] 34)).heap.size (w2.alloc (.cells #[.slice A1 P.length c1,.bool x.ovf,.int .i64 x.v,.int .i64 x.t,.bool x.hasT,.int .i64 0] 34))) m
    have HR4:=Aside0.mk (HR3.out.below hdn)
    have HL4:=Aside0.mk (Kd.R_below HL3.out hdn)
    have HS4:=Aside0.mk (Kd.S_below HS3.out hdn)
    have BX4:=Aside0.mk (blk_drewN BX.out m)
    clear hgc hd hdn HR3 HL3 HS3 BX c0
    generalize (w2.alloc (.cells #[.slice A1 P.length c1,.bool x.ovf,.int .i64 x.v,.int .i64 x.t,.bool x.hasT,.int .i64 0] 34)).drewN m = w4 at HR4 HL4 HS4 BX4 ⊢
    generalize w2.heap.size = xb at BX4 HLOW ⊢
    have hkc:=kinds_get w4 kb w.heap.size _ _ vn vk ns ks nm HR4.out.blk HR4.out.nam HR4.out.kin HA.out.len (by have:=HI.out;have:=HN.out;omega)
    rw [HKD.out] at hkc
    generalize hkd : kget B.of (getL x.labels NL) = kd at hkc
    have HKE:=Aside0.mk hkd
    clear hkd HKD
    have c0:=(blk_cell BX4.out 0).trans (show _ = some (Value.slice A1 P.length c1) from rfl)
    have c1':=(blk_cell BX4.out 1).trans (show _ = some (Value.bool x.ovf) from rfl)
    have c2:=(blk_cell BX4.out 2).trans (show _ = some (Value.int .i64 x.v) from rfl)
    have c3:=(blk_cell BX4.out 3).trans (show _ = some (Value.int .i64 x.t) from rfl)
    have c4:=(blk_cell BX4.out 4).trans (show _ = some (Value.bool x.hasT) from rfl)
    have c5:=(blk_cell BX4.out 5).trans (show _ = some (Value.int .i64 0) from rfl)
    have f5:=blk_frozen BX4.out 5
    go_wp2_with (fail)
    refine hkc.mono ?_
    rintro e5 w5 ⟨rfl,rfl⟩
    have HR5:=Aside0.mk (HR4.out.far BX4.out HS4.out HLOW.out (Nat.le_trans HLOW0.out HLOW.out) 5 (.int .i64 kd))
    have HL5:=Aside0.mk (Kd.R_set HL4.out BX4.out (by decide) 5 (.int .i64 kd))
    have HS5:=Aside0.mk (Kd.S_far (p:=⟨xb,5,none⟩) HS4.out (fun k hk e=>by have hk2 : k < wr.heap.size:=hk;have e2 : k = xb:=e;have:=HLOW.out;omega) (.int .i64 kd))
    clear hkc HR4 HL4 HS4
    go_wp2_with (first|((with_reducible refine gate_builtin (b:=.append) (xs:=#[.tmp 107,.tmp 109]) rfl ?_);at_builtin;refine Kd.S_append k34 (w0:=w) w.heap.size rfl (.tmp 107) (.tmp 109) 23 34 (.agg #[.slice none 0 0,.bool false,.int .i64 0,.int .i64 0,.bool false,.int .i64 0]) 64 rfl Tryz.underlying23 info34 rfl (by decide) (by omega) u5 (B.out.map scrS) (⟨P,⟨x.ovf,x.v⟩,x.t,x.hasT,kd⟩ : S34) [.slice A1 P.length c1,.bool x.ovf,.int .i64 x.v,.int .i64 x.t,.bool x.hasT,.int .i64 kd] (fun _=>True) (fun k=>wr.heap.size ≤ k) rfl (by first|(go_simp;done)|(go_simp;rfl)) ?aP (fun k hk=>⟨trivial,fun e=>by have:=HVT.out k e.symm;have hk2 : wr.heap.size ≤ k:=hk;omega⟩) ?aF ?aO ?aB ?aS ?aL ?_;(case aP=>exact k34_mkM _ _ _ _ HL5.out);(case aF=>exact (fun _ _=>trivial));(case aO=>exact Kd.S_mono HS5.out (fun k hk=>⟨trivial,fun h=>by have hk2 : k < wr.heap.size:=hk;have h2 : wr.heap.size ≤ k:=h;omega⟩));(case aB=>exact HR5.out.bel);(case aS=>exact HR5.out.bel.size);(case aL=>have:=HI.out;have:=HN.out;simp only [List.length_map];omega);intro v5 w6 ho4 hb4 hg4 hat4;have HR6:=Aside0.mk (HR5.out.outed (O':=B.out ++ [{ x with kind:=kd }]) (by rw [List.map_append];rw [HQ.out kd] at ho4;exact ho4) hb4 hg4);clear HR5 ho4 hb4 hg4 hat4))
    go_roundg (L.length - (i + 1))
    case measure=>omega
    refine ⟨i + 1,vn,vk,ns,ks,{ B with out:=B.out ++ [{ x with kind:=kget B.of (getL x.labels NL) }] },by first|rw [hw]|(push_cast;rfl),by omega,⟨by have:=HI.out;simp only [List.length_append,List.length_singleton];omega⟩,⟨by have h:=HQ1.out;rw [HST2.out] at h;exact h⟩,⟨?_⟩,HA⟩
    rw [HKE.out]
    exact HR6.out
 obtain rfl : i = L.length:=by have:=HI.out;omega
 have hltz : ¬ ((L.length : Int) < (L.length : Int)):=by omega
 have hBo:=HQ.out
 rw [List.drop_length,runB] at hBo
 have HBo:=Aside0.mk hBo
 obtain ⟨B0,m0,rfl⟩:=Kd.S_slice HR.out.out
 obtain ⟨B1,m1,rfl⟩:=Kd.R_slice HR.out.bad
 obtain ⟨B2,m2,rfl⟩:=Kd.R_slice HR.out.why
 clear hBo HQ HI hlt hgg
 go_wp2_with (fail)
 go_ret3
 have h1:=HR.out.out
 have h2:=HR.out.bad
 have h3:=HR.out.why
 rw [HBo.out] at h1 h2 h3
 rw [HBo.out]
 simp only [List.length_map] at h1 h2 h3
 exact ⟨_,_,_,rfl,by rw [hkb] at h1;exact h1,by rw [hkb] at h2;exact h2,by rw [hkb] at h3;exact h3,by have h:=HR.out.bel;rw [hkb] at h;exact h⟩
theorem rparse_calls (s : ByteArray) (w : World) :
  Calls Tryz.prog 11 #[.string s] w fun e w'=>∃ v0 v1 v2 : Value,e = .returned (.tuple #[v0,v1,v2]) ∧ Kd.S k34 34 w' w.heap.size (fun _=>True) v0 ((scrapeS s.data.toList).1.map scrS) ∧ Kd.R kI 3 w' w.heap.size (fun _=>True) v1 ((scrapeS s.data.toList).2.map (·.1)) ∧ Kd.R kI 3 w' w.heap.size (fun _=>True) v2 ((scrapeS s.data.toList).2.map (·.2)) ∧ Below w.heap.size w w':=by
 have hsz : s.data.toList.length = s.size:=Array.length_toList
 unfold scrapeS
 by_cases hl : 3000 < s.size
 ·rw [if_pos (by rw [hsz];exact hl)]
  exact (rparse_long s w hl).mono (fun e w' ⟨v1,v2,h1,h2,h3,h4⟩=>⟨_,v1,v2,h1,Kd.S_nil _ _ _ _ _,h2,h3,h4⟩)
 rw [if_neg (by rw [hsz];exact hl)]
 exact rparse_short s w (by omega)
/-! ExpoTells: the walk -/
set_option maxHeartbeats 16000000 in
set_option maxRecDepth 100000 in
theorem tells_walk (s line : ByteArray) (w : World) (hg_ : LaidW w) (hkn : spillwaylaw6_known.f 4000 = some true) :
  Calls Tryz.prog 3 #[.string s,.string line] w fun e w'=>e = .returned (.bool true) ∧ Below w.heap.size w w':=by
 have HG:=Aside0.mk hg_
 have hkc:=spillwaylaw6_known.calls 4000 true w hg_ hkn
 clear hg_ hkn
 by_cases hs : (s.size : Int) > 3100
 ·have hs1 : decide (3100 < s.size) = true:=decide_eq_true (by omega)
  have hs2 : decide ((3100 : Int) < (s.size : Int)) = true:=decide_eq_true hs
  clear hs
  go_enter Tryz.func3,Tryz.ntmps3
  go_wp2_with (go_at_call 9;refine hkc.mono ?_;rintro e w1 ⟨rfl,hb1⟩)
  go_ret
  exact ⟨rfl,hb1⟩
 have hs1 : decide (3100 < s.size) = false:=decide_eq_false (by omega)
 have hs2 : decide ((3100 : Int) < (s.size : Int)) = false:=decide_eq_false hs
 clear hs
 by_cases hl : (line.size : Int) > 400
 ·have hl1 : decide (400 < line.size) = true:=decide_eq_true (by omega)
  have hl2 : decide ((400 : Int) < (line.size : Int)) = true:=decide_eq_true hl
  clear hl
  go_enter Tryz.func3,Tryz.ntmps3
  go_wp2_with (go_at_call 9;refine hkc.mono ?_;rintro e w1 ⟨rfl,hb1⟩)
  go_ret
  exact ⟨rfl,hb1⟩
 have hl1 : decide (400 < line.size) = false:=decide_eq_false (by omega)
 have hl2 : decide ((400 : Int) < (line.size : Int)) = false:=decide_eq_false hl
 have hsz : line.data.toList.length = line.size:=Array.length_toList
 have hln0:=line_eq line.data.toList 4000 (by omega) (by omega)
 have hoe : ofL line.data.toList = line:=ba_inj_ rfl
 rw [hoe] at hln0
 have hrl0:=fun W_=>rline_calls line W_
 have hsm:=out_small line.data.toList
 rcases hso : scrOut (lineS line.data.toList) with ⟨P,ov,vv,tt,ht,kk,ee⟩
 rw [hso] at hln0 hsm
 have hrl : ∀ W_,Calls Tryz.prog 13 #[.string line] W_ fun e w'=>∃ v0_ : Value,e = .returned (.tuple #[.agg #[v0_,.bool ov,.int .i64 vv,.int .i64 tt,.bool ht,.int .i64 kk],.int .i64 ee]) ∧ Kd.R k60 60 w' W_.heap.size (fun _=>True) v0_ P ∧ Below W_.heap.size W_ w':=fun W_=>by
  have h:=hrl0 W_
  rw [hso] at h
  exact h
 have hsame:=line_same P hsm ov vv tt ht kk
 have HLN:=Aside0.mk hln0
 have HSM:=Aside0.mk hsame
 clear hl hsz hln0 hrl0 hso hoe hsm hsame
 go_enter Tryz.func3,Tryz.ntmps3
 go_wp2_with (go_at_call 9;refine hkc.mono ?_;rintro e w1 ⟨rfl,hb1⟩)
 have HB1:=Aside0.mk hb1
 have hpc:=expo_Parse.calls s _ _ w1 (LaidW.below HG.out hb1) rfl
 have hss:=scrape_same s.data.toList
 have hsl:=scrape_small s.data.toList
 have hrp:=fun W_=>rparse_calls s W_
 generalize (scrapeS s.data.toList).1 = O at hpc hss hsl hrp
 generalize (scrapeS s.data.toList).2 = D at hpc hsl hrp
 have HSS:=Aside0.mk hss
 have HSL:=Aside0.mk hsl
 clear hkc hb1 hss hsl
 refine hpc.mono ?_
 rintro e2 w2 ⟨v0,v1,rfl,hS0,hR1,hb2⟩
 obtain ⟨A0,c0,rfl⟩:=Kd.S_slice hS0
 obtain ⟨A1,c1,rfl⟩:=Kd.R_slice hR1
 have HB2:=Aside0.mk (below_step HB1.out hb2)
 have HC0:=Aside0.mk (Kd.S_reads' hS0).2
 have HC1:=Aside0.mk (Kd.R_reads' hR1).2.2
 clear hpc HB1 hS0 hR1 hb2
 simp only [List.length_map]
 go_wp2_with (fail)
 refine (hrp _).mono ?_
 rintro e3 w3 ⟨v2,v3,v4,rfl,hS2,hR3,hR4,hb3⟩
 obtain ⟨A2,c2,rfl⟩:=Kd.S_slice hS2
 obtain ⟨A3,c3,rfl⟩:=Kd.R_slice hR3
 obtain ⟨A4,c4,rfl⟩:=Kd.R_slice hR4
 have HB3:=Aside0.mk (below_step HB2.out hb3)
 have HD0:=Aside0.mk (Kd.C_below HC0.out.2 hb3)
 have HD1:=Aside0.mk (Kd.C_below HC1.out hb3)
 have HL0:=Aside0.mk HC0.out.1
 have HD2:=Aside0.mk (Kd.S_reads' hS2).2.2
 have HL2:=Aside0.mk (Kd.S_reads' hS2).2.1
 have HD3:=Aside0.mk (Kd.R_reads' hR3).2.2
 have HD4:=Aside0.mk (Kd.R_reads' hR4).2.2
 have hlc:=expo_Line.calls 4000 line P ov vv tt ht kk ee w3 (LaidW.below HG.out HB3.out) HLN.out
 clear hrp HB2 HC0 HC1 hS2 hR3 hR4 hb3
 simp only [List.length_map]
 go_wp2_with (fail)
 refine hlc.mono ?_
 rintro e5 w5 ⟨v5,rfl,hR5,hb5⟩
 obtain ⟨A5,c5,rfl⟩:=Kd.R_slice hR5
 have hx5:=below_alloc hb5 (.cells #[.slice A5 P.length c5,.bool ov,.int .i64 vv,.int .i64 tt,.bool ht,.int .i64 kk] 34)
 have HE0:=Aside0.mk (Kd.C_below HD0.out hx5)
 have HE1:=Aside0.mk (Kd.C_below HD1.out hx5)
 have HE2:=Aside0.mk (Kd.C_below HD2.out hx5)
 have HE3:=Aside0.mk (Kd.C_below HD3.out hx5)
 have HE4:=Aside0.mk (Kd.C_below HD4.out hx5)
 have HR5:=Aside0.mk (Kd.R_below hR5 (below_alloc (Below.refl w5.heap.size w5) (.cells #[.slice A5 P.length c5,.bool ov,.int .i64 vv,.int .i64 tt,.bool ht,.int .i64 kk] 34)))
 have BX:=Aside0.mk (heap_alloc_new w5 (.cells #[.slice A5 P.length c5,.bool ov,.int .i64 vv,.int .i64 tt,.bool ht,.int .i64 kk] 34))
 have HB5:=Aside0.mk (below_step HB3.out hx5)
 clear hlc HD0 HD1 HD2 HD3 HD4 hR5 hb5 hx5 HB3
 go_wp2_with (fail)
 generalize w5.alloc (.cells #[.slice A5 P.length c5,.bool ov,.int .i64 vv,.int .i64 tt,.bool ht,.int .i64 kk] 34) = w6 at HE0 HE1 HE2 HE3 HE4 HR5 BX HB5 ⊢
 generalize w5.heap.size = xb at BX ⊢
 refine (hrl _).mono ?_
 rintro e7 w7 ⟨v6,rfl,hR6,hb7⟩
 obtain ⟨A6,c6,rfl⟩:=Kd.R_slice hR6
 have hx7:=below_alloc hb7 (.cells #[.slice A6 P.length c6,.bool ov,.int .i64 vv,.int .i64 tt,.bool ht,.int .i64 kk] 34)
 have HF0:=Aside0.mk (Kd.C_below HE0.out hx7)
 have HF1:=Aside0.mk (Kd.C_below HE1.out hx7)
 have HF2:=Aside0.mk (Kd.C_below HE2.out hx7)
 have HF3:=Aside0.mk (Kd.C_below HE3.out hx7)
 have HF4:=Aside0.mk (Kd.C_below HE4.out hx7)
 have HR6:=Aside0.mk (Kd.R_below hR6 (below_alloc (Below.refl w7.heap.size w7) (.cells #[.slice A6 P.length c6,.bool ov,.int .i64 vv,.int .i64 tt,.bool ht,.int .i64 kk] 34)))
 have HR7:=Aside0.mk (Kd.R_below HR5.out hx7)
 have BX7:=Aside0.mk ((hx7.block xb (blk_lt BX.out)).trans BX.out)
 have BY7:=Aside0.mk (heap_alloc_new w7 (.cells #[.slice A6 P.length c6,.bool ov,.int .i64 vv,.int .i64 tt,.bool ht,.int .i64 kk] 34))
 have HB7:=Aside0.mk (below_step HB5.out hx7)
 clear hrl HE0 HE1 HE2 HE3 HE4 HR5 BX hR6 hb7 hx7 HB5
 go_wp2_with (fail)
 generalize w7.alloc (.cells #[.slice A6 P.length c6,.bool ov,.int .i64 vv,.int .i64 tt,.bool ht,.int .i64 kk] 34) = w8 at HF0 HF1 HF2 HF3 HF4 HR6 HR7 BX7 BY7 HB7 ⊢
 generalize w7.heap.size = yb at BY7 ⊢
 have hsc:=spillwaylaw6_sames.calls 4000 A0 c0 _ A2 c2 _ true w8 HF0.out HL0.out HF2.out HL2.out HSS.out
 simp only [List.length_map] at hsc
 refine hsc.mono ?_
 rintro e9 w9 ⟨rfl,hb9⟩
 have HG1:=Aside0.mk (Kd.C_below HF1.out hb9)
 have HG3:=Aside0.mk (Kd.C_below HF3.out hb9)
 have HG4:=Aside0.mk (Kd.C_below HF4.out hb9)
 have HR8:=Aside0.mk (Kd.R_reads' (Kd.R_below HR6.out hb9)).2
 have HR9:=Aside0.mk (Kd.R_reads' (Kd.R_below HR7.out hb9)).2
 have BX9:=(hb9.block xb (blk_lt BX7.out)).trans BX7.out
 have BY9:=(hb9.block yb (blk_lt BY7.out)).trans BY7.out
 have HB9:=Aside0.mk (below_step HB7.out hb9)
 obtain ⟨⟨x0,x1,x2,x3,x4,x5⟩,_⟩:=cel6 BX9
 obtain ⟨⟨y0,y1,y2,y3,y4,y5⟩,_⟩:=cel6 BY9
 have hsm:=spillwaylaw6_same.calls 100 A5 c5 P ov vv tt ht kk A6 c6 P ov vv tt ht kk true w9 HR9.out.2 HR9.out.1 HR8.out.2 HR8.out.1 HSM.out
 clear hsc HF0 HF1 HF2 HF3 HF4 HR6 HR7 BX7 BY7 hb9 BX9 BY9 HB7 HR8 HR9
 go_wp2_with (fail)
 refine hsm.mono ?_
 rintro e10 w10 ⟨rfl,hb10⟩
 have HC1:=Aside0.mk (Kd.C_below HG1.out hb10)
 have HC3:=Aside0.mk (Kd.C_below HG3.out hb10)
 have HC4:=Aside0.mk (Kd.C_below HG4.out hb10)
 have HB10:=Aside0.mk (below_step HB9.out hb10)
 clear hsm HG1 HG3 HG4 hb10 HB9 x0 x1 x2 x3 x4 x5 y0 y1 y2 y3 y4 y5
 go_wp2_with (fail)
 go_loopg [14] D.length (fun gq s14 wq=>∃ (j nd : Nat),s14 = .int .i64 j ∧ D.length - j ≤ gq ∧ Aside0 (j ≤ D.length) ∧ wq = w10.drewN nd)
 case atStart=>exact ⟨0,0,rfl,by omega,⟨by omega⟩,rfl⟩
 obtain ⟨j,nd,rfl,hgq,HJ,rfl⟩:=hrel
 by_cases hj : j < D.length
 ·have hjz : (j : Int) < (D.length : Int):=by omega
  obtain ⟨ad1,rfl,y0,y1⟩:=at_T43 HC1.out (j : Int) (by omega) (by rw [List.length_map];omega)
  obtain ⟨ad3,rfl,z0⟩:=Kd.at_int HC3.out (j : Int) (by omega) (by rw [List.length_map];omega)
  obtain ⟨ad4,rfl,z1⟩:=Kd.at_int HC4.out (j : Int) (by omega) (by rw [List.length_map];omega)
  have he : (rd_T43 (D.map badS) (j : Int)).f0 = YtfgffjchphignaaGreatDoorW.PrintWords.rd (D.map (·.1)) (j : Int):=by
   unfold rd_T43 YtfgffjchphignaaGreatDoorW.PrintWords.rd
   rw [Int.toNat_natCast,List.getD_eq_getElem?_getD,List.getD_eq_getElem?_getD,List.getElem?_map,List.getElem?_map,List.getElem?_eq_getElem hj]
   rfl
  have he1 : (rd_T43 (D.map badS) (j : Int)).f1 = YtfgffjchphignaaGreatDoorW.PrintWords.rd (D.map (·.2)) (j : Int):=by
   unfold rd_T43 YtfgffjchphignaaGreatDoorW.PrintWords.rd
   rw [Int.toNat_natCast,List.getD_eq_getElem?_getD,List.getD_eq_getElem?_getD,List.getElem?_map,List.getElem?_map,List.getElem?_eq_getElem hj]
   rfl
  rw [he] at y0
  rw [he1] at y1
  generalize YtfgffjchphignaaGreatDoorW.PrintWords.rd (D.map (·.1)) (j : Int) = va at y0 z0
  generalize YtfgffjchphignaaGreatDoorW.PrintWords.rd (D.map (·.2)) (j : Int) = vb at y1 z1
  rw [Int.toNat_natCast] at y0 y1 z0 z1
  have hw:=wrap_succ j (by have:=HSL.out;omega)
  clear he he1
  go_wp2_with (fail)
  go_quiet (fail)
  go_wp2
  go_roundg (D.length - (j + 1))
  case measure=>omega
  case rel=>exact ⟨j + 1,_,by first|rw [hw]|(push_cast;rfl),by omega,⟨by omega⟩,rfl⟩
 obtain rfl : j = D.length:=by have:=HJ.out;omega
 have hjz : ¬ ((D.length : Int) < (D.length : Int)):=by omega
 go_wp2_with (fail)
 go_ret
 exact ⟨rfl,pw_below_drewN HB10.out nd⟩
end Go.Proofs.YtfgffjchphignaaGreatDoor.Print
end
