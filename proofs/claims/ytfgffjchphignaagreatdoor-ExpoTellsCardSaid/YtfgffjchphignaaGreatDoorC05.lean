/- A part of the proof of ExpoTells: what the functions that the law reaches come to. -/
import Derived.Test.YtfgffjchphignaaGreatDoorC01
import Derived.Test.YtfgffjchphignaaGreatDoorC04
import Derived.Test.YtfgffjchphignaaGreatDoorC03
import Derived.Laws.Cover1
import Derived.Laws.CopyRow
set_option linter.unusedVariables false
set_option linter.unusedSimpArgs false
section
namespace Go.Proofs.YtfgffjchphignaaGreatDoor.Print
open Go.RowKit Go.Proofs.YtfgffjchphignaaGreatDoorX Go.Proofs.YtfgffjchphignaaGreatDoorW.PrintWords Go.Proofs.YtfgffjchphignaaGreatDoorW.PrintLast Go.Proofs.YtfgffjchphignaaGreatDoorW.PrintMore
/-! ### spillwayref3_Quoted: function 72 -/
mutual
def spillwayref3_Quoted.j0 : Nat → ByteArray → Bool → Option (ByteArray × Int)
 | 0,_,_=>none
 | k + 1,x0,x12=>if x12 = true then (some ((⟨#[]⟩ : ByteArray),0)) else (spillwayref3_Quoted.l0 k x0 ([] : List Int) 1)
def spillwayref3_Quoted.l0 : Nat → ByteArray → List Int → Int → Option (ByteArray × Int)
 | 0,_,_,_=>none
 | k + 1,x0,x4,x5=>if x5 < (x0.size : Int) then (if 0 ≤ x5 then (if (bt x0 x5) = 34 then (some (strOfNums x4,wrap64 (x5 + 1))) else (if (bt x0 x5) = 92 then (if (wrap64 (x5 + 1)) ≥ (x0.size : Int) then (some ((⟨#[]⟩ : ByteArray),0)) else (if 0 ≤ (wrap64 (x5 + 1)) then (if (wrap64 (x5 + 1)) < (x0.size : Int) then (if (bt x0 (wrap64 (x5 + 1))) = 34 then (if x4.length < 140737488355328 then (spillwayref3_Quoted.l0 k x0 (x4 ++ [bt x0 (wrap64 (x5 + 1))]) (wrap64 ((wrap64 (x5 + 1)) + 1))) else (none)) else (if (bt x0 (wrap64 (x5 + 1))) = 92 then (if x4.length < 140737488355328 then (spillwayref3_Quoted.l0 k x0 (x4 ++ [bt x0 (wrap64 (x5 + 1))]) (wrap64 ((wrap64 (x5 + 1)) + 1))) else (none)) else (some ((⟨#[]⟩ : ByteArray),0)))) else (none)) else (none))) else (if (bt x0 x5) = 10 then (some ((⟨#[]⟩ : ByteArray),0)) else (if x4.length < 140737488355328 then (spillwayref3_Quoted.l0 k x0 (x4 ++ [bt x0 x5]) (wrap64 (x5 + 1))) else (none))))) else (none)) else (some ((⟨#[]⟩ : ByteArray),0))
end
def spillwayref3_Quoted.f (k : Nat) (a0 : ByteArray) : Option (ByteArray × Int):=if a0.toList = ([] : List UInt8) then (spillwayref3_Quoted.j0 k a0 true) else (if 0 < (a0.size : Int) then (spillwayref3_Quoted.j0 k a0 ((bt a0 0) != 34)) else (none))
set_option maxHeartbeats 8000000 in
set_option maxRecDepth 100000 in
theorem spillwayref3_Quoted.calls (k : Nat) (a0 : ByteArray) (r1 : ByteArray) (r2 : Int) (w : World) (h : spillwayref3_Quoted.f k a0 = some (r1,r2)) :
  Calls Tryz.prog 72 #[.string a0] w fun e w'=>e = .returned (.tuple #[.string r1,.int .i64 r2]) ∧ Below w.heap.size w w':=by
 have HB:=Aside0.mk (Below.refl w.heap.size w)
 have H : (if a0.toList = ([] : List UInt8) then (spillwayref3_Quoted.j0 k a0 true) else (if 0 < (a0.size : Int) then (spillwayref3_Quoted.j0 k a0 ((bt a0 0) != 34)) else (none))) = some (r1,r2):=h
 clear h
 have HC2:=Aside0.mk H
 clear H
 go_enter Tryz.func72,Tryz.ntmps72
 go_upto_region 1 with (fail)
 go_cut [12] (fun v12 wc=>∃ (kq : Nat) (x12_1 : Bool),v12 = .bool x12_1 ∧ Aside0 (spillwayref3_Quoted.j0 kq a0 x12_1 = some (r1,r2)) ∧ Aside0 (kq ≤ k) ∧ Aside0 (Below w.heap.size w wc))
 case first =>
  have H:=HC2.out
  clear HC2
  by_cases c3 : a0.toList = ([] : List UInt8)
  ·rw [if_pos c3] at H
   have c3b0 : (a0.toList == ([] : List UInt8)) = true:=beq_iff_eq.mpr c3
   have c3b1 : (a0.toList != ([] : List UInt8)) = false:=bne_eq_false_iff_eq.mpr c3
   clear c3
   (first|rw [c3b0]|(simp only [i64_w,i32_w];rw [c3b0])|skip)
   have H':=Aside0.mk H
   clear H
   go_wp2
   go_meet
   case rel=>exact ⟨_,(true),(by first|rfl|(simp;done)|(simp [*];done)),H',⟨by first|omega|exact Nat.le_refl _⟩,⟨by repeat (first|(with_reducible first|exact HB.out|apply below_alloc|apply pw_below_drewN|apply below_drew1)|exact HB.out)⟩⟩
  rw [if_neg c3] at H
  have c3b0 : (a0.toList == ([] : List UInt8)) = false:=beq_eq_false_iff_ne.mpr c3
  have c3b1 : (a0.toList != ([] : List UInt8)) = true:=bne_iff_ne.mpr c3
  (first|rw [c3b0]|(simp only [i64_w,i32_w];rw [c3b0])|skip)
  by_cases c4 : 0 < (a0.size : Int)
  ·rw [if_pos c4] at H
   have c4b0 : decide (0 < (a0.size : Int)) = true:=decide_eq_true c4
   have c4b1 : decide (0 < a0.size) = true:=decide_eq_true (by omega)
   clear c4
   have H':=Aside0.mk H
   clear H
   have p5 : 0 ≤ (0 : Int):=(by omega)
   have q5 : 0 < a0.size:=(by have : (0 : Int) < (a0.size : Int):=of_decide_eq_true (by first|(with_reducible assumption)|assumption);omega)
   have hx5 : ∀ h : 0 < a0.size,((a0[0]'h).toNat : Int) = bt a0 0:=bt_at a0 0
   clear p5
   have qi5 : (0 < (a0.size : Int)) = True:=eq_true (of_decide_eq_true (by first|(with_reducible assumption)|assumption))
   replace q5:=eq_true q5
   go_wp2
   go_meet
   case rel=>exact ⟨_,(((bt a0 0) != 34)),(by first|rfl|(simp;done)|(simp [*];done)),H',⟨by first|omega|exact Nat.le_refl _⟩,⟨by repeat (first|(with_reducible first|exact HB.out|apply below_alloc|apply pw_below_drewN|apply below_drew1)|exact HB.out)⟩⟩
  rw [if_neg c4] at H
  exact absurd H (by simp)
 clear HC2
 try clear p2
 try clear c3
 try clear c3b0
 try clear c3b1
 try clear c4
 try clear c4b0
 try clear c4b1
 try clear p5
 try clear q5
 try clear hx5
 try clear qi5
 try clear p5
 try clear q5
 obtain ⟨kq,x12_1,rfl,HA,HJ1,HB⟩:=hcut
 cases kq with
 | zero=>exact absurd HA.out (by simp [spillwayref3_Quoted.j0])
 | succ kj1 =>
  have H:=HA.out
  clear HA
  simp only [spillwayref3_Quoted.j0] at H
  by_cases c6 : x12_1 = true
  ·subst c6
   have H1 : (some ((⟨#[]⟩ : ByteArray),0)) = some (r1,r2):=by rw [if_pos rfl] at H;exact H
   clear H
   have H:=H1
   clear H1
   simp only [Option.some.injEq,Prod.mk.injEq] at H
   obtain ⟨rfl,rfl⟩:=H
   go_wp2
   go_ret2
   exact ⟨by first|rfl|(simp [errW_none,errW_some] <;> rfl)|(simp [*,errW_none,errW_some] <;> rfl),by repeat (first|(with_reducible first|exact HB.out|apply below_alloc|apply pw_below_drewN|apply below_drew1)|exact HB.out)⟩
  replace c6:=Bool.eq_false_iff.mpr c6
  subst c6
  have H1 : (spillwayref3_Quoted.l0 kj1 a0 ([] : List Int) 1) = some (r1,r2):=by rw [if_neg (show ¬ (false = true) by decide)] at H;exact H
  clear H
  have H:=H1
  clear H1
  have H':=Aside0.mk H
  clear H
  go_wp2
  go_loopg [4,5] kj1 (fun kq v4 v5 w'=>∃ (x4_2 : List Int) (x5_2 : Int),v5 = .int .i64 x5_2 ∧ Aside0 (spillwayref3_Quoted.l0 kq a0 x4_2 x5_2 = some (r1,r2)) ∧ Aside0 (kq ≤ kj1) ∧ Aside0 (Kd.R (Kd.int .u8) 5 w' w.heap.size (fun _=>True) v4 x4_2) ∧ Aside0 (Below w.heap.size w w'))
  case atStart=>exact ⟨(([] : List Int)),(1),(by first|rfl|(simp;done)|(simp [*];done)),H',⟨Nat.le_refl _⟩,⟨by first|exact Kd.R_nil _ _ _ _ _|exact Kd.N_nil _ _ _ _ _|exact Kd.V_nil _ _ _ _ _|exact Kd.Q_nil _ _ _ _ _|exact Kd.S_nil _ _ _ _ _⟩,⟨by repeat (first|(with_reducible first|exact HB.out|apply below_alloc|apply pw_below_drewN|apply below_drew1)|exact HB.out)⟩⟩
  clear H'
  try clear p2
  try clear c3
  try clear c3b0
  try clear c3b1
  try clear c4
  try clear c4b0
  try clear c4b1
  try clear p5
  try clear q5
  try clear hx5
  try clear qi5
  try clear c6
  try clear p2
  try clear p5
  try clear q5
  obtain ⟨x4_2,x5_2,rfl,HA,HK2,HO_4,HB⟩:=hrel
  cases gk with
  | zero=>exact absurd HA.out (by simp [spillwayref3_Quoted.l0])
  | succ k2 =>
   have H:=HA.out
   clear HA
   simp only [spillwayref3_Quoted.l0] at H
   by_cases c7 : x5_2 < (a0.size : Int)
   ·rw [if_pos c7] at H
    have c7b0 : decide (x5_2 < (a0.size : Int)) = true:=decide_eq_true c7
    clear c7
    by_cases c8 : 0 ≤ x5_2
    ·rw [if_pos c8] at H
     have c8b0 : decide (0 ≤ x5_2) = true:=decide_eq_true c8
     clear c8
     by_cases c10 : (bt a0 x5_2) = 34
     ·rw [if_pos c10] at H
      have c10b0 : ((bt a0 x5_2) == 34) = true:=beq_iff_eq.mpr c10
      have c10b1 : ((bt a0 x5_2) != 34) = false:=bne_eq_false_iff_eq.mpr c10
      clear c10
      simp only [Option.some.injEq,Prod.mk.injEq] at H
      obtain ⟨rfl,rfl⟩:=H
      have p9 : 0 ≤ (x5_2 : Int):=of_decide_eq_true (by first|(with_reducible assumption)|assumption)
      have q9 : x5_2 < (a0.size : Int):=of_decide_eq_true (by first|(with_reducible assumption)|assumption)
      have hx9:=bt_at a0 x5_2
      replace p9:=eq_true p9
      replace q9:=eq_true q9
      have hcv11:=own_string (P:=Tryz.prog) Tryz.underlying47 Tryz.underlying5 Tryz.underlying9 (Kd.own_of_R HO_4.out)
      go_wp2
      go_ret2
      exact ⟨by first|rfl|(simp [errW_none,errW_some] <;> rfl)|(simp [*,errW_none,errW_some] <;> rfl),by repeat (first|(with_reducible first|exact HB.out|apply below_alloc|apply pw_below_drewN|apply below_drew1)|exact HB.out)⟩
     rw [if_neg c10] at H
     have c10b0 : ((bt a0 x5_2) == 34) = false:=beq_eq_false_iff_ne.mpr c10
     have c10b1 : ((bt a0 x5_2) != 34) = true:=bne_iff_ne.mpr c10
     by_cases c12 : (bt a0 x5_2) = 92
     ·rw [if_pos c12] at H
      have c12b0 : ((bt a0 x5_2) == 92) = true:=beq_iff_eq.mpr c12
      have c12b1 : ((bt a0 x5_2) != 92) = false:=bne_eq_false_iff_eq.mpr c12
      clear c12
      by_cases c13 : (wrap64 (x5_2 + 1)) ≥ (a0.size : Int)
      ·rw [if_pos c13] at H
       have c13b0 : decide ((a0.size : Int) ≤ (wrap64 (x5_2 + 1))) = true:=decide_eq_true c13
       clear c13
       simp only [Option.some.injEq,Prod.mk.injEq] at H
       obtain ⟨rfl,rfl⟩:=H
       have p9 : 0 ≤ (x5_2 : Int):=of_decide_eq_true (by first|(with_reducible assumption)|assumption)
       have q9 : x5_2 < (a0.size : Int):=of_decide_eq_true (by first|(with_reducible assumption)|assumption)
       have hx9:=bt_at a0 x5_2
       replace p9:=eq_true p9
       replace q9:=eq_true q9
       go_wp2
       go_ret2
       exact ⟨by first|rfl|(simp [errW_none,errW_some] <;> rfl)|(simp [*,errW_none,errW_some] <;> rfl),by repeat (first|(with_reducible first|exact HB.out|apply below_alloc|apply pw_below_drewN|apply below_drew1)|exact HB.out)⟩
      rw [if_neg c13] at H
      have c13b0 : decide ((a0.size : Int) ≤ (wrap64 (x5_2 + 1))) = false:=decide_eq_false c13
      clear c13
      obtain ⟨ji14,hji14⟩ : ∃ j_ : Int,(wrap64 (x5_2 + 1)) = j_:=⟨_,rfl⟩
      replace H : (if 0 ≤ (ji14) then (if (ji14) < (a0.size : Int) then (if (bt a0 (ji14)) = 34 then (if x4_2.length < 140737488355328 then (spillwayref3_Quoted.l0 k2 a0 (x4_2 ++ [bt a0 (ji14)]) (wrap64 ((ji14) + 1))) else (none)) else (if (bt a0 (ji14)) = 92 then (if x4_2.length < 140737488355328 then (spillwayref3_Quoted.l0 k2 a0 (x4_2 ++ [bt a0 (ji14)]) (wrap64 ((ji14) + 1))) else (none)) else (some ((⟨#[]⟩ : ByteArray),0)))) else (none)) else (none)) = some (r1,r2):=by first|(rw [hji14] at H;exact H)|(simp only [hji14] at H ⊢;exact H)
      (try rw [hji14] at c13b0)
      have hji14w : (IntKind.i64.wrap (x5_2 + 1)) = ji14:=(i64_w _).trans hji14
      by_cases c15 : 0 ≤ (ji14)
      ·rw [if_pos c15] at H
       have c15b0 : decide (0 ≤ (ji14)) = true:=decide_eq_true c15
       clear c15
       by_cases c16 : (ji14) < (a0.size : Int)
       ·rw [if_pos c16] at H
        have c16b0 : decide ((ji14) < (a0.size : Int)) = true:=decide_eq_true c16
        clear c16
        by_cases c18 : (bt a0 (ji14)) = 34
        ·rw [if_pos c18] at H
         have c18b0 : ((bt a0 (ji14)) == 34) = true:=beq_iff_eq.mpr c18
         have c18b1 : ((bt a0 (ji14)) != 34) = false:=bne_eq_false_iff_eq.mpr c18
         clear c18
         by_cases c20 : x4_2.length < 140737488355328
         ·rw [if_pos c20] at H
          have LMc20:=Aside0.mk c20
          clear c20
          obtain ⟨y223,hy223⟩ : ∃ y_ : List Int,y_ = (x4_2 ++ [bt a0 (ji14)]):=⟨_,rfl⟩
          replace H : (spillwayref3_Quoted.l0 k2 a0 y223 (wrap64 ((ji14) + 1))) = some (r1,r2):=by first|(rw [hy223];with_reducible exact H)|(have H2_:=(Option.bind_some _ _).symm.trans H;rw [hy223];with_reducible exact H2_)|(have H2_:=(Option.bind_some _ _).symm.trans H;with_reducible exact H2_)|with_reducible exact H|(rw [hy223];exact H)|exact H
          have Ny223:=Aside0.mk hy223
          clear hy223
          have H':=Aside0.mk H
          clear H
          have p9 : 0 ≤ (x5_2 : Int):=of_decide_eq_true (by first|(with_reducible assumption)|assumption)
          have q9 : x5_2 < (a0.size : Int):=of_decide_eq_true (by first|(with_reducible assumption)|assumption)
          have hx9:=bt_at a0 x5_2
          replace p9:=eq_true p9
          replace q9:=eq_true q9
          have p17 : 0 ≤ ((ji14) : Int):=of_decide_eq_true (by first|(with_reducible assumption)|assumption)
          have q17 : (ji14) < (a0.size : Int):=of_decide_eq_true (by first|(with_reducible assumption)|assumption)
          have hx17:=bt_at a0 (ji14)
          replace p17:=eq_true p17
          replace q17:=eq_true q17
          have p19 : 0 ≤ ((ji14) : Int):=of_decide_eq_true (by first|(with_reducible assumption)|assumption)
          have q19 : (ji14) < (a0.size : Int):=of_decide_eq_true (by first|(with_reducible assumption)|assumption)
          have hx19:=bt_at a0 (ji14)
          replace p19:=eq_true p19
          replace q19:=eq_true q19
          go_wp2_with (first|((with_reducible refine gate_builtin (b:=.append) (xs:=#[.tmp 53,.tmp 57]) rfl ?_);at_builtin;refine Kd.R_append (Kd.int .u8) (w0:=w) w.heap.size rfl (.tmp 53) (.tmp 57) 47 5 (.int .u8 0) 1 rfl Tryz.underlying47 info5 rfl (by decide) (by omega) u4 x4_2 (bt a0 (ji14)) [.int .u8 (bt a0 (ji14))] (fun _=>True) (fun _=>False) rfl rfl ?aP (fun _ hk=>hk.elim) ?aF ?aO ?aB ?aS ?aL ?_;(case aP=>exact rfl);(case aB=>exact (by repeat (first|(with_reducible first|exact HB.out|apply below_alloc|apply pw_below_drewN|apply below_drew1)|exact HB.out)));(case aF=>exact (fun _ _=>trivial));(case aO=>exact (by (with_reducible repeat (first|apply Kd.R_alloc|apply Kd.R_drewN|apply Kd.R_drew));exact HO_4.out));(case aS=>exact (below_size (by repeat (first|(with_reducible first|exact HB.out|apply below_alloc|apply pw_below_drewN|apply below_drew1)|exact HB.out))));(case aL=>have:=LMc20.out;omega);intro v224 w21 ho hb hg hat;rw [← Ny223.out] at ho;have n0_:=Aside0.mk (hb);have n1_:=Aside0.mk (ho);clear HB;clear HO_4;have HB:=n0_;have HO225:=n1_;clear n0_ n1_;clear ho hb hg hat))
          go_roundg k2
          case measure=>have:=HJ1.out;have:=HK2.out;omega
          case rel=>exact ⟨(y223),(wrap64 ((ji14) + 1)),(by first|rfl|(simp;done)|(simp only [← hji14] <;> (first|rfl|simp))|(simp [*];done)),H',⟨by have:=HJ1.out;have:=HK2.out;omega⟩,⟨by (with_reducible repeat (first|apply Kd.R_alloc|apply Kd.R_drewN|apply Kd.R_drew));exact HO225.out⟩,⟨by repeat (first|(with_reducible first|exact HB.out|apply below_alloc|apply pw_below_drewN|apply below_drew1)|exact HB.out)⟩⟩
         rw [if_neg c20] at H
         exact absurd H (by simp)
        rw [if_neg c18] at H
        have c18b0 : ((bt a0 (ji14)) == 34) = false:=beq_eq_false_iff_ne.mpr c18
        have c18b1 : ((bt a0 (ji14)) != 34) = true:=bne_iff_ne.mpr c18
        by_cases c23 : (bt a0 (ji14)) = 92
        ·rw [if_pos c23] at H
         have c23b0 : ((bt a0 (ji14)) == 92) = true:=beq_iff_eq.mpr c23
         have c23b1 : ((bt a0 (ji14)) != 92) = false:=bne_eq_false_iff_eq.mpr c23
         clear c23
         by_cases c25 : x4_2.length < 140737488355328
         ·rw [if_pos c25] at H
          have LMc25:=Aside0.mk c25
          clear c25
          obtain ⟨y226,hy226⟩ : ∃ y_ : List Int,y_ = (x4_2 ++ [bt a0 (ji14)]):=⟨_,rfl⟩
          replace H : (spillwayref3_Quoted.l0 k2 a0 y226 (wrap64 ((ji14) + 1))) = some (r1,r2):=by first|(rw [hy226];with_reducible exact H)|(have H2_:=(Option.bind_some _ _).symm.trans H;rw [hy226];with_reducible exact H2_)|(have H2_:=(Option.bind_some _ _).symm.trans H;with_reducible exact H2_)|with_reducible exact H|(rw [hy226];exact H)|exact H
          have Ny226:=Aside0.mk hy226
          clear hy226
          have H':=Aside0.mk H
          clear H
          have p9 : 0 ≤ (x5_2 : Int):=of_decide_eq_true (by first|(with_reducible assumption)|assumption)
          have q9 : x5_2 < (a0.size : Int):=of_decide_eq_true (by first|(with_reducible assumption)|assumption)
          have hx9:=bt_at a0 x5_2
          replace p9:=eq_true p9
          replace q9:=eq_true q9
          have p17 : 0 ≤ ((ji14) : Int):=of_decide_eq_true (by first|(with_reducible assumption)|assumption)
          have q17 : (ji14) < (a0.size : Int):=of_decide_eq_true (by first|(with_reducible assumption)|assumption)
          have hx17:=bt_at a0 (ji14)
          replace p17:=eq_true p17
          replace q17:=eq_true q17
          have p22 : 0 ≤ ((ji14) : Int):=of_decide_eq_true (by first|(with_reducible assumption)|assumption)
          have q22 : (ji14) < (a0.size : Int):=of_decide_eq_true (by first|(with_reducible assumption)|assumption)
          have hx22:=bt_at a0 (ji14)
          replace p22:=eq_true p22
          replace q22:=eq_true q22
          have p24 : 0 ≤ ((ji14) : Int):=of_decide_eq_true (by first|(with_reducible assumption)|assumption)
          have q24 : (ji14) < (a0.size : Int):=of_decide_eq_true (by first|(with_reducible assumption)|assumption)
          have hx24:=bt_at a0 (ji14)
          replace p24:=eq_true p24
          replace q24:=eq_true q24
          go_wp2_with (first|((with_reducible refine gate_builtin (b:=.append) (xs:=#[.tmp 53,.tmp 57]) rfl ?_);at_builtin;refine Kd.R_append (Kd.int .u8) (w0:=w) w.heap.size rfl (.tmp 53) (.tmp 57) 47 5 (.int .u8 0) 1 rfl Tryz.underlying47 info5 rfl (by decide) (by omega) u4 x4_2 (bt a0 (ji14)) [.int .u8 (bt a0 (ji14))] (fun _=>True) (fun _=>False) rfl rfl ?aP (fun _ hk=>hk.elim) ?aF ?aO ?aB ?aS ?aL ?_;(case aP=>exact rfl);(case aB=>exact (by repeat (first|(with_reducible first|exact HB.out|apply below_alloc|apply pw_below_drewN|apply below_drew1)|exact HB.out)));(case aF=>exact (fun _ _=>trivial));(case aO=>exact (by (with_reducible repeat (first|apply Kd.R_alloc|apply Kd.R_drewN|apply Kd.R_drew));exact HO_4.out));(case aS=>exact (below_size (by repeat (first|(with_reducible first|exact HB.out|apply below_alloc|apply pw_below_drewN|apply below_drew1)|exact HB.out))));(case aL=>have:=LMc25.out;omega);intro v227 w26 ho hb hg hat;rw [← Ny226.out] at ho;have n0_:=Aside0.mk (hb);have n1_:=Aside0.mk (ho);clear HB;clear HO_4;have HB:=n0_;have HO228:=n1_;clear n0_ n1_;clear ho hb hg hat))
          go_roundg k2
          case measure=>have:=HJ1.out;have:=HK2.out;omega
          case rel=>exact ⟨(y226),(wrap64 ((ji14) + 1)),(by first|rfl|(simp;done)|(simp only [← hji14] <;> (first|rfl|simp))|(simp [*];done)),H',⟨by have:=HJ1.out;have:=HK2.out;omega⟩,⟨by (with_reducible repeat (first|apply Kd.R_alloc|apply Kd.R_drewN|apply Kd.R_drew));exact HO228.out⟩,⟨by repeat (first|(with_reducible first|exact HB.out|apply below_alloc|apply pw_below_drewN|apply below_drew1)|exact HB.out)⟩⟩
         rw [if_neg c25] at H
         exact absurd H (by simp)
        rw [if_neg c23] at H
        have c23b0 : ((bt a0 (ji14)) == 92) = false:=beq_eq_false_iff_ne.mpr c23
        have c23b1 : ((bt a0 (ji14)) != 92) = true:=bne_iff_ne.mpr c23
        simp only [Option.some.injEq,Prod.mk.injEq] at H
        obtain ⟨rfl,rfl⟩:=H
        have p9 : 0 ≤ (x5_2 : Int):=of_decide_eq_true (by first|(with_reducible assumption)|assumption)
        have q9 : x5_2 < (a0.size : Int):=of_decide_eq_true (by first|(with_reducible assumption)|assumption)
        have hx9:=bt_at a0 x5_2
        replace p9:=eq_true p9
        replace q9:=eq_true q9
        have p17 : 0 ≤ ((ji14) : Int):=of_decide_eq_true (by first|(with_reducible assumption)|assumption)
        have q17 : (ji14) < (a0.size : Int):=of_decide_eq_true (by first|(with_reducible assumption)|assumption)
        have hx17:=bt_at a0 (ji14)
        replace p17:=eq_true p17
        replace q17:=eq_true q17
        have p22 : 0 ≤ ((ji14) : Int):=of_decide_eq_true (by first|(with_reducible assumption)|assumption)
        have q22 : (ji14) < (a0.size : Int):=of_decide_eq_true (by first|(with_reducible assumption)|assumption)
        have hx22:=bt_at a0 (ji14)
        replace p22:=eq_true p22
        replace q22:=eq_true q22
        go_wp2
        go_ret2
        exact ⟨by first|rfl|(simp [errW_none,errW_some] <;> rfl)|(simp only [← hji14];first|rfl|(simp [errW_none,errW_some] <;> rfl))|(simp [*,errW_none,errW_some] <;> rfl),by repeat (first|(with_reducible first|exact HB.out|apply below_alloc|apply pw_below_drewN|apply below_drew1)|exact HB.out)⟩
       rw [if_neg c16] at H
       exact absurd H (by simp)
      rw [if_neg c15] at H
      exact absurd H (by simp)
     rw [if_neg c12] at H
     have c12b0 : ((bt a0 x5_2) == 92) = false:=beq_eq_false_iff_ne.mpr c12
     have c12b1 : ((bt a0 x5_2) != 92) = true:=bne_iff_ne.mpr c12
     by_cases c27 : (bt a0 x5_2) = 10
     ·rw [if_pos c27] at H
      have c27b0 : ((bt a0 x5_2) == 10) = true:=beq_iff_eq.mpr c27
      have c27b1 : ((bt a0 x5_2) != 10) = false:=bne_eq_false_iff_eq.mpr c27
      clear c27
      simp only [Option.some.injEq,Prod.mk.injEq] at H
      obtain ⟨rfl,rfl⟩:=H
      have p9 : 0 ≤ (x5_2 : Int):=of_decide_eq_true (by first|(with_reducible assumption)|assumption)
      have q9 : x5_2 < (a0.size : Int):=of_decide_eq_true (by first|(with_reducible assumption)|assumption)
      have hx9:=bt_at a0 x5_2
      replace p9:=eq_true p9
      replace q9:=eq_true q9
      go_wp2
      go_ret2
      exact ⟨by first|rfl|(simp [errW_none,errW_some] <;> rfl)|(simp [*,errW_none,errW_some] <;> rfl),by repeat (first|(with_reducible first|exact HB.out|apply below_alloc|apply pw_below_drewN|apply below_drew1)|exact HB.out)⟩
     rw [if_neg c27] at H
     have c27b0 : ((bt a0 x5_2) == 10) = false:=beq_eq_false_iff_ne.mpr c27
     have c27b1 : ((bt a0 x5_2) != 10) = true:=bne_iff_ne.mpr c27
     by_cases c29 : x4_2.length < 140737488355328
     ·rw [if_pos c29] at H
      have LMc29:=Aside0.mk c29
      clear c29
      obtain ⟨y229,hy229⟩ : ∃ y_ : List Int,y_ = (x4_2 ++ [bt a0 x5_2]):=⟨_,rfl⟩
      replace H : (spillwayref3_Quoted.l0 k2 a0 y229 (wrap64 (x5_2 + 1))) = some (r1,r2):=by first|(rw [hy229];with_reducible exact H)|(have H2_:=(Option.bind_some _ _).symm.trans H;rw [hy229];with_reducible exact H2_)|(have H2_:=(Option.bind_some _ _).symm.trans H;with_reducible exact H2_)|with_reducible exact H|(rw [hy229];exact H)|exact H
      have Ny229:=Aside0.mk hy229
      clear hy229
      have H':=Aside0.mk H
      clear H
      have p9 : 0 ≤ (x5_2 : Int):=of_decide_eq_true (by first|(with_reducible assumption)|assumption)
      have q9 : x5_2 < (a0.size : Int):=of_decide_eq_true (by first|(with_reducible assumption)|assumption)
      have hx9:=bt_at a0 x5_2
      replace p9:=eq_true p9
      replace q9:=eq_true q9
      have p28 : 0 ≤ (x5_2 : Int):=of_decide_eq_true (by first|(with_reducible assumption)|assumption)
      have q28 : x5_2 < (a0.size : Int):=of_decide_eq_true (by first|(with_reducible assumption)|assumption)
      have hx28:=bt_at a0 x5_2
      replace p28:=eq_true p28
      replace q28:=eq_true q28
      go_wp2_with (first|((with_reducible refine gate_builtin (b:=.append) (xs:=#[.tmp 53,.tmp 57]) rfl ?_);at_builtin;refine Kd.R_append (Kd.int .u8) (w0:=w) w.heap.size rfl (.tmp 53) (.tmp 57) 47 5 (.int .u8 0) 1 rfl Tryz.underlying47 info5 rfl (by decide) (by omega) u4 x4_2 (bt a0 x5_2) [.int .u8 (bt a0 x5_2)] (fun _=>True) (fun _=>False) rfl rfl ?aP (fun _ hk=>hk.elim) ?aF ?aO ?aB ?aS ?aL ?_;(case aP=>exact rfl);(case aB=>exact (by repeat (first|(with_reducible first|exact HB.out|apply below_alloc|apply pw_below_drewN|apply below_drew1)|exact HB.out)));(case aF=>exact (fun _ _=>trivial));(case aO=>exact (by (with_reducible repeat (first|apply Kd.R_alloc|apply Kd.R_drewN|apply Kd.R_drew));exact HO_4.out));(case aS=>exact (below_size (by repeat (first|(with_reducible first|exact HB.out|apply below_alloc|apply pw_below_drewN|apply below_drew1)|exact HB.out))));(case aL=>have:=LMc29.out;omega);intro v230 w30 ho hb hg hat;rw [← Ny229.out] at ho;have n0_:=Aside0.mk (hb);have n1_:=Aside0.mk (ho);clear HB;clear HO_4;have HB:=n0_;have HO231:=n1_;clear n0_ n1_;clear ho hb hg hat))
      go_roundg k2
      case measure=>have:=HJ1.out;have:=HK2.out;omega
      case rel=>exact ⟨(y229),(wrap64 (x5_2 + 1)),(by first|rfl|(simp;done)|(simp [*];done)),H',⟨by have:=HJ1.out;have:=HK2.out;omega⟩,⟨by (with_reducible repeat (first|apply Kd.R_alloc|apply Kd.R_drewN|apply Kd.R_drew));exact HO231.out⟩,⟨by repeat (first|(with_reducible first|exact HB.out|apply below_alloc|apply pw_below_drewN|apply below_drew1)|exact HB.out)⟩⟩
     rw [if_neg c29] at H
     exact absurd H (by simp)
    rw [if_neg c8] at H
    exact absurd H (by simp)
   rw [if_neg c7] at H
   have c7b0 : decide (x5_2 < (a0.size : Int)) = false:=decide_eq_false c7
   clear c7
   simp only [Option.some.injEq,Prod.mk.injEq] at H
   obtain ⟨rfl,rfl⟩:=H
   go_wp2
   go_ret2
   exact ⟨by first|rfl|(simp [errW_none,errW_some] <;> rfl)|(simp [*,errW_none,errW_some] <;> rfl),by repeat (first|(with_reducible first|exact HB.out|apply below_alloc|apply pw_below_drewN|apply below_drew1)|exact HB.out)⟩
end Go.Proofs.YtfgffjchphignaaGreatDoor.Print
end
section
namespace Go.Proofs.YtfgffjchphignaaGreatDoor.PureN
open Go.RowKit Go.Proofs.YtfgffjchphignaaGreatDoor.Print
open Go.Proofs.YtfgffjchphignaaGreatDoorX Go.Proofs.YtfgffjchphignaaGreatDoorW.PrintWords Go.Proofs.YtfgffjchphignaaGreatDoorW.PrintLast Go.Proofs.YtfgffjchphignaaGreatDoorW.PrintMore
/-! The document's Quote and Quoted (turned from the lex seat's). -/
theorem drop_cons (l : List UInt8) (i : Nat) (h : i < l.length) : l.drop i = l[i] :: l.drop (i + 1):=List.drop_eq_getElem_cons h
theorem w1 (i : Nat) (h : i ≤ 100000) : wrap64 ((i : Int) + 1) = ((i + 1 : Nat) : Int):=by unfold wrap64;omega
theorem ne_int (c : UInt8) (n : Nat) (hn : n < 256) (h : c ≠ UInt8.ofNat n) : ¬ (c.toNat : Int) = (n : Int):=fun e=>h ((Print.toNat_is c n hn).1 e)
theorem eq_int (c : UInt8) (n : Nat) (hn : n < 256) (h : c = UInt8.ofNat n) : (c.toNat : Int) = (n : Int):=(Print.toNat_is c n hn).2 h
def nums (l : List UInt8) : List Int:=l.map fun c=>(c.toNat : Int)
theorem str_nums (l : List UInt8) : strOfNums (nums l) = ⟨l.toArray⟩:=by
 unfold strOfNums nums
 rw [List.map_map]
 congr 2
 conv=>rhs;rw [← List.map_id l]
 apply List.map_congr_left
 intro c _
 simp
def quoO (acc : List UInt8) (i : Nat) (m : List UInt8) : ByteArray × Int :=
 match unq m with
 | some y=>if (10 : UInt8) ∈ y.1 then (⟨#[]⟩,0) else (⟨(acc ++ y.1).toArray⟩,((i + y.2 : Nat) : Int))
 | none=>(⟨#[]⟩,0)
theorem quo_ord (acc : List UInt8) (i : Nat) (c : UInt8) (m : List UInt8) (h : ¬ (c = 34 ∨ c = 92)) (h10 : c ≠ 10) : quoO acc i (c :: m) = quoO (acc ++ [c]) (i + 1) m:=by
 unfold quoO
 rw [unq_ord c m h]
 cases unq m with
 | none=>rfl
 | some y =>
  simp only [Option.map_some,List.mem_cons,List.append_assoc,List.singleton_append]
  have : ¬ (10 : UInt8) = c:=fun e=>h10 e.symm
  simp only [this,false_or]
  split
  ·rfl
  rw [show i + (y.2 + 1) = i + 1 + y.2 by omega]
theorem quo_nl (acc : List UInt8) (i : Nat) (m : List UInt8) : quoO acc i (10 :: m) = (⟨#[]⟩,0):=by
 unfold quoO
 rw [unq_ord 10 m (by decide)]
 cases unq m with
 | none=>rfl
 | some y=>simp
theorem quo_esc (acc : List UInt8) (i : Nat) (d : UInt8) (m : List UInt8) (h : d = 34 ∨ d = 92) : quoO acc i (92 :: d :: m) = quoO (acc ++ [d]) (i + 2) m:=by
 unfold quoO
 rw [unq_esc d m,if_pos h]
 cases unq m with
 | none=>rfl
 | some y =>
  simp only [Option.map_some,List.mem_cons,List.append_assoc,List.singleton_append]
  have : ¬ (10 : UInt8) = d:=by rcases h with rfl|rfl <;> decide
  simp only [this,false_or]
  split
  ·rfl
  rw [show i + (y.2 + 2) = i + 2 + y.2 by omega]
theorem quo_bad (acc : List UInt8) (i : Nat) (d : UInt8) (m : List UInt8) (h : ¬ (d = 34 ∨ d = 92)) : quoO acc i (92 :: d :: m) = (⟨#[]⟩,0):=by
 unfold quoO
 rw [unq_esc d m,if_neg h]
theorem quo_34 (acc : List UInt8) (i : Nat) (m : List UInt8) : quoO acc i (34 :: m) = (⟨acc.toArray⟩,((i + 1 : Nat) : Int)):=by
 unfold quoO
 rw [unq_34]
 simp
theorem quoted_l0 (l : List UInt8) (hl : l.length ≤ 700) : ∀ (d k i : Nat) (acc : List UInt8),l.length - i ≤ d → i ≤ l.length → d < k → acc.length ≤ i →
  spillwayref3_Quoted.l0 k ⟨l.toArray⟩ (nums acc) (i : Int) = some (quoO acc i (l.drop i)):=by
 intro d
 induction d with
 | zero =>
  intro k i acc h1 h2 hk ha
  obtain ⟨k,rfl⟩ : ∃ m,k = m + 1:=⟨k - 1,by omega⟩
  rw [spillwayref3_Quoted.l0,size_list,if_neg (by omega),List.drop_eq_nil_of_le (by omega)]
  rfl
 | succ d ih =>
  intro k i acc h1 h2 hk ha
  obtain ⟨k,rfl⟩ : ∃ m,k = m + 1:=⟨k - 1,by omega⟩
  by_cases hi : i < l.length
  ·have hd:=drop_cons l i hi
   have hbt:=bt_list l i hi
   have happ : ∀ c : UInt8,nums acc ++ [(c.toNat : Int)] = nums (acc ++ [c]):=fun c=>by simp [nums]
   have hnl : (nums acc).length < 140737488355328:=by simp only [nums,List.length_map];omega
   rw [spillwayref3_Quoted.l0,size_list,if_pos (by omega),if_pos (by omega),hbt,hd]
   generalize l[i] = c at hd hbt ⊢
   by_cases c34 : c = 34
   ·rw [if_pos (show (c.toNat : Int) = 34 from eq_int c 34 (by omega) c34),str_nums,w1 i (by omega),c34,quo_34]
   rw [if_neg (show ¬ (c.toNat : Int) = 34 from ne_int c 34 (by omega) c34)]
   by_cases c92 : c = 92
   ·rw [if_pos (show (c.toNat : Int) = 92 from eq_int c 92 (by omega) c92),w1 i (by omega)]
    by_cases hi2 : i + 1 < l.length
    ·have hd2:=drop_cons l (i + 1) hi2
     have hbt2:=bt_list l (i + 1) hi2
     rw [if_neg (by omega),if_pos (by omega),if_pos (by omega),hbt2,hd2,c92]
     generalize l[i + 1] = e at hd2 hbt2 ⊢
     have step : spillwayref3_Quoted.l0 k ⟨l.toArray⟩ (nums acc ++ [(e.toNat : Int)]) (wrap64 (((i + 1 : Nat) : Int) + 1)) = some (quoO (acc ++ [e]) (i + 2) (l.drop (i + 1 + 1))):=by
      rw [happ,w1 (i + 1) (by omega)]
      exact ih k (i + 2) (acc ++ [e]) (by omega) (by omega) (by omega) (by rw [List.length_append,List.length_singleton];omega)
     by_cases e34 : e = 34
     ·rw [if_pos (show (e.toNat : Int) = 34 from eq_int e 34 (by omega) e34),if_pos hnl,step,quo_esc _ _ _ _ (Or.inl e34)]
     rw [if_neg (show ¬ (e.toNat : Int) = 34 from ne_int e 34 (by omega) e34)]
     by_cases e92 : e = 92
     ·rw [if_pos (show (e.toNat : Int) = 92 from eq_int e 92 (by omega) e92),if_pos hnl,step,quo_esc _ _ _ _ (Or.inr e92)]
     rw [if_neg (show ¬ (e.toNat : Int) = 92 from ne_int e 92 (by omega) e92),quo_bad _ _ _ _ (fun h=>h.elim e34 e92)]
    rw [if_pos (by omega),List.drop_eq_nil_of_le (by omega),c92]
    rfl
   rw [if_neg (show ¬ (c.toNat : Int) = 92 from ne_int c 92 (by omega) c92)]
   by_cases c10 : c = 10
   ·rw [if_pos (show (c.toNat : Int) = 10 from eq_int c 10 (by omega) c10),c10,quo_nl]
   rw [if_neg (show ¬ (c.toNat : Int) = 10 from ne_int c 10 (by omega) c10),if_pos hnl,happ,w1 i (by omega),quo_ord _ _ _ _ (fun h=>h.elim c34 c92) c10]
   exact ih k (i + 1) (acc ++ [c]) (by omega) (by omega) (by omega) (by rw [List.length_append,List.length_singleton];omega)
  rw [spillwayref3_Quoted.l0,size_list,if_neg (by omega),List.drop_eq_nil_of_le (by omega)]
  rfl
theorem quoted_eq (r : List UInt8) (k : Nat) (hl : (34 :: r).length ≤ 700) (hk : 702 < k) : spillwayref3_Quoted.f k ⟨(34 :: r).toArray⟩ = some (quoO [] 1 r):=by
 obtain ⟨k,rfl⟩ : ∃ m,k = m + 1:=⟨k - 1,by omega⟩
 have hb0 : bt ⟨(34 :: r).toArray⟩ 0 = 34:=bt_list (34 :: r) 0 (by simp)
 unfold spillwayref3_Quoted.f
 rw [toList_list,if_neg (by simp),size_list,if_pos (by rw [List.length_cons];omega),hb0,spillwayref3_Quoted.j0,if_neg (by simp)]
 have:=quoted_l0 (34 :: r) hl (34 :: r).length k 1 [] (by omega) (by simp) (by omega) (by simp)
 exact this
theorem ext_one (l : List UInt8) (i : Nat) (h : i < l.length) : (⟨l.toArray⟩ : ByteArray).extract i (i + 1) = ⟨[l[i]].toArray⟩:=by
 apply ByteArray.ext
 apply Array.ext'
 rw [ByteArray.data_extract,Array.toList_extract]
 show (l.drop i).take (i + 1 - i) = [l[i]]
 rw [drop_cons l i h,show i + 1 - i = 1 by omega]
 rfl
theorem rquote_l0 (l : List UInt8) (hl : l.length ≤ 700) : ∀ (d k i : Nat) (acc : List UInt8),i + d = l.length → d < k → acc.length ≤ 2 * i + 1 →
  spillwayref3_Quote.l0 k ⟨l.toArray⟩ ⟨acc.toArray⟩ (i : Int) = some ⟨(acc ++ (quoteB (l.drop i) ++ [34])).toArray⟩
 | 0,k,i,acc,h,hk,ha=>by
  obtain ⟨k,rfl⟩ : ∃ m,k = m + 1:=⟨k - 1,by omega⟩
  rw [spillwayref3_Quote.l0,size_list,if_neg (by omega),size_list,if_pos (by omega),List.drop_eq_nil_of_le (by omega),show (⟨#[34]⟩ : ByteArray) = ⟨[34].toArray⟩ from rfl,app_list]
  rfl
 | d + 1,k,i,acc,h,hk,ha=>by
  obtain ⟨k,rfl⟩ : ∃ m,k = m + 1:=⟨k - 1,by omega⟩
  have hi : i < l.length:=by omega
  rw [spillwayref3_Quote.l0,size_list,if_pos (by omega),if_pos (by omega),bt_list l i hi,w1 i (by omega),Int.toNat_natCast,Int.toNat_natCast,ext_one l i hi,drop_cons l i hi,quoteB]
  generalize l[i] = c
  rw [show (⟨#[92]⟩ : ByteArray) = ⟨[92].toArray⟩ from rfl,app_list,app_list,app_list,size_list,size_list,size_list]
  have hesc:=rquote_l0 l hl d k (i + 1) ((acc ++ [92]) ++ [c]) (by omega) (by omega) (by simp only [List.length_append,List.length_singleton];omega)
  have hord:=rquote_l0 l hl d k (i + 1) (acc ++ [c]) (by omega) (by omega) (by simp only [List.length_append,List.length_singleton];omega)
  have b1 : acc.length + 1 ≤ 9223372036854775807:=by omega
  have b2 : (i : Int) ≤ ((i + 1 : Nat) : Int):=by omega
  have b3 : ((i + 1 : Nat) : Int) ≤ (l.length : Int):=by omega
  have b4 : (acc ++ [92]).length + [c].length ≤ 9223372036854775807:=by simp only [List.length_append,List.length_singleton];omega
  have b5 : acc.length + [c].length ≤ 9223372036854775807:=by simp only [List.length_singleton];omega
  by_cases c34 : c = 34
  ·rw [if_pos (show (c.toNat : Int) = 34 from eq_int c 34 (by omega) c34),if_pos b1,if_pos b2,if_pos b3,if_pos b4,hesc,if_pos (Or.inl c34)]
   simp
  rw [if_neg (show ¬ (c.toNat : Int) = 34 from ne_int c 34 (by omega) c34)]
  by_cases c92 : c = 92
  ·rw [if_pos (show (c.toNat : Int) = 92 from eq_int c 92 (by omega) c92),if_pos b1,if_pos b2,if_pos b3,if_pos b4,hesc,if_pos (Or.inr c92)]
   simp
  rw [if_neg (show ¬ (c.toNat : Int) = 92 from ne_int c 92 (by omega) c92),if_pos b2,if_pos b3,if_pos b5,hord,if_neg (fun h=>h.elim c34 c92)]
  simp
theorem rquote_eq (l : List UInt8) (k : Nat) (hl : l.length ≤ 700) (hk : 700 < k) : spillwayref3_Quote.f k ⟨l.toArray⟩ = some ⟨(quote l).toArray⟩:=by
 have:=rquote_l0 l hl l.length k 0 [34] (by omega) (by omega) (by simp)
 exact this
/-! The document's Get, ident, Print of label sets. -/
theorem rget_loop (nm : ByteArray) (l : List S60) (hn : l.length ≤ 4611686018427387904) (d : Nat) : ∀ (x k : Nat),x + d = l.length → d < k →
  spillwayref3_Get.l0 k l nm (x : Int) = some (ofL (getL ((l.drop x).map pr) nm.data.toList)):=by
 induction d with
 | zero =>
  intro x k h hk
  obtain ⟨k,rfl⟩ : ∃ m,k = m + 1:=⟨k - 1,by omega⟩
  rw [spillwayref3_Get.l0,if_neg (by omega),List.drop_eq_nil_of_le (by omega)]
  rfl
 | succ d ih =>
  intro x k h hk
  obtain ⟨k,rfl⟩ : ∃ m,k = m + 1:=⟨k - 1,by omega⟩
  have hw : wrap64 ((x : Int) + 1) = ((x + 1 : Nat) : Int):=by unfold wrap64;omega
  have hd : l.drop x = rd_T60 l (x : Int) :: l.drop (x + 1):=by
   rw [List.drop_eq_getElem_cons (show x < l.length by omega)]
   unfold rd_T60
   rw [Int.toNat_natCast,List.getD_eq_getElem?_getD,List.getElem?_eq_getElem (show x < l.length by omega)]
   rfl
  rw [spillwayref3_Get.l0,if_pos (by omega),if_pos (by omega),hw,ih (x + 1) k (by omega) (by omega),hd,List.map_cons]
  unfold getL
  by_cases e : (rd_T60 l (x : Int)).f0.toList = nm.toList
  ·rw [if_pos e,List.find?_cons_of_pos (by rw [ByteArray.toList_eq,ByteArray.toList_eq] at e;simp [pr,e])]
   rfl
  rw [if_neg e,List.find?_cons_of_neg (by rw [ByteArray.toList_eq,ByteArray.toList_eq] at e;simpa [pr] using e)]
theorem rget_eq (nm : ByteArray) (l : List S60) (hn : l.length ≤ 4611686018427387904) (k : Nat) (hk : l.length < k) : spillwayref3_Get.f k l nm = some (ofL (getL (l.map pr) nm.data.toList)):=by
 have:=rget_loop nm l hn l.length 0 k (by omega) hk
 rwa [List.drop_zero] at this
theorem name_two (c : UInt8) : nameB [95,c] = idc c:=by
 show (isL 95 && [c].all idc && decide ([c].length + 1 ≤ 20)) = idc c
 have h : isL 95 = true:=by decide
 rw [h]
 simp
theorem rident_loop (t : List UInt8) (ht : t.length ≤ 5000) (d : Nat) : ∀ (x k : Nat),x + d = t.length → d + 5 < k →
  spillwayref3_ident.l0 k (ofL t) (x : Int) = some (((x + ((t.drop x).takeWhile idc).length : Nat) : Int)):=by
 induction d with
 | zero =>
  intro x k h hk
  obtain ⟨k,rfl⟩ : ∃ m,k = m + 1:=⟨k - 1,by omega⟩
  rw [spillwayref3_ident.l0,ofL_size,if_neg (by omega),List.drop_eq_nil_of_le (by omega)]
  rfl
 | succ d ih =>
  intro x k h hk
  obtain ⟨k,rfl⟩ : ∃ m,k = m + 1:=⟨k - 1,by omega⟩
  have hx : x < t.length:=by omega
  have hw : wrap64 ((x : Int) + 1) = ((x + 1 : Nat) : Int):=by unfold wrap64;omega
  have hext : (ofL t).extract x (x + 1) = ofL [t[x]]:=ext_one t x hx
  have happ : (⟨#[95]⟩ : ByteArray) ++ ofL [t[x]] = ofL [95,t[x]]:=ofL_app [95] [t[x]]
  have hnm:=rname_eq (ofL [95,t[x]]) (by rw [ofL_size];simp) k (by rw [ofL_size];show 2 < k;omega)
  have hds : (ofL [95,t[x]]).data.toList = [95,t[x]]:=rfl
  rw [hds,name_two] at hnm
  rw [spillwayref3_ident.l0,ofL_size,if_pos (by omega),if_pos (by omega),hw,if_pos (by omega),if_pos (by omega),Int.toNat_natCast,Int.toNat_natCast,hext,if_pos (by rw [ofL_size];simp),happ,hnm,Option.bind_some,drop_cons t x hx,List.takeWhile_cons]
  cases idc t[x] with
  | true =>
   rw [if_pos rfl,ih (x + 1) k (by omega) (by omega)]
   simp only [if_true,List.length_cons]
   congr 2
   omega
  | false =>
   rw [if_neg (by simp)]
   simp
theorem rident_eq (t : List UInt8) (ht : t.length ≤ 5000) (k : Nat) (hk : t.length + 5 < k) : spillwayref3_ident.f k (ofL t) = some (((t.takeWhile idc).length : Nat) : Int):=by
 have h:=rident_loop t ht t.length 0 k (by omega) hk
 rw [List.drop_zero,Nat.zero_add] at h
 exact h
/-! Print. -/
def stepJ (a : List UInt8 × Nat) (p : Pr) : List UInt8 × Nat:=((if 0 < a.2 then a.1 ++ [44] else a.1) ++ oneP p,a.2 + 1)
def keptP (nm : List UInt8) (ps : List Pr) : List Pr:=if nm = [] then ps else ps.filter fun p=>!(p.1 == NL)
theorem stepJ_pos : ∀ (r : List Pr) (acc : List UInt8) (n : Nat),0 < n → r.foldl stepJ (acc,n) = (acc ++ r.flatMap (fun p=>44 :: oneP p),n + r.length)
 | [],acc,n,_=>by simp
 | p :: r,acc,n,h=>by
  rw [List.foldl_cons]
  have e : stepJ (acc,n) p = (acc ++ 44 :: oneP p,n + 1):=by
   unfold stepJ
   rw [if_pos h,List.append_assoc]
   rfl
  rw [e,stepJ_pos r _ _ (by omega),List.flatMap_cons,List.length_cons]
  simp only [List.append_assoc,List.cons_append,Prod.mk.injEq,true_and]
  omega
theorem joinP_flat : ∀ (p : Pr) (r : List Pr),joinP (p :: r) = oneP p ++ r.flatMap (fun p=>44 :: oneP p)
 | p,[]=>by simp [joinP]
 | p,q :: r=>by rw [joinP,joinP_flat q r,List.flatMap_cons];simp
theorem stepJ_all (ps : List Pr) : ps.foldl stepJ ([],0) = (joinP ps,ps.length):=by
 cases ps with
 | nil=>rfl
 | cons p r =>
  rw [List.foldl_cons,joinP_flat]
  have e : stepJ ([],0) p = (oneP p,1):=rfl
  rw [e,stepJ_pos r _ 1 (by omega),List.length_cons]
  simp only [Prod.mk.injEq,true_and]
  omega
def finP (nm : List UInt8) (a : List UInt8 × Nat) : List UInt8:=if 0 < a.2 ∨ nm = [] then nm ++ 123 :: (a.1 ++ [125]) else nm ++ a.1
theorem keptP_cons (nm : List UInt8) (p : Pr) (r : List Pr) : keptP nm (p :: r) = if p.1 = NL ∧ nm ≠ [] then keptP nm r else p :: keptP nm r:=by
 unfold keptP
 by_cases h : nm = []
 ·rw [if_pos h,if_pos h,if_neg (fun hh=>hh.2 h)]
 rw [if_neg h,if_neg h,List.filter_cons]
 by_cases g : p.1 = NL
 ·have e : (!(p.1 == NL)) = false:=by rw [g];simp
  rw [e,if_neg (show ¬ (false = true) by simp),if_pos (show p.1 = NL ∧ nm ≠ [] from ⟨g,h⟩)]
 have e : (!(p.1 == NL)) = true:=by simpa using g
 rw [e,if_pos (show true = true from rfl),if_neg (show ¬ (p.1 = NL ∧ nm ≠ []) from fun hh=>g hh.1)]
theorem rprint_loop (ps : List S60) (hps : ∀ x ∈ ps,x.f0.size ≤ 20 ∧ x.f1.size ≤ 30) (hl : ps.length ≤ 8) (nm : List UInt8) (hnm : nm.length ≤ 100) (d : Nat) : ∀ (i k : Nat) (acc : List UInt8) (n : Nat),i + d = ps.length → 2 * d + 703 < k → acc.length ≤ 200 * i → n ≤ i →
  spillwayref3_Print.l0 k ps (ofL nm) (ofL acc) (n : Int) (i : Int) = some (ofL (finP nm ((keptP nm ((ps.drop i).map pr)).foldl stepJ (acc,n)))):=by
 induction d with
 | zero =>
  intro i k acc n h hk ha hn
  obtain ⟨k,rfl⟩ : ∃ m,k = m + 1:=⟨k - 1,by omega⟩
  rw [List.drop_eq_nil_of_le (by omega)]
  have hkp : keptP nm (([] : List S60).map pr) = []:=by unfold keptP;split <;> rfl
  rw [hkp,List.foldl_nil,spillwayref3_Print.l0,if_neg (by omega)]
  have e1 : (⟨#[123]⟩ : ByteArray) ++ ofL acc = ofL (123 :: acc):=ofL_app [123] acc
  have e2 : ofL (123 :: acc) ++ (⟨#[125]⟩ : ByteArray) = ofL (123 :: (acc ++ [125])):=ofL_app (123 :: acc) [125]
  rw [e1,ofL_size,ofL_size,e2,ofL_size,ofL_size,ofL_app,ofL_app,toList_list]
  unfold finP
  have hb1 : (123 :: acc).length + 1 ≤ 9223372036854775807:=by rw [List.length_cons];omega
  have hb2 : nm.length + (123 :: (acc ++ [125])).length ≤ 9223372036854775807:=by simp only [List.length_cons,List.length_append,List.length_nil];omega
  by_cases h0 : 0 < n
  ·rw [if_pos (by omega),if_pos (by omega),if_pos hb1,if_pos hb2,if_pos (.inl h0)]
  rw [if_neg (by omega)]
  by_cases hm : nm = []
  ·rw [if_pos hm,if_pos (by omega),if_pos hb1,if_pos hb2,if_pos (.inr hm)]
  rw [if_neg hm,if_pos (by omega),if_neg (fun hh=>hh.elim h0 hm)]
 | succ d ih =>
  intro i k acc n h hk ha hn
  obtain ⟨k,rfl⟩ : ∃ m,k = m + 2:=⟨k - 2,by omega⟩
  have hw : ∀ m : Nat,m ≤ 10 → wrap64 ((m : Int) + 1) = ((m + 1 : Nat) : Int):=fun m hm=>by unfold wrap64;omega
  have hlt : i < ps.length:=by omega
  have hd : ps.drop i = rd_T60 ps (i : Int) :: ps.drop (i + 1):=by
   rw [List.drop_eq_getElem_cons hlt]
   unfold rd_T60
   rw [Int.toNat_natCast,List.getD_eq_getElem?_getD,List.getElem?_eq_getElem hlt]
   rfl
  have hmem : rd_T60 ps (i : Int) ∈ ps:=by
   have : rd_T60 ps (i : Int) ∈ ps.drop i:=by rw [hd];exact List.mem_cons_self
   exact List.mem_of_mem_drop this
  obtain ⟨z0,z1⟩:=hps _ hmem
  rw [hd,List.map_cons,keptP_cons,spillwayref3_Print.l0,if_pos (by omega),if_pos (by omega)]
  generalize hx : rd_T60 ps (i : Int) = x at z0 z1
  have hn0 : (x.f0.toList = ([95,95,110,97,109,101,95,95] : List UInt8)) = ((pr x).1 = NL):=by rw [ByteArray.toList_eq];rfl
  have hskip : ∀ (b : Bool),b = true → (pr x).1 = NL ∧ nm ≠ [] → spillwayref3_Print.j2 (k + 1) ps (ofL nm) (ofL acc) n i b = some (ofL (finP nm ((if (pr x).1 = NL ∧ nm ≠ [] then keptP nm ((ps.drop (i + 1)).map pr) else pr x :: keptP nm ((ps.drop (i + 1)).map pr)).foldl stepJ (acc,n)))):=by
   intro b hb hc
   rw [spillwayref3_Print.j2,if_pos hb,if_pos hc,hw i (by omega)]
   exact ih (i + 1) k acc n (by omega) (by omega) (by omega) (by omega)
  have hadd : ∀ (b : Bool),b = false → ¬ ((pr x).1 = NL ∧ nm ≠ []) → spillwayref3_Print.j2 (k + 1) ps (ofL nm) (ofL acc) n i b = some (ofL (finP nm ((if (pr x).1 = NL ∧ nm ≠ [] then keptP nm ((ps.drop (i + 1)).map pr) else pr x :: keptP nm ((ps.drop (i + 1)).map pr)).foldl stepJ (acc,n)))):=by
   intro b hb hc
   have hq : spillwayref3_Quote.f k x.f1 = some (ofL (quote x.f1.data.toList)):=rquote_eq x.f1.data.toList k (by show x.f1.data.toList.length ≤ 700;rw [Array.length_toList];have : x.f1.data.size ≤ 30:=z1;omega) (by omega)
   have hql : (quote x.f1.data.toList).length ≤ 2 * 30 + 2:=by
    have h1 : ∀ l : List UInt8,(quoteB l).length ≤ 2 * l.length:=by
     intro l
     induction l with
     | nil=>simp [quoteB]
     | cons c l ih =>
      rw [quoteB,List.length_append,List.length_cons]
      split <;> simp <;> omega
    have h2:=h1 x.f1.data.toList
    have h3 : x.f1.data.toList.length ≤ 30:=by rw [Array.length_toList];exact z1
    unfold quote
    simp only [List.length_cons,List.length_append,List.length_nil]
    omega
   have hone : oneP (pr x) = x.f0.data.toList ++ 61 :: quote x.f1.data.toList:=rfl
   have hz0 : x.f0.data.toList.length ≤ 20:=by rw [Array.length_toList];exact z0
   have hx0 : x.f0 = ofL x.f0.data.toList:=rfl
   have e61 : (⟨#[61]⟩ : ByteArray) = ofL [61]:=rfl
   have e44 : (⟨#[44]⟩ : ByteArray) = ofL [44]:=rfl
   rw [spillwayref3_Print.j2,if_neg (by rw [hb];simp),if_neg hc,List.foldl_cons,hx]
   by_cases h0 : 0 < n
   ·have est : stepJ (acc,n) (pr x) = (acc ++ [44] ++ x.f0.data.toList ++ [61] ++ quote x.f1.data.toList,n + 1):=by
     unfold stepJ
     rw [if_pos h0,hone]
     simp
    rw [if_pos (by omega),ofL_size,if_pos (by omega),if_pos (by omega),if_pos (by omega),e44,ofL_app,hx0,ofL_app,ofL_size,ofL_size,ofL_size,if_pos (by simp only [List.length_append,List.length_cons,List.length_nil];omega),if_pos (by simp only [List.length_append,List.length_cons,List.length_nil];omega)]
    rw [show (ofL x.f0.data.toList).data.toList = x.f0.data.toList from rfl] at *
    rw [hq,Option.bind_some,e61,ofL_app,ofL_size,ofL_size,if_pos (by simp only [List.length_append,List.length_cons,List.length_nil];omega),ofL_app,hw n (by omega),hw i (by omega),est]
    exact ih (i + 1) k _ (n + 1) (by omega) (by omega) (by simp only [List.length_append,List.length_cons,List.length_nil];omega) (by omega)
   have hn0 : n = 0:=by omega
   have est : stepJ (acc,n) (pr x) = (acc ++ x.f0.data.toList ++ [61] ++ quote x.f1.data.toList,n + 1):=by
    unfold stepJ
    rw [if_neg h0,hone]
    simp
   rw [if_neg (by omega),if_pos (by omega),if_pos (by omega),hx0,ofL_size,ofL_size,if_pos (by omega),ofL_app,ofL_size,if_pos (by simp only [List.length_append];omega)]
   rw [hq,Option.bind_some,e61,ofL_app,ofL_size,ofL_size,if_pos (by simp only [List.length_append,List.length_cons,List.length_nil];omega),ofL_app,hw n (by omega),hw i (by omega),est]
   exact ih (i + 1) k _ (n + 1) (by omega) (by omega) (by simp only [List.length_append,List.length_cons,List.length_nil];omega) (by omega)
  by_cases hN : (pr x).1 = NL
  ·rw [if_pos (hn0.mpr hN)]
   by_cases hm : nm = []
   ·exact hadd _ (by rw [toList_list,hm];rfl) (fun hh=>hh.2 hm)
   exact hskip _ (by rw [toList_list];simpa using hm) ⟨hN,hm⟩
  rw [if_neg (fun e=>hN (hn0.mp e))]
  exact hadd _ rfl (fun hh=>hN hh.1)
end Go.Proofs.YtfgffjchphignaaGreatDoor.PureN
end
section
namespace Go.Proofs.YtfgffjchphignaaGreatDoor.Print
open Go.Sort Go.Shelf PureN
open Go.RowKit Go.Proofs.YtfgffjchphignaaGreatDoorX Go.Proofs.YtfgffjchphignaaGreatDoorW.PrintWords Go.Proofs.YtfgffjchphignaaGreatDoorW.PrintLast Go.Proofs.YtfgffjchphignaaGreatDoorW.PrintMore
/-! spillwayref3.sorted: pairs put into a row one by one. -/
def insS (x : S60) : List S60 → List S60
 | []=>[x]
 | y :: r=>if ltL x.f0.data.toList y.f0.data.toList then x :: y :: r else y :: insS x r
theorem insS_pr (x : S60) : ∀ l,(insS x l).map pr = insP (pr x) (l.map pr)
 | []=>rfl
 | y :: r=>by
  rw [insS,List.map_cons,insP,apply_ite (List.map pr)]
  rw [List.map_cons,List.map_cons,List.map_cons,insS_pr x r]
  rfl
theorem insS_at (x : S60) : ∀ (acc : List S60) (at_ : Nat),at_ ≤ acc.length → (∀ y ∈ acc.drop at_,ltL x.f0.data.toList y.f0.data.toList = true) → (∀ y ∈ acc.take at_,ltL x.f0.data.toList y.f0.data.toList = false) →
  insS x acc = acc.take at_ ++ x :: acc.drop at_
 | [],at_,h,_,_=>by simp [insS]
 | y :: r,0,_,hd,_=>by
  rw [insS,if_pos (hd y (by simp))]
  rfl
 | y :: r,n + 1,h,hd,ht=>by
  rw [insS,if_neg (by rw [ht y (by simp)];simp),insS_at x r n (by simpa using h) (by simpa using hd) (fun z hz=>ht z (by simp [hz]))]
  rfl
def sortS (l : List S60) : List S60:=l.foldl (fun acc x=>insS x acc) []
theorem foldS_pr : ∀ (l acc : List S60),(l.foldl (fun acc x=>insS x acc) acc).map pr = (l.map pr).foldl (fun acc x=>insP x acc) (acc.map pr)
 | [],acc=>rfl
 | x :: l,acc=>by rw [List.foldl_cons,foldS_pr l,insS_pr];rfl
theorem sortS_pr (l : List S60) : (sortS l).map pr = sortP (l.map pr):=foldS_pr l []
theorem insS_len (x : S60) (l : List S60) : (insS x l).length = l.length + 1:=by
 rw [← List.length_map (f:=pr),insS_pr,(insP_perm _ _).length_eq,List.length_cons,List.length_map]
/-- What is asked of a row: its names stand in order. -/
def InOrd (l : List S60) : Prop:=(l.map pr).Pairwise LeP
theorem InOrd.ins {l : List S60} (h : InOrd l) (x : S60) : InOrd (insS x l):=by
 unfold InOrd at *
 rw [insS_pr]
 exact insP_sorted _ _ h
theorem InOrd.before {l : List S60} (h : InOrd l) (x : S60) (n : Nat) (hn : n < l.length) (hx : ltL x.f0.data.toList (l.getD n z60).f0.data.toList = false) : ∀ y ∈ l.take (n + 1),ltL x.f0.data.toList y.f0.data.toList = false:=by
 intro y hy
 have hg : l.getD n z60 = l[n]:=by rw [List.getD_eq_getElem?_getD,List.getElem?_eq_getElem hn];rfl
 rw [hg] at hx
 obtain ⟨j,hj,rfl⟩:=List.getElem_of_mem hy
 rw [List.length_take] at hj
 rw [List.getElem_take]
 by_cases e : j = n
 ·subst e;exact hx
 have hp:=List.pairwise_iff_getElem.1 h j n (by rw [List.length_map];omega) (by rw [List.length_map];omega) (by omega)
 rw [List.getElem_map,List.getElem_map] at hp
 exact leL_trans hp hx
/-- A row of one's own holds its pairs in a block. -/
theorem R_toP {w : World} {base : Nat} {ok : Nat → Prop} {v : Value} {xs : List S60} (h : Kd.R k60 60 w base ok v xs) (hp : 0 < xs.length) : ∃ g cap,v = .slice (some ⟨g,0,none⟩) xs.length cap ∧ base ≤ g ∧ cap ≤ maxLen ∧ RowP w g cap xs:=by
 obtain ⟨_,inner,ho,hr⟩:=h
 have hin : inner = flatP xs:=by
  apply List.ext_getElem?
  intro t
  have hl : inner.length = xs.length * 2:=hr.1
  by_cases ht : t < xs.length * 2
  ·have hj : t / 2 < xs.length:=by omega
   have hM:=hr.2 (t / 2) xs[t / 2] (List.getElem?_eq_getElem hj)
   have hc:=k60_openM hM
   have hg:=flatP_get xs (t / 2) hj
   have hgd : xs.getD (t / 2) z60 = xs[t / 2]:=by rw [List.getD_eq_getElem?_getD,List.getElem?_eq_getElem hj];rfl
   rw [hgd] at hg
   have hc' : ((inner.drop (t / 2 * 2)).take 2) = [.string xs[t / 2].f0,.string xs[t / 2].f1]:=hc
   have c0:=congrArg (fun l=>l[0]?) hc'
   have c1:=congrArg (fun l=>l[1]?) hc'
   simp only [List.getElem?_take,List.getElem?_drop,List.getElem?_cons_zero,List.getElem?_cons_succ] at c0 c1
   rw [if_pos (by omega)] at c0 c1
   rcases Nat.mod_two_eq_zero_or_one t with hm|hm
   ·have et : t = t / 2 * 2:=by omega
    rw [← et] at hg c0
    rw [hg.1]
    simpa using c0
   have et : t = t / 2 * 2 + 1:=by omega
   rw [← et] at hg c1
   rw [hg.2,c1]
  rw [List.getElem?_eq_none (by omega),List.getElem?_eq_none (by rw [flatP_len];omega)]
 subst hin
 rcases ho.2 with ⟨_,h1⟩|⟨g,cap,cur,rfl,hg,hh,h1,h2,h3,h4⟩
 ·exact absurd hp (by rw [h1];omega)
 exact ⟨g,cap,rfl,hg,h2,⟨cur,hh,h3,h4,h1⟩⟩
/-- The rows' tail moved up by one. -/
theorem run_move60 (w : World) (g cap : Nat) (ys : List S60) (h : RowP w g cap ys) (i : Nat) (hi : i + 1 < ys.length) (c1 c2 ty : Nat) :
  ∃ w',(Builtin.copy_ #[30,30] ty #[.slice (some ⟨g,(i + 1) * 2,none⟩) (ys.length - (i + 1)) c1,.slice (some ⟨g,i * 2,none⟩) (ys.length - i) c2]).run Tryz.prog w = .ok (goInt ((ys.length - (i + 1) : Nat) : Int)) w' ∧
   RowP w' g cap (ys.take (i + 1) ++ (ys.drop i).take (ys.length - (i + 1))) ∧ w.grownBy w' (some g):=by
 obtain ⟨cur,hc,hs,ht,hn⟩:=h.ex
 obtain ⟨i0,hin,hz0,hz1,hz2⟩:=info_parts info60
 have hfl : (flatP ys).length = ys.length * 2:=flatP_len ys
 have hseg : ((flatP ys).drop (i * 2)).take ((ys.length - (i + 1)) * 2) = flatP ((ys.drop i).take (ys.length - (i + 1))):=by
  have e1 : flatP ys = flatP (ys.take i) ++ flatP (ys.drop i):=by rw [← flatP_app,List.take_append_drop]
  have l1 : (flatP (ys.take i)).length = i * 2:=by rw [flatP_len,List.length_take];omega
  rw [e1,← l1,List.drop_left]
  have e2 : flatP (ys.drop i) = flatP ((ys.drop i).take (ys.length - (i + 1))) ++ flatP ((ys.drop i).drop (ys.length - (i + 1))):=by rw [← flatP_app,List.take_append_drop]
  have l2 : (flatP ((ys.drop i).take (ys.length - (i + 1)))).length = (ys.length - (i + 1)) * 2:=by rw [flatP_len,List.length_take,List.length_drop];omega
  rw [e2,← l2,List.take_left]
 have hsl : (flatP ((ys.drop i).take (ys.length - (i + 1)))).length = (ys.length - (i + 1)) * 2:=by rw [flatP_len,List.length_take,List.length_drop];omega
 have hsrc : ∀ j v,(flatP ((ys.drop i).take (ys.length - (i + 1))))[j]? = some v → w.cell? ((⟨g,i * 2,none⟩ : Addr).add j) = some v:=by
  intro j v hj
  have ea : (⟨g,i * 2,none⟩ : Addr).add j = ⟨g,i * 2 + j,none⟩:=by unfold Addr.add;split <;> simp_all
  have hjl:=(List.getElem?_eq_some_iff.1 hj).1
  rw [hsl] at hjl
  rw [ea,blk_cell hc]
  rw [← hseg,List.getElem?_take_of_lt (by omega),List.getElem?_drop,← ht,List.getElem?_take_of_lt (by omega),Array.getElem?_toList] at hj
  exact hj
 have hl:=run_loadCells_list (P:=Tryz.prog) w ⟨g,i * 2,none⟩ _ hsrc
 have hst:=run_storeCells_at Tryz.prog g ((i + 1) * 2) 60 (flatP ((ys.drop i).take (ys.length - (i + 1)))) 0 cur w hc (by rw [hsl];omega) (fun u hu=>by
  obtain ⟨x,hx,hu⟩:=List.mem_flatMap.1 hu
  exact encP_one x u hu)
 rw [hsl] at hl
 have hmin : Nat.min (ys.length - i) (ys.length - (i + 1)) = ys.length - (i + 1):=Nat.min_eq_right (by omega)
 have hlen : (ys.take (i + 1) ++ (ys.drop i).take (ys.length - (i + 1))).length = ys.length:=by rw [List.length_append,List.length_take,List.length_take,List.length_drop];omega
 have htk : cur.toList.take ((i + 1) * 2) = flatP (ys.take (i + 1)):=by
  have h1 : cur.toList.take ((i + 1) * 2) = (cur.toList.take (ys.length * 2)).take ((i + 1) * 2):=by rw [List.take_take,Nat.min_eq_left (by omega)]
  rw [h1,ht]
  have e1 : flatP ys = flatP (ys.take (i + 1)) ++ flatP (ys.drop (i + 1)):=by rw [← flatP_app,List.take_append_drop]
  have l1 : (flatP (ys.take (i + 1))).length = (i + 1) * 2:=by rw [flatP_len,List.length_take];omega
  rw [e1,← l1,List.take_left]
 refine ⟨w.setRow g (cur.toList.take ((i + 1) * 2) ++ flatP ((ys.drop i).take (ys.length - (i + 1))) ++ cur.toList.drop ((i + 1) * 2 + (ys.length - (i + 1)) * 2)).toArray,?_,⟨_,setRow_heap w g cur _ 60 _ hc,?_,?_,by rw [hlen];exact hn⟩,?_⟩
 ·rw [hsl] at hst
  simp only [Nat.add_zero] at hst
  simp [Builtin.copy_,run_underlying Tryz.underlying30,Builtin.lenOf,Builtin.firstCells,sizeOf,typeInfo,hin,hz1,hmin,hl,hst]
 ·rw [List.size_toArray,List.length_append,List.length_append,hsl,List.length_take,List.length_drop,Array.length_toList,hs]
  omega
 ·rw [hlen,htk,← flatP_app]
  have l2 : (flatP (ys.take (i + 1) ++ (ys.drop i).take (ys.length - (i + 1)))).length = ys.length * 2:=by rw [flatP_len,hlen]
  show List.take (ys.length * 2) (_ ++ _) = _
  rw [← l2,List.take_left]
 exact ⟨rfl,rfl,rfl,by simp [World.setRow],fun k hk hne=>setRow_other w g k _ (fun e=>hne (by rw [e]))⟩
theorem move_set (acc : List S60) (z x : S60) (n : Nat) (hn : n < acc.length) : ((acc ++ [z]).take (n + 1) ++ ((acc ++ [z]).drop n).take (acc.length - n)).set n x = acc.take n ++ x :: acc.drop n:=by
 have h1 : (acc ++ [z]).take (n + 1) = acc.take n ++ [acc[n]]:=by
  rw [List.take_append_of_le_length (by omega),List.take_succ_eq_append_getElem hn]
 have h2 : ((acc ++ [z]).drop n).take (acc.length - n) = acc.drop n:=by
  rw [List.drop_append_of_le_length (by omega)]
  have : acc.length - n = (acc.drop n).length:=by rw [List.length_drop]
  rw [this,List.take_left]
 rw [h1,h2,List.append_assoc,List.set_append_right _ _ (by rw [List.length_take];omega)]
 have : n - (acc.take n).length = 0:=by rw [List.length_take];omega
 rw [this]
 rfl
theorem move_end (acc : List S60) (z x : S60) : (acc ++ [z]).set acc.length x = acc.take acc.length ++ x :: acc.drop acc.length:=by
 rw [List.set_append_right _ _ (Nat.le_refl _),Nat.sub_self,List.take_length,List.drop_length]
 rfl
theorem run_exec_copy {P : Program} {o : Oper} {a : Act} {d s : Operand} {dT sT : TypeId} {x y : Value} (ho : o.op = .call { callee:=.builtin .copy,args:=#[d,s],argTypes:=#[dT,sT] }) (hd : a.eval d = x) (hs : a.eval s = y) (w : World) :
  (execOp a.eval o).run P w = ((Builtin.copy_ #[dT,sT] o.type #[x,y]).run P w).andThen fun v w=>.ok (.value v) w:=by
 simp [execOp,ho,resolve,invoke,builtin,hd,hs]
theorem run_none60 (w : World) (dp sp : Option Addr) (c1 n c2 ty : Nat) :
  (Builtin.copy_ #[30,30] ty #[.slice dp 0 c1,.slice sp n c2]).run Tryz.prog w = .ok (goInt 0) w:=by
 obtain ⟨i0,hin,hz0,hz1,hz2⟩:=info_parts info60
 cases dp <;> cases sp <;> simp [Builtin.copy_,run_underlying Tryz.underlying30,Builtin.lenOf,Builtin.firstCells,sizeOf,typeInfo,hin,hz1,loadCells,loadCellsFrom,storeCells]
def spillwayref3_sorted.f (l : List S60) : Option (List S60):=if l.length ≤ 1000 then some (sortS l) else none
set_option maxHeartbeats 8000000 in
set_option maxRecDepth 100000 in
theorem sorted_walk (A0 : Option Addr) (c0 : Nat) (l : List S60) (w : World) (hr0 : Kd.C k60 w A0 l.length l) (hc0 : l.length ≤ c0) (hl : l.length ≤ 1000) :
  Calls Tryz.prog 73 #[.slice A0 l.length c0] w fun e w'=>∃ v,e = .returned v ∧ Kd.R k60 60 w' w.heap.size (fun _=>True) v (sortS l) ∧ Below w.heap.size w w':=by
 have HR:=Aside0.mk hr0
 have HL:=Aside0.mk hl
 clear hr0 hc0 hl
 go_enter Tryz.func73,Tryz.ntmps73
 go_wp2
 go_loopg [3,4,5] l.length (fun gg s3 s4 s5 wr=>∃ (i : Nat) (acc : List S60),s4 = .int .i64 i ∧ l.length - i ≤ gg ∧ Aside0 (i ≤ l.length ∧ acc.length = i ∧ InOrd acc ∧ (l.take i).foldl (fun a x=>insS x a) [] = acc) ∧ Aside0 (Kd.R k60 60 wr w.heap.size (fun _=>True) s3 acc) ∧ Aside0 (Below w.heap.size w wr))
 case atStart=>exact ⟨0,[],rfl,by omega,⟨⟨by omega,rfl,List.Pairwise.nil,rfl⟩⟩,⟨Kd.R_nil _ _ _ _ _⟩,⟨Below.refl _ _⟩⟩
 obtain ⟨i,acc,rfl,hgg,HI,HA,HB⟩:=hrel
 have HGG:=Aside0.mk hgg
 clear hgg
 by_cases hlt : i < l.length
 ·have hltz : (i : Int) < (l.length : Int):=by omega
  obtain ⟨ad,rfl,v0,v1⟩:=at_T60 HR.out (i : Int) (by omega) hltz
  have ex : rd_T60 l (i : Int) = l.getD i z60:=rfl
  rw [Int.toNat_natCast,ex] at v0 v1
  have x0:=(HB.out.cell (World.block_lt_of_cell? w _ v0)).trans v0
  have x1:=(HB.out.cell (World.block_lt_of_cell? w _ v1)).trans v1
  have X0:=Aside0.mk v0
  have X1:=Aside0.mk v1
  clear v0 v1
  have hfold : (l.take (i + 1)).foldl (fun a x=>insS x a) [] = insS (l.getD i z60) acc:=by
   rw [List.take_add_one,List.getElem?_eq_getElem hlt,List.foldl_append,HI.out.2.2.2,List.getD_eq_getElem?_getD,List.getElem?_eq_getElem hlt]
   rfl
  generalize l.getD i z60 = x at x0 x1 hfold X0 X1
  have HF:=Aside0.mk hfold
  clear hfold ex
  obtain ⟨A3,c3,rfl⟩:=Kd.R_slice HA.out
  have hal : acc.length = i:=HI.out.2.1
  rw [hal] at HA ⊢
  go_wp2_with (fail)
  go_loopg [5] i (fun gq s5 wq=>∃ (at_ nd : Nat),s5 = .int .i64 at_ ∧ at_ ≤ gq ∧ Aside0 (at_ ≤ i) ∧ Aside0 (∀ y ∈ acc.drop at_,ltL x.f0.data.toList y.f0.data.toList = true) ∧ wq = wr.drewN nd)
  case atStart=>exact ⟨i,0,rfl,by omega,⟨by omega⟩,⟨by rw [List.drop_eq_nil_of_le (by omega)];simp⟩,rfl⟩
  obtain ⟨at_,nd,rfl,hgq,HT,HD,rfl⟩:=hrel
  by_cases hat0 : at_ = 0
  ·have hz : decide (0 < at_) = false:=decide_eq_false (by omega)
   have HTK : Aside0 (∀ y ∈ acc.take at_,ltL x.f0.data.toList y.f0.data.toList = false):=⟨by rw [hat0];simp⟩
   clear hat0
   have x0:=(pw_below_drewN (Below.refl _ wr) nd).cell (World.block_lt_of_cell? wr _ x0) |>.trans x0
   have x1:=(pw_below_drewN (Below.refl _ wr) nd).cell (World.block_lt_of_cell? wr _ x1) |>.trans x1
   go_wp2_with (fail)
   go_quiet (fail)
   have HN:=Aside0.mk (show at_ ≤ i from HT.out)
   have hdrop:=Kd.R_drewN (Kd.R_drewN HA.out nd) nq
   have HB0:=Aside0.mk (pw_below_drewN (pw_below_drewN HB.out nd) nq)
   have HQ:=Aside0.mk hal
   generalize (wr.drewN nd).drewN nq = wz at hdrop HB0 ⊢
   have HR0:=Aside0.mk hdrop
   clear hdrop HA HB x0 x1 hal
   go_wp2_with (first|((with_reducible refine gate_builtin (b:=.append) (xs:=#[.tmp 32,.tmp 34]) rfl ?_);at_builtin;refine Kd.R_append k60 (w0:=w) w.heap.size rfl (.tmp 32) (.tmp 34) 30 60 (.agg #[.string ⟨#[]⟩,.string ⟨#[]⟩]) 32 rfl Tryz.underlying30 info60 rfl (by decide) (by omega) (.slice A3 i c3) acc z60 [.string ⟨#[]⟩,.string ⟨#[]⟩] (fun _=>True) (fun _=>False) rfl (by first|(go_simp;done)|(go_simp;rfl)) ?aP (fun _ hk=>hk.elim) ?aF ?aO ?aB ?aS ?aL ?_;(case aP=>exact k60_mkM _ _ _ z60);(case aF=>exact (fun _ _=>trivial));(case aO=>exact HR0.out);(case aB=>exact HB0.out);(case aS=>exact HB0.out.size);(case aL=>have:=HI.out;have:=HL.out;omega);intro v4 w4 ho4 hb4 hg4 hat4;obtain ⟨g,cap,rfl,hgb,hcm,hP⟩:=R_toP ho4 (by simp);have HP:=Aside0.mk hP;have HGB:=Aside0.mk hgb;have HC:=Aside0.mk hcm;have HB4:=Aside0.mk hb4;rw [show (acc ++ [z60]).length = i + 1 from by rw [List.length_append,HQ.out];rfl];clear ho4 hb4 hg4 hat4 hgb hcm hP HR0 HB0))
   have hcl : i + 1 ≤ cap:=by obtain ⟨cur,_,_,_,h⟩:=HP.out.ex;rw [List.length_append,HQ.out] at h;exact h
   have hat1 : at_ ≤ i:=HN.out
   have hw:=wrap_succ at_ (by have:=HI.out;have:=HL.out;omega)
   by_cases hai : at_ = i
   ·rw [hai] at HD HTK HT HN hat1 hw ⊢
    by_cases hce : cap = i + 1
    ·have k1 : (cap = i + 1) = True:=eq_true (by omega)
     have k2 : (i + 1 = cap) = True:=eq_true (by omega)
     have k3 : (i = cap) = False:=eq_false (by omega)
     have k6 : (i + 1 ≤ cap) = True:=eq_true hcl
     have k9 : (i < cap) = True:=eq_true (by omega)
     have k10 : ((0 : Int) ≤ (i : Int) + 1) = True:=eq_true (by omega)
     have k11 : ((i : Int) ≤ (i : Int) + 1) = True:=eq_true (by omega)
     have k12 : (cap = i) = False:=eq_false (by omega)
     have HP5:=Aside0.mk (HP.out.below (below_drew (Below.refl _ _)))
     have HB5:=Aside0.mk (below_drew1 HB4.out)
     refine start_ (n:=8) (S:=fun _=>True) (ds:=[]) #[false,false,false,false,false,false,false,false] (by kernel_rfl) rfl rfl (trivial) (fun hHeld=>?_)
     generalize w4.drew = w5 at HP5 HB5 ⊢
     have hset:=move_end acc z60 x
     rw [HQ.out] at hset
     have hP6:=HP5.out
     have hB6:=HB5.out
     have hlen : (acc ++ [z60]).length = i + 1:=by rw [List.length_append,HQ.out];rfl
     refine pure_ (i:=0) (N:=some 36) (v:=?_) (a':=?_) #[true,false,false,false,false,false,false,false] rfl rfl (by kernel_rfl) (fun _ _ _ h=>h) (Or.inl ⟨by first|rfl|exact wanted_on rfl rfl rfl (by rfl),?_⟩) ?_ ?_
     rotate_left
     ·intro w'
      go_simp
      with_reducible rfl
     rotate_left
     ·simp only [Act.put,List.setIfInBounds_toArray,List.set_cons_zero,List.set_cons_succ,i64_w,i32_w]
      rfl
     refine pure_ (i:=1) (N:=some 37) (v:=?_) (a':=?_) #[true,true,false,false,false,false,false,false] rfl rfl (by kernel_rfl) (fun _ _ _ h=>h) (Or.inl ⟨by first|rfl|exact wanted_on rfl rfl rfl (by rfl),?_⟩) ?_ ?_
     rotate_left
     ·intro w'
      go_simp
      with_reducible rfl
     rotate_left
     ·simp only [Act.put,List.setIfInBounds_toArray,List.set_cons_zero,List.set_cons_succ,i64_w,i32_w]
      rfl
     refine pure_ (i:=2) (N:=some 38) (v:=?_) (a':=?_) #[true,true,true,false,false,false,false,false] rfl rfl (by kernel_rfl) (fun _ _ _ h=>h) (Or.inl ⟨by first|rfl|exact wanted_on rfl rfl rfl (by rfl),?_⟩) ?_ ?_
     rotate_left
     ·intro w'
      go_simp
      with_reducible rfl
     rotate_left
     ·simp only [Act.put,List.setIfInBounds_toArray,List.set_cons_zero,List.set_cons_succ,i64_w,i32_w]
      rfl
     refine pure_ (i:=3) (N:=some 39) (v:=?_) (a':=?_) #[true,true,true,true,false,false,false,false] rfl rfl (by kernel_rfl) (fun _ _ _ h=>h) (Or.inl ⟨by first|rfl|exact wanted_on rfl rfl rfl (by rfl),?_⟩) ?_ ?_
     rotate_left
     ·intro w'
      go_simp
      with_reducible rfl
     rotate_left
     ·simp only [Act.put,List.setIfInBounds_toArray,List.set_cons_zero,List.set_cons_succ,i64_w,i32_w]
      rfl
     refine pure_ (i:=4) (N:=some 40) (v:=?_) (a':=?_) #[true,true,true,true,true,false,false,false] rfl rfl (by kernel_rfl) (fun _ _ _ h=>h) (Or.inl ⟨by first|rfl|exact wanted_on rfl rfl rfl (by rfl),?_⟩) ?_ ?_
     rotate_left
     ·intro w'
      go_simp
      with_reducible rfl
     rotate_left
     ·simp only [Act.put,List.setIfInBounds_toArray,List.set_cons_zero,List.set_cons_succ,i64_w,i32_w]
      rfl
     refine pure_ (i:=5) (N:=some 41) (v:=?_) (a':=?_) #[true,true,true,true,true,true,false,false] rfl rfl (by kernel_rfl) (fun _ _ _ h=>h) (Or.inl ⟨by first|rfl|exact wanted_on rfl rfl rfl (by rfl),?_⟩) ?_ ?_
     rotate_left
     ·intro w'
      go_simp
      with_reducible rfl
     rotate_left
     ·simp only [Act.put,List.setIfInBounds_toArray,List.set_cons_zero,List.set_cons_succ,i64_w,i32_w]
      rfl
     refine pure_ (i:=6) (N:=some 42) (v:=?_) (a':=?_) #[true,true,true,true,true,true,true,false] rfl rfl (by kernel_rfl) (fun _ _ _ h=>h) (Or.inl ⟨by first|rfl|exact wanted_on rfl rfl rfl (by rfl),?_⟩) ?_ ?_
     rotate_left
     ·intro w'
      go_simp
      with_reducible rfl
     rotate_left
     ·simp only [Act.put,List.setIfInBounds_toArray,List.set_cons_zero,List.set_cons_succ,i64_w,i32_w]
      rfl
     refine one_ (i:=7) (N:=some 43) #[true,true,true,true,true,true,true,true] rfl rfl (by kernel_rfl) (by decide) (fun K hK=>?_)
     refine value_ (w1:=w5) (v:=goInt 0) (by rfl) rfl ?_ ?_
     ·rw [run_exec_copy (d:=.tmp 39) (s:=.tmp 42) rfl rfl rfl]
      show ((Builtin.copy_ #[30,30] 3 #[.slice (some ⟨g,0,none⟩) 0 0,.slice (some ⟨g,i * 2,none⟩) 1 1]).run Tryz.prog w5).andThen _ = _
      rw [run_none60]
      rfl
     refine hK.out _ _ trivial (fun hHeld=>?_)
     clear hK K
     refine norm_ (a':=?_) ?_ ?_
     rotate_left
     ·show Act.put _ (some 43) _ = _
      simp only [Act.put,List.setIfInBounds_toArray,List.set_cons_zero,List.set_cons_succ,i64_w,i32_w]
      rfl
     refine done_ (by kernel_rfl) ?_
     clear hHeld
     obtain ⟨o0,o1⟩:=hP6.cell i (by rw [hlen];omega)
     have f0:=hP6.frozen (i * 2)
     have f1:=hP6.frozen (i * 2 + 1)
     have x0:=(hB6.cell (World.block_lt_of_cell? w _ X0.out)).trans X0.out
     have x1:=(hB6.cell (World.block_lt_of_cell? w _ X1.out)).trans X1.out
     have hP7:=hP6.set i (by rw [hlen];omega) x
     have hins:=insS_at x acc i (by rw [HQ.out];omega) HD.out HTK.out
     rw [hset,← hins] at hP7
     have HP7:=Aside0.mk hP7
     have HB7:=Aside0.mk (below_set (g:=g) (j:=i * 2 + 1) (v:=.string x.f1) (below_set (g:=g) (j:=i * 2) (v:=.string x.f0) hB6 HGB.out) HGB.out)
     generalize List.getD _ i z60 = old at o0 o1
     have HWS:=Aside0.mk (wrap_succ i (by have:=HI.out;have:=HL.out;omega))
     clear hP6 hB6 hset hlen hins hP7
     go_wp2_with (fail)
     go_roundg (l.length - (i + 1))
     case measure=>have:=HGG.out;omega
     case rel=>exact ⟨i + 1,insS x acc,by rw [HWS.out],by omega,⟨⟨by omega,by rw [insS_len,HQ.out],HI.out.2.2.1.ins x,HF.out⟩⟩,⟨by have h:=HP7.out.toR HGB.out HC.out;rw [insS_len,HQ.out] at h;exact h⟩,HB7⟩
    have k1 : (cap = i + 1) = False:=eq_false (by omega)
    have k2 : (i + 1 = cap) = False:=eq_false (by omega)
    have k3 : (i = cap) = False:=eq_false (by omega)
    have k6 : (i + 1 ≤ cap) = True:=eq_true hcl
    have k9 : (i < cap) = True:=eq_true (by omega)
    have k10 : ((0 : Int) ≤ (i : Int) + 1) = True:=eq_true (by omega)
    have k11 : ((i : Int) ≤ (i : Int) + 1) = True:=eq_true (by omega)
    have k12 : (cap = i) = False:=eq_false (by omega)
    have HP5:=Aside0.mk (HP.out.below (below_drew (Below.refl _ _)))
    have HB5:=Aside0.mk (below_drew1 HB4.out)
    refine start_ (n:=8) (S:=fun _=>True) (ds:=[]) #[false,false,false,false,false,false,false,false] (by kernel_rfl) rfl rfl (trivial) (fun hHeld=>?_)
    generalize w4.drew = w5 at HP5 HB5 ⊢
    have hset:=move_end acc z60 x
    rw [HQ.out] at hset
    have hP6:=HP5.out
    have hB6:=HB5.out
    have hlen : (acc ++ [z60]).length = i + 1:=by rw [List.length_append,HQ.out];rfl
    refine pure_ (i:=0) (N:=some 36) (v:=?_) (a':=?_) #[true,false,false,false,false,false,false,false] rfl rfl (by kernel_rfl) (fun _ _ _ h=>h) (Or.inl ⟨by first|rfl|exact wanted_on rfl rfl rfl (by rfl),?_⟩) ?_ ?_
    rotate_left
    ·intro w'
     go_simp
     with_reducible rfl
    rotate_left
    ·simp only [Act.put,List.setIfInBounds_toArray,List.set_cons_zero,List.set_cons_succ,i64_w,i32_w]
     rfl
    refine pure_ (i:=1) (N:=some 37) (v:=?_) (a':=?_) #[true,true,false,false,false,false,false,false] rfl rfl (by kernel_rfl) (fun _ _ _ h=>h) (Or.inl ⟨by first|rfl|exact wanted_on rfl rfl rfl (by rfl),?_⟩) ?_ ?_
    rotate_left
    ·intro w'
     go_simp
     with_reducible rfl
    rotate_left
    ·simp only [Act.put,List.setIfInBounds_toArray,List.set_cons_zero,List.set_cons_succ,i64_w,i32_w]
     rfl
    refine pure_ (i:=2) (N:=some 38) (v:=?_) (a':=?_) #[true,true,true,false,false,false,false,false] rfl rfl (by kernel_rfl) (fun _ _ _ h=>h) (Or.inl ⟨by first|rfl|exact wanted_on rfl rfl rfl (by rfl),?_⟩) ?_ ?_
    rotate_left
    ·intro w'
     go_simp
     with_reducible rfl
    rotate_left
    ·simp only [Act.put,List.setIfInBounds_toArray,List.set_cons_zero,List.set_cons_succ,i64_w,i32_w]
     rfl
    refine pure_ (i:=3) (N:=some 39) (v:=?_) (a':=?_) #[true,true,true,true,false,false,false,false] rfl rfl (by kernel_rfl) (fun _ _ _ h=>h) (Or.inl ⟨by first|rfl|exact wanted_on rfl rfl rfl (by rfl),?_⟩) ?_ ?_
    rotate_left
    ·intro w'
     go_simp
     with_reducible rfl
    rotate_left
    ·simp only [Act.put,List.setIfInBounds_toArray,List.set_cons_zero,List.set_cons_succ,i64_w,i32_w]
     rfl
    refine pure_ (i:=4) (N:=some 40) (v:=?_) (a':=?_) #[true,true,true,true,true,false,false,false] rfl rfl (by kernel_rfl) (fun _ _ _ h=>h) (Or.inl ⟨by first|rfl|exact wanted_on rfl rfl rfl (by rfl),?_⟩) ?_ ?_
    rotate_left
    ·intro w'
     go_simp
     with_reducible rfl
    rotate_left
    ·simp only [Act.put,List.setIfInBounds_toArray,List.set_cons_zero,List.set_cons_succ,i64_w,i32_w]
     rfl
    refine pure_ (i:=5) (N:=some 41) (v:=?_) (a':=?_) #[true,true,true,true,true,true,false,false] rfl rfl (by kernel_rfl) (fun _ _ _ h=>h) (Or.inl ⟨by first|rfl|exact wanted_on rfl rfl rfl (by rfl),?_⟩) ?_ ?_
    rotate_left
    ·intro w'
     go_simp
     with_reducible rfl
    rotate_left
    ·simp only [Act.put,List.setIfInBounds_toArray,List.set_cons_zero,List.set_cons_succ,i64_w,i32_w]
     rfl
    refine pure_ (i:=6) (N:=some 42) (v:=?_) (a':=?_) #[true,true,true,true,true,true,true,false] rfl rfl (by kernel_rfl) (fun _ _ _ h=>h) (Or.inl ⟨by first|rfl|exact wanted_on rfl rfl rfl (by rfl),?_⟩) ?_ ?_
    rotate_left
    ·intro w'
     go_simp
     with_reducible rfl
    rotate_left
    ·simp only [Act.put,List.setIfInBounds_toArray,List.set_cons_zero,List.set_cons_succ,i64_w,i32_w]
     rfl
    refine one_ (i:=7) (N:=some 43) #[true,true,true,true,true,true,true,true] rfl rfl (by kernel_rfl) (by decide) (fun K hK=>?_)
    refine value_ (w1:=w5) (v:=goInt 0) (by rfl) rfl ?_ ?_
    ·rw [run_exec_copy (d:=.tmp 39) (s:=.tmp 42) rfl rfl rfl]
     show ((Builtin.copy_ #[30,30] 3 #[.slice (some ⟨g,(i + 1) * 2,none⟩) 0 (cap - (i + 1)),.slice (some ⟨g,i * 2,none⟩) 1 (cap - i)]).run Tryz.prog w5).andThen _ = _
     rw [run_none60]
     rfl
    refine hK.out _ _ trivial (fun hHeld=>?_)
    clear hK K
    refine norm_ (a':=?_) ?_ ?_
    rotate_left
    ·show Act.put _ (some 43) _ = _
     simp only [Act.put,List.setIfInBounds_toArray,List.set_cons_zero,List.set_cons_succ,i64_w,i32_w]
     rfl
    refine done_ (by kernel_rfl) ?_
    clear hHeld
    obtain ⟨o0,o1⟩:=hP6.cell i (by rw [hlen];omega)
    have f0:=hP6.frozen (i * 2)
    have f1:=hP6.frozen (i * 2 + 1)
    have x0:=(hB6.cell (World.block_lt_of_cell? w _ X0.out)).trans X0.out
    have x1:=(hB6.cell (World.block_lt_of_cell? w _ X1.out)).trans X1.out
    have hP7:=hP6.set i (by rw [hlen];omega) x
    have hins:=insS_at x acc i (by rw [HQ.out];omega) HD.out HTK.out
    rw [hset,← hins] at hP7
    have HP7:=Aside0.mk hP7
    have HB7:=Aside0.mk (below_set (g:=g) (j:=i * 2 + 1) (v:=.string x.f1) (below_set (g:=g) (j:=i * 2) (v:=.string x.f0) hB6 HGB.out) HGB.out)
    generalize List.getD _ i z60 = old at o0 o1
    have HWS:=Aside0.mk (wrap_succ i (by have:=HI.out;have:=HL.out;omega))
    clear hP6 hB6 hset hlen hins hP7
    go_wp2_with (fail)
    go_roundg (l.length - (i + 1))
    case measure=>have:=HGG.out;omega
    case rel=>exact ⟨i + 1,insS x acc,by rw [HWS.out],by omega,⟨⟨by omega,by rw [insS_len,HQ.out],HI.out.2.2.1.ins x,HF.out⟩⟩,⟨by have h:=HP7.out.toR HGB.out HC.out;rw [insS_len,HQ.out] at h;exact h⟩,HB7⟩
   have k1 : (cap = at_ + 1) = False:=eq_false (by omega)
   have k2 : (at_ + 1 = cap) = False:=eq_false (by omega)
   have k3 : (at_ = cap) = False:=eq_false (by omega)
   have k4 : (at_ ≤ i + 1) = True:=eq_true (by omega)
   have k5 : (at_ + 1 ≤ i + 1) = True:=eq_true (by omega)
   have k6 : (i + 1 ≤ cap) = True:=eq_true hcl
   have k7 : (at_ ≤ i) = True:=eq_true hat1
   have k8 : (at_ + 1 < cap) = True:=eq_true (by omega)
   have k9 : (at_ < cap) = True:=eq_true (by omega)
   have k10 : ((0 : Int) ≤ (at_ : Int) + 1) = True:=eq_true (by omega)
   have k11 : ((at_ : Int) ≤ (i : Int) + 1) = True:=eq_true (by omega)
   have k12 : (cap = at_) = False:=eq_false (by omega)
   have HP5:=Aside0.mk (HP.out.below (below_drew (Below.refl _ _)))
   have HB5:=Aside0.mk (below_drew1 HB4.out)
   refine start_ (n:=8) (S:=fun _=>True) (ds:=[]) #[false,false,false,false,false,false,false,false] (by kernel_rfl) rfl rfl (trivial) (fun hHeld=>?_)
   generalize w4.drew = w5 at HP5 HB5 ⊢
   obtain ⟨w6,hcopy,hP6,hG6⟩:=run_move60 w5 g cap _ HP5.out at_ (by rw [List.length_append,HQ.out];show at_ + 1 < i + 1;omega) (cap - (at_ + 1)) (cap - at_) 3
   rw [show (acc ++ [z60]).length = i + 1 from by rw [List.length_append,HQ.out];rfl,Nat.add_sub_add_right] at hcopy hP6
   have hset:=move_set acc z60 x at_ (by rw [HQ.out];omega)
   rw [HQ.out] at hset
   have hlen : (((acc ++ [z60]).take (at_ + 1)) ++ (((acc ++ [z60]).drop at_).take (i - at_))).length = i + 1:=by have h:=congrArg List.length hset;rw [List.length_set] at h;rw [h,List.length_append,List.length_cons,List.length_take,List.length_drop,HQ.out];omega
   have hB6:=pw_below_grown HB5.out (some g) HB5.out.size hG6 (fun k hk=>by cases hk;exact HGB.out)
   refine pure_ (i:=0) (N:=some 36) (v:=?_) (a':=?_) #[true,false,false,false,false,false,false,false] rfl rfl (by kernel_rfl) (fun _ _ _ h=>h) (Or.inl ⟨by first|rfl|exact wanted_on rfl rfl rfl (by rfl),?_⟩) ?_ ?_
   rotate_left
   ·intro w'
    go_simp
    with_reducible rfl
   rotate_left
   ·simp only [Act.put,List.setIfInBounds_toArray,List.set_cons_zero,List.set_cons_succ,i64_w,i32_w]
    rfl
   refine pure_ (i:=1) (N:=some 37) (v:=?_) (a':=?_) #[true,true,false,false,false,false,false,false] rfl rfl (by kernel_rfl) (fun _ _ _ h=>h) (Or.inl ⟨by first|rfl|exact wanted_on rfl rfl rfl (by rfl),?_⟩) ?_ ?_
   rotate_left
   ·intro w'
    go_simp
    with_reducible rfl
   rotate_left
   ·simp only [Act.put,List.setIfInBounds_toArray,List.set_cons_zero,List.set_cons_succ,i64_w,i32_w]
    rfl
   refine pure_ (i:=2) (N:=some 38) (v:=?_) (a':=?_) #[true,true,true,false,false,false,false,false] rfl rfl (by kernel_rfl) (fun _ _ _ h=>h) (Or.inl ⟨by first|rfl|exact wanted_on rfl rfl rfl (by rfl),?_⟩) ?_ ?_
   rotate_left
   ·intro w'
    go_simp
    with_reducible rfl
   rotate_left
   ·simp only [Act.put,List.setIfInBounds_toArray,List.set_cons_zero,List.set_cons_succ,i64_w,i32_w]
    rfl
   refine pure_ (i:=3) (N:=some 39) (v:=?_) (a':=?_) #[true,true,true,true,false,false,false,false] rfl rfl (by kernel_rfl) (fun _ _ _ h=>h) (Or.inl ⟨by first|rfl|exact wanted_on rfl rfl rfl (by rfl),?_⟩) ?_ ?_
   rotate_left
   ·intro w'
    go_simp
    with_reducible rfl
   rotate_left
   ·simp only [Act.put,List.setIfInBounds_toArray,List.set_cons_zero,List.set_cons_succ,i64_w,i32_w]
    rfl
   refine pure_ (i:=4) (N:=some 40) (v:=?_) (a':=?_) #[true,true,true,true,true,false,false,false] rfl rfl (by kernel_rfl) (fun _ _ _ h=>h) (Or.inl ⟨by first|rfl|exact wanted_on rfl rfl rfl (by rfl),?_⟩) ?_ ?_
   rotate_left
   ·intro w'
    go_simp
    with_reducible rfl
   rotate_left
   ·simp only [Act.put,List.setIfInBounds_toArray,List.set_cons_zero,List.set_cons_succ,i64_w,i32_w]
    rfl
   refine pure_ (i:=5) (N:=some 41) (v:=?_) (a':=?_) #[true,true,true,true,true,true,false,false] rfl rfl (by kernel_rfl) (fun _ _ _ h=>h) (Or.inl ⟨by first|rfl|exact wanted_on rfl rfl rfl (by rfl),?_⟩) ?_ ?_
   rotate_left
   ·intro w'
    go_simp
    with_reducible rfl
   rotate_left
   ·simp only [Act.put,List.setIfInBounds_toArray,List.set_cons_zero,List.set_cons_succ,i64_w,i32_w]
    rfl
   refine pure_ (i:=6) (N:=some 42) (v:=?_) (a':=?_) #[true,true,true,true,true,true,true,false] rfl rfl (by kernel_rfl) (fun _ _ _ h=>h) (Or.inl ⟨by first|rfl|exact wanted_on rfl rfl rfl (by rfl),?_⟩) ?_ ?_
   rotate_left
   ·intro w'
    go_simp
    with_reducible rfl
   rotate_left
   ·simp only [Act.put,List.setIfInBounds_toArray,List.set_cons_zero,List.set_cons_succ,i64_w,i32_w]
    rfl
   refine one_ (i:=7) (N:=some 43) #[true,true,true,true,true,true,true,true] rfl rfl (by kernel_rfl) (by decide) (fun K hK=>?_)
   refine value_ (w1:=w6) (v:=goInt ((i - at_ : Nat) : Int)) (by rfl) rfl ?_ ?_
   ·rw [run_exec_copy (d:=.tmp 39) (s:=.tmp 42) rfl rfl rfl]
    show ((Builtin.copy_ #[30,30] 3 #[.slice (some ⟨g,(at_ + 1) * 2,none⟩) (i - at_) (cap - (at_ + 1)),.slice (some ⟨g,at_ * 2,none⟩) (i + 1 - at_) (cap - at_)]).run Tryz.prog w5).andThen _ = _
    rw [hcopy]
    rfl
   refine hK.out _ _ trivial (fun hHeld=>?_)
   clear hK K
   refine norm_ (a':=?_) ?_ ?_
   rotate_left
   ·show Act.put _ (some 43) _ = _
    simp only [Act.put,List.setIfInBounds_toArray,List.set_cons_zero,List.set_cons_succ,i64_w,i32_w]
    rfl
   refine done_ (by kernel_rfl) ?_
   clear hHeld hcopy
   obtain ⟨o0,o1⟩:=hP6.cell at_ (by rw [hlen];omega)
   have f0:=hP6.frozen (at_ * 2)
   have f1:=hP6.frozen (at_ * 2 + 1)
   have x0:=(hB6.cell (World.block_lt_of_cell? w _ X0.out)).trans X0.out
   have x1:=(hB6.cell (World.block_lt_of_cell? w _ X1.out)).trans X1.out
   have hP7:=hP6.set at_ (by rw [hlen];omega) x
   have hins:=insS_at x acc at_ (by rw [HQ.out];omega) HD.out HTK.out
   rw [hset,← hins] at hP7
   have HP7:=Aside0.mk hP7
   have HB7:=Aside0.mk (below_set (g:=g) (j:=at_ * 2 + 1) (v:=.string x.f1) (below_set (g:=g) (j:=at_ * 2) (v:=.string x.f0) hB6 HGB.out) HGB.out)
   generalize List.getD _ at_ z60 = old at o0 o1
   have HWS:=Aside0.mk (wrap_succ i (by have:=HI.out;have:=HL.out;omega))
   clear hP6 hB6 hset hlen hins hP7
   go_wp2_with (fail)
   go_roundg (l.length - (i + 1))
   case measure=>have:=HGG.out;omega
   case rel=>exact ⟨i + 1,insS x acc,by rw [HWS.out],by omega,⟨⟨by omega,by rw [insS_len,HQ.out],HI.out.2.2.1.ins x,HF.out⟩⟩,⟨by have h:=HP7.out.toR HGB.out HC.out;rw [insS_len,HQ.out] at h;exact h⟩,HB7⟩
  obtain ⟨m,hm⟩ : ∃ m,at_ = m + 1:=⟨at_ - 1,by omega⟩
  have hz : decide (0 < at_) = true:=decide_eq_true (by omega)
  have hwm : IntKind.i64.wrap (m : Int) = (m : Int):=by have:=HT.out;have:=HI.out;have:=HL.out;rw [IntKind.wrap_i64];omega
  have hmi : m < acc.length:=by have:=HT.out;omega
  have hrd:=HA.out
  obtain ⟨ad3,e3,y0,y1⟩:=at_T60 (Kd.R_reads' hrd).2.2 (m : Int) (by omega) (by omega)
  cases e3
  rw [Int.toNat_natCast] at y0
  have ey : rd_T60 acc (m : Int) = acc.getD m z60:=rfl
  rw [ey] at y0
  have hbef:=fun h=>HI.out.2.2.1.before x m hmi h
  have hdr : acc.drop m = acc.getD m z60 :: acc.drop (m + 1):=by
   rw [List.drop_eq_getElem_cons hmi,List.getD_eq_getElem?_getD,List.getElem?_eq_getElem hmi]
   rfl
  generalize acc.getD m z60 = y at y0 hbef hdr
  have hmz : (m : Int) < (i : Int):=by omega
  have hmz2 : (m < i) = True:=eq_true (by omega)
  have l1 : Op.bytesLess y.f0.toList x.f0.toList = ltL y.f0.data.toList x.f0.data.toList:=by rw [less_is,ByteArray.toList_eq,ByteArray.toList_eq]
  have l2 : Op.bytesLess x.f0.toList y.f0.toList = ltL x.f0.data.toList y.f0.data.toList:=by rw [less_is,ByteArray.toList_eq,ByteArray.toList_eq]
  clear y1 ey hrd
  cases hc : ltL x.f0.data.toList y.f0.data.toList with
  | true =>
   have l3 : Op.bytesLess y.f0.toList x.f0.toList = false:=by rw [l1];exact ltL_asym hc
   have l4 : (y.f0.toList == x.f0.toList) = false:=by rw [gtr_eq _ _ l3,l2,hc];rfl
   have HD2 : Aside0 (∀ z ∈ acc.drop m,ltL x.f0.data.toList z.f0.data.toList = true):=⟨by
    intro z hz2
    rw [hdr] at hz2
    rcases List.mem_cons.1 hz2 with rfl|h
    ·exact hc
    exact HD.out z (by rw [hm];exact h)⟩
   clear l1 l2 hc hdr hbef
   go_wp2_with (fail)
   go_quiet (fail)
   go_wp2_with (fail)
   go_roundg m
   case measure=>omega
   case rel=>exact ⟨m,_,by first|rfl|rw [hwm],by omega,⟨by have:=HT.out;omega⟩,HD2,rfl⟩
  | false =>
   have HTK : Aside0 (∀ y ∈ acc.take at_,ltL x.f0.data.toList y.f0.data.toList = false):=⟨by rw [hm];exact hbef hc⟩
   have hcm : (!(Op.bytesLess y.f0.toList x.f0.toList || y.f0.toList == x.f0.toList)) = false:=by
    cases hb : Op.bytesLess y.f0.toList x.f0.toList with
    | true=>rfl
    | false=>rw [gtr_eq _ _ hb,l2,hc];rfl
   have hcm2 : (!Op.bytesLess y.f0.toList x.f0.toList && !(y.f0.toList == x.f0.toList)) = false:=by rw [← Bool.not_or];exact hcm
   clear l1 l2 hc hdr hbef
   go_wp2_with (fail)
   go_quiet (fail)
   clear hcm hcm2 hwm hmi y0 hmz hmz2 hz hat0 hm
   have HN:=Aside0.mk (show at_ ≤ i from HT.out)
   have hdrop:=Kd.R_drewN (Kd.R_drewN HA.out nd) nq
   have HB0:=Aside0.mk (pw_below_drewN (pw_below_drewN HB.out nd) nq)
   have HQ:=Aside0.mk hal
   generalize (wr.drewN nd).drewN nq = wz at hdrop HB0 ⊢
   have HR0:=Aside0.mk hdrop
   clear hdrop HA HB x0 x1 hal
   go_wp2_with (first|((with_reducible refine gate_builtin (b:=.append) (xs:=#[.tmp 32,.tmp 34]) rfl ?_);at_builtin;refine Kd.R_append k60 (w0:=w) w.heap.size rfl (.tmp 32) (.tmp 34) 30 60 (.agg #[.string ⟨#[]⟩,.string ⟨#[]⟩]) 32 rfl Tryz.underlying30 info60 rfl (by decide) (by omega) (.slice (some ad3) i c3) acc z60 [.string ⟨#[]⟩,.string ⟨#[]⟩] (fun _=>True) (fun _=>False) rfl (by first|(go_simp;done)|(go_simp;rfl)) ?aP (fun _ hk=>hk.elim) ?aF ?aO ?aB ?aS ?aL ?_;(case aP=>exact k60_mkM _ _ _ z60);(case aF=>exact (fun _ _=>trivial));(case aO=>exact HR0.out);(case aB=>exact HB0.out);(case aS=>exact HB0.out.size);(case aL=>have:=HI.out;have:=HL.out;omega);intro v4 w4 ho4 hb4 hg4 hat4;obtain ⟨g,cap,rfl,hgb,hcm,hP⟩:=R_toP ho4 (by simp);have HP:=Aside0.mk hP;have HGB:=Aside0.mk hgb;have HC:=Aside0.mk hcm;have HB4:=Aside0.mk hb4;rw [show (acc ++ [z60]).length = i + 1 from by rw [List.length_append,HQ.out];rfl];clear ho4 hb4 hg4 hat4 hgb hcm hP HR0 HB0))
   have hcl : i + 1 ≤ cap:=by obtain ⟨cur,_,_,_,h⟩:=HP.out.ex;rw [List.length_append,HQ.out] at h;exact h
   have hat1 : at_ ≤ i:=HN.out
   have hw:=wrap_succ at_ (by have:=HI.out;have:=HL.out;omega)
   by_cases hai : at_ = i
   ·rw [hai] at HD HTK HT HN hat1 hw ⊢
    by_cases hce : cap = i + 1
    ·have k1 : (cap = i + 1) = True:=eq_true (by omega)
     have k2 : (i + 1 = cap) = True:=eq_true (by omega)
     have k3 : (i = cap) = False:=eq_false (by omega)
     have k6 : (i + 1 ≤ cap) = True:=eq_true hcl
     have k9 : (i < cap) = True:=eq_true (by omega)
     have k10 : ((0 : Int) ≤ (i : Int) + 1) = True:=eq_true (by omega)
     have k11 : ((i : Int) ≤ (i : Int) + 1) = True:=eq_true (by omega)
     have k12 : (cap = i) = False:=eq_false (by omega)
     have HP5:=Aside0.mk (HP.out.below (below_drew (Below.refl _ _)))
     have HB5:=Aside0.mk (below_drew1 HB4.out)
     refine start_ (n:=8) (S:=fun _=>True) (ds:=[]) #[false,false,false,false,false,false,false,false] (by kernel_rfl) rfl rfl (trivial) (fun hHeld=>?_)
     generalize w4.drew = w5 at HP5 HB5 ⊢
     have hset:=move_end acc z60 x
     rw [HQ.out] at hset
     have hP6:=HP5.out
     have hB6:=HB5.out
     have hlen : (acc ++ [z60]).length = i + 1:=by rw [List.length_append,HQ.out];rfl
     refine pure_ (i:=0) (N:=some 36) (v:=?_) (a':=?_) #[true,false,false,false,false,false,false,false] rfl rfl (by kernel_rfl) (fun _ _ _ h=>h) (Or.inl ⟨by first|rfl|exact wanted_on rfl rfl rfl (by rfl),?_⟩) ?_ ?_
     rotate_left
     ·intro w'
      go_simp
      with_reducible rfl
     rotate_left
     ·simp only [Act.put,List.setIfInBounds_toArray,List.set_cons_zero,List.set_cons_succ,i64_w,i32_w]
      rfl
     refine pure_ (i:=1) (N:=some 37) (v:=?_) (a':=?_) #[true,true,false,false,false,false,false,false] rfl rfl (by kernel_rfl) (fun _ _ _ h=>h) (Or.inl ⟨by first|rfl|exact wanted_on rfl rfl rfl (by rfl),?_⟩) ?_ ?_
     rotate_left
     ·intro w'
      go_simp
      with_reducible rfl
     rotate_left
     ·simp only [Act.put,List.setIfInBounds_toArray,List.set_cons_zero,List.set_cons_succ,i64_w,i32_w]
      rfl
     refine pure_ (i:=2) (N:=some 38) (v:=?_) (a':=?_) #[true,true,true,false,false,false,false,false] rfl rfl (by kernel_rfl) (fun _ _ _ h=>h) (Or.inl ⟨by first|rfl|exact wanted_on rfl rfl rfl (by rfl),?_⟩) ?_ ?_
     rotate_left
     ·intro w'
      go_simp
      with_reducible rfl
     rotate_left
     ·simp only [Act.put,List.setIfInBounds_toArray,List.set_cons_zero,List.set_cons_succ,i64_w,i32_w]
      rfl
     refine pure_ (i:=3) (N:=some 39) (v:=?_) (a':=?_) #[true,true,true,true,false,false,false,false] rfl rfl (by kernel_rfl) (fun _ _ _ h=>h) (Or.inl ⟨by first|rfl|exact wanted_on rfl rfl rfl (by rfl),?_⟩) ?_ ?_
     rotate_left
     ·intro w'
      go_simp
      with_reducible rfl
     rotate_left
     ·simp only [Act.put,List.setIfInBounds_toArray,List.set_cons_zero,List.set_cons_succ,i64_w,i32_w]
      rfl
     refine pure_ (i:=4) (N:=some 40) (v:=?_) (a':=?_) #[true,true,true,true,true,false,false,false] rfl rfl (by kernel_rfl) (fun _ _ _ h=>h) (Or.inl ⟨by first|rfl|exact wanted_on rfl rfl rfl (by rfl),?_⟩) ?_ ?_
     rotate_left
     ·intro w'
      go_simp
      with_reducible rfl
     rotate_left
     ·simp only [Act.put,List.setIfInBounds_toArray,List.set_cons_zero,List.set_cons_succ,i64_w,i32_w]
      rfl
     refine pure_ (i:=5) (N:=some 41) (v:=?_) (a':=?_) #[true,true,true,true,true,true,false,false] rfl rfl (by kernel_rfl) (fun _ _ _ h=>h) (Or.inl ⟨by first|rfl|exact wanted_on rfl rfl rfl (by rfl),?_⟩) ?_ ?_
     rotate_left
     ·intro w'
      go_simp
      with_reducible rfl
     rotate_left
     ·simp only [Act.put,List.setIfInBounds_toArray,List.set_cons_zero,List.set_cons_succ,i64_w,i32_w]
      rfl
     refine pure_ (i:=6) (N:=some 42) (v:=?_) (a':=?_) #[true,true,true,true,true,true,true,false] rfl rfl (by kernel_rfl) (fun _ _ _ h=>h) (Or.inl ⟨by first|rfl|exact wanted_on rfl rfl rfl (by rfl),?_⟩) ?_ ?_
     rotate_left
     ·intro w'
      go_simp
      with_reducible rfl
     rotate_left
     ·simp only [Act.put,List.setIfInBounds_toArray,List.set_cons_zero,List.set_cons_succ,i64_w,i32_w]
      rfl
     refine one_ (i:=7) (N:=some 43) #[true,true,true,true,true,true,true,true] rfl rfl (by kernel_rfl) (by decide) (fun K hK=>?_)
     refine value_ (w1:=w5) (v:=goInt 0) (by rfl) rfl ?_ ?_
     ·rw [run_exec_copy (d:=.tmp 39) (s:=.tmp 42) rfl rfl rfl]
      show ((Builtin.copy_ #[30,30] 3 #[.slice (some ⟨g,0,none⟩) 0 0,.slice (some ⟨g,i * 2,none⟩) 1 1]).run Tryz.prog w5).andThen _ = _
      rw [run_none60]
      rfl
     refine hK.out _ _ trivial (fun hHeld=>?_)
     clear hK K
     refine norm_ (a':=?_) ?_ ?_
     rotate_left
     ·show Act.put _ (some 43) _ = _
      simp only [Act.put,List.setIfInBounds_toArray,List.set_cons_zero,List.set_cons_succ,i64_w,i32_w]
      rfl
     refine done_ (by kernel_rfl) ?_
     clear hHeld
     obtain ⟨o0,o1⟩:=hP6.cell i (by rw [hlen];omega)
     have f0:=hP6.frozen (i * 2)
     have f1:=hP6.frozen (i * 2 + 1)
     have x0:=(hB6.cell (World.block_lt_of_cell? w _ X0.out)).trans X0.out
     have x1:=(hB6.cell (World.block_lt_of_cell? w _ X1.out)).trans X1.out
     have hP7:=hP6.set i (by rw [hlen];omega) x
     have hins:=insS_at x acc i (by rw [HQ.out];omega) HD.out HTK.out
     rw [hset,← hins] at hP7
     have HP7:=Aside0.mk hP7
     have HB7:=Aside0.mk (below_set (g:=g) (j:=i * 2 + 1) (v:=.string x.f1) (below_set (g:=g) (j:=i * 2) (v:=.string x.f0) hB6 HGB.out) HGB.out)
     generalize List.getD _ i z60 = old at o0 o1
     have HWS:=Aside0.mk (wrap_succ i (by have:=HI.out;have:=HL.out;omega))
     clear hP6 hB6 hset hlen hins hP7
     go_wp2_with (fail)
     go_roundg (l.length - (i + 1))
     case measure=>have:=HGG.out;omega
     case rel=>exact ⟨i + 1,insS x acc,by rw [HWS.out],by omega,⟨⟨by omega,by rw [insS_len,HQ.out],HI.out.2.2.1.ins x,HF.out⟩⟩,⟨by have h:=HP7.out.toR HGB.out HC.out;rw [insS_len,HQ.out] at h;exact h⟩,HB7⟩
    have k1 : (cap = i + 1) = False:=eq_false (by omega)
    have k2 : (i + 1 = cap) = False:=eq_false (by omega)
    have k3 : (i = cap) = False:=eq_false (by omega)
    have k6 : (i + 1 ≤ cap) = True:=eq_true hcl
    have k9 : (i < cap) = True:=eq_true (by omega)
    have k10 : ((0 : Int) ≤ (i : Int) + 1) = True:=eq_true (by omega)
    have k11 : ((i : Int) ≤ (i : Int) + 1) = True:=eq_true (by omega)
    have k12 : (cap = i) = False:=eq_false (by omega)
    have HP5:=Aside0.mk (HP.out.below (below_drew (Below.refl _ _)))
    have HB5:=Aside0.mk (below_drew1 HB4.out)
    refine start_ (n:=8) (S:=fun _=>True) (ds:=[]) #[false,false,false,false,false,false,false,false] (by kernel_rfl) rfl rfl (trivial) (fun hHeld=>?_)
    generalize w4.drew = w5 at HP5 HB5 ⊢
    have hset:=move_end acc z60 x
    rw [HQ.out] at hset
    have hP6:=HP5.out
    have hB6:=HB5.out
    have hlen : (acc ++ [z60]).length = i + 1:=by rw [List.length_append,HQ.out];rfl
    refine pure_ (i:=0) (N:=some 36) (v:=?_) (a':=?_) #[true,false,false,false,false,false,false,false] rfl rfl (by kernel_rfl) (fun _ _ _ h=>h) (Or.inl ⟨by first|rfl|exact wanted_on rfl rfl rfl (by rfl),?_⟩) ?_ ?_
    rotate_left
    ·intro w'
     go_simp
     with_reducible rfl
    rotate_left
    ·simp only [Act.put,List.setIfInBounds_toArray,List.set_cons_zero,List.set_cons_succ,i64_w,i32_w]
     rfl
    refine pure_ (i:=1) (N:=some 37) (v:=?_) (a':=?_) #[true,true,false,false,false,false,false,false] rfl rfl (by kernel_rfl) (fun _ _ _ h=>h) (Or.inl ⟨by first|rfl|exact wanted_on rfl rfl rfl (by rfl),?_⟩) ?_ ?_
    rotate_left
    ·intro w'
     go_simp
     with_reducible rfl
    rotate_left
    ·simp only [Act.put,List.setIfInBounds_toArray,List.set_cons_zero,List.set_cons_succ,i64_w,i32_w]
     rfl
    refine pure_ (i:=2) (N:=some 38) (v:=?_) (a':=?_) #[true,true,true,false,false,false,false,false] rfl rfl (by kernel_rfl) (fun _ _ _ h=>h) (Or.inl ⟨by first|rfl|exact wanted_on rfl rfl rfl (by rfl),?_⟩) ?_ ?_
    rotate_left
    ·intro w'
     go_simp
     with_reducible rfl
    rotate_left
    ·simp only [Act.put,List.setIfInBounds_toArray,List.set_cons_zero,List.set_cons_succ,i64_w,i32_w]
     rfl
    refine pure_ (i:=3) (N:=some 39) (v:=?_) (a':=?_) #[true,true,true,true,false,false,false,false] rfl rfl (by kernel_rfl) (fun _ _ _ h=>h) (Or.inl ⟨by first|rfl|exact wanted_on rfl rfl rfl (by rfl),?_⟩) ?_ ?_
    rotate_left
    ·intro w'
     go_simp
     with_reducible rfl
    rotate_left
    ·simp only [Act.put,List.setIfInBounds_toArray,List.set_cons_zero,List.set_cons_succ,i64_w,i32_w]
     rfl
    refine pure_ (i:=4) (N:=some 40) (v:=?_) (a':=?_) #[true,true,true,true,true,false,false,false] rfl rfl (by kernel_rfl) (fun _ _ _ h=>h) (Or.inl ⟨by first|rfl|exact wanted_on rfl rfl rfl (by rfl),?_⟩) ?_ ?_
    rotate_left
    ·intro w'
     go_simp
     with_reducible rfl
    rotate_left
    ·simp only [Act.put,List.setIfInBounds_toArray,List.set_cons_zero,List.set_cons_succ,i64_w,i32_w]
     rfl
    refine pure_ (i:=5) (N:=some 41) (v:=?_) (a':=?_) #[true,true,true,true,true,true,false,false] rfl rfl (by kernel_rfl) (fun _ _ _ h=>h) (Or.inl ⟨by first|rfl|exact wanted_on rfl rfl rfl (by rfl),?_⟩) ?_ ?_
    rotate_left
    ·intro w'
     go_simp
     with_reducible rfl
    rotate_left
    ·simp only [Act.put,List.setIfInBounds_toArray,List.set_cons_zero,List.set_cons_succ,i64_w,i32_w]
     rfl
    refine pure_ (i:=6) (N:=some 42) (v:=?_) (a':=?_) #[true,true,true,true,true,true,true,false] rfl rfl (by kernel_rfl) (fun _ _ _ h=>h) (Or.inl ⟨by first|rfl|exact wanted_on rfl rfl rfl (by rfl),?_⟩) ?_ ?_
    rotate_left
    ·intro w'
     go_simp
     with_reducible rfl
    rotate_left
    ·simp only [Act.put,List.setIfInBounds_toArray,List.set_cons_zero,List.set_cons_succ,i64_w,i32_w]
     rfl
    refine one_ (i:=7) (N:=some 43) #[true,true,true,true,true,true,true,true] rfl rfl (by kernel_rfl) (by decide) (fun K hK=>?_)
    refine value_ (w1:=w5) (v:=goInt 0) (by rfl) rfl ?_ ?_
    ·rw [run_exec_copy (d:=.tmp 39) (s:=.tmp 42) rfl rfl rfl]
     show ((Builtin.copy_ #[30,30] 3 #[.slice (some ⟨g,(i + 1) * 2,none⟩) 0 (cap - (i + 1)),.slice (some ⟨g,i * 2,none⟩) 1 (cap - i)]).run Tryz.prog w5).andThen _ = _
     rw [run_none60]
     rfl
    refine hK.out _ _ trivial (fun hHeld=>?_)
    clear hK K
    refine norm_ (a':=?_) ?_ ?_
    rotate_left
    ·show Act.put _ (some 43) _ = _
     simp only [Act.put,List.setIfInBounds_toArray,List.set_cons_zero,List.set_cons_succ,i64_w,i32_w]
     rfl
    refine done_ (by kernel_rfl) ?_
    clear hHeld
    obtain ⟨o0,o1⟩:=hP6.cell i (by rw [hlen];omega)
    have f0:=hP6.frozen (i * 2)
    have f1:=hP6.frozen (i * 2 + 1)
    have x0:=(hB6.cell (World.block_lt_of_cell? w _ X0.out)).trans X0.out
    have x1:=(hB6.cell (World.block_lt_of_cell? w _ X1.out)).trans X1.out
    have hP7:=hP6.set i (by rw [hlen];omega) x
    have hins:=insS_at x acc i (by rw [HQ.out];omega) HD.out HTK.out
    rw [hset,← hins] at hP7
    have HP7:=Aside0.mk hP7
    have HB7:=Aside0.mk (below_set (g:=g) (j:=i * 2 + 1) (v:=.string x.f1) (below_set (g:=g) (j:=i * 2) (v:=.string x.f0) hB6 HGB.out) HGB.out)
    generalize List.getD _ i z60 = old at o0 o1
    have HWS:=Aside0.mk (wrap_succ i (by have:=HI.out;have:=HL.out;omega))
    clear hP6 hB6 hset hlen hins hP7
    go_wp2_with (fail)
    go_roundg (l.length - (i + 1))
    case measure=>have:=HGG.out;omega
    case rel=>exact ⟨i + 1,insS x acc,by rw [HWS.out],by omega,⟨⟨by omega,by rw [insS_len,HQ.out],HI.out.2.2.1.ins x,HF.out⟩⟩,⟨by have h:=HP7.out.toR HGB.out HC.out;rw [insS_len,HQ.out] at h;exact h⟩,HB7⟩
   have k1 : (cap = at_ + 1) = False:=eq_false (by omega)
   have k2 : (at_ + 1 = cap) = False:=eq_false (by omega)
   have k3 : (at_ = cap) = False:=eq_false (by omega)
   have k4 : (at_ ≤ i + 1) = True:=eq_true (by omega)
   have k5 : (at_ + 1 ≤ i + 1) = True:=eq_true (by omega)
   have k6 : (i + 1 ≤ cap) = True:=eq_true hcl
   have k7 : (at_ ≤ i) = True:=eq_true hat1
   have k8 : (at_ + 1 < cap) = True:=eq_true (by omega)
   have k9 : (at_ < cap) = True:=eq_true (by omega)
   have k10 : ((0 : Int) ≤ (at_ : Int) + 1) = True:=eq_true (by omega)
   have k11 : ((at_ : Int) ≤ (i : Int) + 1) = True:=eq_true (by omega)
   have k12 : (cap = at_) = False:=eq_false (by omega)
   have HP5:=Aside0.mk (HP.out.below (below_drew (Below.refl _ _)))
   have HB5:=Aside0.mk (below_drew1 HB4.out)
   refine start_ (n:=8) (S:=fun _=>True) (ds:=[]) #[false,false,false,false,false,false,false,false] (by kernel_rfl) rfl rfl (trivial) (fun hHeld=>?_)
   generalize w4.drew = w5 at HP5 HB5 ⊢
   obtain ⟨w6,hcopy,hP6,hG6⟩:=run_move60 w5 g cap _ HP5.out at_ (by rw [List.length_append,HQ.out];show at_ + 1 < i + 1;omega) (cap - (at_ + 1)) (cap - at_) 3
   rw [show (acc ++ [z60]).length = i + 1 from by rw [List.length_append,HQ.out];rfl,Nat.add_sub_add_right] at hcopy hP6
   have hset:=move_set acc z60 x at_ (by rw [HQ.out];omega)
   rw [HQ.out] at hset
   have hlen : (((acc ++ [z60]).take (at_ + 1)) ++ (((acc ++ [z60]).drop at_).take (i - at_))).length = i + 1:=by have h:=congrArg List.length hset;rw [List.length_set] at h;rw [h,List.length_append,List.length_cons,List.length_take,List.length_drop,HQ.out];omega
   have hB6:=pw_below_grown HB5.out (some g) HB5.out.size hG6 (fun k hk=>by cases hk;exact HGB.out)
   refine pure_ (i:=0) (N:=some 36) (v:=?_) (a':=?_) #[true,false,false,false,false,false,false,false] rfl rfl (by kernel_rfl) (fun _ _ _ h=>h) (Or.inl ⟨by first|rfl|exact wanted_on rfl rfl rfl (by rfl),?_⟩) ?_ ?_
   rotate_left
   ·intro w'
    go_simp
    with_reducible rfl
   rotate_left
   ·simp only [Act.put,List.setIfInBounds_toArray,List.set_cons_zero,List.set_cons_succ,i64_w,i32_w]
    rfl
   refine pure_ (i:=1) (N:=some 37) (v:=?_) (a':=?_) #[true,true,false,false,false,false,false,false] rfl rfl (by kernel_rfl) (fun _ _ _ h=>h) (Or.inl ⟨by first|rfl|exact wanted_on rfl rfl rfl (by rfl),?_⟩) ?_ ?_
   rotate_left
   ·intro w'
    go_simp
    with_reducible rfl
   rotate_left
   ·simp only [Act.put,List.setIfInBounds_toArray,List.set_cons_zero,List.set_cons_succ,i64_w,i32_w]
    rfl
   refine pure_ (i:=2) (N:=some 38) (v:=?_) (a':=?_) #[true,true,true,false,false,false,false,false] rfl rfl (by kernel_rfl) (fun _ _ _ h=>h) (Or.inl ⟨by first|rfl|exact wanted_on rfl rfl rfl (by rfl),?_⟩) ?_ ?_
   rotate_left
   ·intro w'
    go_simp
    with_reducible rfl
   rotate_left
   ·simp only [Act.put,List.setIfInBounds_toArray,List.set_cons_zero,List.set_cons_succ,i64_w,i32_w]
    rfl
   refine pure_ (i:=3) (N:=some 39) (v:=?_) (a':=?_) #[true,true,true,true,false,false,false,false] rfl rfl (by kernel_rfl) (fun _ _ _ h=>h) (Or.inl ⟨by first|rfl|exact wanted_on rfl rfl rfl (by rfl),?_⟩) ?_ ?_
   rotate_left
   ·intro w'
    go_simp
    with_reducible rfl
   rotate_left
   ·simp only [Act.put,List.setIfInBounds_toArray,List.set_cons_zero,List.set_cons_succ,i64_w,i32_w]
    rfl
   refine pure_ (i:=4) (N:=some 40) (v:=?_) (a':=?_) #[true,true,true,true,true,false,false,false] rfl rfl (by kernel_rfl) (fun _ _ _ h=>h) (Or.inl ⟨by first|rfl|exact wanted_on rfl rfl rfl (by rfl),?_⟩) ?_ ?_
   rotate_left
   ·intro w'
    go_simp
    with_reducible rfl
   rotate_left
   ·simp only [Act.put,List.setIfInBounds_toArray,List.set_cons_zero,List.set_cons_succ,i64_w,i32_w]
    rfl
   refine pure_ (i:=5) (N:=some 41) (v:=?_) (a':=?_) #[true,true,true,true,true,true,false,false] rfl rfl (by kernel_rfl) (fun _ _ _ h=>h) (Or.inl ⟨by first|rfl|exact wanted_on rfl rfl rfl (by rfl),?_⟩) ?_ ?_
   rotate_left
   ·intro w'
    go_simp
    with_reducible rfl
   rotate_left
   ·simp only [Act.put,List.setIfInBounds_toArray,List.set_cons_zero,List.set_cons_succ,i64_w,i32_w]
    rfl
   refine pure_ (i:=6) (N:=some 42) (v:=?_) (a':=?_) #[true,true,true,true,true,true,true,false] rfl rfl (by kernel_rfl) (fun _ _ _ h=>h) (Or.inl ⟨by first|rfl|exact wanted_on rfl rfl rfl (by rfl),?_⟩) ?_ ?_
   rotate_left
   ·intro w'
    go_simp
    with_reducible rfl
   rotate_left
   ·simp only [Act.put,List.setIfInBounds_toArray,List.set_cons_zero,List.set_cons_succ,i64_w,i32_w]
    rfl
   refine one_ (i:=7) (N:=some 43) #[true,true,true,true,true,true,true,true] rfl rfl (by kernel_rfl) (by decide) (fun K hK=>?_)
   refine value_ (w1:=w6) (v:=goInt ((i - at_ : Nat) : Int)) (by rfl) rfl ?_ ?_
   ·rw [run_exec_copy (d:=.tmp 39) (s:=.tmp 42) rfl rfl rfl]
    show ((Builtin.copy_ #[30,30] 3 #[.slice (some ⟨g,(at_ + 1) * 2,none⟩) (i - at_) (cap - (at_ + 1)),.slice (some ⟨g,at_ * 2,none⟩) (i + 1 - at_) (cap - at_)]).run Tryz.prog w5).andThen _ = _
    rw [hcopy]
    rfl
   refine hK.out _ _ trivial (fun hHeld=>?_)
   clear hK K
   refine norm_ (a':=?_) ?_ ?_
   rotate_left
   ·show Act.put _ (some 43) _ = _
    simp only [Act.put,List.setIfInBounds_toArray,List.set_cons_zero,List.set_cons_succ,i64_w,i32_w]
    rfl
   refine done_ (by kernel_rfl) ?_
   clear hHeld hcopy
   obtain ⟨o0,o1⟩:=hP6.cell at_ (by rw [hlen];omega)
   have f0:=hP6.frozen (at_ * 2)
   have f1:=hP6.frozen (at_ * 2 + 1)
   have x0:=(hB6.cell (World.block_lt_of_cell? w _ X0.out)).trans X0.out
   have x1:=(hB6.cell (World.block_lt_of_cell? w _ X1.out)).trans X1.out
   have hP7:=hP6.set at_ (by rw [hlen];omega) x
   have hins:=insS_at x acc at_ (by rw [HQ.out];omega) HD.out HTK.out
   rw [hset,← hins] at hP7
   have HP7:=Aside0.mk hP7
   have HB7:=Aside0.mk (below_set (g:=g) (j:=at_ * 2 + 1) (v:=.string x.f1) (below_set (g:=g) (j:=at_ * 2) (v:=.string x.f0) hB6 HGB.out) HGB.out)
   generalize List.getD _ at_ z60 = old at o0 o1
   have HWS:=Aside0.mk (wrap_succ i (by have:=HI.out;have:=HL.out;omega))
   clear hP6 hB6 hset hlen hins hP7
   go_wp2_with (fail)
   go_roundg (l.length - (i + 1))
   case measure=>have:=HGG.out;omega
   case rel=>exact ⟨i + 1,insS x acc,by rw [HWS.out],by omega,⟨⟨by omega,by rw [insS_len,HQ.out],HI.out.2.2.1.ins x,HF.out⟩⟩,⟨by have h:=HP7.out.toR HGB.out HC.out;rw [insS_len,HQ.out] at h;exact h⟩,HB7⟩
 obtain rfl : i = l.length:=by have:=HI.out;omega
 have hltz : ¬ ((l.length : Int) < (l.length : Int)):=by omega
 have hs:=HI.out.2.2.2
 rw [List.take_length] at hs
 have HS:=Aside0.mk (show sortS l = acc from hs)
 clear hs
 go_wp2_with (fail)
 go_ret
 exact ⟨_,rfl,by rw [HS.out];exact HA.out,HB.out⟩
theorem spillwayref3_sorted.calls (A0 : Option Addr) (c0 : Nat) (l : List S60) (r : List S60) (w : World) (hr0 : Kd.C k60 w A0 l.length l) (hc0 : l.length ≤ c0) (h : spillwayref3_sorted.f l = some r) :
  Calls Tryz.prog 73 #[.slice A0 l.length c0] w fun e w'=>∃ v,e = .returned v ∧ Kd.R k60 60 w' w.heap.size (fun _=>True) v r ∧ Below w.heap.size w w':=by
 unfold spillwayref3_sorted.f at h
 by_cases hl : l.length ≤ 1000
 ·rw [if_pos hl] at h
  rw [← Option.some.inj h]
  exact sorted_walk A0 c0 l w hr0 hc0 hl
 rw [if_neg hl] at h
 cases h
end Go.Proofs.YtfgffjchphignaaGreatDoor.Print
end
section
namespace Go.Proofs.YtfgffjchphignaaGreatDoor.Print
open Go.RowKit Go.Proofs.YtfgffjchphignaaGreatDoorX Go.Proofs.YtfgffjchphignaaGreatDoorW.PrintWords Go.Proofs.YtfgffjchphignaaGreatDoorW.PrintLast Go.Proofs.YtfgffjchphignaaGreatDoorW.PrintMore
/-! ### spillwayref3_Parse: function 39 -/
mutual
def spillwayref3_Parse.j0 : Nat → ByteArray → List (S60) → Int → Option ((List (S60)) × Bool)
 | 0,_,_,_=>none
 | k + 1,x0,x4,x5=>if 0 ≤ x5 then (if x5 ≤ (x0.size : Int) then (if (x0.extract (x5 : Int).toNat x0.size).toList = ([] : List UInt8) then (spillwayref3_Parse.j4 k x0 x4) else (if 0 < ((x0.extract (x5 : Int).toNat x0.size).size : Int) then (if (bt (x0.extract (x5 : Int).toNat x0.size) 0) = 123 then (if 1 ≤ ((x0.extract (x5 : Int).toNat x0.size).size : Int) then (spillwayref3_Parse.l0 k x0 x4 ((x0.extract (x5 : Int).toNat x0.size).extract 1 (x0.extract (x5 : Int).toNat x0.size).size)) else (none)) else (some (([] : List (S60)),false))) else (none))) else (none)) else (none)
def spillwayref3_Parse.j4 : Nat → ByteArray → List (S60) → Option ((List (S60)) × Bool)
 | 0,_,_=>none
 | k + 1,x0,x4=>(spillwayref3_sorted.f x4).bind fun t242=>((spillwayref3_Is.f t242).bind fun t245=>(if t245 = true then ((spillwayref3_Print.f k t242).bind fun t246=>(if t246.toList = x0.toList then (some (t242,true)) else (some (([] : List (S60)),false)))) else (some (([] : List (S60)),false))))
def spillwayref3_Parse.l0 : Nat → ByteArray → List (S60) → ByteArray → Option ((List (S60)) × Bool)
 | 0,_,_,_=>none
 | k + 1,x0,x4,x6=>if x6.toList = ([125] : List UInt8) then (spillwayref3_Parse.j4 k x0 x4) else ((spillwayref3_ident.f k x6).bind fun t236=>(if t236 = 0 then (spillwayref3_Parse.j2 k x0 x4 x6 t236 true) else (if t236 ≥ (x6.size : Int) then (spillwayref3_Parse.j2 k x0 x4 x6 t236 true) else (if 0 ≤ t236 then (if t236 < (x6.size : Int) then (spillwayref3_Parse.j2 k x0 x4 x6 t236 ((bt x6 t236) != 61)) else (none)) else (none)))))
def spillwayref3_Parse.j2 : Nat → ByteArray → List (S60) → ByteArray → Int → Bool → Option ((List (S60)) × Bool)
 | 0,_,_,_,_,_=>none
 | k + 1,x0,x4,x6,x7,x48=>if x48 = true then (some (([] : List (S60)),false)) else (if 0 ≤ (wrap64 (x7 + 1)) then (if (wrap64 (x7 + 1)) ≤ (x6.size : Int) then ((spillwayref3_Quoted.f k (x6.extract ((wrap64 (x7 + 1)) : Int).toNat x6.size)).bind fun bt237=>(if bt237.2 = 0 then (some (([] : List (S60)),false)) else (if 0 ≤ x7 then (if x7 ≤ (x6.size : Int) then (if x4.length < 4398046511104 then ((some (x4 ++ [(⟨x6.extract 0 (x7 : Int).toNat,bt237.1⟩ : S60)] : List (S60))).bind fun y239=>(if 0 ≤ (wrap64 ((wrap64 (x7 + 1)) + bt237.2)) then (if (wrap64 ((wrap64 (x7 + 1)) + bt237.2)) ≤ (x6.size : Int) then (if (x6.extract ((wrap64 ((wrap64 (x7 + 1)) + bt237.2)) : Int).toNat x6.size).toList = ([] : List UInt8) then (spillwayref3_Parse.j3 k x0 y239 (x6.extract ((wrap64 ((wrap64 (x7 + 1)) + bt237.2)) : Int).toNat x6.size) true) else (if (x6.extract ((wrap64 ((wrap64 (x7 + 1)) + bt237.2)) : Int).toNat x6.size).toList = ([125] : List UInt8) then (spillwayref3_Parse.j3 k x0 y239 (x6.extract ((wrap64 ((wrap64 (x7 + 1)) + bt237.2)) : Int).toNat x6.size) ((x6.extract ((wrap64 ((wrap64 (x7 + 1)) + bt237.2)) : Int).toNat x6.size).toList == ([44,125] : List UInt8))) else (if 0 < ((x6.extract ((wrap64 ((wrap64 (x7 + 1)) + bt237.2)) : Int).toNat x6.size).size : Int) then (if (bt (x6.extract ((wrap64 ((wrap64 (x7 + 1)) + bt237.2)) : Int).toNat x6.size) 0) = 44 then (spillwayref3_Parse.j3 k x0 y239 (x6.extract ((wrap64 ((wrap64 (x7 + 1)) + bt237.2)) : Int).toNat x6.size) ((x6.extract ((wrap64 ((wrap64 (x7 + 1)) + bt237.2)) : Int).toNat x6.size).toList == ([44,125] : List UInt8))) else (spillwayref3_Parse.j3 k x0 y239 (x6.extract ((wrap64 ((wrap64 (x7 + 1)) + bt237.2)) : Int).toNat x6.size) true)) else (none)))) else (none)) else (none))) else (none)) else (none)) else (none)))) else (none)) else (none))
def spillwayref3_Parse.j3 : Nat → ByteArray → List (S60) → ByteArray → Bool → Option ((List (S60)) × Bool)
 | 0,_,_,_,_=>none
 | k + 1,x0,x4,x6,x87=>if x87 = true then (some (([] : List (S60)),false)) else (if 0 < (x6.size : Int) then (if (bt x6 0) = 44 then (if 1 ≤ (x6.size : Int) then (spillwayref3_Parse.l0 k x0 x4 (x6.extract 1 x6.size)) else (none)) else (spillwayref3_Parse.l0 k x0 x4 x6)) else (none))
end
def spillwayref3_Parse.f (k : Nat) (a0 : ByteArray) : Option ((List (S60)) × Bool):=(spillwayref3_ident.f k a0).bind fun t232=>(if t232 > 0 then (if 0 ≤ t232 then (if t232 ≤ (a0.size : Int) then (if ([] : List (S60)).length < 4398046511104 then (spillwayref3_Parse.j0 k a0 (([] : List (S60)) ++ [(⟨(⟨#[95,95,110,97,109,101,95,95]⟩ : ByteArray),a0.extract 0 (t232 : Int).toNat⟩ : S60)]) t232) else (none)) else (none)) else (none)) else (spillwayref3_Parse.j0 k a0 ([] : List (S60)) t232))
set_option maxHeartbeats 8000000 in
set_option maxRecDepth 100000 in
theorem spillwayref3_Parse.calls (k : Nat) (a0 : ByteArray) (r1 : List (S60)) (r2 : Bool) (w : World) (h : spillwayref3_Parse.f k a0 = some (r1,r2)) :
  Calls Tryz.prog 39 #[.string a0] w fun e w'=>∃ v0_ : Value,e = .returned (.tuple #[v0_,.bool r2]) ∧ Kd.R k60 60 w' w.heap.size (fun _=>True) v0_ r1 ∧ Below w.heap.size w w':=by
 have hu60:=Tryz.underlying60
 have HB:=Aside0.mk (Below.refl w.heap.size w)
 have H : ((spillwayref3_ident.f k a0).bind fun t232=>(if t232 > 0 then (if 0 ≤ t232 then (if t232 ≤ (a0.size : Int) then (if ([] : List (S60)).length < 4398046511104 then (spillwayref3_Parse.j0 k a0 (([] : List (S60)) ++ [(⟨(⟨#[95,95,110,97,109,101,95,95]⟩ : ByteArray),a0.extract 0 (t232 : Int).toNat⟩ : S60)]) t232) else (none)) else (none)) else (none)) else (spillwayref3_Parse.j0 k a0 ([] : List (S60)) t232))) = some (r1,r2):=h
 clear h
 replace H:=Option.bind_eq_some_iff.mp H
 obtain ⟨t232,A20,H⟩:=H
 replace H : (if t232 > 0 then (if 0 ≤ t232 then (if t232 ≤ (a0.size : Int) then (if ([] : List (S60)).length < 4398046511104 then (spillwayref3_Parse.j0 k a0 (([] : List (S60)) ++ [(⟨(⟨#[95,95,110,97,109,101,95,95]⟩ : ByteArray),a0.extract 0 (t232 : Int).toNat⟩ : S60)]) t232) else (none)) else (none)) else (none)) else (spillwayref3_Parse.j0 k a0 ([] : List (S60)) t232)) = some (r1,r2):=H
 have A2:=Aside0.mk A20
 clear A20
 have HC3:=Aside0.mk H
 clear H
 go_enter Tryz.func39,Tryz.ntmps39
 go_upto_if 13 with (first|((with_reducible refine gate_callee (f:=71) rfl ?_);refine goesL_ (some 11) rfl rfl Tryz.func71 (by kernel_rfl) rfl #[.string a0] rfl (by (try simp only [List.map_toArray,List.map_cons,List.map_nil]);first|done|rfl|(simp only [List.length_drop,List.length_take];rfl)) ?_;(with_reducible refine (spillwayref3_ident.calls k a0 t232 _ A2.out).mono ?_);rintro e w' ⟨rfl,⟨nd,rfl⟩⟩;refine ⟨_,rfl,?_⟩))
 (try simp only [Act.put,List.setIfInBounds_toArray,List.set_cons_zero,List.set_cons_succ])
 go_cut [4] (fun v4 wc=>∃ (kq : Nat) (x4_2 : List (S60)),Aside0 (spillwayref3_Parse.j0 kq a0 x4_2 t232 = some (r1,r2)) ∧ Aside0 (kq ≤ k) ∧ Aside0 (Kd.R k60 60 wc w.heap.size (fun _=>True) v4 x4_2) ∧ Aside0 (Below w.heap.size w wc))
 case first =>
  have H:=HC3.out
  clear HC3
  by_cases c4 : t232 > 0
  ·rw [if_pos c4] at H
   have c4b0 : decide (0 < t232) = true:=decide_eq_true c4
   clear c4
   (first|rw [c4b0]|(simp only [i64_w,i32_w];rw [c4b0])|skip)
   by_cases c5 : 0 ≤ t232
   ·rw [if_pos c5] at H
    have c5b0:=eq_true c5
    have c5b1 : decide (0 ≤ t232) = true:=decide_eq_true c5
    clear c5
    by_cases c6 : t232 ≤ (a0.size : Int)
    ·rw [if_pos c6] at H
     have c6b0:=eq_true c6
     have c6b1 : decide (t232 ≤ (a0.size : Int)) = true:=decide_eq_true c6
     clear c6
     by_cases c7 : ([] : List (S60)).length < 4398046511104
     ·rw [if_pos c7] at H
      have LMc7:=Aside0.mk c7
      clear c7
      obtain ⟨y233,hy233⟩ : ∃ y_ : List (S60),y_ = (([] : List (S60)) ++ [(⟨(⟨#[95,95,110,97,109,101,95,95]⟩ : ByteArray),a0.extract 0 (t232 : Int).toNat⟩ : S60)]):=⟨_,rfl⟩
      replace H : (spillwayref3_Parse.j0 k a0 y233 t232) = some (r1,r2):=by first|(rw [hy233];with_reducible exact H)|(have H2_:=(Option.bind_some _ _).symm.trans H;rw [hy233];with_reducible exact H2_)|(have H2_:=(Option.bind_some _ _).symm.trans H;with_reducible exact H2_)|with_reducible exact H|(rw [hy233];exact H)|exact H
      have Ny233:=Aside0.mk hy233
      clear hy233
      have H':=Aside0.mk H
      clear H
      go_wp2_with (first|((with_reducible refine gate_builtin (b:=.append) (xs:=#[.tmp 14,.tmp 19]) rfl ?_);(try (refine gate_guard (by rfl) ?_;dsimp only));at_builtin;refine Kd.R_append k60 (w0:=w) w.heap.size rfl (.tmp 14) (.tmp 19) 30 60 (.agg #[(.string ⟨#[]⟩),(.string ⟨#[]⟩)]) 32 rfl Tryz.underlying30 info60 rfl (by decide) (by omega) (.slice none 0 0) ([] : List (S60)) (⟨(⟨#[95,95,110,97,109,101,95,95]⟩ : ByteArray),a0.extract 0 (t232 : Int).toNat⟩ : S60) [.string (⟨#[95,95,110,97,109,101,95,95]⟩ : ByteArray),.string (a0.extract 0 (t232 : Int).toNat)] (fun _=>True) (fun _=>False) rfl rfl ?aP (fun _ hk=>hk.elim) ?aF ?aO ?aB ?aS ?aL ?_;(case aP=>exact k60_mkM _ _ _ (⟨(⟨#[95,95,110,97,109,101,95,95]⟩ : ByteArray),a0.extract 0 (t232 : Int).toNat⟩ : S60));(case aB=>exact (by repeat (first|(with_reducible first|exact HB.out|apply below_alloc|apply pw_below_drewN|apply below_drew1)|exact HB.out)));(case aF=>exact (fun _ _=>trivial));(case aO=>exact ((Kd.R_nil _ _ _ _ (fun _=>True))));(case aS=>exact (below_size (by repeat (first|(with_reducible first|exact HB.out|apply below_alloc|apply pw_below_drewN|apply below_drew1)|exact HB.out))));(case aL=>have:=LMc7.out;omega);intro v234 w8 ho hb hg hat;rw [← Ny233.out] at ho;have n0_:=Aside0.mk (hb);have n1_:=Aside0.mk (ho);clear HB;have HB:=n0_;have HO235:=n1_;clear n0_ n1_;clear ho hb hg hat))
      go_meet
      case rel=>exact ⟨_,(y233),H',⟨by first|omega|exact Nat.le_refl _⟩,⟨by (with_reducible repeat (first|apply Kd.R_alloc|apply Kd.R_drewN|apply Kd.R_drew));exact HO235.out⟩,⟨by repeat (first|(with_reducible first|exact HB.out|apply below_alloc|apply pw_below_drewN|apply below_drew1)|exact HB.out)⟩⟩
     rw [if_neg c7] at H
     exact absurd H (by simp)
    rw [if_neg c6] at H
    exact absurd H (by simp)
   rw [if_neg c5] at H
   exact absurd H (by simp)
  rw [if_neg c4] at H
  have c4b0 : decide (0 < t232) = false:=decide_eq_false c4
  clear c4
  (first|rw [c4b0]|(simp only [i64_w,i32_w];rw [c4b0])|skip)
  have H':=Aside0.mk H
  clear H
  go_wp2
  go_meet
  case rel=>exact ⟨_,(([] : List (S60))),H',⟨by first|omega|exact Nat.le_refl _⟩,⟨by first|exact Kd.R_nil _ _ _ _ _|exact Kd.N_nil _ _ _ _ _|exact Kd.V_nil _ _ _ _ _|exact Kd.Q_nil _ _ _ _ _|exact Kd.S_nil _ _ _ _ _⟩,⟨by repeat (first|(with_reducible first|exact HB.out|apply below_alloc|apply pw_below_drewN|apply below_drew1)|exact HB.out)⟩⟩
 clear HC3
 try clear p2
 try clear c3
 try clear c4
 try clear c4b0
 try clear c5
 try clear c5b0
 try clear c5b1
 try clear c6
 try clear c6b0
 try clear c6b1
 try clear c7
 obtain ⟨kq,x4_2,HA,HJ2,HO_4,HB⟩:=hcut
 cases kq with
 | zero=>exact absurd HA.out (by simp [spillwayref3_Parse.j0])
 | succ kj2 =>
  have H:=HA.out
  clear HA
  simp only [spillwayref3_Parse.j0] at H
  by_cases c9 : 0 ≤ t232
  ·rw [if_pos c9] at H
   have c9b0:=eq_true c9
   have c9b1 : decide (0 ≤ t232) = true:=decide_eq_true c9
   clear c9
   by_cases c10 : t232 ≤ (a0.size : Int)
   ·rw [if_pos c10] at H
    have c10b0:=eq_true c10
    have c10b1 : decide (t232 ≤ (a0.size : Int)) = true:=decide_eq_true c10
    clear c10
    have HC11:=Aside0.mk H
    clear H
    go_upto_if 25 with (fail)
    go_cut [4] (fun v4 wc=>∃ (kq : Nat) (x4_10 : List (S60)),Aside0 (spillwayref3_Parse.j4 kq a0 x4_10 = some (r1,r2)) ∧ Aside0 (kq ≤ kj2) ∧ Aside0 (Kd.R k60 60 wc w.heap.size (fun _=>True) v4 x4_10) ∧ Aside0 (Below w.heap.size w wc))
    case first =>
     have H:=HC11.out
     clear HC11
     by_cases c12 : (a0.extract (t232 : Int).toNat a0.size).toList = ([] : List UInt8)
     ·rw [if_pos c12] at H
      have c12b0 : ((a0.extract (t232 : Int).toNat a0.size).toList == ([] : List UInt8)) = true:=beq_iff_eq.mpr c12
      have c12b9 : (a0.extract (t232 : Int).toNat a0.size).toList.isEmpty = true:=by rw [c12];rfl
      have c12b1 : ((a0.extract (t232 : Int).toNat a0.size).toList != ([] : List UInt8)) = false:=bne_eq_false_iff_eq.mpr c12
      clear c12
      (first|rw [c12b0]|rw [c12b9]|(simp only [i64_w,i32_w];rw [c12b0])|skip)
      have H':=Aside0.mk H
      clear H
      go_wp2
      go_meet
      case rel=>exact ⟨_,(x4_2),H',⟨by have:=HJ2.out;first|omega|exact Nat.le_refl _⟩,⟨by (with_reducible repeat (first|apply Kd.R_alloc|apply Kd.R_drewN|apply Kd.R_drew));exact HO_4.out⟩,⟨by repeat (first|(with_reducible first|exact HB.out|apply below_alloc|apply pw_below_drewN|apply below_drew1)|exact HB.out)⟩⟩
     rw [if_neg c12] at H
     have c12b0 : ((a0.extract (t232 : Int).toNat a0.size).toList == ([] : List UInt8)) = false:=beq_eq_false_iff_ne.mpr c12
     have c12b9 : (a0.extract (t232 : Int).toNat a0.size).toList.isEmpty = false:=by (cases h_ : (a0.extract (t232 : Int).toNat a0.size).toList with|nil=>exact absurd h_ c12|cons _ _=>rfl)
     have c12b1 : ((a0.extract (t232 : Int).toNat a0.size).toList != ([] : List UInt8)) = true:=bne_iff_ne.mpr c12
     (first|rw [c12b0]|rw [c12b9]|(simp only [i64_w,i32_w];rw [c12b0])|skip)
     by_cases c13 : 0 < ((a0.extract (t232 : Int).toNat a0.size).size : Int)
     ·rw [if_pos c13] at H
      have c13b0 : decide (0 < ((a0.extract (t232 : Int).toNat a0.size).size : Int)) = true:=decide_eq_true c13
      have c13b1 : decide (0 < (a0.extract (t232 : Int).toNat a0.size).size) = true:=decide_eq_true (by omega)
      clear c13
      by_cases c15 : (bt (a0.extract (t232 : Int).toNat a0.size) 0) = 123
      ·rw [if_pos c15] at H
       have c15b0 : ((bt (a0.extract (t232 : Int).toNat a0.size) 0) == 123) = true:=beq_iff_eq.mpr c15
       have c15b1 : ((bt (a0.extract (t232 : Int).toNat a0.size) 0) != 123) = false:=bne_eq_false_iff_eq.mpr c15
       clear c15
       by_cases c16 : 1 ≤ ((a0.extract (t232 : Int).toNat a0.size).size : Int)
       ·rw [if_pos c16] at H
        have c16b0:=eq_true c16
        have c16b1 : decide (1 ≤ ((a0.extract (t232 : Int).toNat a0.size).size : Int)) = true:=decide_eq_true c16
        clear c16
        have H':=Aside0.mk H
        clear H
        have p14 : 0 ≤ (0 : Int):=(by omega)
        have q14 : 0 < (a0.extract (t232 : Int).toNat a0.size).size:=(by have : (0 : Int) < ((a0.extract (t232 : Int).toNat a0.size).size : Int):=of_decide_eq_true (by first|(with_reducible assumption)|assumption);omega)
        have qn_q14 : (0 < a0.size - (t232 : Int).toNat) = True:=eq_true (by have h:=q14;simp only [ByteArray.size_extract,Nat.min_self] at h;exact h)
        have qm_q14 : ((1 : Int) ≤ ((a0.size - (t232 : Int).toNat : Nat) : Int)) = True:=eq_true (by have h:=q14;simp only [ByteArray.size_extract,Nat.min_self] at h;generalize (t232 : Int).toNat = z_ at h ⊢;omega)
        have hx14 : ∀ h : 0 < (a0.extract (t232 : Int).toNat a0.size).size,(((a0.extract (t232 : Int).toNat a0.size)[0]'h).toNat : Int) = bt (a0.extract (t232 : Int).toNat a0.size) 0:=bt_at (a0.extract (t232 : Int).toNat a0.size) 0
        clear p14
        have qi14 : (0 < ((a0.extract (t232 : Int).toNat a0.size).size : Int)) = True:=eq_true (of_decide_eq_true (by first|(with_reducible assumption)|assumption))
        replace q14:=eq_true q14
        go_wp2
        go_loopg [4,6] kj2 (fun kq v4 v6 w'=>∃ (x4_2 : List (S60)) (x6_2 : ByteArray),v6 = .string x6_2 ∧ Aside0 (spillwayref3_Parse.l0 kq a0 x4_2 x6_2 = some (r1,r2)) ∧ Aside0 (kq ≤ kj2) ∧ Aside0 (Kd.R k60 60 w' w.heap.size (fun _=>True) v4 x4_2) ∧ Aside0 (Below w.heap.size w w'))
        case atStart=>exact ⟨(x4_2),((a0.extract (t232 : Int).toNat a0.size).extract 1 (a0.extract (t232 : Int).toNat a0.size).size),(by first|rfl|(simp;done)|(simp [*];done)),H',⟨Nat.le_refl _⟩,⟨by (with_reducible repeat (first|apply Kd.R_alloc|apply Kd.R_drewN|apply Kd.R_drew));exact HO_4.out⟩,⟨by repeat (first|(with_reducible first|exact HB.out|apply below_alloc|apply pw_below_drewN|apply below_drew1)|exact HB.out)⟩⟩
        clear H'
        try clear c1
        try clear p1
        try clear q1
        try clear hx1
        try clear qi1
        try clear p2
        try clear c3
        try clear c4
        try clear c4b0
        try clear c5
        try clear c5b0
        try clear c5b1
        try clear c6
        try clear c6b0
        try clear c6b1
        try clear c7
        try clear c9
        try clear c9b0
        try clear c9b1
        try clear c10
        try clear c10b0
        try clear c10b1
        try clear c12
        try clear c12b0
        try clear c12b1
        try clear c13
        try clear c13b0
        try clear c13b1
        try clear p14
        try clear q14
        try clear hx14
        try clear qi14
        try clear c15
        try clear c15b0
        try clear c15b1
        try clear c16
        try clear c16b0
        try clear c16b1
        try clear p14
        try clear p2
        try clear q14
        obtain ⟨x4_2,x6_2,rfl,HA,HK2,HO_4,HB⟩:=hrel
        cases gk with
        | zero=>exact absurd HA.out (by simp [spillwayref3_Parse.l0])
        | succ k2 =>
         have H:=HA.out
         clear HA
         simp only [spillwayref3_Parse.l0] at H
         by_cases c17 : x6_2.toList = ([125] : List UInt8)
         ·rw [if_pos c17] at H
          have c17b0 : (x6_2.toList == ([125] : List UInt8)) = true:=beq_iff_eq.mpr c17
          have c17b1 : (x6_2.toList != ([125] : List UInt8)) = false:=bne_eq_false_iff_eq.mpr c17
          clear c17
          have H':=Aside0.mk H
          clear H
          go_wp2
          go_meet
          case rel=>exact ⟨_,(x4_2),H',⟨by have:=HJ2.out;have:=HK2.out;first|omega|exact Nat.le_refl _⟩,⟨by (with_reducible repeat (first|apply Kd.R_alloc|apply Kd.R_drewN|apply Kd.R_drew));exact HO_4.out⟩,⟨by repeat (first|(with_reducible first|exact HB.out|apply below_alloc|apply pw_below_drewN|apply below_drew1)|exact HB.out)⟩⟩
         rw [if_neg c17] at H
         have c17b0 : (x6_2.toList == ([125] : List UInt8)) = false:=beq_eq_false_iff_ne.mpr c17
         have c17b1 : (x6_2.toList != ([125] : List UInt8)) = true:=bne_iff_ne.mpr c17
         replace H:=Option.bind_eq_some_iff.mp H
         obtain ⟨t236,A180,H⟩:=H
         replace H : (if t236 = 0 then (spillwayref3_Parse.j2 k2 a0 x4_2 x6_2 t236 true) else (if t236 ≥ (x6_2.size : Int) then (spillwayref3_Parse.j2 k2 a0 x4_2 x6_2 t236 true) else (if 0 ≤ t236 then (if t236 < (x6_2.size : Int) then (spillwayref3_Parse.j2 k2 a0 x4_2 x6_2 t236 ((bt x6_2 t236) != 61)) else (none)) else (none)))) = some (r1,r2):=H
         have A18:=Aside0.mk A180
         clear A180
         have HC19:=Aside0.mk H
         clear H
         go_upto_region 12 with (first|((with_reducible refine gate_callee (f:=71) rfl ?_);refine goesL_ (some 34) rfl rfl Tryz.func71 (by kernel_rfl) rfl #[.string x6_2] rfl (by (try simp only [List.map_toArray,List.map_cons,List.map_nil]);first|done|rfl|(simp only [List.length_drop,List.length_take];rfl)) ?_;(with_reducible refine (spillwayref3_ident.calls k2 x6_2 t236 _ A18.out).mono ?_);rintro e w' ⟨rfl,⟨nd,rfl⟩⟩;refine ⟨_,rfl,?_⟩))
         (try simp only [Act.put,List.setIfInBounds_toArray,List.set_cons_zero,List.set_cons_succ])
         go_cut [48] (fun v48 wc=>∃ (kq : Nat) (x48_18 : Bool),v48 = .bool x48_18 ∧ Aside0 (spillwayref3_Parse.j2 kq a0 x4_2 x6_2 t236 x48_18 = some (r1,r2)) ∧ Aside0 (kq ≤ k2) ∧ Aside0 (Kd.R k60 60 wc w.heap.size (fun _=>True) u4 x4_2) ∧ Aside0 (Below w.heap.size w wc))
         case first =>
          have H:=HC19.out
          clear HC19
          by_cases c20 : t236 = 0
          ·rw [if_pos c20] at H
           have c20b0 : (t236 == 0) = true:=beq_iff_eq.mpr c20
           have c20b1 : (t236 != 0) = false:=bne_eq_false_iff_eq.mpr c20
           clear c20
           (first|rw [c20b0]|(simp only [i64_w,i32_w];rw [c20b0])|skip)
           have H':=Aside0.mk H
           clear H
           go_wp2
           go_meet
           case rel=>exact ⟨_,(true),(by first|rfl|(simp;done)|(simp [*];done)),H',⟨by have:=HJ2.out;have:=HK2.out;first|omega|exact Nat.le_refl _⟩,⟨by (with_reducible repeat (first|apply Kd.R_alloc|apply Kd.R_drewN|apply Kd.R_drew));exact HO_4.out⟩,⟨by repeat (first|(with_reducible first|exact HB.out|apply below_alloc|apply pw_below_drewN|apply below_drew1)|exact HB.out)⟩⟩
          rw [if_neg c20] at H
          have c20b0 : (t236 == 0) = false:=beq_eq_false_iff_ne.mpr c20
          have c20b1 : (t236 != 0) = true:=bne_iff_ne.mpr c20
          (first|rw [c20b0]|(simp only [i64_w,i32_w];rw [c20b0])|skip)
          by_cases c21 : t236 ≥ (x6_2.size : Int)
          ·rw [if_pos c21] at H
           have c21b0 : decide ((x6_2.size : Int) ≤ t236) = true:=decide_eq_true c21
           clear c21
           have H':=Aside0.mk H
           clear H
           go_wp2
           go_meet
           case rel=>exact ⟨_,(true),(by first|rfl|(simp;done)|(simp [*];done)),H',⟨by have:=HJ2.out;have:=HK2.out;first|omega|exact Nat.le_refl _⟩,⟨by (with_reducible repeat (first|apply Kd.R_alloc|apply Kd.R_drewN|apply Kd.R_drew));exact HO_4.out⟩,⟨by repeat (first|(with_reducible first|exact HB.out|apply below_alloc|apply pw_below_drewN|apply below_drew1)|exact HB.out)⟩⟩
          rw [if_neg c21] at H
          have c21b0 : decide ((x6_2.size : Int) ≤ t236) = false:=decide_eq_false c21
          clear c21
          by_cases c22 : 0 ≤ t236
          ·rw [if_pos c22] at H
           have c22b0 : decide (0 ≤ t236) = true:=decide_eq_true c22
           clear c22
           by_cases c23 : t236 < (x6_2.size : Int)
           ·rw [if_pos c23] at H
            have c23b0 : decide (t236 < (x6_2.size : Int)) = true:=decide_eq_true c23
            clear c23
            have H':=Aside0.mk H
            clear H
            have p24 : 0 ≤ (t236 : Int):=of_decide_eq_true (by first|(with_reducible assumption)|assumption)
            have q24 : t236 < (x6_2.size : Int):=of_decide_eq_true (by first|(with_reducible assumption)|assumption)
            have hx24:=bt_at x6_2 t236
            replace p24:=eq_true p24
            replace q24:=eq_true q24
            go_wp2
            go_meet
            case rel=>exact ⟨_,(((bt x6_2 t236) != 61)),(by first|rfl|(simp;done)|(simp [*];done)),H',⟨by have:=HJ2.out;have:=HK2.out;first|omega|exact Nat.le_refl _⟩,⟨by (with_reducible repeat (first|apply Kd.R_alloc|apply Kd.R_drewN|apply Kd.R_drew));exact HO_4.out⟩,⟨by repeat (first|(with_reducible first|exact HB.out|apply below_alloc|apply pw_below_drewN|apply below_drew1)|exact HB.out)⟩⟩
           rw [if_neg c23] at H
           exact absurd H (by simp)
          rw [if_neg c22] at H
          exact absurd H (by simp)
         clear HC19
         try clear c1
         try clear p1
         try clear q1
         try clear hx1
         try clear qi1
         try clear c2
         try clear p2
         try clear q2
         try clear hx2
         try clear c3
         try clear c4
         try clear c4b0
         try clear c5
         try clear c5b0
         try clear c5b1
         try clear c6
         try clear c6b0
         try clear c6b1
         try clear c7
         try clear c9
         try clear c9b0
         try clear c9b1
         try clear c10
         try clear c10b0
         try clear c10b1
         try clear c12
         try clear c12b0
         try clear c12b1
         try clear c13
         try clear c13b0
         try clear c13b1
         try clear p14
         try clear q14
         try clear hx14
         try clear qi14
         try clear c15
         try clear c15b0
         try clear c15b1
         try clear c16
         try clear c16b0
         try clear c16b1
         try clear c17
         try clear c17b0
         try clear c17b1
         try clear c20
         try clear c20b0
         try clear c20b1
         try clear c21
         try clear c21b0
         try clear c22
         try clear c22b0
         try clear c23
         try clear c23b0
         try clear p24
         try clear q24
         try clear hx24
         try clear p1
         try clear p14
         try clear p2
         try clear p24
         try clear q1
         try clear q14
         try clear q24
         obtain ⟨kq,x48_18,rfl,HA,HJ18,HO_4,HB⟩:=hcut
         cases kq with
         | zero=>exact absurd HA.out (by simp [spillwayref3_Parse.j2])
         | succ kj18 =>
          have H:=HA.out
          clear HA
          simp only [spillwayref3_Parse.j2] at H
          by_cases c25 : x48_18 = true
          ·subst c25
           have H1 : (some (([] : List (S60)),false)) = some (r1,r2):=by rw [if_pos rfl] at H;exact H
           clear H
           have H:=H1
           clear H1
           simp only [Option.some.injEq,Prod.mk.injEq] at H
           obtain ⟨rfl,rfl⟩:=H
           go_wp2
           go_ret2
           exact ⟨_,by first|rfl|(simp [errW_none,errW_some] <;> rfl)|(simp [*,errW_none,errW_some] <;> rfl),by first|exact Kd.R_nil _ _ _ _ _|exact Kd.N_nil _ _ _ _ _|exact Kd.V_nil _ _ _ _ _|exact Kd.Q_nil _ _ _ _ _|exact Kd.S_nil _ _ _ _ _,by repeat (first|(with_reducible first|exact HB.out|apply below_alloc|apply pw_below_drewN|apply below_drew1)|exact HB.out)⟩
          replace c25:=Bool.eq_false_iff.mpr c25
          subst c25
          have H1 : (if 0 ≤ (wrap64 (t236 + 1)) then (if (wrap64 (t236 + 1)) ≤ (x6_2.size : Int) then ((spillwayref3_Quoted.f kj18 (x6_2.extract ((wrap64 (t236 + 1)) : Int).toNat x6_2.size)).bind fun bt237=>(if bt237.2 = 0 then (some (([] : List (S60)),false)) else (if 0 ≤ t236 then (if t236 ≤ (x6_2.size : Int) then (if x4_2.length < 4398046511104 then ((some (x4_2 ++ [(⟨x6_2.extract 0 (t236 : Int).toNat,bt237.1⟩ : S60)] : List (S60))).bind fun y239=>(if 0 ≤ (wrap64 ((wrap64 (t236 + 1)) + bt237.2)) then (if (wrap64 ((wrap64 (t236 + 1)) + bt237.2)) ≤ (x6_2.size : Int) then (if (x6_2.extract ((wrap64 ((wrap64 (t236 + 1)) + bt237.2)) : Int).toNat x6_2.size).toList = ([] : List UInt8) then (spillwayref3_Parse.j3 kj18 a0 y239 (x6_2.extract ((wrap64 ((wrap64 (t236 + 1)) + bt237.2)) : Int).toNat x6_2.size) true) else (if (x6_2.extract ((wrap64 ((wrap64 (t236 + 1)) + bt237.2)) : Int).toNat x6_2.size).toList = ([125] : List UInt8) then (spillwayref3_Parse.j3 kj18 a0 y239 (x6_2.extract ((wrap64 ((wrap64 (t236 + 1)) + bt237.2)) : Int).toNat x6_2.size) ((x6_2.extract ((wrap64 ((wrap64 (t236 + 1)) + bt237.2)) : Int).toNat x6_2.size).toList == ([44,125] : List UInt8))) else (if 0 < ((x6_2.extract ((wrap64 ((wrap64 (t236 + 1)) + bt237.2)) : Int).toNat x6_2.size).size : Int) then (if (bt (x6_2.extract ((wrap64 ((wrap64 (t236 + 1)) + bt237.2)) : Int).toNat x6_2.size) 0) = 44 then (spillwayref3_Parse.j3 kj18 a0 y239 (x6_2.extract ((wrap64 ((wrap64 (t236 + 1)) + bt237.2)) : Int).toNat x6_2.size) ((x6_2.extract ((wrap64 ((wrap64 (t236 + 1)) + bt237.2)) : Int).toNat x6_2.size).toList == ([44,125] : List UInt8))) else (spillwayref3_Parse.j3 kj18 a0 y239 (x6_2.extract ((wrap64 ((wrap64 (t236 + 1)) + bt237.2)) : Int).toNat x6_2.size) true)) else (none)))) else (none)) else (none))) else (none)) else (none)) else (none)))) else (none)) else (none)) = some (r1,r2):=by rw [if_neg (show ¬ (false = true) by decide)] at H;exact H
          clear H
          have H:=H1
          clear H1
          obtain ⟨ji26,hji26⟩ : ∃ j_ : Int,(wrap64 (t236 + 1)) = j_:=⟨_,rfl⟩
          replace H : (if 0 ≤ (ji26) then (if (ji26) ≤ (x6_2.size : Int) then ((spillwayref3_Quoted.f kj18 (x6_2.extract ((ji26) : Int).toNat x6_2.size)).bind fun bt237=>(if bt237.2 = 0 then (some (([] : List (S60)),false)) else (if 0 ≤ t236 then (if t236 ≤ (x6_2.size : Int) then (if x4_2.length < 4398046511104 then ((some (x4_2 ++ [(⟨x6_2.extract 0 (t236 : Int).toNat,bt237.1⟩ : S60)] : List (S60))).bind fun y239=>(if 0 ≤ (wrap64 ((ji26) + bt237.2)) then (if (wrap64 ((ji26) + bt237.2)) ≤ (x6_2.size : Int) then (if (x6_2.extract ((wrap64 ((ji26) + bt237.2)) : Int).toNat x6_2.size).toList = ([] : List UInt8) then (spillwayref3_Parse.j3 kj18 a0 y239 (x6_2.extract ((wrap64 ((ji26) + bt237.2)) : Int).toNat x6_2.size) true) else (if (x6_2.extract ((wrap64 ((ji26) + bt237.2)) : Int).toNat x6_2.size).toList = ([125] : List UInt8) then (spillwayref3_Parse.j3 kj18 a0 y239 (x6_2.extract ((wrap64 ((ji26) + bt237.2)) : Int).toNat x6_2.size) ((x6_2.extract ((wrap64 ((ji26) + bt237.2)) : Int).toNat x6_2.size).toList == ([44,125] : List UInt8))) else (if 0 < ((x6_2.extract ((wrap64 ((ji26) + bt237.2)) : Int).toNat x6_2.size).size : Int) then (if (bt (x6_2.extract ((wrap64 ((ji26) + bt237.2)) : Int).toNat x6_2.size) 0) = 44 then (spillwayref3_Parse.j3 kj18 a0 y239 (x6_2.extract ((wrap64 ((ji26) + bt237.2)) : Int).toNat x6_2.size) ((x6_2.extract ((wrap64 ((ji26) + bt237.2)) : Int).toNat x6_2.size).toList == ([44,125] : List UInt8))) else (spillwayref3_Parse.j3 kj18 a0 y239 (x6_2.extract ((wrap64 ((ji26) + bt237.2)) : Int).toNat x6_2.size) true)) else (none)))) else (none)) else (none))) else (none)) else (none)) else (none)))) else (none)) else (none)) = some (r1,r2):=by first|(rw [hji26] at H;exact H)|(simp only [hji26] at H ⊢;exact H)
          have hji26w : (IntKind.i64.wrap (t236 + 1)) = ji26:=(i64_w _).trans hji26
          by_cases c27 : 0 ≤ (ji26)
          ·rw [if_pos c27] at H
           have c27b0:=eq_true c27
           have c27b1 : decide (0 ≤ (ji26)) = true:=decide_eq_true c27
           clear c27
           by_cases c28 : (ji26) ≤ (x6_2.size : Int)
           ·rw [if_pos c28] at H
            have c28b0:=eq_true c28
            have c28b1 : decide ((ji26) ≤ (x6_2.size : Int)) = true:=decide_eq_true c28
            clear c28
            replace H:=Option.bind_eq_some_iff.mp H
            obtain ⟨⟨t237,t238⟩,A290,H⟩:=H
            replace H : (if t238 = 0 then (some (([] : List (S60)),false)) else (if 0 ≤ t236 then (if t236 ≤ (x6_2.size : Int) then (if x4_2.length < 4398046511104 then ((some (x4_2 ++ [(⟨x6_2.extract 0 (t236 : Int).toNat,t237⟩ : S60)] : List (S60))).bind fun y239=>(if 0 ≤ (wrap64 ((ji26) + t238)) then (if (wrap64 ((ji26) + t238)) ≤ (x6_2.size : Int) then (if (x6_2.extract ((wrap64 ((ji26) + t238)) : Int).toNat x6_2.size).toList = ([] : List UInt8) then (spillwayref3_Parse.j3 kj18 a0 y239 (x6_2.extract ((wrap64 ((ji26) + t238)) : Int).toNat x6_2.size) true) else (if (x6_2.extract ((wrap64 ((ji26) + t238)) : Int).toNat x6_2.size).toList = ([125] : List UInt8) then (spillwayref3_Parse.j3 kj18 a0 y239 (x6_2.extract ((wrap64 ((ji26) + t238)) : Int).toNat x6_2.size) ((x6_2.extract ((wrap64 ((ji26) + t238)) : Int).toNat x6_2.size).toList == ([44,125] : List UInt8))) else (if 0 < ((x6_2.extract ((wrap64 ((ji26) + t238)) : Int).toNat x6_2.size).size : Int) then (if (bt (x6_2.extract ((wrap64 ((ji26) + t238)) : Int).toNat x6_2.size) 0) = 44 then (spillwayref3_Parse.j3 kj18 a0 y239 (x6_2.extract ((wrap64 ((ji26) + t238)) : Int).toNat x6_2.size) ((x6_2.extract ((wrap64 ((ji26) + t238)) : Int).toNat x6_2.size).toList == ([44,125] : List UInt8))) else (spillwayref3_Parse.j3 kj18 a0 y239 (x6_2.extract ((wrap64 ((ji26) + t238)) : Int).toNat x6_2.size) true)) else (none)))) else (none)) else (none))) else (none)) else (none)) else (none))) = some (r1,r2):=H
            have A29:=Aside0.mk A290
            clear A290
            by_cases c30 : t238 = 0
            ·rw [if_pos c30] at H
             have c30b0 : (t238 == 0) = true:=beq_iff_eq.mpr c30
             have c30b1 : (t238 != 0) = false:=bne_eq_false_iff_eq.mpr c30
             clear c30
             simp only [Option.some.injEq,Prod.mk.injEq] at H
             obtain ⟨rfl,rfl⟩:=H
             go_wp2_with (first|((with_reducible refine gate_callee (f:=72) rfl ?_);refine goesL_ (some 54) rfl rfl Tryz.func72 (by kernel_rfl) rfl #[.string (x6_2.extract ((ji26) : Int).toNat x6_2.size)] rfl (by (try simp only [List.map_toArray,List.map_cons,List.map_nil]);first|done|(simp only [hji26];rfl)|rfl|(simp only [List.length_drop,List.length_take];rfl)) ?_;(with_reducible refine (spillwayref3_Quoted.calls kj18 (x6_2.extract ((ji26) : Int).toNat x6_2.size) t237 t238 _ A29.out).mono ?_);rintro e w31 ⟨rfl,hb⟩;refine ⟨_,rfl,?_⟩;have n0_:=Aside0.mk (Kd.R_below (by (with_reducible repeat (first|apply Kd.R_alloc|apply Kd.R_drewN|apply Kd.R_drew));exact HO_4.out) hb);have n1_:=Aside0.mk (below_step (by repeat (first|(with_reducible first|exact HB.out|apply below_alloc|apply pw_below_drewN|apply below_drew1)|exact HB.out)) hb);clear HO_4;clear HB;have HO_4:=n0_;have HB:=n1_;clear n0_ n1_;(try clear hb);(try clear hb2);(try clear hk);(try clear hi)))
             go_ret2
             exact ⟨_,by first|rfl|(simp [errW_none,errW_some] <;> rfl)|(simp only [← hji26];first|rfl|(simp [errW_none,errW_some] <;> rfl))|(simp [*,errW_none,errW_some] <;> rfl),by first|exact Kd.R_nil _ _ _ _ _|exact Kd.N_nil _ _ _ _ _|exact Kd.V_nil _ _ _ _ _|exact Kd.Q_nil _ _ _ _ _|exact Kd.S_nil _ _ _ _ _,by repeat (first|(with_reducible first|exact HB.out|apply below_alloc|apply pw_below_drewN|apply below_drew1)|exact HB.out)⟩
            rw [if_neg c30] at H
            have c30b0 : (t238 == 0) = false:=beq_eq_false_iff_ne.mpr c30
            have c30b1 : (t238 != 0) = true:=bne_iff_ne.mpr c30
            by_cases c32 : 0 ≤ t236
            ·rw [if_pos c32] at H
             have c32b0:=eq_true c32
             have c32b1 : decide (0 ≤ t236) = true:=decide_eq_true c32
             clear c32
             by_cases c33 : t236 ≤ (x6_2.size : Int)
             ·rw [if_pos c33] at H
              have c33b0:=eq_true c33
              have c33b1 : decide (t236 ≤ (x6_2.size : Int)) = true:=decide_eq_true c33
              clear c33
              by_cases c34 : x4_2.length < 4398046511104
              ·rw [if_pos c34] at H
               have LMc34:=Aside0.mk c34
               clear c34
               obtain ⟨y239,hy239⟩ : ∃ y_ : List (S60),y_ = (x4_2 ++ [(⟨x6_2.extract 0 (t236 : Int).toNat,t237⟩ : S60)]):=⟨_,rfl⟩
               replace H : (if 0 ≤ (wrap64 ((ji26) + t238)) then (if (wrap64 ((ji26) + t238)) ≤ (x6_2.size : Int) then (if (x6_2.extract ((wrap64 ((ji26) + t238)) : Int).toNat x6_2.size).toList = ([] : List UInt8) then (spillwayref3_Parse.j3 kj18 a0 y239 (x6_2.extract ((wrap64 ((ji26) + t238)) : Int).toNat x6_2.size) true) else (if (x6_2.extract ((wrap64 ((ji26) + t238)) : Int).toNat x6_2.size).toList = ([125] : List UInt8) then (spillwayref3_Parse.j3 kj18 a0 y239 (x6_2.extract ((wrap64 ((ji26) + t238)) : Int).toNat x6_2.size) ((x6_2.extract ((wrap64 ((ji26) + t238)) : Int).toNat x6_2.size).toList == ([44,125] : List UInt8))) else (if 0 < ((x6_2.extract ((wrap64 ((ji26) + t238)) : Int).toNat x6_2.size).size : Int) then (if (bt (x6_2.extract ((wrap64 ((ji26) + t238)) : Int).toNat x6_2.size) 0) = 44 then (spillwayref3_Parse.j3 kj18 a0 y239 (x6_2.extract ((wrap64 ((ji26) + t238)) : Int).toNat x6_2.size) ((x6_2.extract ((wrap64 ((ji26) + t238)) : Int).toNat x6_2.size).toList == ([44,125] : List UInt8))) else (spillwayref3_Parse.j3 kj18 a0 y239 (x6_2.extract ((wrap64 ((ji26) + t238)) : Int).toNat x6_2.size) true)) else (none)))) else (none)) else (none)) = some (r1,r2):=by first|(rw [hy239];with_reducible exact H)|(have H2_:=(Option.bind_some _ _).symm.trans H;rw [hy239];with_reducible exact H2_)|(have H2_:=(Option.bind_some _ _).symm.trans H;with_reducible exact H2_)|with_reducible exact H|(rw [hy239];exact H)|exact H
               have Ny239:=Aside0.mk hy239
               clear hy239
               obtain ⟨ji35,hji35⟩ : ∃ j_ : Int,(wrap64 ((ji26) + t238)) = j_:=⟨_,rfl⟩
               replace H : (if 0 ≤ (ji35) then (if (ji35) ≤ (x6_2.size : Int) then (if (x6_2.extract ((ji35) : Int).toNat x6_2.size).toList = ([] : List UInt8) then (spillwayref3_Parse.j3 kj18 a0 y239 (x6_2.extract ((ji35) : Int).toNat x6_2.size) true) else (if (x6_2.extract ((ji35) : Int).toNat x6_2.size).toList = ([125] : List UInt8) then (spillwayref3_Parse.j3 kj18 a0 y239 (x6_2.extract ((ji35) : Int).toNat x6_2.size) ((x6_2.extract ((ji35) : Int).toNat x6_2.size).toList == ([44,125] : List UInt8))) else (if 0 < ((x6_2.extract ((ji35) : Int).toNat x6_2.size).size : Int) then (if (bt (x6_2.extract ((ji35) : Int).toNat x6_2.size) 0) = 44 then (spillwayref3_Parse.j3 kj18 a0 y239 (x6_2.extract ((ji35) : Int).toNat x6_2.size) ((x6_2.extract ((ji35) : Int).toNat x6_2.size).toList == ([44,125] : List UInt8))) else (spillwayref3_Parse.j3 kj18 a0 y239 (x6_2.extract ((ji35) : Int).toNat x6_2.size) true)) else (none)))) else (none)) else (none)) = some (r1,r2):=by first|(rw [hji35] at H;exact H)|(simp only [hji35] at H ⊢;exact H)
               (try rw [hji35] at A29)
               have hji35w : (IntKind.i64.wrap ((ji26) + t238)) = ji35:=(i64_w _).trans hji35
               by_cases c36 : 0 ≤ (ji35)
               ·rw [if_pos c36] at H
                have c36b0:=eq_true c36
                have c36b1 : decide (0 ≤ (ji35)) = true:=decide_eq_true c36
                clear c36
                by_cases c37 : (ji35) ≤ (x6_2.size : Int)
                ·rw [if_pos c37] at H
                 have c37b0:=eq_true c37
                 have c37b1 : decide ((ji35) ≤ (x6_2.size : Int)) = true:=decide_eq_true c37
                 clear c37
                 have HC38:=Aside0.mk H
                 clear H
                 go_upto_region 19 with (first|((with_reducible refine gate_callee (f:=72) rfl ?_);refine goesL_ (some 54) rfl rfl Tryz.func72 (by kernel_rfl) rfl #[.string (x6_2.extract ((ji26) : Int).toNat x6_2.size)] rfl (by (try simp only [List.map_toArray,List.map_cons,List.map_nil]);first|done|(simp only [hji26];rfl)|rfl|(simp only [List.length_drop,List.length_take];rfl)) ?_;(with_reducible refine (spillwayref3_Quoted.calls kj18 (x6_2.extract ((ji26) : Int).toNat x6_2.size) t237 t238 _ A29.out).mono ?_);rintro e w39 ⟨rfl,hb⟩;refine ⟨_,rfl,?_⟩;have n0_:=Aside0.mk (Kd.R_below (by (with_reducible repeat (first|apply Kd.R_alloc|apply Kd.R_drewN|apply Kd.R_drew));exact HO_4.out) hb);have n1_:=Aside0.mk (below_step (by repeat (first|(with_reducible first|exact HB.out|apply below_alloc|apply pw_below_drewN|apply below_drew1)|exact HB.out)) hb);clear HO_4;clear HB;have HO_4:=n0_;have HB:=n1_;clear n0_ n1_;(try clear hb);(try clear hb2);(try clear hk);(try clear hi))|((with_reducible refine gate_builtin (b:=.append) (xs:=#[.tmp 59,.tmp 65]) rfl ?_);(try (refine gate_guard (by rfl) ?_;dsimp only));at_builtin;refine Kd.R_append k60 (w0:=w) w.heap.size rfl (.tmp 59) (.tmp 65) 30 60 (.agg #[(.string ⟨#[]⟩),(.string ⟨#[]⟩)]) 32 rfl Tryz.underlying30 info60 rfl (by decide) (by omega) u4 x4_2 (⟨x6_2.extract 0 (t236 : Int).toNat,t237⟩ : S60) [.string (x6_2.extract 0 (t236 : Int).toNat),.string t237] (fun _=>True) (fun _=>False) rfl rfl ?aP (fun _ hk=>hk.elim) ?aF ?aO ?aB ?aS ?aL ?_;(case aP=>exact k60_mkM _ _ _ (⟨x6_2.extract 0 (t236 : Int).toNat,t237⟩ : S60));(case aB=>exact (by repeat (first|(with_reducible first|exact HB.out|apply below_alloc|apply pw_below_drewN|apply below_drew1)|exact HB.out)));(case aF=>exact (fun _ _=>trivial));(case aO=>exact (by (with_reducible repeat (first|apply Kd.R_alloc|apply Kd.R_drewN|apply Kd.R_drew));exact HO_4.out));(case aS=>exact (below_size (by repeat (first|(with_reducible first|exact HB.out|apply below_alloc|apply pw_below_drewN|apply below_drew1)|exact HB.out))));(case aL=>have:=LMc34.out;omega);intro v240 w40 ho hb hg hat;rw [← Ny239.out] at ho;have n0_:=Aside0.mk (hb);have n1_:=Aside0.mk (ho);clear HB;clear HO_4;have HB:=n0_;have HO241:=n1_;clear n0_ n1_;clear ho hb hg hat))
                 (try simp only [Act.put,List.setIfInBounds_toArray,List.set_cons_zero,List.set_cons_succ])
                 go_cut [87] (fun v87 wc=>∃ (kq : Nat) (x87_37 : Bool),v87 = .bool x87_37 ∧ Aside0 (spillwayref3_Parse.j3 kq a0 y239 (x6_2.extract ((ji35) : Int).toNat x6_2.size) x87_37 = some (r1,r2)) ∧ Aside0 (kq ≤ kj18) ∧ Aside0 (Kd.R k60 60 wc w.heap.size (fun _=>True) v240 y239) ∧ Aside0 (Below w.heap.size w wc))
                 case first =>
                  have H:=HC38.out
                  clear HC38
                  by_cases c41 : (x6_2.extract ((ji35) : Int).toNat x6_2.size).toList = ([] : List UInt8)
                  ·rw [if_pos c41] at H
                   have c41b0 : ((x6_2.extract ((ji35) : Int).toNat x6_2.size).toList == ([] : List UInt8)) = true:=beq_iff_eq.mpr c41
                   have c41b9 : (x6_2.extract ((ji35) : Int).toNat x6_2.size).toList.isEmpty = true:=by rw [c41];rfl
                   have c41b1 : ((x6_2.extract ((ji35) : Int).toNat x6_2.size).toList != ([] : List UInt8)) = false:=bne_eq_false_iff_eq.mpr c41
                   clear c41
                   (first|rw [c41b0]|rw [c41b9]|(simp only [i64_w,i32_w];rw [c41b0])|skip)
                   have H':=Aside0.mk H
                   clear H
                   go_wp2
                   go_meet
                   case rel=>exact ⟨_,(true),(by first|rfl|(simp;done)|(simp [*];done)),H',⟨by have:=HJ2.out;have:=HK2.out;have:=HJ18.out;first|omega|exact Nat.le_refl _⟩,⟨by (with_reducible repeat (first|apply Kd.R_alloc|apply Kd.R_drewN|apply Kd.R_drew));exact HO241.out⟩,⟨by repeat (first|(with_reducible first|exact HB.out|apply below_alloc|apply pw_below_drewN|apply below_drew1)|exact HB.out)⟩⟩
                  rw [if_neg c41] at H
                  have c41b0 : ((x6_2.extract ((ji35) : Int).toNat x6_2.size).toList == ([] : List UInt8)) = false:=beq_eq_false_iff_ne.mpr c41
                  have c41b9 : (x6_2.extract ((ji35) : Int).toNat x6_2.size).toList.isEmpty = false:=by (cases h_ : (x6_2.extract ((ji35) : Int).toNat x6_2.size).toList with|nil=>exact absurd h_ c41|cons _ _=>rfl)
                  have c41b1 : ((x6_2.extract ((ji35) : Int).toNat x6_2.size).toList != ([] : List UInt8)) = true:=bne_iff_ne.mpr c41
                  (first|rw [c41b0]|rw [c41b9]|(simp only [i64_w,i32_w];rw [c41b0])|skip)
                  by_cases c42 : (x6_2.extract ((ji35) : Int).toNat x6_2.size).toList = ([125] : List UInt8)
                  ·rw [if_pos c42] at H
                   have c42b0 : ((x6_2.extract ((ji35) : Int).toNat x6_2.size).toList == ([125] : List UInt8)) = true:=beq_iff_eq.mpr c42
                   have c42b1 : ((x6_2.extract ((ji35) : Int).toNat x6_2.size).toList != ([125] : List UInt8)) = false:=bne_eq_false_iff_eq.mpr c42
                   clear c42
                   have H':=Aside0.mk H
                   clear H
                   go_wp2
                   go_meet
                   case rel=>exact ⟨_,(((x6_2.extract ((ji35) : Int).toNat x6_2.size).toList == ([44,125] : List UInt8))),(by first|rfl|(simp;done)|(simp only [← hji35] <;> (first|rfl|simp))|(simp [*];done)),H',⟨by have:=HJ2.out;have:=HK2.out;have:=HJ18.out;first|omega|exact Nat.le_refl _⟩,⟨by (with_reducible repeat (first|apply Kd.R_alloc|apply Kd.R_drewN|apply Kd.R_drew));exact HO241.out⟩,⟨by repeat (first|(with_reducible first|exact HB.out|apply below_alloc|apply pw_below_drewN|apply below_drew1)|exact HB.out)⟩⟩
                  rw [if_neg c42] at H
                  have c42b0 : ((x6_2.extract ((ji35) : Int).toNat x6_2.size).toList == ([125] : List UInt8)) = false:=beq_eq_false_iff_ne.mpr c42
                  have c42b1 : ((x6_2.extract ((ji35) : Int).toNat x6_2.size).toList != ([125] : List UInt8)) = true:=bne_iff_ne.mpr c42
                  by_cases c43 : 0 < ((x6_2.extract ((ji35) : Int).toNat x6_2.size).size : Int)
                  ·rw [if_pos c43] at H
                   have c43b0 : decide (0 < ((x6_2.extract ((ji35) : Int).toNat x6_2.size).size : Int)) = true:=decide_eq_true c43
                   have c43b1 : decide (0 < (x6_2.extract ((ji35) : Int).toNat x6_2.size).size) = true:=decide_eq_true (by omega)
                   clear c43
                   by_cases c45 : (bt (x6_2.extract ((ji35) : Int).toNat x6_2.size) 0) = 44
                   ·rw [if_pos c45] at H
                    have c45b0 : ((bt (x6_2.extract ((ji35) : Int).toNat x6_2.size) 0) == 44) = true:=beq_iff_eq.mpr c45
                    have c45b1 : ((bt (x6_2.extract ((ji35) : Int).toNat x6_2.size) 0) != 44) = false:=bne_eq_false_iff_eq.mpr c45
                    clear c45
                    have H':=Aside0.mk H
                    clear H
                    have p44 : 0 ≤ (0 : Int):=(by omega)
                    have q44 : 0 < (x6_2.extract ((ji35) : Int).toNat x6_2.size).size:=(by have : (0 : Int) < ((x6_2.extract ((ji35) : Int).toNat x6_2.size).size : Int):=of_decide_eq_true (by first|(with_reducible assumption)|assumption);omega)
                    have qn_q44 : (0 < x6_2.size - ((ji35) : Int).toNat) = True:=eq_true (by have h:=q44;simp only [ByteArray.size_extract,Nat.min_self] at h;exact h)
                    have qm_q44 : ((1 : Int) ≤ ((x6_2.size - ((ji35) : Int).toNat : Nat) : Int)) = True:=eq_true (by have h:=q44;simp only [ByteArray.size_extract,Nat.min_self] at h;generalize ((ji35) : Int).toNat = z_ at h ⊢;omega)
                    have hx44 : ∀ h : 0 < (x6_2.extract ((ji35) : Int).toNat x6_2.size).size,(((x6_2.extract ((ji35) : Int).toNat x6_2.size)[0]'h).toNat : Int) = bt (x6_2.extract ((ji35) : Int).toNat x6_2.size) 0:=bt_at (x6_2.extract ((ji35) : Int).toNat x6_2.size) 0
                    clear p44
                    have qi44 : (0 < ((x6_2.extract ((ji35) : Int).toNat x6_2.size).size : Int)) = True:=eq_true (of_decide_eq_true (by first|(with_reducible assumption)|assumption))
                    replace q44:=eq_true q44
                    go_wp2
                    go_meet
                    case rel=>exact ⟨_,(((x6_2.extract ((ji35) : Int).toNat x6_2.size).toList == ([44,125] : List UInt8))),(by first|rfl|(simp;done)|(simp only [← hji35] <;> (first|rfl|simp))|(simp [*];done)),H',⟨by have:=HJ2.out;have:=HK2.out;have:=HJ18.out;first|omega|exact Nat.le_refl _⟩,⟨by (with_reducible repeat (first|apply Kd.R_alloc|apply Kd.R_drewN|apply Kd.R_drew));exact HO241.out⟩,⟨by repeat (first|(with_reducible first|exact HB.out|apply below_alloc|apply pw_below_drewN|apply below_drew1)|exact HB.out)⟩⟩
                   rw [if_neg c45] at H
                   have c45b0 : ((bt (x6_2.extract ((ji35) : Int).toNat x6_2.size) 0) == 44) = false:=beq_eq_false_iff_ne.mpr c45
                   have c45b1 : ((bt (x6_2.extract ((ji35) : Int).toNat x6_2.size) 0) != 44) = true:=bne_iff_ne.mpr c45
                   have H':=Aside0.mk H
                   clear H
                   have p44 : 0 ≤ (0 : Int):=(by omega)
                   have q44 : 0 < (x6_2.extract ((ji35) : Int).toNat x6_2.size).size:=(by have : (0 : Int) < ((x6_2.extract ((ji35) : Int).toNat x6_2.size).size : Int):=of_decide_eq_true (by first|(with_reducible assumption)|assumption);omega)
                   have qn_q44 : (0 < x6_2.size - ((ji35) : Int).toNat) = True:=eq_true (by have h:=q44;simp only [ByteArray.size_extract,Nat.min_self] at h;exact h)
                   have qm_q44 : ((1 : Int) ≤ ((x6_2.size - ((ji35) : Int).toNat : Nat) : Int)) = True:=eq_true (by have h:=q44;simp only [ByteArray.size_extract,Nat.min_self] at h;generalize ((ji35) : Int).toNat = z_ at h ⊢;omega)
                   have hx44 : ∀ h : 0 < (x6_2.extract ((ji35) : Int).toNat x6_2.size).size,(((x6_2.extract ((ji35) : Int).toNat x6_2.size)[0]'h).toNat : Int) = bt (x6_2.extract ((ji35) : Int).toNat x6_2.size) 0:=bt_at (x6_2.extract ((ji35) : Int).toNat x6_2.size) 0
                   clear p44
                   have qi44 : (0 < ((x6_2.extract ((ji35) : Int).toNat x6_2.size).size : Int)) = True:=eq_true (of_decide_eq_true (by first|(with_reducible assumption)|assumption))
                   replace q44:=eq_true q44
                   go_wp2
                   go_meet
                   case rel=>exact ⟨_,(true),(by first|rfl|(simp;done)|(simp [*];done)),H',⟨by have:=HJ2.out;have:=HK2.out;have:=HJ18.out;first|omega|exact Nat.le_refl _⟩,⟨by (with_reducible repeat (first|apply Kd.R_alloc|apply Kd.R_drewN|apply Kd.R_drew));exact HO241.out⟩,⟨by repeat (first|(with_reducible first|exact HB.out|apply below_alloc|apply pw_below_drewN|apply below_drew1)|exact HB.out)⟩⟩
                  rw [if_neg c43] at H
                  exact absurd H (by simp)
                 clear HC38
                 try clear c1
                 try clear p1
                 try clear q1
                 try clear hx1
                 try clear qi1
                 try clear c2
                 try clear p2
                 try clear q2
                 try clear hx2
                 try clear c3
                 try clear c4
                 try clear c4b0
                 try clear p4
                 try clear q4
                 try clear hx4
                 try clear qi4
                 try clear c5
                 try clear c5b0
                 try clear c5b1
                 try clear c6
                 try clear c6b0
                 try clear c6b1
                 try clear p6
                 try clear c7
                 try clear c9
                 try clear c9b0
                 try clear c9b1
                 try clear c10
                 try clear c10b0
                 try clear c10b1
                 try clear c12
                 try clear c12b0
                 try clear c12b1
                 try clear c13
                 try clear c13b0
                 try clear c13b1
                 try clear p14
                 try clear q14
                 try clear hx14
                 try clear qi14
                 try clear c15
                 try clear c15b0
                 try clear c15b1
                 try clear c16
                 try clear c16b0
                 try clear c16b1
                 try clear c17
                 try clear c17b0
                 try clear c17b1
                 try clear c20
                 try clear c20b0
                 try clear c20b1
                 try clear c21
                 try clear c21b0
                 try clear c22
                 try clear c22b0
                 try clear c23
                 try clear c23b0
                 try clear p24
                 try clear q24
                 try clear hx24
                 try clear c25
                 try clear c27
                 try clear c27b0
                 try clear c27b1
                 try clear c28
                 try clear c28b0
                 try clear c28b1
                 try clear c30
                 try clear c30b0
                 try clear c30b1
                 try clear c32
                 try clear c32b0
                 try clear c32b1
                 try clear c33
                 try clear c33b0
                 try clear c33b1
                 try clear c34
                 try clear c36
                 try clear c36b0
                 try clear c36b1
                 try clear c37
                 try clear c37b0
                 try clear c37b1
                 try clear c39
                 try clear c41
                 try clear c41b0
                 try clear c41b1
                 try clear c42
                 try clear c42b0
                 try clear c42b1
                 try clear c43
                 try clear c43b0
                 try clear c43b1
                 try clear p44
                 try clear q44
                 try clear hx44
                 try clear qi44
                 try clear c45
                 try clear c45b0
                 try clear c45b1
                 try clear p1
                 try clear p14
                 try clear p2
                 try clear p24
                 try clear p44
                 try clear q1
                 try clear q14
                 try clear q2
                 try clear q24
                 try clear q44
                 obtain ⟨kq,x87_37,rfl,HA,HJ37,HO_4,HB⟩:=hcut
                 cases kq with
                 | zero=>exact absurd HA.out (by simp [spillwayref3_Parse.j3])
                 | succ kj37 =>
                  have H:=HA.out
                  clear HA
                  simp only [spillwayref3_Parse.j3] at H
                  by_cases c46 : x87_37 = true
                  ·subst c46
                   have H1 : (some (([] : List (S60)),false)) = some (r1,r2):=by rw [if_pos rfl] at H;exact H
                   clear H
                   have H:=H1
                   clear H1
                   simp only [Option.some.injEq,Prod.mk.injEq] at H
                   obtain ⟨rfl,rfl⟩:=H
                   go_wp2
                   go_ret2
                   exact ⟨_,by first|rfl|(simp [errW_none,errW_some] <;> rfl)|(simp only [← hji26,← hji35];first|rfl|(simp [errW_none,errW_some] <;> rfl))|(simp [*,errW_none,errW_some] <;> rfl),by first|exact Kd.R_nil _ _ _ _ _|exact Kd.N_nil _ _ _ _ _|exact Kd.V_nil _ _ _ _ _|exact Kd.Q_nil _ _ _ _ _|exact Kd.S_nil _ _ _ _ _,by repeat (first|(with_reducible first|exact HB.out|apply below_alloc|apply pw_below_drewN|apply below_drew1)|exact HB.out)⟩
                  replace c46:=Bool.eq_false_iff.mpr c46
                  subst c46
                  have H1 : (if 0 < ((x6_2.extract ((ji35) : Int).toNat x6_2.size).size : Int) then (if (bt (x6_2.extract ((ji35) : Int).toNat x6_2.size) 0) = 44 then (if 1 ≤ ((x6_2.extract ((ji35) : Int).toNat x6_2.size).size : Int) then (spillwayref3_Parse.l0 kj37 a0 y239 ((x6_2.extract ((ji35) : Int).toNat x6_2.size).extract 1 (x6_2.extract ((ji35) : Int).toNat x6_2.size).size)) else (none)) else (spillwayref3_Parse.l0 kj37 a0 y239 (x6_2.extract ((ji35) : Int).toNat x6_2.size))) else (none)) = some (r1,r2):=by rw [if_neg (show ¬ (false = true) by decide)] at H;exact H
                  clear H
                  have H:=H1
                  clear H1
                  by_cases c47 : 0 < ((x6_2.extract ((ji35) : Int).toNat x6_2.size).size : Int)
                  ·rw [if_pos c47] at H
                   have c47b0 : decide (0 < ((x6_2.extract ((ji35) : Int).toNat x6_2.size).size : Int)) = true:=decide_eq_true c47
                   have c47b1 : decide (0 < (x6_2.extract ((ji35) : Int).toNat x6_2.size).size) = true:=decide_eq_true (by omega)
                   clear c47
                   by_cases c49 : (bt (x6_2.extract ((ji35) : Int).toNat x6_2.size) 0) = 44
                   ·rw [if_pos c49] at H
                    have c49b0 : ((bt (x6_2.extract ((ji35) : Int).toNat x6_2.size) 0) == 44) = true:=beq_iff_eq.mpr c49
                    have c49b1 : ((bt (x6_2.extract ((ji35) : Int).toNat x6_2.size) 0) != 44) = false:=bne_eq_false_iff_eq.mpr c49
                    clear c49
                    by_cases c50 : 1 ≤ ((x6_2.extract ((ji35) : Int).toNat x6_2.size).size : Int)
                    ·rw [if_pos c50] at H
                     have c50b0:=eq_true c50
                     have c50b1 : decide (1 ≤ ((x6_2.extract ((ji35) : Int).toNat x6_2.size).size : Int)) = true:=decide_eq_true c50
                     clear c50
                     have H':=Aside0.mk H
                     clear H
                     have p48 : 0 ≤ (0 : Int):=(by omega)
                     have q48 : 0 < (x6_2.extract ((ji35) : Int).toNat x6_2.size).size:=(by have : (0 : Int) < ((x6_2.extract ((ji35) : Int).toNat x6_2.size).size : Int):=of_decide_eq_true (by first|(with_reducible assumption)|assumption);omega)
                     have qn_q48 : (0 < x6_2.size - ((ji35) : Int).toNat) = True:=eq_true (by have h:=q48;simp only [ByteArray.size_extract,Nat.min_self] at h;exact h)
                     have qm_q48 : ((1 : Int) ≤ ((x6_2.size - ((ji35) : Int).toNat : Nat) : Int)) = True:=eq_true (by have h:=q48;simp only [ByteArray.size_extract,Nat.min_self] at h;generalize ((ji35) : Int).toNat = z_ at h ⊢;omega)
                     have hx48 : ∀ h : 0 < (x6_2.extract ((ji35) : Int).toNat x6_2.size).size,(((x6_2.extract ((ji35) : Int).toNat x6_2.size)[0]'h).toNat : Int) = bt (x6_2.extract ((ji35) : Int).toNat x6_2.size) 0:=bt_at (x6_2.extract ((ji35) : Int).toNat x6_2.size) 0
                     clear p48
                     have qi48 : (0 < ((x6_2.extract ((ji35) : Int).toNat x6_2.size).size : Int)) = True:=eq_true (of_decide_eq_true (by first|(with_reducible assumption)|assumption))
                     replace q48:=eq_true q48
                     go_wp2
                     go_roundg kj37
                     case measure=>have:=HJ2.out;have:=HK2.out;have:=HJ18.out;have:=HJ37.out;omega
                     case rel=>exact ⟨(y239),((x6_2.extract ((ji35) : Int).toNat x6_2.size).extract 1 (x6_2.extract ((ji35) : Int).toNat x6_2.size).size),(by first|rfl|(simp;done)|(simp only [← hji35] <;> (first|rfl|simp))|(simp [*];done)),H',⟨by have:=HJ2.out;have:=HK2.out;have:=HJ18.out;have:=HJ37.out;omega⟩,⟨by (with_reducible repeat (first|apply Kd.R_alloc|apply Kd.R_drewN|apply Kd.R_drew));exact HO_4.out⟩,⟨by repeat (first|(with_reducible first|exact HB.out|apply below_alloc|apply pw_below_drewN|apply below_drew1)|exact HB.out)⟩⟩
                    rw [if_neg c50] at H
                    exact absurd H (by simp)
                   rw [if_neg c49] at H
                   have c49b0 : ((bt (x6_2.extract ((ji35) : Int).toNat x6_2.size) 0) == 44) = false:=beq_eq_false_iff_ne.mpr c49
                   have c49b1 : ((bt (x6_2.extract ((ji35) : Int).toNat x6_2.size) 0) != 44) = true:=bne_iff_ne.mpr c49
                   have H':=Aside0.mk H
                   clear H
                   have p48 : 0 ≤ (0 : Int):=(by omega)
                   have q48 : 0 < (x6_2.extract ((ji35) : Int).toNat x6_2.size).size:=(by have : (0 : Int) < ((x6_2.extract ((ji35) : Int).toNat x6_2.size).size : Int):=of_decide_eq_true (by first|(with_reducible assumption)|assumption);omega)
                   have qn_q48 : (0 < x6_2.size - ((ji35) : Int).toNat) = True:=eq_true (by have h:=q48;simp only [ByteArray.size_extract,Nat.min_self] at h;exact h)
                   have qm_q48 : ((1 : Int) ≤ ((x6_2.size - ((ji35) : Int).toNat : Nat) : Int)) = True:=eq_true (by have h:=q48;simp only [ByteArray.size_extract,Nat.min_self] at h;generalize ((ji35) : Int).toNat = z_ at h ⊢;omega)
                   have hx48 : ∀ h : 0 < (x6_2.extract ((ji35) : Int).toNat x6_2.size).size,(((x6_2.extract ((ji35) : Int).toNat x6_2.size)[0]'h).toNat : Int) = bt (x6_2.extract ((ji35) : Int).toNat x6_2.size) 0:=bt_at (x6_2.extract ((ji35) : Int).toNat x6_2.size) 0
                   clear p48
                   have qi48 : (0 < ((x6_2.extract ((ji35) : Int).toNat x6_2.size).size : Int)) = True:=eq_true (of_decide_eq_true (by first|(with_reducible assumption)|assumption))
                   replace q48:=eq_true q48
                   go_wp2
                   go_roundg kj37
                   case measure=>have:=HJ2.out;have:=HK2.out;have:=HJ18.out;have:=HJ37.out;omega
                   case rel=>exact ⟨(y239),((x6_2.extract ((ji35) : Int).toNat x6_2.size)),(by first|rfl|(simp;done)|(simp only [← hji35] <;> (first|rfl|simp))|(simp [*];done)),H',⟨by have:=HJ2.out;have:=HK2.out;have:=HJ18.out;have:=HJ37.out;omega⟩,⟨by (with_reducible repeat (first|apply Kd.R_alloc|apply Kd.R_drewN|apply Kd.R_drew));exact HO_4.out⟩,⟨by repeat (first|(with_reducible first|exact HB.out|apply below_alloc|apply pw_below_drewN|apply below_drew1)|exact HB.out)⟩⟩
                  rw [if_neg c47] at H
                  exact absurd H (by simp)
                rw [if_neg c37] at H
                exact absurd H (by simp)
               rw [if_neg c36] at H
               exact absurd H (by simp)
              rw [if_neg c34] at H
              exact absurd H (by simp)
             rw [if_neg c33] at H
             exact absurd H (by simp)
            rw [if_neg c32] at H
            exact absurd H (by simp)
           rw [if_neg c28] at H
           exact absurd H (by simp)
          rw [if_neg c27] at H
          exact absurd H (by simp)
       rw [if_neg c16] at H
       exact absurd H (by simp)
      rw [if_neg c15] at H
      have c15b0 : ((bt (a0.extract (t232 : Int).toNat a0.size) 0) == 123) = false:=beq_eq_false_iff_ne.mpr c15
      have c15b1 : ((bt (a0.extract (t232 : Int).toNat a0.size) 0) != 123) = true:=bne_iff_ne.mpr c15
      simp only [Option.some.injEq,Prod.mk.injEq] at H
      obtain ⟨rfl,rfl⟩:=H
      have p14 : 0 ≤ (0 : Int):=(by omega)
      have q14 : 0 < (a0.extract (t232 : Int).toNat a0.size).size:=(by have : (0 : Int) < ((a0.extract (t232 : Int).toNat a0.size).size : Int):=of_decide_eq_true (by first|(with_reducible assumption)|assumption);omega)
      have qn_q14 : (0 < a0.size - (t232 : Int).toNat) = True:=eq_true (by have h:=q14;simp only [ByteArray.size_extract,Nat.min_self] at h;exact h)
      have qm_q14 : ((1 : Int) ≤ ((a0.size - (t232 : Int).toNat : Nat) : Int)) = True:=eq_true (by have h:=q14;simp only [ByteArray.size_extract,Nat.min_self] at h;generalize (t232 : Int).toNat = z_ at h ⊢;omega)
      have hx14 : ∀ h : 0 < (a0.extract (t232 : Int).toNat a0.size).size,(((a0.extract (t232 : Int).toNat a0.size)[0]'h).toNat : Int) = bt (a0.extract (t232 : Int).toNat a0.size) 0:=bt_at (a0.extract (t232 : Int).toNat a0.size) 0
      clear p14
      have qi14 : (0 < ((a0.extract (t232 : Int).toNat a0.size).size : Int)) = True:=eq_true (of_decide_eq_true (by first|(with_reducible assumption)|assumption))
      replace q14:=eq_true q14
      go_wp2
      go_ret2
      exact ⟨_,by first|rfl|(simp [errW_none,errW_some] <;> rfl)|(simp [*,errW_none,errW_some] <;> rfl),by first|exact Kd.R_nil _ _ _ _ _|exact Kd.N_nil _ _ _ _ _|exact Kd.V_nil _ _ _ _ _|exact Kd.Q_nil _ _ _ _ _|exact Kd.S_nil _ _ _ _ _,by repeat (first|(with_reducible first|exact HB.out|apply below_alloc|apply pw_below_drewN|apply below_drew1)|exact HB.out)⟩
     rw [if_neg c13] at H
     exact absurd H (by simp)
    clear HC11
    try clear c1
    try clear p1
    try clear q1
    try clear hx1
    try clear qi1
    try clear c2
    try clear p2
    try clear q2
    try clear hx2
    try clear c3
    try clear c4
    try clear c4b0
    try clear p4
    try clear q4
    try clear hx4
    try clear qi4
    try clear c5
    try clear c5b0
    try clear c5b1
    try clear c6
    try clear c6b0
    try clear c6b1
    try clear p6
    try clear c7
    try clear c9
    try clear c9b0
    try clear c9b1
    try clear c10
    try clear c10b0
    try clear c10b1
    try clear c12
    try clear c12b0
    try clear c12b1
    try clear c13
    try clear c13b0
    try clear c13b1
    try clear p14
    try clear q14
    try clear hx14
    try clear qi14
    try clear c15
    try clear c15b0
    try clear c15b1
    try clear c16
    try clear c16b0
    try clear c16b1
    try clear c17
    try clear c17b0
    try clear c17b1
    try clear c20
    try clear c20b0
    try clear c20b1
    try clear c21
    try clear c21b0
    try clear c22
    try clear c22b0
    try clear c23
    try clear c23b0
    try clear p24
    try clear q24
    try clear hx24
    try clear c25
    try clear c27
    try clear c27b0
    try clear c27b1
    try clear c28
    try clear c28b0
    try clear c28b1
    try clear c30
    try clear c30b0
    try clear c30b1
    try clear c32
    try clear c32b0
    try clear c32b1
    try clear c33
    try clear c33b0
    try clear c33b1
    try clear c34
    try clear c36
    try clear c36b0
    try clear c36b1
    try clear c37
    try clear c37b0
    try clear c37b1
    try clear c39
    try clear c41
    try clear c41b0
    try clear c41b1
    try clear c42
    try clear c42b0
    try clear c42b1
    try clear c43
    try clear c43b0
    try clear c43b1
    try clear p44
    try clear q44
    try clear hx44
    try clear qi44
    try clear c45
    try clear c45b0
    try clear c45b1
    try clear c46
    try clear c47
    try clear c47b0
    try clear c47b1
    try clear p48
    try clear q48
    try clear hx48
    try clear qi48
    try clear c49
    try clear c49b0
    try clear c49b1
    try clear c50
    try clear c50b0
    try clear c50b1
    try clear p1
    try clear p14
    try clear p2
    try clear p24
    try clear p4
    try clear p44
    try clear p48
    try clear p6
    try clear q1
    try clear q14
    try clear q2
    try clear q24
    try clear q4
    try clear q44
    try clear q48
    obtain ⟨kq,x4_10,HA,HJ10,HO_4,HB⟩:=hcut
    cases kq with
    | zero=>exact absurd HA.out (by simp [spillwayref3_Parse.j4])
    | succ kj10 =>
     have H:=HA.out
     clear HA
     simp only [spillwayref3_Parse.j4] at H
     replace H:=Option.bind_eq_some_iff.mp H
     obtain ⟨t242,A510,H⟩:=H
     replace H : ((spillwayref3_Is.f t242).bind fun t245=>(if t245 = true then ((spillwayref3_Print.f kj10 t242).bind fun t246=>(if t246.toList = a0.toList then (some (t242,true)) else (some (([] : List (S60)),false)))) else (some (([] : List (S60)),false)))) = some (r1,r2):=H
     have A51:=Aside0.mk A510
     clear A510
     replace H:=Option.bind_eq_some_iff.mp H
     obtain ⟨t245,A520,H⟩:=H
     replace H : (if t245 = true then ((spillwayref3_Print.f kj10 t242).bind fun t246=>(if t246.toList = a0.toList then (some (t242,true)) else (some (([] : List (S60)),false)))) else (some (([] : List (S60)),false))) = some (r1,r2):=H
     have A52:=Aside0.mk A520
     clear A520
     by_cases c53 : t245 = true
     ·subst c53
      have H1 : ((spillwayref3_Print.f kj10 t242).bind fun t246=>(if t246.toList = a0.toList then (some (t242,true)) else (some (([] : List (S60)),false)))) = some (r1,r2):=by rw [if_pos rfl] at H;exact H
      clear H
      have H:=H1
      clear H1
      replace H:=Option.bind_eq_some_iff.mp H
      obtain ⟨t246,A540,H⟩:=H
      replace H : (if t246.toList = a0.toList then (some (t242,true)) else (some (([] : List (S60)),false))) = some (r1,r2):=H
      have A54:=Aside0.mk A540
      clear A540
      by_cases c55 : t246.toList = a0.toList
      ·rw [if_pos c55] at H
       have c55b0 : (t246.toList == a0.toList) = true:=beq_iff_eq.mpr c55
       have c55b1 : (t246.toList != a0.toList) = false:=bne_eq_false_iff_eq.mpr c55
       clear c55
       simp only [Option.some.injEq,Prod.mk.injEq] at H
       obtain ⟨rfl,rfl⟩:=H
       obtain ⟨Ao56,co56,eo56⟩:=Kd.R_slice HO_4.out
       subst eo56
       go_wp2_with (first|((with_reducible refine gate_callee (f:=73) rfl ?_);refine goesL_ (some 94) rfl rfl Tryz.func73 (by kernel_rfl) rfl #[.slice Ao56 x4_10.length co56] rfl (by (try simp only [List.map_toArray,List.map_cons,List.map_nil]);first|done|rfl|(simp only [List.length_drop,List.length_take];rfl)) ?_;(with_reducible refine (spillwayref3_sorted.calls _ _ x4_10 t242 _ ?side1 ?side2 A51.out).mono ?_);(case side1=>repeat (first|exact (Kd.R_reads' HO_4.out).2.2|(with_reducible refine Kd.C_alloc ?_ _)|(with_reducible refine Kd.C_drewN ?_ _)|(with_reducible refine Kd.C_drew ?_)));(case side2=>exact (Kd.R_reads' HO_4.out).2.1);rintro e w57 ⟨v243,rfl,ho0,hb⟩;refine ⟨_,rfl,?_⟩;have n0_:=Aside0.mk (Kd.R_elder' (by (with_reducible repeat (first|apply Kd.R_alloc|apply Kd.R_drewN|apply Kd.R_drew));exact HO_4.out) (Kd.R_base ho0) hb);have n1_:=Aside0.mk (Kd.R_lower (Kd.R_new' ho0 (Kd.R_lt (by (with_reducible repeat (first|apply Kd.R_alloc|apply Kd.R_drewN|apply Kd.R_drew));exact HO_4.out))) (below_size (by repeat (first|(with_reducible first|exact HB.out|apply below_alloc|apply pw_below_drewN|apply below_drew1)|exact HB.out))));have n2_:=Aside0.mk (below_step (by repeat (first|(with_reducible first|exact HB.out|apply below_alloc|apply pw_below_drewN|apply below_drew1)|exact HB.out)) hb);clear HO_4;clear HB;have HO_4:=n0_;have HO244:=n1_;have HB:=n2_;clear n0_ n1_ n2_;(try clear hb);(try clear hb2);(try clear hk);(try clear hi);(try clear ho0);obtain ⟨Ao58,co58,eo58⟩:=Kd.R_slice HO244.out;subst eo58)|((with_reducible refine gate_callee (f:=49) rfl ?_);refine goesL_ (some 96) rfl rfl Tryz.func49 (by kernel_rfl) rfl #[.slice Ao58 t242.length co58] rfl (by (try simp only [List.map_toArray,List.map_cons,List.map_nil]);first|done|rfl|(simp only [List.length_drop,List.length_take];rfl)) ?_;(with_reducible refine (spillwayref3_Is.calls _ _ t242 true _ ?side1 ?side2 A52.out).mono ?_);(case side1=>repeat (first|exact (Kd.R_reads' HO244.out).2.2|(with_reducible refine Kd.C_alloc ?_ _)|(with_reducible refine Kd.C_drewN ?_ _)|(with_reducible refine Kd.C_drew ?_)));(case side2=>exact (Kd.R_reads' HO244.out).2.1);rintro e w59 ⟨rfl,hb⟩;refine ⟨_,rfl,?_⟩;have n0_:=Aside0.mk (Kd.R_below (by (with_reducible repeat (first|apply Kd.R_alloc|apply Kd.R_drewN|apply Kd.R_drew));exact HO_4.out) hb);have n1_:=Aside0.mk (Kd.R_below (by (with_reducible repeat (first|apply Kd.R_alloc|apply Kd.R_drewN|apply Kd.R_drew));exact HO244.out) hb);have n2_:=Aside0.mk (below_step (by repeat (first|(with_reducible first|exact HB.out|apply below_alloc|apply pw_below_drewN|apply below_drew1)|exact HB.out)) hb);clear HO_4;clear HO244;clear HB;have HO_4:=n0_;have HO244:=n1_;have HB:=n2_;clear n0_ n1_ n2_;(try clear hb);(try clear hb2);(try clear hk);(try clear hi))|(go_at_call 53;(with_reducible refine (spillwayref3_Print.calls kj10 _ _ t242 t246 _ ?side1 ?side2 A54.out).mono ?_);(case side1=>repeat (first|exact (Kd.R_reads' HO244.out).2.2|(with_reducible refine Kd.C_alloc ?_ _)|(with_reducible refine Kd.C_drewN ?_ _)|(with_reducible refine Kd.C_drew ?_)));(case side2=>exact (Kd.R_reads' HO244.out).2.1);rintro e w60 ⟨rfl,hb⟩;have n0_:=Aside0.mk (Kd.R_below (by (with_reducible repeat (first|apply Kd.R_alloc|apply Kd.R_drewN|apply Kd.R_drew));exact HO_4.out) hb);have n1_:=Aside0.mk (Kd.R_below (by (with_reducible repeat (first|apply Kd.R_alloc|apply Kd.R_drewN|apply Kd.R_drew));exact HO244.out) hb);have n2_:=Aside0.mk (below_step (by repeat (first|(with_reducible first|exact HB.out|apply below_alloc|apply pw_below_drewN|apply below_drew1)|exact HB.out)) hb);clear HO_4;clear HO244;clear HB;have HO_4:=n0_;have HO244:=n1_;have HB:=n2_;clear n0_ n1_ n2_;(try clear hb);(try clear hb2);(try clear hk);(try clear hi)))
       go_ret2
       exact ⟨_,by first|rfl|(simp [errW_none,errW_some] <;> rfl)|(simp [*,errW_none,errW_some] <;> rfl),by (with_reducible repeat (first|apply Kd.R_alloc|apply Kd.R_drewN|apply Kd.R_drew));exact Kd.R_mono HO244.out (fun _ hk=>trivial),by repeat (first|(with_reducible first|exact HB.out|apply below_alloc|apply pw_below_drewN|apply below_drew1)|exact HB.out)⟩
      rw [if_neg c55] at H
      have c55b0 : (t246.toList == a0.toList) = false:=beq_eq_false_iff_ne.mpr c55
      have c55b1 : (t246.toList != a0.toList) = true:=bne_iff_ne.mpr c55
      simp only [Option.some.injEq,Prod.mk.injEq] at H
      obtain ⟨rfl,rfl⟩:=H
      obtain ⟨Ao61,co61,eo61⟩:=Kd.R_slice HO_4.out
      subst eo61
      go_wp2_with (first|((with_reducible refine gate_callee (f:=73) rfl ?_);refine goesL_ (some 94) rfl rfl Tryz.func73 (by kernel_rfl) rfl #[.slice Ao61 x4_10.length co61] rfl (by (try simp only [List.map_toArray,List.map_cons,List.map_nil]);first|done|rfl|(simp only [List.length_drop,List.length_take];rfl)) ?_;(with_reducible refine (spillwayref3_sorted.calls _ _ x4_10 t242 _ ?side1 ?side2 A51.out).mono ?_);(case side1=>repeat (first|exact (Kd.R_reads' HO_4.out).2.2|(with_reducible refine Kd.C_alloc ?_ _)|(with_reducible refine Kd.C_drewN ?_ _)|(with_reducible refine Kd.C_drew ?_)));(case side2=>exact (Kd.R_reads' HO_4.out).2.1);rintro e w62 ⟨v243,rfl,ho0,hb⟩;refine ⟨_,rfl,?_⟩;have n0_:=Aside0.mk (Kd.R_elder' (by (with_reducible repeat (first|apply Kd.R_alloc|apply Kd.R_drewN|apply Kd.R_drew));exact HO_4.out) (Kd.R_base ho0) hb);have n1_:=Aside0.mk (Kd.R_lower (Kd.R_new' ho0 (Kd.R_lt (by (with_reducible repeat (first|apply Kd.R_alloc|apply Kd.R_drewN|apply Kd.R_drew));exact HO_4.out))) (below_size (by repeat (first|(with_reducible first|exact HB.out|apply below_alloc|apply pw_below_drewN|apply below_drew1)|exact HB.out))));have n2_:=Aside0.mk (below_step (by repeat (first|(with_reducible first|exact HB.out|apply below_alloc|apply pw_below_drewN|apply below_drew1)|exact HB.out)) hb);clear HO_4;clear HB;have HO_4:=n0_;have HO244:=n1_;have HB:=n2_;clear n0_ n1_ n2_;(try clear hb);(try clear hb2);(try clear hk);(try clear hi);(try clear ho0);obtain ⟨Ao63,co63,eo63⟩:=Kd.R_slice HO244.out;subst eo63)|((with_reducible refine gate_callee (f:=49) rfl ?_);refine goesL_ (some 96) rfl rfl Tryz.func49 (by kernel_rfl) rfl #[.slice Ao63 t242.length co63] rfl (by (try simp only [List.map_toArray,List.map_cons,List.map_nil]);first|done|rfl|(simp only [List.length_drop,List.length_take];rfl)) ?_;(with_reducible refine (spillwayref3_Is.calls _ _ t242 true _ ?side1 ?side2 A52.out).mono ?_);(case side1=>repeat (first|exact (Kd.R_reads' HO244.out).2.2|(with_reducible refine Kd.C_alloc ?_ _)|(with_reducible refine Kd.C_drewN ?_ _)|(with_reducible refine Kd.C_drew ?_)));(case side2=>exact (Kd.R_reads' HO244.out).2.1);rintro e w64 ⟨rfl,hb⟩;refine ⟨_,rfl,?_⟩;have n0_:=Aside0.mk (Kd.R_below (by (with_reducible repeat (first|apply Kd.R_alloc|apply Kd.R_drewN|apply Kd.R_drew));exact HO_4.out) hb);have n1_:=Aside0.mk (Kd.R_below (by (with_reducible repeat (first|apply Kd.R_alloc|apply Kd.R_drewN|apply Kd.R_drew));exact HO244.out) hb);have n2_:=Aside0.mk (below_step (by repeat (first|(with_reducible first|exact HB.out|apply below_alloc|apply pw_below_drewN|apply below_drew1)|exact HB.out)) hb);clear HO_4;clear HO244;clear HB;have HO_4:=n0_;have HO244:=n1_;have HB:=n2_;clear n0_ n1_ n2_;(try clear hb);(try clear hb2);(try clear hk);(try clear hi))|(go_at_call 53;(with_reducible refine (spillwayref3_Print.calls kj10 _ _ t242 t246 _ ?side1 ?side2 A54.out).mono ?_);(case side1=>repeat (first|exact (Kd.R_reads' HO244.out).2.2|(with_reducible refine Kd.C_alloc ?_ _)|(with_reducible refine Kd.C_drewN ?_ _)|(with_reducible refine Kd.C_drew ?_)));(case side2=>exact (Kd.R_reads' HO244.out).2.1);rintro e w65 ⟨rfl,hb⟩;have n0_:=Aside0.mk (Kd.R_below (by (with_reducible repeat (first|apply Kd.R_alloc|apply Kd.R_drewN|apply Kd.R_drew));exact HO_4.out) hb);have n1_:=Aside0.mk (Kd.R_below (by (with_reducible repeat (first|apply Kd.R_alloc|apply Kd.R_drewN|apply Kd.R_drew));exact HO244.out) hb);have n2_:=Aside0.mk (below_step (by repeat (first|(with_reducible first|exact HB.out|apply below_alloc|apply pw_below_drewN|apply below_drew1)|exact HB.out)) hb);clear HO_4;clear HO244;clear HB;have HO_4:=n0_;have HO244:=n1_;have HB:=n2_;clear n0_ n1_ n2_;(try clear hb);(try clear hb2);(try clear hk);(try clear hi)))
      go_ret2
      exact ⟨_,by first|rfl|(simp [errW_none,errW_some] <;> rfl)|(simp [*,errW_none,errW_some] <;> rfl),by first|exact Kd.R_nil _ _ _ _ _|exact Kd.N_nil _ _ _ _ _|exact Kd.V_nil _ _ _ _ _|exact Kd.Q_nil _ _ _ _ _|exact Kd.S_nil _ _ _ _ _,by repeat (first|(with_reducible first|exact HB.out|apply below_alloc|apply pw_below_drewN|apply below_drew1)|exact HB.out)⟩
     replace c53:=Bool.eq_false_iff.mpr c53
     subst c53
     have H1 : (some (([] : List (S60)),false)) = some (r1,r2):=by rw [if_neg (show ¬ (false = true) by decide)] at H;exact H
     clear H
     have H:=H1
     clear H1
     simp only [Option.some.injEq,Prod.mk.injEq] at H
     obtain ⟨rfl,rfl⟩:=H
     obtain ⟨Ao66,co66,eo66⟩:=Kd.R_slice HO_4.out
     subst eo66
     go_wp2_with (first|((with_reducible refine gate_callee (f:=73) rfl ?_);refine goesL_ (some 94) rfl rfl Tryz.func73 (by kernel_rfl) rfl #[.slice Ao66 x4_10.length co66] rfl (by (try simp only [List.map_toArray,List.map_cons,List.map_nil]);first|done|rfl|(simp only [List.length_drop,List.length_take];rfl)) ?_;(with_reducible refine (spillwayref3_sorted.calls _ _ x4_10 t242 _ ?side1 ?side2 A51.out).mono ?_);(case side1=>repeat (first|exact (Kd.R_reads' HO_4.out).2.2|(with_reducible refine Kd.C_alloc ?_ _)|(with_reducible refine Kd.C_drewN ?_ _)|(with_reducible refine Kd.C_drew ?_)));(case side2=>exact (Kd.R_reads' HO_4.out).2.1);rintro e w67 ⟨v243,rfl,ho0,hb⟩;refine ⟨_,rfl,?_⟩;have n0_:=Aside0.mk (Kd.R_elder' (by (with_reducible repeat (first|apply Kd.R_alloc|apply Kd.R_drewN|apply Kd.R_drew));exact HO_4.out) (Kd.R_base ho0) hb);have n1_:=Aside0.mk (Kd.R_lower (Kd.R_new' ho0 (Kd.R_lt (by (with_reducible repeat (first|apply Kd.R_alloc|apply Kd.R_drewN|apply Kd.R_drew));exact HO_4.out))) (below_size (by repeat (first|(with_reducible first|exact HB.out|apply below_alloc|apply pw_below_drewN|apply below_drew1)|exact HB.out))));have n2_:=Aside0.mk (below_step (by repeat (first|(with_reducible first|exact HB.out|apply below_alloc|apply pw_below_drewN|apply below_drew1)|exact HB.out)) hb);clear HO_4;clear HB;have HO_4:=n0_;have HO244:=n1_;have HB:=n2_;clear n0_ n1_ n2_;(try clear hb);(try clear hb2);(try clear hk);(try clear hi);(try clear ho0);obtain ⟨Ao68,co68,eo68⟩:=Kd.R_slice HO244.out;subst eo68)|((with_reducible refine gate_callee (f:=49) rfl ?_);refine goesL_ (some 96) rfl rfl Tryz.func49 (by kernel_rfl) rfl #[.slice Ao68 t242.length co68] rfl (by (try simp only [List.map_toArray,List.map_cons,List.map_nil]);first|done|rfl|(simp only [List.length_drop,List.length_take];rfl)) ?_;(with_reducible refine (spillwayref3_Is.calls _ _ t242 false _ ?side1 ?side2 A52.out).mono ?_);(case side1=>repeat (first|exact (Kd.R_reads' HO244.out).2.2|(with_reducible refine Kd.C_alloc ?_ _)|(with_reducible refine Kd.C_drewN ?_ _)|(with_reducible refine Kd.C_drew ?_)));(case side2=>exact (Kd.R_reads' HO244.out).2.1);rintro e w69 ⟨rfl,hb⟩;refine ⟨_,rfl,?_⟩;have n0_:=Aside0.mk (Kd.R_below (by (with_reducible repeat (first|apply Kd.R_alloc|apply Kd.R_drewN|apply Kd.R_drew));exact HO_4.out) hb);have n1_:=Aside0.mk (Kd.R_below (by (with_reducible repeat (first|apply Kd.R_alloc|apply Kd.R_drewN|apply Kd.R_drew));exact HO244.out) hb);have n2_:=Aside0.mk (below_step (by repeat (first|(with_reducible first|exact HB.out|apply below_alloc|apply pw_below_drewN|apply below_drew1)|exact HB.out)) hb);clear HO_4;clear HO244;clear HB;have HO_4:=n0_;have HO244:=n1_;have HB:=n2_;clear n0_ n1_ n2_;(try clear hb);(try clear hb2);(try clear hk);(try clear hi)))
     go_ret2
     exact ⟨_,by first|rfl|(simp [errW_none,errW_some] <;> rfl)|(simp [*,errW_none,errW_some] <;> rfl),by first|exact Kd.R_nil _ _ _ _ _|exact Kd.N_nil _ _ _ _ _|exact Kd.V_nil _ _ _ _ _|exact Kd.Q_nil _ _ _ _ _|exact Kd.S_nil _ _ _ _ _,by repeat (first|(with_reducible first|exact HB.out|apply below_alloc|apply pw_below_drewN|apply below_drew1)|exact HB.out)⟩
   rw [if_neg c10] at H
   exact absurd H (by simp)
  rw [if_neg c9] at H
  exact absurd H (by simp)
end Go.Proofs.YtfgffjchphignaaGreatDoor.Print
end
section
namespace Go.Proofs.YtfgffjchphignaaGreatDoor.PureN
open Go.RowKit Go.Proofs.YtfgffjchphignaaGreatDoor.Print
open Go.Proofs.YtfgffjchphignaaGreatDoorX Go.Proofs.YtfgffjchphignaaGreatDoorW.PrintWords Go.Proofs.YtfgffjchphignaaGreatDoorW.PrintLast Go.Proofs.YtfgffjchphignaaGreatDoorW.PrintMore
/-! The document's Print and Parse of label sets. -/
theorem of_pr_back (l : List S60) : (l.map pr).map ofPr = l:=by
 rw [List.map_map]
 conv=>rhs;rw [← List.map_id l]
 apply List.map_congr_left
 intro x _
 rfl
theorem sortS_of (l : List Pr) : sortS (l.map ofPr) = (sortP l).map ofPr:=by
 have h:=sortS_pr (l.map ofPr)
 rw [of_pr_map] at h
 rw [← h,of_pr_back]
theorem rprint_eq3 (l : List S60) (hsm : small2 l) (k : Nat) (hk : 800 < k) : spillwayref3_Print.f k l = some (ofL (printL (l.map pr))):=by
 have hIs : spillwayref3_Is.f l = some (isS (l.map pr)):=by unfold spillwayref3_Is.f;rw [if_pos hsm]
 unfold spillwayref3_Print.f printL
 rw [hIs,Option.bind_some]
 cases hS : isS (l.map pr) with
 | false=>rw [if_neg (by simp),if_neg (by simp)]
 | true =>
  rw [if_pos rfl,if_pos rfl]
  have hi:=isS_is _ hS
  have hl : l.length ≤ 8:=by have:=hi.len;rwa [List.length_map] at this
  have hG:=rget_eq (⟨#[95,95,110,97,109,101,95,95]⟩ : ByteArray) l (by omega) k (by omega)
  have hNL : (⟨#[95,95,110,97,109,101,95,95]⟩ : ByteArray).data.toList = NL:=rfl
  rw [hNL] at hG
  have hsz : ∀ x ∈ l,x.f0.size ≤ 20 ∧ x.f1.size ≤ 30:=by
   intro x hx
   have h1:=hi.each (pr x) (List.mem_map_of_mem hx)
   have h2 : x.f0.data.toList.length ≤ 20:=by
    cases hc : x.f0.data.toList with
    | nil=>simp
    | cons c r =>
     have h3:=h1.1
     rw [show (pr x).1 = c :: r from hc] at h3
     simp only [nameB,Bool.and_eq_true,decide_eq_true_eq] at h3
     exact h3.2
   have h4 : x.f1.data.toList.length ≤ 30:=by
    have h5:=h1.2
    unfold valB at h5
    simp only [Bool.and_eq_true,decide_eq_true_eq] at h5
    exact h5.1.2
   rw [Array.length_toList] at h2 h4
   exact ⟨h2,h4⟩
  have hnmL : (getL (l.map pr) NL).length ≤ 30:=by
   unfold getL
   cases hf : (l.map pr).find? fun p=>p.1 == NL with
   | none=>simp
   | some p =>
    have hm:=List.mem_of_find?_eq_some hf
    obtain ⟨x,hx,rfl⟩:=List.mem_map.1 hm
    show (pr x).2.length ≤ 30
    have:=(hsz x hx).2
    show x.f1.data.toList.length ≤ 30
    rw [Array.length_toList]
    exact this
  rw [hG,Option.bind_some,rname_eq _ (by rw [ofL_size];omega) k (by rw [ofL_size];omega),Option.bind_some]
  have hds : (ofL (getL (l.map pr) NL)).data.toList = getL (l.map pr) NL:=rfl
  rw [hds]
  obtain ⟨k,rfl⟩ : ∃ m,k = m + 1:=⟨k - 1,by omega⟩
  have e0 : (⟨#[]⟩ : ByteArray) = ofL []:=rfl
  cases hn : nameB (getL (l.map pr) NL) with
  | true =>
   rw [if_pos rfl,if_pos rfl,spillwayref3_Print.j0,e0]
   have hne : getL (l.map pr) NL ≠ []:=by intro e;rw [e] at hn;simp [nameB] at hn
   have h:=rprint_loop l hsz hl (getL (l.map pr) NL) (by omega) l.length 0 k [] 0 (by omega) (by omega) (by simp) (by omega)
   rw [List.drop_zero] at h
   have hkp : keptP (getL (l.map pr) NL) (l.map pr) = restP (l.map pr):=by unfold keptP restP;rw [if_neg hne]
   rw [hkp,stepJ_all] at h
   rw [show ((0 : Nat) : Int) = 0 from rfl] at h
   rw [h]
   unfold finP
   by_cases hr : restP (l.map pr) = []
   ·rw [if_pos hr,hr,if_neg (fun hh=>hh.elim (by simp) hne)]
    simp [joinP]
   rw [if_neg hr,if_pos (.inl (List.length_pos_iff.2 hr))]
  | false =>
   rw [if_neg (by simp),if_neg (by simp),spillwayref3_Print.j0,e0]
   have h:=rprint_loop l hsz hl [] (by simp) l.length 0 k [] 0 (by omega) (by omega) (by simp) (by omega)
   rw [List.drop_zero] at h
   have hkp : keptP [] (l.map pr) = l.map pr:=by unfold keptP;rw [if_pos rfl]
   rw [hkp,stepJ_all] at h
   rw [show ((0 : Nat) : Int) = 0 from rfl] at h
   rw [h]
   unfold finP
   rw [if_pos (.inr rfl)]
   rfl
def finR (s : List UInt8) : Option (List Pr) → List S60 × Bool
 | some l=>if isS (sortP l) ∧ printL (sortP l) = s then ((sortP l).map ofPr,true) else ([],false)
 | none=>([],false)
theorem rparse_end (s : List UInt8) (l : List Pr) (hl : l.length ≤ 900) (hz : ∀ p ∈ l,p.1.length ≤ 1000 ∧ p.2.length ≤ 1000) (k : Nat) (hk : 802 < k) : spillwayref3_Parse.j4 k (ofL s) (l.map ofPr) = some (finR s (some l)):=by
 obtain ⟨k,rfl⟩ : ∃ m,k = m + 1:=⟨k - 1,by omega⟩
 have hsort : spillwayref3_sorted.f (l.map ofPr) = some ((sortP l).map ofPr):=by
  unfold spillwayref3_sorted.f
  rw [if_pos (by rw [List.length_map];omega),sortS_of]
 have hsm : small2 ((sortP l).map ofPr):=by
  refine ⟨by rw [List.length_map,(sortP_perm l).length_eq];omega,?_⟩
  intro x hx
  obtain ⟨p,hp,rfl⟩:=List.mem_map.1 hx
  have:=hz p ((sortP_perm l).mem_iff.1 hp)
  refine ⟨?_,?_⟩
  ·show (ofL p.1).size ≤ _
   rw [ofL_size];omega
  show (ofL p.2).size ≤ _
  rw [ofL_size];omega
 have hIs : spillwayref3_Is.f ((sortP l).map ofPr) = some (isS (sortP l)):=by unfold spillwayref3_Is.f;rw [if_pos hsm,of_pr_map]
 have ef : finR s (some l) = if isS (sortP l) ∧ printL (sortP l) = s then ((sortP l).map ofPr,true) else ([],false):=rfl
 rw [spillwayref3_Parse.j4,hsort,Option.bind_some,hIs,Option.bind_some,ef]
 cases hS : isS (sortP l) with
 | false=>rw [if_neg (by simp),if_neg (by simp)]
 | true =>
  rw [if_pos rfl,rprint_eq3 _ hsm k (by omega),of_pr_map,Option.bind_some,toList_list,toList_list]
  by_cases hp : printL (sortP l) = s
  ·rw [if_pos hp,if_pos ⟨rfl,hp⟩]
  rw [if_neg hp,if_neg (fun h=>hp h.2)]
theorem take_dropW (p : UInt8 → Bool) : ∀ t : List UInt8,t = t.takeWhile p ++ t.dropWhile p:=fun t=>(List.takeWhile_append_dropWhile (p:=p) (l:=t)).symm
theorem quoted_nil (k : Nat) (hk : 0 < k) : spillwayref3_Quoted.f k (ofL []) = some ((⟨#[]⟩ : ByteArray),0):=by
 obtain ⟨k,rfl⟩ : ∃ m,k = m + 1:=⟨k - 1,by omega⟩
 unfold spillwayref3_Quoted.f
 rw [toList_list,if_pos rfl,spillwayref3_Quoted.j0,if_pos rfl]
theorem quoted_other (d : UInt8) (r : List UInt8) (hd : d ≠ 34) (k : Nat) (hk : 0 < k) : spillwayref3_Quoted.f k (ofL (d :: r)) = some ((⟨#[]⟩ : ByteArray),0):=by
 obtain ⟨k,rfl⟩ : ∃ m,k = m + 1:=⟨k - 1,by omega⟩
 have hb0 : bt (ofL (d :: r)) 0 = (d.toNat : Int):=bt_list (d :: r) 0 (by simp)
 unfold spillwayref3_Quoted.f
 rw [toList_list,if_neg (by simp),ofL_size,if_pos (by rw [List.length_cons];omega),hb0,spillwayref3_Quoted.j0,if_pos (by rw [bne_iff_ne];exact ne_int d 34 (by omega) hd)]
theorem ext_drop (t : List UInt8) (n : Nat) : (ofL t).extract n t.length = ofL (t.drop n):=by
 have h:=extract_is (ofL t) n (t.drop n) rfl
 rw [ofL_size] at h
 exact h
theorem ext_take (t : List UInt8) (n : Nat) : (ofL t).extract 0 n = ofL (t.take n):=by
 apply ByteArray.ext
 apply Array.ext'
 rw [ByteArray.data_extract,Array.toList_extract]
 show (t.drop 0).take (n - 0) = t.take n
 rw [List.drop_zero,Nat.sub_zero]
theorem unq_le2 {l v : List UInt8} {n : Nat} (h : unq l = some (v,n)) : n ≤ l.length ∧ v.length ≤ l.length:=by
 obtain ⟨h1,h2,h3⟩:=unq_take l v n h
 refine ⟨h3,?_⟩
 have hq : ∀ v : List UInt8,v.length ≤ (quoteB v).length:=by
  intro v
  induction v with
  | nil=>simp [quoteB]
  | cons c r ih=>rw [quoteB,List.length_append,List.length_cons];split <;> simp <;> omega
 have:=hq v
 omega
theorem wrap_add (a b : Nat) (h : a + b ≤ 4000000000) : wrap64 ((a : Int) + (b : Int)) = ((a + b : Nat) : Int):=by unfold wrap64;omega
theorem rparse_loop (s : List UInt8) (n : Nat) : ∀ (t : List UInt8) (l : List Pr) (k K : Nat),t.length ≤ n → t.length < K → 3 * n + 1300 < k → t.length ≤ 600 → l.length + t.length ≤ 700 → (∀ p ∈ l,p.1.length ≤ 600 ∧ p.2.length ≤ 600) →
  spillwayref3_Parse.l0 k (ofL s) (l.map ofPr) (ofL t) = some (finR s (loopR K t l)):=by
 induction n with
 | zero =>
  intro t l k K ht hK hk h6 hl hz
  obtain rfl : t = []:=List.length_eq_zero_iff.1 (by omega)
  obtain ⟨k,rfl⟩ : ∃ m,k = m + 2:=⟨k - 2,by omega⟩
  obtain ⟨K,rfl⟩ : ∃ m,K = m + 1:=⟨K - 1,by simp at hK;omega⟩
  have hid:=rident_eq [] (by simp) (k + 1) (by simp;omega)
  rw [spillwayref3_Parse.l0,toList_list,if_neg (by simp),hid,Option.bind_some,if_pos (show (((([] : List UInt8).takeWhile idc).length : Nat) : Int) = 0 from rfl),spillwayref3_Parse.j2,if_pos rfl]
  rfl
 | succ n ih =>
  intro t l k K ht hK hk h6 hl hz
  obtain ⟨k,rfl⟩ : ∃ m,k = m + 3:=⟨k - 3,by omega⟩
  obtain ⟨K,rfl⟩ : ∃ m,K = m + 1:=⟨K - 1,by omega⟩
  rw [spillwayref3_Parse.l0,toList_list,loopR]
  by_cases h125 : t = [125]
  ·rw [if_pos h125,if_pos h125]
   exact rparse_end s l (by omega) (fun p hp=>by have:=hz p hp;omega) (k + 2) (by omega)
  rw [if_neg h125,if_neg h125,rident_eq t (by omega) (k + 2) (by omega),Option.bind_some,ofL_size]
  have hsplit:=take_dropW idc t
  have hlen : (t.takeWhile idc).length + (t.dropWhile idc).length = t.length:=by rw [← List.length_append,← hsplit]
  by_cases htk : t.takeWhile idc = []
  ·rw [if_pos htk,htk,if_pos (show ((([] : List UInt8).length : Nat) : Int) = 0 from rfl),spillwayref3_Parse.j2,if_pos rfl]
   rfl
  have htp : 0 < (t.takeWhile idc).length:=List.length_pos_iff.2 htk
  rw [if_neg htk,if_neg (by omega)]
  have hJ : t.drop (t.takeWhile idc).length = t.dropWhile idc:=by
   have h:=congrArg (List.drop (t.takeWhile idc).length) hsplit
   rwa [List.drop_left] at h
  have htake : t.take (t.takeWhile idc).length = t.takeWhile idc:=by
   have h:=congrArg (List.take (t.takeWhile idc).length) hsplit
   rwa [List.take_left] at h
  have hdrp : ∀ m : Nat,t.drop ((t.takeWhile idc).length + m) = (t.dropWhile idc).drop m:=by
   intro m
   rw [← List.drop_drop,hJ]
  generalize htkg : t.takeWhile idc = tk at *
  cases hdr : t.dropWhile idc with
  | nil =>
   rw [hdr] at hlen
   rw [if_pos (by simp at hlen;omega),spillwayref3_Parse.j2,if_pos rfl]
   rfl
  | cons c r' =>
   rw [hdr] at hlen hJ hdrp
   rw [List.length_cons] at hlen
   rw [if_neg (by omega),if_pos (by omega),if_pos (by omega)]
   have hbt : bt (ofL t) (tk.length : Int) = (c.toNat : Int):=by
    have hx : tk.length < t.length:=by omega
    have h1:=bt_list t tk.length hx
    have h2:=drop_cons t tk.length hx
    rw [hJ] at h2
    injection h2 with h3 _
    rw [h3]
    exact h1
   rw [hbt]
   by_cases hc : c = 61
   ·subst hc
    have hex : (ofL t).extract (tk.length + 1) t.length = ofL r':=by rw [ext_drop,hdrp 1];rfl
    have h61 : (((61 : UInt8).toNat : Int) != 61) = false:=rfl
    rw [h61,spillwayref3_Parse.j2,if_neg (by simp),wrap_succ tk.length (by omega),ofL_size,if_pos (by omega),if_pos (by omega),Int.toNat_natCast,hex]
    cases r' with
    | nil =>
     rw [quoted_nil (k + 1) (by omega),Option.bind_some,if_pos rfl]
     rfl
    | cons d r =>
     by_cases hd : d = 34
     ·subst hd
      rw [List.length_cons] at hlen
      have hq : spillwayref3_Quoted.f (k + 1) (ofL (34 :: r)) = some (quoO [] 1 r):=quoted_eq r (k + 1) (by rw [List.length_cons];omega) (by omega)
      rw [hq,Option.bind_some]
      unfold quoO
      cases hu : unq r with
      | none =>
       simp only [if_true,hu]
       rfl
      | some y =>
       obtain ⟨v,m⟩:=y
       obtain ⟨hm1,hm2⟩:=unq_le2 hu
       simp only [hu]
       by_cases h10 : (10 : UInt8) ∈ v
       ·simp only [if_pos h10,if_true]
        rfl
       rw [if_neg h10,if_neg h10]
       have hrest : t.drop (tk.length + 1 + (1 + m)) = r.drop m:=by
        rw [show tk.length + 1 + (1 + m) = tk.length + (m + 1 + 1) by omega,hdrp (m + 1 + 1),List.drop_succ_cons,List.drop_succ_cons]
       simp only []
       rw [if_neg (by omega),if_pos (by omega),if_pos (by omega),if_pos (by rw [List.length_map];omega),Option.bind_some,wrap_add (tk.length + 1) (1 + m) (by omega),if_pos (by omega),if_pos (by omega),Int.toNat_natCast,ext_drop,hrest,Int.toNat_natCast,ext_take,htake,List.nil_append]
       have hpair : (⟨ofL tk,⟨v.toArray⟩⟩ : S60) = ofPr (tk,v):=rfl
       have hmap : l.map ofPr ++ [ofPr (tk,v)] = (l ++ [(tk,v)]).map ofPr:=by rw [List.map_append];rfl
       have hrl : (r.drop m).length ≤ r.length:=by rw [List.length_drop];omega
       rw [hpair,hmap]
       generalize r.drop m = rest at hrl ⊢
       have hz2 : ∀ p ∈ l ++ [(tk,v)],p.1.length ≤ 600 ∧ p.2.length ≤ 600:=by
        intro p hp
        rcases List.mem_append.1 hp with hp|hp
        ·exact hz p hp
        rw [List.mem_singleton.1 hp]
        exact ⟨by show tk.length ≤ 600;omega,by show v.length ≤ 600;omega⟩
       have hj3t : ∀ X b,b = true → spillwayref3_Parse.j3 (k + 1) (ofL s) X (ofL rest) b = some ([],false):=fun X b hb=>by rw [spillwayref3_Parse.j3,if_pos hb]
       rw [toList_list]
       by_cases hr0 : rest = []
       ·rw [if_pos hr0,hj3t _ _ rfl,if_pos (.inl hr0)]
        rfl
       rw [if_neg hr0]
       obtain ⟨e,rr,rfl⟩:=List.exists_cons_of_ne_nil hr0
       have hb0 : bt (ofL (e :: rr)) 0 = (e.toNat : Int):=bt_list (e :: rr) 0 (by simp)
       rw [List.length_cons] at hrl
       have hgo : (e :: rr) ≠ [44,125] → ((e :: rr) = [125] ∨ e = 44) → spillwayref3_Parse.j3 (k + 1) (ofL s) ((l ++ [(tk,v)]).map ofPr) (ofL (e :: rr)) ((e :: rr) == [44,125]) = some (finR s (loopR K (trimC (e :: rr)) (l ++ [(tk,v)]))):=by
        intro h1 h2
        rw [beq_eq_false_iff_ne.2 h1,spillwayref3_Parse.j3,if_neg (by simp),ofL_size,if_pos (by rw [List.length_cons];omega),hb0,trimC]
        by_cases h44 : e = 44
        ·rw [if_pos (show (e.toNat : Int) = 44 from eq_int e 44 (by omega) h44),if_pos (by rw [List.length_cons];omega),if_pos h44]
         have he1 : (ofL (e :: rr)).extract 1 (e :: rr).length = ofL rr:=ext_drop (e :: rr) 1
         rw [he1]
         exact ih rr _ k K (by omega) (by omega) (by omega) (by omega) (by rw [List.length_append,List.length_singleton];omega) hz2
        rw [if_neg (show ¬ (e.toNat : Int) = 44 from ne_int e 44 (by omega) h44),if_neg h44]
        exact ih (e :: rr) _ k K (by rw [List.length_cons];omega) (by rw [List.length_cons];omega) (by omega) (by rw [List.length_cons];omega) (by rw [List.length_append,List.length_singleton,List.length_cons];omega) hz2
       by_cases h125' : (e :: rr) = [125]
       ·rw [if_pos h125',if_neg (by rw [h125'];simp)]
        exact hgo (by rw [h125'];simp) (.inl h125')
       rw [if_neg h125',ofL_size,if_pos (by rw [List.length_cons];omega),hb0]
       by_cases h44 : e = 44
       ·rw [if_pos (show (e.toNat : Int) = 44 from eq_int e 44 (by omega) h44)]
        by_cases hlast : (e :: rr) = [44,125]
        ·rw [hj3t _ _ (by rw [hlast];rfl),if_pos (.inr (.inr hlast))]
         rfl
        rw [if_neg (by
         rintro (h|h|h)
         ·cases h
         ·exact h.2 (by rw [h44];rfl)
         exact hlast h)]
        exact hgo hlast (.inr h44)
       rw [if_neg (show ¬ (e.toNat : Int) = 44 from ne_int e 44 (by omega) h44),hj3t _ _ rfl,if_pos (.inr (.inl ⟨h125',by simpa using h44⟩))]
       rfl
     rw [quoted_other d r hd (k + 1) (by omega),Option.bind_some,if_pos rfl]
     split
     ·rename_i heq
      injection heq with _ h2
      injection h2 with h3 _
      exact absurd h3 hd
     rfl
   rw [show ((c.toNat : Int) != 61) = true from bne_iff_ne.2 (ne_int c 61 (by omega) hc),spillwayref3_Parse.j2,if_pos rfl]
   split
   ·rename_i heq
    injection heq with h2 _
    exact absurd h2 hc
   rfl
/-- The document's Parse of a label set. -/
theorem rparse_eq (s : List UInt8) (hs : s.length ≤ 500) (k : Nat) (hk : 3000 < k) : spillwayref3_Parse.f k (ofL s) = some (match parseR s with|some ps=>(ps.map ofPr,true)|none=>([],false)):=by
 have hfin : ∀ o,finR s o = (match (match o with|some l=>if isS (sortP l) ∧ printL (sortP l) = s then some (sortP l) else none|none=>none) with|some ps=>(ps.map ofPr,true)|none=>([],false)):=by
  intro o
  cases o with
  | none=>rfl
  | some l =>
   unfold finR
   simp only []
   split
   ·rfl
   rfl
 have hgoal : spillwayref3_Parse.f k (ofL s) = some (finR s (readR s)):=by
  unfold spillwayref3_Parse.f readR
  rw [rident_eq s (by omega) k (by omega),Option.bind_some,ofL_size]
  have hsplit:=take_dropW idc s
  have hlen : (s.takeWhile idc).length + (s.dropWhile idc).length = s.length:=by rw [← List.length_append,← hsplit]
  have hJ : s.drop (s.takeWhile idc).length = s.dropWhile idc:=by
   have h:=congrArg (List.drop (s.takeWhile idc).length) hsplit
   rwa [List.drop_left] at h
  have htake : s.take (s.takeWhile idc).length = s.takeWhile idc:=by
   have h:=congrArg (List.take (s.takeWhile idc).length) hsplit
   rwa [List.take_left] at h
  obtain ⟨k,rfl⟩ : ∃ m,k = m + 1:=⟨k - 1,by omega⟩
  have core : ∀ l : List Pr,l.length ≤ 1 → (∀ p ∈ l,p.1.length ≤ 600 ∧ p.2.length ≤ 600) → spillwayref3_Parse.j0 (k + 1) (ofL s) (l.map ofPr) (((s.takeWhile idc).length : Nat) : Int) = some (finR s (match s.dropWhile idc with|[]=>some l|c :: t=>if c = 123 then loopR (s.length + 1) t l else none)):=by
   intro l hl hz
   rw [spillwayref3_Parse.j0,ofL_size,if_pos (by omega),if_pos (by omega),Int.toNat_natCast,ext_drop,hJ,toList_list]
   cases hdr : s.dropWhile idc with
   | nil =>
    rw [if_pos rfl]
    exact rparse_end s l (by omega) (fun p hp=>by have:=hz p hp;omega) k (by omega)
   | cons c t =>
    rw [hdr,List.length_cons] at hlen
    have hb0 : bt (ofL (c :: t)) 0 = (c.toNat : Int):=bt_list (c :: t) 0 (by simp)
    rw [if_neg (by simp),ofL_size,if_pos (by rw [List.length_cons];omega),hb0]
    simp only []
    by_cases hc : c = 123
    ·rw [if_pos (show (c.toNat : Int) = 123 from eq_int c 123 (by omega) hc),if_pos (by rw [List.length_cons];omega),if_pos hc]
     have he1 : (ofL (c :: t)).extract 1 (c :: t).length = ofL t:=ext_drop (c :: t) 1
     rw [he1]
     exact rparse_loop s 500 t l k (s.length + 1) (by omega) (by omega) (by omega) (by omega) (by omega) hz
    rw [if_neg (show ¬ (c.toNat : Int) = 123 from ne_int c 123 (by omega) hc),if_neg hc]
    rfl
  by_cases htk : s.takeWhile idc = []
  ·have h:=core [] (by simp) (by simp)
   unfold startL
   rw [htk] at h ⊢
   rw [if_neg (show ¬ ((([] : List UInt8).length : Nat) : Int) > 0 by simp)]
   simp only [if_true]
   exact h
  have htp : 0 < (s.takeWhile idc).length:=List.length_pos_iff.2 htk
  have h:=core [(NL,s.takeWhile idc)] (by simp) (by
   intro p hp
   rw [List.mem_singleton.1 hp]
   exact ⟨by show NL.length ≤ 600;decide,by show (s.takeWhile idc).length ≤ 600;omega⟩)
  have hst : startL (s.takeWhile idc) = [(NL,s.takeWhile idc)]:=by unfold startL;rw [if_neg htk]
  rw [if_pos (by omega),if_pos (by omega),if_pos (by omega),if_pos (by simp),List.nil_append,Int.toNat_natCast,ext_take,htake,hst]
  exact h
 rw [hgoal,hfin]
 rfl
end Go.Proofs.YtfgffjchphignaaGreatDoor.PureN
end
section
namespace Go.Proofs.YtfgffjchphignaaGreatDoor.Print
open Go.RowKit Go.Proofs.YtfgffjchphignaaGreatDoorX Go.Proofs.YtfgffjchphignaaGreatDoorW.PrintWords Go.Proofs.YtfgffjchphignaaGreatDoorW.PrintLast Go.Proofs.YtfgffjchphignaaGreatDoorW.PrintMore
/-! ### spillwayref6_Words: function 28 -/
mutual
def spillwayref6_Words.l0 : Nat → ByteArray → List ByteArray → Int → Bool → Int → Option (List ByteArray)
 | 0,_,_,_,_,_=>none
 | k + 1,x0,x3,x4,x5,x6=>if x6 < (x0.size : Int) then (if 0 ≤ x6 then (if (bt x0 x6) = 34 then (spillwayref6_Words.l0 k x0 x3 x4 (!x5) (wrap64 (x6 + 1))) else (if (bt x0 x6) = 92 then (spillwayref6_Words.j1 k x0 x3 x4 x5 x6 x5) else (spillwayref6_Words.j1 k x0 x3 x4 x5 x6 false))) else (none)) else (if 0 ≤ x4 then (if x4 ≤ (x0.size : Int) then (if x3.length < 8796093022208 then (some (x3 ++ [x0.extract (x4 : Int).toNat x0.size])) else (none)) else (none)) else (none))
def spillwayref6_Words.j1 : Nat → ByteArray → List ByteArray → Int → Bool → Int → Bool → Option (List ByteArray)
 | 0,_,_,_,_,_,_=>none
 | k + 1,x0,x3,x4,x5,x6,x20=>if x20 = true then (spillwayref6_Words.l0 k x0 x3 x4 x5 (wrap64 ((wrap64 (x6 + 1)) + 1))) else (if 0 ≤ x6 then (if x6 < (x0.size : Int) then (if (bt x0 x6) = 32 then (if x5 = true then (spillwayref6_Words.l0 k x0 x3 x4 x5 (wrap64 (x6 + 1))) else (if 0 ≤ x4 then (if x4 ≤ x6 then (if x6 ≤ (x0.size : Int) then (if x3.length < 8796093022208 then (spillwayref6_Words.l0 k x0 (x3 ++ [x0.extract (x4 : Int).toNat (x6 : Int).toNat]) (wrap64 (x6 + 1)) x5 (wrap64 (x6 + 1))) else (none)) else (none)) else (none)) else (none))) else (spillwayref6_Words.l0 k x0 x3 x4 x5 (wrap64 (x6 + 1)))) else (none)) else (none))
end
def spillwayref6_Words.f (k : Nat) (a0 : ByteArray) : Option (List ByteArray):=spillwayref6_Words.l0 k a0 ([] : List ByteArray) 0 false 0
set_option maxHeartbeats 8000000 in
set_option maxRecDepth 100000 in
theorem spillwayref6_Words.calls (k : Nat) (a0 : ByteArray) (r : List ByteArray) (w : World) (h : spillwayref6_Words.f k a0 = some r) :
  Calls Tryz.prog 28 #[.string a0] w fun e w'=>∃ v0_ : Value,e = .returned (v0_) ∧ Kd.R Kd.string 9 w' w.heap.size (fun _=>True) v0_ r ∧ Below w.heap.size w w':=by
 have HB:=Aside0.mk (Below.refl w.heap.size w)
 have H : (spillwayref6_Words.l0 k a0 ([] : List ByteArray) 0 false 0) = some r:=h
 clear h
 have H':=Aside0.mk H
 clear H
 go_enter Tryz.func28,Tryz.ntmps28
 go_wp2
 go_loopg [3,4,5,6] k (fun kq v3 v4 v5 v6 w'=>∃ (x3_1 : List ByteArray) (x4_1 : Int) (x5_1 : Bool) (x6_1 : Int),v4 = .int .i64 x4_1 ∧ v5 = .bool x5_1 ∧ v6 = .int .i64 x6_1 ∧ Aside0 (spillwayref6_Words.l0 kq a0 x3_1 x4_1 x5_1 x6_1 = some r) ∧ Aside0 (kq ≤ k) ∧ Aside0 (Kd.R Kd.string 9 w' w.heap.size (fun _=>True) v3 x3_1) ∧ Aside0 (Below w.heap.size w w'))
 case atStart=>exact ⟨(([] : List ByteArray)),(0),(false),(0),(by first|rfl|(simp;done)|(simp [*];done)),(by first|rfl|(simp;done)|(simp [*];done)),(by first|rfl|(simp;done)|(simp [*];done)),H',⟨Nat.le_refl _⟩,⟨by first|exact Kd.R_nil _ _ _ _ _|exact Kd.N_nil _ _ _ _ _|exact Kd.V_nil _ _ _ _ _|exact Kd.Q_nil _ _ _ _ _|exact Kd.S_nil _ _ _ _ _⟩,⟨by repeat (first|(with_reducible first|exact HB.out|apply below_alloc|apply pw_below_drewN|apply below_drew1)|exact HB.out)⟩⟩
 clear H'
 obtain ⟨x3_1,x4_1,x5_1,x6_1,rfl,rfl,rfl,HA,HK1,HO_3,HB⟩:=hrel
 cases gk with
 | zero=>exact absurd HA.out (by simp [spillwayref6_Words.l0])
 | succ k1 =>
  have H:=HA.out
  clear HA
  simp only [spillwayref6_Words.l0] at H
  by_cases c2 : x6_1 < (a0.size : Int)
  ·rw [if_pos c2] at H
   have c2b0 : decide (x6_1 < (a0.size : Int)) = true:=decide_eq_true c2
   clear c2
   by_cases c3 : 0 ≤ x6_1
   ·rw [if_pos c3] at H
    have c3b0 : decide (0 ≤ x6_1) = true:=decide_eq_true c3
    clear c3
    by_cases c5 : (bt a0 x6_1) = 34
    ·rw [if_pos c5] at H
     have c5b0 : ((bt a0 x6_1) == 34) = true:=beq_iff_eq.mpr c5
     have c5b1 : ((bt a0 x6_1) != 34) = false:=bne_eq_false_iff_eq.mpr c5
     clear c5
     have H':=Aside0.mk H
     clear H
     have p4 : 0 ≤ (x6_1 : Int):=of_decide_eq_true (by first|(with_reducible assumption)|assumption)
     have q4 : x6_1 < (a0.size : Int):=of_decide_eq_true (by first|(with_reducible assumption)|assumption)
     have hx4:=bt_at a0 x6_1
     replace p4:=eq_true p4
     replace q4:=eq_true q4
     go_wp2
     go_roundg k1
     case measure=>have:=HK1.out;omega
     case rel=>exact ⟨(x3_1),(x4_1),(!x5_1),(wrap64 (x6_1 + 1)),(by first|rfl|(simp;done)|(simp [*];done)),(by first|rfl|(simp;done)|(simp [*];done)),(by first|rfl|(simp;done)|(simp [*];done)),H',⟨by have:=HK1.out;omega⟩,⟨by (with_reducible repeat (first|apply Kd.R_alloc|apply Kd.R_drewN|apply Kd.R_drew));exact HO_3.out⟩,⟨by repeat (first|(with_reducible first|exact HB.out|apply below_alloc|apply pw_below_drewN|apply below_drew1)|exact HB.out)⟩⟩
    rw [if_neg c5] at H
    have c5b0 : ((bt a0 x6_1) == 34) = false:=beq_eq_false_iff_ne.mpr c5
    have c5b1 : ((bt a0 x6_1) != 34) = true:=bne_iff_ne.mpr c5
    have HC6:=Aside0.mk H
    clear H
    have p4 : 0 ≤ (x6_1 : Int):=of_decide_eq_true (by first|(with_reducible assumption)|assumption)
    have q4 : x6_1 < (a0.size : Int):=of_decide_eq_true (by first|(with_reducible assumption)|assumption)
    have hx4:=bt_at a0 x6_1
    replace p4:=eq_true p4
    replace q4:=eq_true q4
    go_upto_region 8 with (fail)
    go_cut [20] (fun v20 wc=>∃ (kq : Nat) (x20_5 : Bool),v20 = .bool x20_5 ∧ Aside0 (spillwayref6_Words.j1 kq a0 x3_1 x4_1 x5_1 x6_1 x20_5 = some r) ∧ Aside0 (kq ≤ k1) ∧ Aside0 (Kd.R Kd.string 9 wc w.heap.size (fun _=>True) u3 x3_1) ∧ Aside0 (Below w.heap.size w wc))
    case first =>
     have H:=HC6.out
     clear HC6
     by_cases c8 : (bt a0 x6_1) = 92
     ·rw [if_pos c8] at H
      have c8b0 : ((bt a0 x6_1) == 92) = true:=beq_iff_eq.mpr c8
      have c8b1 : ((bt a0 x6_1) != 92) = false:=bne_eq_false_iff_eq.mpr c8
      clear c8
      (first|rw [c8b0]|(simp only [i64_w,i32_w];rw [c8b0])|skip)
      have H':=Aside0.mk H
      clear H
      have p7 : 0 ≤ (x6_1 : Int):=of_decide_eq_true (by first|(with_reducible assumption)|assumption)
      have q7 : x6_1 < (a0.size : Int):=of_decide_eq_true (by first|(with_reducible assumption)|assumption)
      have hx7:=bt_at a0 x6_1
      replace p7:=eq_true p7
      replace q7:=eq_true q7
      go_wp2
      go_meet
      case rel=>exact ⟨_,(x5_1),(by first|rfl|(simp;done)|(simp [*];done)),H',⟨by have:=HK1.out;first|omega|exact Nat.le_refl _⟩,⟨by (with_reducible repeat (first|apply Kd.R_alloc|apply Kd.R_drewN|apply Kd.R_drew));exact HO_3.out⟩,⟨by repeat (first|(with_reducible first|exact HB.out|apply below_alloc|apply pw_below_drewN|apply below_drew1)|exact HB.out)⟩⟩
     rw [if_neg c8] at H
     have c8b0 : ((bt a0 x6_1) == 92) = false:=beq_eq_false_iff_ne.mpr c8
     have c8b1 : ((bt a0 x6_1) != 92) = true:=bne_iff_ne.mpr c8
     (first|rw [c8b0]|(simp only [i64_w,i32_w];rw [c8b0])|skip)
     have H':=Aside0.mk H
     clear H
     have p7 : 0 ≤ (x6_1 : Int):=of_decide_eq_true (by first|(with_reducible assumption)|assumption)
     have q7 : x6_1 < (a0.size : Int):=of_decide_eq_true (by first|(with_reducible assumption)|assumption)
     have hx7:=bt_at a0 x6_1
     replace p7:=eq_true p7
     replace q7:=eq_true q7
     go_wp2
     go_meet
     case rel=>exact ⟨_,(false),(by first|rfl|(simp;done)|(simp [*];done)),H',⟨by have:=HK1.out;first|omega|exact Nat.le_refl _⟩,⟨by (with_reducible repeat (first|apply Kd.R_alloc|apply Kd.R_drewN|apply Kd.R_drew));exact HO_3.out⟩,⟨by repeat (first|(with_reducible first|exact HB.out|apply below_alloc|apply pw_below_drewN|apply below_drew1)|exact HB.out)⟩⟩
    clear HC6
    try clear c2
    try clear c2b0
    try clear p2
    try clear c3
    try clear c3b0
    try clear p4
    try clear q4
    try clear hx4
    try clear c5
    try clear c5b0
    try clear c5b1
    try clear p6
    try clear p7
    try clear q7
    try clear hx7
    try clear c8
    try clear c8b0
    try clear c8b1
    try clear p4
    try clear p7
    try clear q4
    try clear q7
    obtain ⟨kq,x20_5,rfl,HA,HJ5,HO_3,HB⟩:=hcut
    cases kq with
    | zero=>exact absurd HA.out (by simp [spillwayref6_Words.j1])
    | succ kj5 =>
     have H:=HA.out
     clear HA
     simp only [spillwayref6_Words.j1] at H
     by_cases c9 : x20_5 = true
     ·subst c9
      have H1 : (spillwayref6_Words.l0 kj5 a0 x3_1 x4_1 x5_1 (wrap64 ((wrap64 (x6_1 + 1)) + 1))) = some r:=by rw [if_pos rfl] at H;exact H
      clear H
      have H:=H1
      clear H1
      have H':=Aside0.mk H
      clear H
      go_wp2
      go_roundg kj5
      case measure=>have:=HK1.out;have:=HJ5.out;omega
      case rel=>exact ⟨(x3_1),(x4_1),(x5_1),(wrap64 ((wrap64 (x6_1 + 1)) + 1)),(by first|rfl|(simp;done)|(simp [*];done)),(by first|rfl|(simp;done)|(simp [*];done)),(by first|rfl|(simp;done)|(simp [*];done)),H',⟨by have:=HK1.out;have:=HJ5.out;omega⟩,⟨by (with_reducible repeat (first|apply Kd.R_alloc|apply Kd.R_drewN|apply Kd.R_drew));exact HO_3.out⟩,⟨by repeat (first|(with_reducible first|exact HB.out|apply below_alloc|apply pw_below_drewN|apply below_drew1)|exact HB.out)⟩⟩
     replace c9:=Bool.eq_false_iff.mpr c9
     subst c9
     have H1 : (if 0 ≤ x6_1 then (if x6_1 < (a0.size : Int) then (if (bt a0 x6_1) = 32 then (if x5_1 = true then (spillwayref6_Words.l0 kj5 a0 x3_1 x4_1 x5_1 (wrap64 (x6_1 + 1))) else (if 0 ≤ x4_1 then (if x4_1 ≤ x6_1 then (if x6_1 ≤ (a0.size : Int) then (if x3_1.length < 8796093022208 then (spillwayref6_Words.l0 kj5 a0 (x3_1 ++ [a0.extract (x4_1 : Int).toNat (x6_1 : Int).toNat]) (wrap64 (x6_1 + 1)) x5_1 (wrap64 (x6_1 + 1))) else (none)) else (none)) else (none)) else (none))) else (spillwayref6_Words.l0 kj5 a0 x3_1 x4_1 x5_1 (wrap64 (x6_1 + 1)))) else (none)) else (none)) = some r:=by rw [if_neg (show ¬ (false = true) by decide)] at H;exact H
     clear H
     have H:=H1
     clear H1
     by_cases c10 : 0 ≤ x6_1
     ·rw [if_pos c10] at H
      have c10b0 : decide (0 ≤ x6_1) = true:=decide_eq_true c10
      clear c10
      by_cases c11 : x6_1 < (a0.size : Int)
      ·rw [if_pos c11] at H
       have c11b0 : decide (x6_1 < (a0.size : Int)) = true:=decide_eq_true c11
       clear c11
       by_cases c13 : (bt a0 x6_1) = 32
       ·rw [if_pos c13] at H
        have c13b0 : ((bt a0 x6_1) == 32) = true:=beq_iff_eq.mpr c13
        have c13b1 : ((bt a0 x6_1) != 32) = false:=bne_eq_false_iff_eq.mpr c13
        clear c13
        by_cases c14 : x5_1 = true
        ·subst c14
         have H1 : (spillwayref6_Words.l0 kj5 a0 x3_1 x4_1 true (wrap64 (x6_1 + 1))) = some r:=by rw [if_pos rfl] at H;exact H
         clear H
         have H:=H1
         clear H1
         have H':=Aside0.mk H
         clear H
         have p12 : 0 ≤ (x6_1 : Int):=of_decide_eq_true (by first|(with_reducible assumption)|assumption)
         have q12 : x6_1 < (a0.size : Int):=of_decide_eq_true (by first|(with_reducible assumption)|assumption)
         have hx12:=bt_at a0 x6_1
         replace p12:=eq_true p12
         replace q12:=eq_true q12
         go_wp2
         go_roundg kj5
         case measure=>have:=HK1.out;have:=HJ5.out;omega
         case rel=>exact ⟨(x3_1),(x4_1),(true),(wrap64 (x6_1 + 1)),(by first|rfl|(simp;done)|(simp [*];done)),(by first|rfl|(simp;done)|(simp [*];done)),(by first|rfl|(simp;done)|(simp [*];done)),H',⟨by have:=HK1.out;have:=HJ5.out;omega⟩,⟨by (with_reducible repeat (first|apply Kd.R_alloc|apply Kd.R_drewN|apply Kd.R_drew));exact HO_3.out⟩,⟨by repeat (first|(with_reducible first|exact HB.out|apply below_alloc|apply pw_below_drewN|apply below_drew1)|exact HB.out)⟩⟩
        replace c14:=Bool.eq_false_iff.mpr c14
        subst c14
        have H1 : (if 0 ≤ x4_1 then (if x4_1 ≤ x6_1 then (if x6_1 ≤ (a0.size : Int) then (if x3_1.length < 8796093022208 then (spillwayref6_Words.l0 kj5 a0 (x3_1 ++ [a0.extract (x4_1 : Int).toNat (x6_1 : Int).toNat]) (wrap64 (x6_1 + 1)) false (wrap64 (x6_1 + 1))) else (none)) else (none)) else (none)) else (none)) = some r:=by rw [if_neg (show ¬ (false = true) by decide)] at H;exact H
        clear H
        have H:=H1
        clear H1
        by_cases c15 : 0 ≤ x4_1
        ·rw [if_pos c15] at H
         have c15b0:=eq_true c15
         have c15b1 : decide (0 ≤ x4_1) = true:=decide_eq_true c15
         clear c15
         by_cases c16 : x4_1 ≤ x6_1
         ·rw [if_pos c16] at H
          have c16b0:=eq_true c16
          have c16b1 : decide (x4_1 ≤ x6_1) = true:=decide_eq_true c16
          clear c16
          by_cases c17 : x6_1 ≤ (a0.size : Int)
          ·rw [if_pos c17] at H
           have c17b0:=eq_true c17
           have c17b1 : decide (x6_1 ≤ (a0.size : Int)) = true:=decide_eq_true c17
           clear c17
           by_cases c18 : x3_1.length < 8796093022208
           ·rw [if_pos c18] at H
            have LMc18:=Aside0.mk c18
            clear c18
            obtain ⟨y207,hy207⟩ : ∃ y_ : List ByteArray,y_ = (x3_1 ++ [a0.extract (x4_1 : Int).toNat (x6_1 : Int).toNat]):=⟨_,rfl⟩
            replace H : (spillwayref6_Words.l0 kj5 a0 y207 (wrap64 (x6_1 + 1)) false (wrap64 (x6_1 + 1))) = some r:=by first|(rw [hy207];with_reducible exact H)|(have H2_:=(Option.bind_some _ _).symm.trans H;rw [hy207];with_reducible exact H2_)|(have H2_:=(Option.bind_some _ _).symm.trans H;with_reducible exact H2_)|with_reducible exact H|(rw [hy207];exact H)|exact H
            have Ny207:=Aside0.mk hy207
            clear hy207
            have H':=Aside0.mk H
            clear H
            have p12 : 0 ≤ (x6_1 : Int):=of_decide_eq_true (by first|(with_reducible assumption)|assumption)
            have q12 : x6_1 < (a0.size : Int):=of_decide_eq_true (by first|(with_reducible assumption)|assumption)
            have hx12:=bt_at a0 x6_1
            replace p12:=eq_true p12
            replace q12:=eq_true q12
            go_wp2_with (first|((with_reducible refine gate_builtin (b:=.append) (xs:=#[.tmp 39,.tmp 44]) rfl ?_);at_builtin;refine Kd.R_append Kd.string (w0:=w) w.heap.size rfl (.tmp 39) (.tmp 44) 45 9 (.string ⟨#[]⟩) 16 rfl Tryz.underlying45 info9 rfl (by decide) (by omega) u3 x3_1 (a0.extract (x4_1 : Int).toNat (x6_1 : Int).toNat) [.string (a0.extract (x4_1 : Int).toNat (x6_1 : Int).toNat)] (fun _=>True) (fun _=>False) rfl rfl ?aP (fun _ hk=>hk.elim) ?aF ?aO ?aB ?aS ?aL ?_;(case aP=>exact rfl);(case aB=>exact (by repeat (first|(with_reducible first|exact HB.out|apply below_alloc|apply pw_below_drewN|apply below_drew1)|exact HB.out)));(case aF=>exact (fun _ _=>trivial));(case aO=>exact (by (with_reducible repeat (first|apply Kd.R_alloc|apply Kd.R_drewN|apply Kd.R_drew));exact HO_3.out));(case aS=>exact (below_size (by repeat (first|(with_reducible first|exact HB.out|apply below_alloc|apply pw_below_drewN|apply below_drew1)|exact HB.out))));(case aL=>have:=LMc18.out;omega);intro v208 w19 ho hb hg hat;rw [← Ny207.out] at ho;have n0_:=Aside0.mk (hb);have n1_:=Aside0.mk (ho);clear HB;clear HO_3;have HB:=n0_;have HO209:=n1_;clear n0_ n1_;clear ho hb hg hat))
            go_roundg kj5
            case measure=>have:=HK1.out;have:=HJ5.out;omega
            case rel=>exact ⟨(y207),(wrap64 (x6_1 + 1)),(false),(wrap64 (x6_1 + 1)),(by first|rfl|(simp;done)|(simp [*];done)),(by first|rfl|(simp;done)|(simp [*];done)),(by first|rfl|(simp;done)|(simp [*];done)),H',⟨by have:=HK1.out;have:=HJ5.out;omega⟩,⟨by (with_reducible repeat (first|apply Kd.R_alloc|apply Kd.R_drewN|apply Kd.R_drew));exact HO209.out⟩,⟨by repeat (first|(with_reducible first|exact HB.out|apply below_alloc|apply pw_below_drewN|apply below_drew1)|exact HB.out)⟩⟩
           rw [if_neg c18] at H
           exact absurd H (by simp)
          rw [if_neg c17] at H
          exact absurd H (by simp)
         rw [if_neg c16] at H
         exact absurd H (by simp)
        rw [if_neg c15] at H
        exact absurd H (by simp)
       rw [if_neg c13] at H
       have c13b0 : ((bt a0 x6_1) == 32) = false:=beq_eq_false_iff_ne.mpr c13
       have c13b1 : ((bt a0 x6_1) != 32) = true:=bne_iff_ne.mpr c13
       have H':=Aside0.mk H
       clear H
       have p12 : 0 ≤ (x6_1 : Int):=of_decide_eq_true (by first|(with_reducible assumption)|assumption)
       have q12 : x6_1 < (a0.size : Int):=of_decide_eq_true (by first|(with_reducible assumption)|assumption)
       have hx12:=bt_at a0 x6_1
       replace p12:=eq_true p12
       replace q12:=eq_true q12
       go_wp2
       go_roundg kj5
       case measure=>have:=HK1.out;have:=HJ5.out;omega
       case rel=>exact ⟨(x3_1),(x4_1),(x5_1),(wrap64 (x6_1 + 1)),(by first|rfl|(simp;done)|(simp [*];done)),(by first|rfl|(simp;done)|(simp [*];done)),(by first|rfl|(simp;done)|(simp [*];done)),H',⟨by have:=HK1.out;have:=HJ5.out;omega⟩,⟨by (with_reducible repeat (first|apply Kd.R_alloc|apply Kd.R_drewN|apply Kd.R_drew));exact HO_3.out⟩,⟨by repeat (first|(with_reducible first|exact HB.out|apply below_alloc|apply pw_below_drewN|apply below_drew1)|exact HB.out)⟩⟩
      rw [if_neg c11] at H
      exact absurd H (by simp)
     rw [if_neg c10] at H
     exact absurd H (by simp)
   rw [if_neg c3] at H
   exact absurd H (by simp)
  rw [if_neg c2] at H
  have c2b0 : decide (x6_1 < (a0.size : Int)) = false:=decide_eq_false c2
  clear c2
  by_cases c20 : 0 ≤ x4_1
  ·rw [if_pos c20] at H
   have c20b0:=eq_true c20
   have c20b1 : decide (0 ≤ x4_1) = true:=decide_eq_true c20
   clear c20
   by_cases c21 : x4_1 ≤ (a0.size : Int)
   ·rw [if_pos c21] at H
    have c21b0:=eq_true c21
    have c21b1 : decide (x4_1 ≤ (a0.size : Int)) = true:=decide_eq_true c21
    clear c21
    by_cases c22 : x3_1.length < 8796093022208
    ·rw [if_pos c22] at H
     have LMc22:=Aside0.mk c22
     clear c22
     obtain ⟨y204,hy204⟩ : ∃ y_ : List ByteArray,y_ = (x3_1 ++ [a0.extract (x4_1 : Int).toNat a0.size]):=⟨_,rfl⟩
     replace H : (some y204) = some r:=by first|(rw [hy204];with_reducible exact H)|(have H2_:=(Option.bind_some _ _).symm.trans H;rw [hy204];with_reducible exact H2_)|(have H2_:=(Option.bind_some _ _).symm.trans H;with_reducible exact H2_)|with_reducible exact H|(rw [hy204];exact H)|exact H
     have Ny204:=Aside0.mk hy204
     clear hy204
     obtain rfl:=Option.some.inj H
     go_wp2_with (first|((with_reducible refine gate_builtin (b:=.append) (xs:=#[.tmp 48,.tmp 52]) rfl ?_);at_builtin;refine Kd.R_append Kd.string (w0:=w) w.heap.size rfl (.tmp 48) (.tmp 52) 45 9 (.string ⟨#[]⟩) 16 rfl Tryz.underlying45 info9 rfl (by decide) (by omega) u3 x3_1 (a0.extract (x4_1 : Int).toNat a0.size) [.string (a0.extract (x4_1 : Int).toNat a0.size)] (fun _=>True) (fun _=>False) rfl rfl ?aP (fun _ hk=>hk.elim) ?aF ?aO ?aB ?aS ?aL ?_;(case aP=>exact rfl);(case aB=>exact (by repeat (first|(with_reducible first|exact HB.out|apply below_alloc|apply pw_below_drewN|apply below_drew1)|exact HB.out)));(case aF=>exact (fun _ _=>trivial));(case aO=>exact (by (with_reducible repeat (first|apply Kd.R_alloc|apply Kd.R_drewN|apply Kd.R_drew));exact HO_3.out));(case aS=>exact (below_size (by repeat (first|(with_reducible first|exact HB.out|apply below_alloc|apply pw_below_drewN|apply below_drew1)|exact HB.out))));(case aL=>have:=LMc22.out;omega);intro v205 w23 ho hb hg hat;rw [← Ny204.out] at ho;have n0_:=Aside0.mk (hb);have n1_:=Aside0.mk (ho);clear HB;clear HO_3;have HB:=n0_;have HO206:=n1_;clear n0_ n1_;clear ho hb hg hat))
     go_ret
     exact ⟨_,by first|rfl|(simp [errW_none,errW_some] <;> rfl)|(simp [*,errW_none,errW_some] <;> rfl),by (with_reducible repeat (first|apply Kd.R_alloc|apply Kd.R_drewN|apply Kd.R_drew));exact HO206.out,by repeat (first|(with_reducible first|exact HB.out|apply below_alloc|apply pw_below_drewN|apply below_drew1)|exact HB.out)⟩
    rw [if_neg c22] at H
    exact absurd H (by simp)
   rw [if_neg c21] at H
   exact absurd H (by simp)
  rw [if_neg c20] at H
  exact absurd H (by simp)
end Go.Proofs.YtfgffjchphignaaGreatDoor.Print
end
section
namespace Go.Proofs.YtfgffjchphignaaGreatDoor.PureN
open Go.RowKit Go.Proofs.YtfgffjchphignaaGreatDoor.Print
open Go.Proofs.YtfgffjchphignaaGreatDoorX Go.Proofs.YtfgffjchphignaaGreatDoorW.PrintWords Go.Proofs.YtfgffjchphignaaGreatDoorW.PrintLast Go.Proofs.YtfgffjchphignaaGreatDoorW.PrintMore
/-! The document's words of a line. -/
theorem rwords_loop (s : ByteArray) (hs : s.size ≤ 10000) (n : Nat) : ∀ (x a k : Nat) (q : Bool) (parts : List ByteArray),s.size ≤ x + n → 2 * n + 2 < k → a ≤ x → a ≤ s.size → parts.length ≤ x →
  x ≤ 20000 → spillwayref6_Words.l0 k s parts (a : Int) q (x : Int) = some (parts ++ (wordsS q ((s.data.toList.drop a).take (x - a)) (s.data.toList.drop x)).map ofL):=by
 have hlen : s.data.toList.length = s.size:=Array.length_toList
 have hend : ∀ (x a k : Nat) (q : Bool) (parts : List ByteArray),s.size ≤ x → 0 < k → a ≤ x → a ≤ s.size → parts.length ≤ 200000 →
   spillwayref6_Words.l0 k s parts (a : Int) q (x : Int) = some (parts ++ (wordsS q ((s.data.toList.drop a).take (x - a)) (s.data.toList.drop x)).map ofL):=by
  intro x a k q parts h hk ha has hp
  obtain ⟨k,rfl⟩ : ∃ m,k = m + 1:=⟨k - 1,by omega⟩
  rw [spillwayref6_Words.l0,if_neg (by omega),if_pos (by omega),if_pos (by omega),if_pos (by omega)]
  rw [List.drop_eq_nil_of_le (show s.data.toList.length ≤ x by omega),Int.toNat_natCast,extract_ofL s a s.size (Nat.le_refl _)]
  have e : (s.data.toList.drop a).take (x - a) = (s.data.toList.drop a).take (s.size - a):=by
   rw [List.take_of_length_le (by rw [List.length_drop];omega),List.take_of_length_le (by rw [List.length_drop];omega)]
  rw [e,wordsS]
  rfl
 induction n with
 | zero =>
  intro x a k q parts h hk ha has hp hx
  exact hend x a k q parts (by omega) (by omega) ha has (by omega)
 | succ n ih =>
  intro x a k q parts h hk ha has hp hx2
  by_cases hx : x < s.size
  ·obtain ⟨k,rfl⟩ : ∃ m,k = m + 2:=⟨k - 2,by omega⟩
   obtain ⟨c,hc,hd⟩:=bt_drop2 s x hx
   have hm:=take_more hd ha
   rw [hd]
   have e34 : ((c.toNat : Int) = 34) = (c = 34):=byte_is c 34 (by omega)
   have e32 : ((c.toNat : Int) = 32) = (c = 32):=byte_is c 32 (by omega)
   have n34 : c ≠ 34 → ¬ bt s (x : Int) = 34:=fun h e=>h (by rw [hc] at e;exact (toNat_is c 34 (by omega)).1 e)
   by_cases h1 : q = true ∧ c = 92
   ·obtain ⟨rfl,rfl⟩:=h1
    rw [spillwayref6_Words.l0,if_pos (by omega),if_pos (by omega),if_neg (n34 (by decide)),if_pos (by rw [hc];rfl),spillwayref6_Words.j1,if_pos rfl,wrap_succ x (by omega),wrap_succ (x + 1) (by omega),ih (x + 2) a k true parts (by omega) (by omega) (by omega) has (by omega) (by omega)]
    congr 2
    by_cases hx1 : x + 1 < s.size
    ·obtain ⟨d,hdc,hdd⟩:=bt_drop2 s (x + 1) hx1
     rw [hdd,words_esc,show x + 2 = x + 1 + 1 from rfl,take_more hdd (by omega),hm,List.append_assoc]
     rfl
    have h0 : s.data.toList.drop (x + 1) = []:=List.drop_eq_nil_of_le (by omega)
    have h00 : s.data.toList.drop (x + 2) = []:=List.drop_eq_nil_of_le (by omega)
    rw [h0,h00,wordsS]
    have hz : wordsS true ((s.data.toList.drop a).take (x - a)) [92] = [(s.data.toList.drop a).take (x - a) ++ [92]]:=by simp [wordsS]
    rw [hz,← hm,List.take_of_length_le (by rw [List.length_drop];omega),List.take_of_length_le (by rw [List.length_drop];omega)]
   by_cases h2 : c = 34
   ·rw [spillwayref6_Words.l0,if_pos (by omega),if_pos (by omega),if_pos (show bt s (x : Int) = 34 by rw [hc,h2];rfl),wrap_succ x (by omega),h2,words_34 q _ _ (by cases q <;> simp),ih (x + 1) a (k + 1) (!q) parts (by omega) (by omega) (by omega) has (by omega) (by omega),hm,h2]
   have hj : spillwayref6_Words.l0 (k + 1 + 1) s parts (a : Int) q (x : Int) = spillwayref6_Words.j1 (k + 1) s parts (a : Int) q (x : Int) false:=by
    rw [spillwayref6_Words.l0,if_pos (by omega),if_pos (by omega),if_neg (n34 h2)]
    by_cases h9 : c = 92
    ·rw [if_pos (show bt s (x : Int) = 92 by rw [hc,h9];rfl)]
     cases q with
     | false=>rfl
     | true=>exact absurd ⟨rfl,h9⟩ h1
    rw [if_neg (show ¬ bt s (x : Int) = 92 from fun e=>h9 (by rw [hc] at e;exact (toNat_is c 92 (by omega)).1 e))]
   rw [hj,spillwayref6_Words.j1,if_neg (by simp),if_pos (by omega),if_pos (by omega),hc,wrap_succ x (by omega)]
   simp only [e32]
   by_cases h3 : c = 32
   ·rw [if_pos h3]
    cases q with
    | true =>
     rw [if_pos rfl,ih (x + 1) a k true parts (by omega) (by omega) (by omega) has (by omega) (by omega),hm,words_ord true _ _ c h2 (fun _ e=>h1 ⟨rfl,e⟩) (by simp)]
    | false =>
     rw [if_neg (by simp),if_pos (by omega),if_pos (by omega),if_pos (by omega),if_pos (by omega),ih (x + 1) (x + 1) k false _ (by omega) (by omega) (Nat.le_refl _) (by omega) (by rw [List.length_append,List.length_singleton];omega) (by omega),h3,words_32,Nat.sub_self,List.take_zero]
     rw [Int.toNat_natCast,Int.toNat_natCast,extract_ofL s a x (by omega)]
     simp
   rw [if_neg h3,ih (x + 1) a k q parts (by omega) (by omega) (by omega) has (by omega) (by omega),hm,words_ord q _ _ c h2 (fun hq e=>h1 ⟨hq,e⟩) (fun _=>h3)]
  exact hend x a k q parts (by omega) (by omega) ha has (by omega)
theorem rwords_eq (s : ByteArray) (hs : s.size ≤ 10000) (k : Nat) (hk : 2 * s.size + 2 < k) : spillwayref6_Words.f k s = some ((wordsS false [] s.data.toList).map ofL):=by
 have:=rwords_loop s hs s.size 0 0 k false [] (by omega) hk (Nat.le_refl _) (by omega) (by simp) (by omega)
 rw [List.drop_zero,Nat.sub_self,List.take_zero,List.nil_append] at this
 exact this
end Go.Proofs.YtfgffjchphignaaGreatDoor.PureN
end
section
namespace Go.Proofs.YtfgffjchphignaaGreatDoor.Print
open Go.RowKit Go.Proofs.YtfgffjchphignaaGreatDoorX Go.Proofs.YtfgffjchphignaaGreatDoorW.PrintWords Go.Proofs.YtfgffjchphignaaGreatDoorW.PrintLast Go.Proofs.YtfgffjchphignaaGreatDoorW.PrintMore
/-! ### spillwayref2_digits: function 75 -/
def spillwayref2_digits.l0 : Nat → ByteArray → Int → Option (Int)
 | 0,_,_=>none
 | k + 1,x0,x3=>if x3 < (x0.size : Int) then (if 0 ≤ x3 then (if (bt x0 x3) ≥ 48 then (if (bt x0 x3) ≤ 57 then (spillwayref2_digits.l0 k x0 (wrap64 (x3 + 1))) else (some x3)) else (some x3)) else (none)) else (some x3)
def spillwayref2_digits.f (k : Nat) (a0 : ByteArray) : Option (Int):=spillwayref2_digits.l0 k a0 0
set_option maxHeartbeats 8000000 in
set_option maxRecDepth 100000 in
theorem spillwayref2_digits.calls (k : Nat) (a0 : ByteArray) (r : Int) (w : World) (h : spillwayref2_digits.f k a0 = some r) :
  Calls Tryz.prog 75 #[.string a0] w fun e w'=>e = .returned (.int .i64 r) ∧ Drawn0 w w':=by
 have H : (spillwayref2_digits.l0 k a0 0) = some r:=h
 clear h
 have H':=Aside0.mk H
 clear H
 go_enter Tryz.func75,Tryz.ntmps75
 go_wp2
 go_loopg [3] k (fun kq v3 w'=>∃ (x3_1 : Int),v3 = .int .i64 x3_1 ∧ Aside0 (spillwayref2_digits.l0 kq a0 x3_1 = some r) ∧ Aside0 (kq ≤ k) ∧ Drawn0 w w')
 case atStart=>exact ⟨(0),(by first|rfl|(simp;done)|(simp [*];done)),H',⟨Nat.le_refl _⟩,by repeat (first|exact Drawn0.refl _|apply Drawn0.step)⟩
 clear H'
 obtain ⟨x3_1,rfl,HA,HK1,⟨m1,rfl⟩⟩:=hrel
 cases gk with
 | zero=>exact absurd HA.out (by simp [spillwayref2_digits.l0])
 | succ k1 =>
  have H:=HA.out
  clear HA
  simp only [spillwayref2_digits.l0] at H
  by_cases c2 : x3_1 < (a0.size : Int)
  ·rw [if_pos c2] at H
   have c2b0 : decide (x3_1 < (a0.size : Int)) = true:=decide_eq_true c2
   clear c2
   by_cases c3 : 0 ≤ x3_1
   ·rw [if_pos c3] at H
    have c3b0 : decide (0 ≤ x3_1) = true:=decide_eq_true c3
    clear c3
    by_cases c5 : (bt a0 x3_1) ≥ 48
    ·rw [if_pos c5] at H
     have c5b0 : decide (48 ≤ (bt a0 x3_1)) = true:=decide_eq_true c5
     clear c5
     by_cases c7 : (bt a0 x3_1) ≤ 57
     ·rw [if_pos c7] at H
      have c7b0 : decide ((bt a0 x3_1) ≤ 57) = true:=decide_eq_true c7
      clear c7
      have H':=Aside0.mk H
      clear H
      have p4 : 0 ≤ (x3_1 : Int):=of_decide_eq_true (by first|(with_reducible assumption)|assumption)
      have q4 : x3_1 < (a0.size : Int):=of_decide_eq_true (by first|(with_reducible assumption)|assumption)
      have hx4:=bt_at a0 x3_1
      replace p4:=eq_true p4
      replace q4:=eq_true q4
      have p6 : 0 ≤ (x3_1 : Int):=of_decide_eq_true (by first|(with_reducible assumption)|assumption)
      have q6 : x3_1 < (a0.size : Int):=of_decide_eq_true (by first|(with_reducible assumption)|assumption)
      have hx6:=bt_at a0 x3_1
      replace p6:=eq_true p6
      replace q6:=eq_true q6
      go_wp2
      go_roundg k1
      case measure=>have:=HK1.out;omega
      case rel=>exact ⟨(wrap64 (x3_1 + 1)),(by first|rfl|(simp;done)|(simp [*];done)),H',⟨by have:=HK1.out;omega⟩,by repeat (first|exact Drawn0.refl _|apply Drawn0.step)⟩
     rw [if_neg c7] at H
     have c7b0 : decide ((bt a0 x3_1) ≤ 57) = false:=decide_eq_false c7
     clear c7
     obtain rfl:=Option.some.inj H
     have p4 : 0 ≤ (x3_1 : Int):=of_decide_eq_true (by first|(with_reducible assumption)|assumption)
     have q4 : x3_1 < (a0.size : Int):=of_decide_eq_true (by first|(with_reducible assumption)|assumption)
     have hx4:=bt_at a0 x3_1
     replace p4:=eq_true p4
     replace q4:=eq_true q4
     have p6 : 0 ≤ (x3_1 : Int):=of_decide_eq_true (by first|(with_reducible assumption)|assumption)
     have q6 : x3_1 < (a0.size : Int):=of_decide_eq_true (by first|(with_reducible assumption)|assumption)
     have hx6:=bt_at a0 x3_1
     replace p6:=eq_true p6
     replace q6:=eq_true q6
     go_wp2
     go_ret
     exact ⟨by first|rfl|(simp;done)|(simp [*];done),by repeat (first|exact Drawn0.refl _|apply Drawn0.step)⟩
    rw [if_neg c5] at H
    have c5b0 : decide (48 ≤ (bt a0 x3_1)) = false:=decide_eq_false c5
    clear c5
    obtain rfl:=Option.some.inj H
    have p4 : 0 ≤ (x3_1 : Int):=of_decide_eq_true (by first|(with_reducible assumption)|assumption)
    have q4 : x3_1 < (a0.size : Int):=of_decide_eq_true (by first|(with_reducible assumption)|assumption)
    have hx4:=bt_at a0 x3_1
    replace p4:=eq_true p4
    replace q4:=eq_true q4
    go_wp2
    go_ret
    exact ⟨by first|rfl|(simp;done)|(simp [*];done),by repeat (first|exact Drawn0.refl _|apply Drawn0.step)⟩
   rw [if_neg c3] at H
   exact absurd H (by simp)
  rw [if_neg c2] at H
  have c2b0 : decide (x3_1 < (a0.size : Int)) = false:=decide_eq_false c2
  clear c2
  obtain rfl:=Option.some.inj H
  go_wp2
  go_ret
  exact ⟨by first|rfl|(simp;done)|(simp [*];done),by repeat (first|exact Drawn0.refl _|apply Drawn0.step)⟩
end Go.Proofs.YtfgffjchphignaaGreatDoor.Print
end
