/- A part of the proof of ExpoBuilt: what the functions that the law reaches come to. -/
import Derived.Test.YtfgffjchphignaaGreatDoorC01
import Derived.Test.YtfgffjchphignaaGreatDoorC03
import Derived.Maps.Own
import Derived.StringKeys
import Derived.Maps.OwnOps
import Derived.Maps.OwnSet
import Derived.StillTailTactics
import Derived.Lib.SplitLaws
import Derived.Laws.Cover1
import Derived.WalkKit
import Derived.ProofKit
import Derived.OpenShut
import Derived.Below
set_option linter.unusedVariables false
set_option linter.unusedSimpArgs false
section
namespace Go.Proofs.YtfgffjchphignaaGreatDoor.Print
open Go.RowKit Go.Proofs.YtfgffjchphignaaGreatDoorX Go.Proofs.YtfgffjchphignaaGreatDoorW.PrintWords Go.Proofs.YtfgffjchphignaaGreatDoorW.PrintLast Go.Proofs.YtfgffjchphignaaGreatDoorW.PrintMore
/-! ### spillwayref3_Quote: function 18 -/
def spillwayref3_Quote.l0 : Nat → ByteArray → ByteArray → Int → Option (ByteArray)
 | 0,_,_,_=>none
 | k + 1,x0,x3,x4=>if x4 < (x0.size : Int) then (if 0 ≤ x4 then (if (bt x0 x4) = 34 then (if x3.size + 1 ≤ 9223372036854775807 then (if x4 ≤ (wrap64 (x4 + 1)) then (if (wrap64 (x4 + 1)) ≤ (x0.size : Int) then (if (x3 ++ (⟨#[92]⟩ : ByteArray)).size + (x0.extract (x4 : Int).toNat ((wrap64 (x4 + 1)) : Int).toNat).size ≤ 9223372036854775807 then (spillwayref3_Quote.l0 k x0 ((x3 ++ (⟨#[92]⟩ : ByteArray)) ++ (x0.extract (x4 : Int).toNat ((wrap64 (x4 + 1)) : Int).toNat)) (wrap64 (x4 + 1))) else (none)) else (none)) else (none)) else (none)) else (if (bt x0 x4) = 92 then (if x3.size + 1 ≤ 9223372036854775807 then (if x4 ≤ (wrap64 (x4 + 1)) then (if (wrap64 (x4 + 1)) ≤ (x0.size : Int) then (if (x3 ++ (⟨#[92]⟩ : ByteArray)).size + (x0.extract (x4 : Int).toNat ((wrap64 (x4 + 1)) : Int).toNat).size ≤ 9223372036854775807 then (spillwayref3_Quote.l0 k x0 ((x3 ++ (⟨#[92]⟩ : ByteArray)) ++ (x0.extract (x4 : Int).toNat ((wrap64 (x4 + 1)) : Int).toNat)) (wrap64 (x4 + 1))) else (none)) else (none)) else (none)) else (none)) else (if x4 ≤ (wrap64 (x4 + 1)) then (if (wrap64 (x4 + 1)) ≤ (x0.size : Int) then (if x3.size + (x0.extract (x4 : Int).toNat ((wrap64 (x4 + 1)) : Int).toNat).size ≤ 9223372036854775807 then (spillwayref3_Quote.l0 k x0 (x3 ++ (x0.extract (x4 : Int).toNat ((wrap64 (x4 + 1)) : Int).toNat)) (wrap64 (x4 + 1))) else (none)) else (none)) else (none)))) else (none)) else (if x3.size + 1 ≤ 9223372036854775807 then (some (x3 ++ (⟨#[34]⟩ : ByteArray))) else (none))
def spillwayref3_Quote.f (k : Nat) (a0 : ByteArray) : Option (ByteArray):=spillwayref3_Quote.l0 k a0 (⟨#[34]⟩ : ByteArray) 0
set_option maxHeartbeats 8000000 in
set_option maxRecDepth 100000 in
theorem spillwayref3_Quote.calls (k : Nat) (a0 : ByteArray) (r : ByteArray) (w : World) (h : spillwayref3_Quote.f k a0 = some r) :
  Calls Tryz.prog 18 #[.string a0] w fun e w'=>e = .returned (.string r) ∧ Drawn0 w w':=by
 have H : (spillwayref3_Quote.l0 k a0 (⟨#[34]⟩ : ByteArray) 0) = some r:=h
 clear h
 have H':=Aside0.mk H
 clear H
 go_enter Tryz.func18,Tryz.ntmps18
 go_wp2
 go_loopg [3,4] k (fun kq v3 v4 w'=>∃ (x3_1 : ByteArray) (x4_1 : Int),v3 = .string x3_1 ∧ v4 = .int .i64 x4_1 ∧ Aside0 (spillwayref3_Quote.l0 kq a0 x3_1 x4_1 = some r) ∧ Aside0 (kq ≤ k) ∧ Drawn0 w w')
 case atStart=>exact ⟨((⟨#[34]⟩ : ByteArray)),(0),(by first|rfl|(simp;done)|(simp [*];done)),(by first|rfl|(simp;done)|(simp [*];done)),H',⟨Nat.le_refl _⟩,by repeat (first|exact Drawn0.refl _|apply Drawn0.step)⟩
 clear H'
 try clear c1
 obtain ⟨x3_1,x4_1,rfl,rfl,HA,HK1,⟨m1,rfl⟩⟩:=hrel
 cases gk with
 | zero=>exact absurd HA.out (by simp [spillwayref3_Quote.l0])
 | succ k1 =>
  have H:=HA.out
  clear HA
  simp only [spillwayref3_Quote.l0] at H
  by_cases c2 : x4_1 < (a0.size : Int)
  ·rw [if_pos c2] at H
   have c2b0 : decide (x4_1 < (a0.size : Int)) = true:=decide_eq_true c2
   clear c2
   by_cases c3 : 0 ≤ x4_1
   ·rw [if_pos c3] at H
    have c3b0 : decide (0 ≤ x4_1) = true:=decide_eq_true c3
    clear c3
    by_cases c5 : (bt a0 x4_1) = 34
    ·rw [if_pos c5] at H
     have c5b0 : ((bt a0 x4_1) == 34) = true:=beq_iff_eq.mpr c5
     have c5b1 : ((bt a0 x4_1) != 34) = false:=bne_eq_false_iff_eq.mpr c5
     clear c5
     by_cases c6 : x3_1.size + 1 ≤ 9223372036854775807
     ·rw [if_pos c6] at H
      have c6b0:=eq_true c6
      have c6b1 : decide (x3_1.size + 1 ≤ 9223372036854775807) = true:=decide_eq_true c6
      try have c6b2 : (9223372036854775807 < x3_1.size + 1) = False:=eq_false (Nat.not_lt.2 c6)
      have c7b0:=eq_true (of_decide_eq_true (by first|(with_reducible assumption)|assumption) : 0 ≤ x4_1)
      by_cases c8 : x4_1 ≤ (wrap64 (x4_1 + 1))
      ·rw [if_pos c8] at H
       have c8b0:=eq_true c8
       have c8b1 : decide (x4_1 ≤ (wrap64 (x4_1 + 1))) = true:=decide_eq_true c8
       by_cases c9 : (wrap64 (x4_1 + 1)) ≤ (a0.size : Int)
       ·rw [if_pos c9] at H
        have c9b0:=eq_true c9
        have c9b1 : decide ((wrap64 (x4_1 + 1)) ≤ (a0.size : Int)) = true:=decide_eq_true c9
        by_cases c10 : (x3_1 ++ (⟨#[92]⟩ : ByteArray)).size + (a0.extract (x4_1 : Int).toNat ((wrap64 (x4_1 + 1)) : Int).toNat).size ≤ 9223372036854775807
        ·rw [if_pos c10] at H
         have c10b0:=eq_true c10
         have c10b1 : decide ((x3_1 ++ (⟨#[92]⟩ : ByteArray)).size + (a0.extract (x4_1 : Int).toNat ((wrap64 (x4_1 + 1)) : Int).toNat).size ≤ 9223372036854775807) = true:=decide_eq_true c10
         try have c10b2 : (9223372036854775807 < (x3_1 ++ (⟨#[92]⟩ : ByteArray)).size + (a0.extract (x4_1 : Int).toNat ((wrap64 (x4_1 + 1)) : Int).toNat).size) = False:=eq_false (Nat.not_lt.2 c10)
         try (have c10b3:=c10;simp only [ByteArray.size_append,sz_one] at c10b3;have c10b4:=eq_false (Nat.not_lt.2 c10b3);clear c10b3)
         have H':=Aside0.mk H
         clear H
         have p4 : 0 ≤ (x4_1 : Int):=of_decide_eq_true (by first|(with_reducible assumption)|assumption)
         have q4 : x4_1 < (a0.size : Int):=of_decide_eq_true (by first|(with_reducible assumption)|assumption)
         have hx4:=bt_at a0 x4_1
         replace p4:=eq_true p4
         replace q4:=eq_true q4
         go_wp2
         go_roundg k1
         case measure=>have:=HK1.out;omega
         case rel=>exact ⟨((x3_1 ++ (⟨#[92]⟩ : ByteArray)) ++ (a0.extract (x4_1 : Int).toNat ((wrap64 (x4_1 + 1)) : Int).toNat)),(wrap64 (x4_1 + 1)),(by first|rfl|(simp;done)|(simp [*];done)),(by first|rfl|(simp;done)|(simp [*];done)),H',⟨by have:=HK1.out;omega⟩,by repeat (first|exact Drawn0.refl _|apply Drawn0.step)⟩
        rw [if_neg c10] at H
        exact absurd H (by simp)
       rw [if_neg c9] at H
       exact absurd H (by simp)
      rw [if_neg c8] at H
      exact absurd H (by simp)
     rw [if_neg c6] at H
     exact absurd H (by simp)
    rw [if_neg c5] at H
    have c5b0 : ((bt a0 x4_1) == 34) = false:=beq_eq_false_iff_ne.mpr c5
    have c5b1 : ((bt a0 x4_1) != 34) = true:=bne_iff_ne.mpr c5
    by_cases c12 : (bt a0 x4_1) = 92
    ·rw [if_pos c12] at H
     have c12b0 : ((bt a0 x4_1) == 92) = true:=beq_iff_eq.mpr c12
     have c12b1 : ((bt a0 x4_1) != 92) = false:=bne_eq_false_iff_eq.mpr c12
     clear c12
     by_cases c13 : x3_1.size + 1 ≤ 9223372036854775807
     ·rw [if_pos c13] at H
      have c13b0:=eq_true c13
      have c13b1 : decide (x3_1.size + 1 ≤ 9223372036854775807) = true:=decide_eq_true c13
      try have c13b2 : (9223372036854775807 < x3_1.size + 1) = False:=eq_false (Nat.not_lt.2 c13)
      have c14b0:=eq_true (of_decide_eq_true (by first|(with_reducible assumption)|assumption) : 0 ≤ x4_1)
      by_cases c15 : x4_1 ≤ (wrap64 (x4_1 + 1))
      ·rw [if_pos c15] at H
       have c15b0:=eq_true c15
       have c15b1 : decide (x4_1 ≤ (wrap64 (x4_1 + 1))) = true:=decide_eq_true c15
       by_cases c16 : (wrap64 (x4_1 + 1)) ≤ (a0.size : Int)
       ·rw [if_pos c16] at H
        have c16b0:=eq_true c16
        have c16b1 : decide ((wrap64 (x4_1 + 1)) ≤ (a0.size : Int)) = true:=decide_eq_true c16
        by_cases c17 : (x3_1 ++ (⟨#[92]⟩ : ByteArray)).size + (a0.extract (x4_1 : Int).toNat ((wrap64 (x4_1 + 1)) : Int).toNat).size ≤ 9223372036854775807
        ·rw [if_pos c17] at H
         have c17b0:=eq_true c17
         have c17b1 : decide ((x3_1 ++ (⟨#[92]⟩ : ByteArray)).size + (a0.extract (x4_1 : Int).toNat ((wrap64 (x4_1 + 1)) : Int).toNat).size ≤ 9223372036854775807) = true:=decide_eq_true c17
         try have c17b2 : (9223372036854775807 < (x3_1 ++ (⟨#[92]⟩ : ByteArray)).size + (a0.extract (x4_1 : Int).toNat ((wrap64 (x4_1 + 1)) : Int).toNat).size) = False:=eq_false (Nat.not_lt.2 c17)
         try (have c17b3:=c17;simp only [ByteArray.size_append,sz_one] at c17b3;have c17b4:=eq_false (Nat.not_lt.2 c17b3);clear c17b3)
         have H':=Aside0.mk H
         clear H
         have p4 : 0 ≤ (x4_1 : Int):=of_decide_eq_true (by first|(with_reducible assumption)|assumption)
         have q4 : x4_1 < (a0.size : Int):=of_decide_eq_true (by first|(with_reducible assumption)|assumption)
         have hx4:=bt_at a0 x4_1
         replace p4:=eq_true p4
         replace q4:=eq_true q4
         have p11 : 0 ≤ (x4_1 : Int):=of_decide_eq_true (by first|(with_reducible assumption)|assumption)
         have q11 : x4_1 < (a0.size : Int):=of_decide_eq_true (by first|(with_reducible assumption)|assumption)
         have hx11:=bt_at a0 x4_1
         replace p11:=eq_true p11
         replace q11:=eq_true q11
         go_wp2
         go_roundg k1
         case measure=>have:=HK1.out;omega
         case rel=>exact ⟨((x3_1 ++ (⟨#[92]⟩ : ByteArray)) ++ (a0.extract (x4_1 : Int).toNat ((wrap64 (x4_1 + 1)) : Int).toNat)),(wrap64 (x4_1 + 1)),(by first|rfl|(simp;done)|(simp [*];done)),(by first|rfl|(simp;done)|(simp [*];done)),H',⟨by have:=HK1.out;omega⟩,by repeat (first|exact Drawn0.refl _|apply Drawn0.step)⟩
        rw [if_neg c17] at H
        exact absurd H (by simp)
       rw [if_neg c16] at H
       exact absurd H (by simp)
      rw [if_neg c15] at H
      exact absurd H (by simp)
     rw [if_neg c13] at H
     exact absurd H (by simp)
    rw [if_neg c12] at H
    have c12b0 : ((bt a0 x4_1) == 92) = false:=beq_eq_false_iff_ne.mpr c12
    have c12b1 : ((bt a0 x4_1) != 92) = true:=bne_iff_ne.mpr c12
    have c18b0:=eq_true (of_decide_eq_true (by first|(with_reducible assumption)|assumption) : 0 ≤ x4_1)
    by_cases c19 : x4_1 ≤ (wrap64 (x4_1 + 1))
    ·rw [if_pos c19] at H
     have c19b0:=eq_true c19
     have c19b1 : decide (x4_1 ≤ (wrap64 (x4_1 + 1))) = true:=decide_eq_true c19
     by_cases c20 : (wrap64 (x4_1 + 1)) ≤ (a0.size : Int)
     ·rw [if_pos c20] at H
      have c20b0:=eq_true c20
      have c20b1 : decide ((wrap64 (x4_1 + 1)) ≤ (a0.size : Int)) = true:=decide_eq_true c20
      by_cases c21 : x3_1.size + (a0.extract (x4_1 : Int).toNat ((wrap64 (x4_1 + 1)) : Int).toNat).size ≤ 9223372036854775807
      ·rw [if_pos c21] at H
       have c21b0:=eq_true c21
       have c21b1 : decide (x3_1.size + (a0.extract (x4_1 : Int).toNat ((wrap64 (x4_1 + 1)) : Int).toNat).size ≤ 9223372036854775807) = true:=decide_eq_true c21
       try have c21b2 : (9223372036854775807 < x3_1.size + (a0.extract (x4_1 : Int).toNat ((wrap64 (x4_1 + 1)) : Int).toNat).size) = False:=eq_false (Nat.not_lt.2 c21)
       have H':=Aside0.mk H
       clear H
       have p4 : 0 ≤ (x4_1 : Int):=of_decide_eq_true (by first|(with_reducible assumption)|assumption)
       have q4 : x4_1 < (a0.size : Int):=of_decide_eq_true (by first|(with_reducible assumption)|assumption)
       have hx4:=bt_at a0 x4_1
       replace p4:=eq_true p4
       replace q4:=eq_true q4
       have p11 : 0 ≤ (x4_1 : Int):=of_decide_eq_true (by first|(with_reducible assumption)|assumption)
       have q11 : x4_1 < (a0.size : Int):=of_decide_eq_true (by first|(with_reducible assumption)|assumption)
       have hx11:=bt_at a0 x4_1
       replace p11:=eq_true p11
       replace q11:=eq_true q11
       go_wp2
       go_roundg k1
       case measure=>have:=HK1.out;omega
       case rel=>exact ⟨(x3_1 ++ (a0.extract (x4_1 : Int).toNat ((wrap64 (x4_1 + 1)) : Int).toNat)),(wrap64 (x4_1 + 1)),(by first|rfl|(simp;done)|(simp [*];done)),(by first|rfl|(simp;done)|(simp [*];done)),H',⟨by have:=HK1.out;omega⟩,by repeat (first|exact Drawn0.refl _|apply Drawn0.step)⟩
      rw [if_neg c21] at H
      exact absurd H (by simp)
     rw [if_neg c20] at H
     exact absurd H (by simp)
    rw [if_neg c19] at H
    exact absurd H (by simp)
   rw [if_neg c3] at H
   exact absurd H (by simp)
  rw [if_neg c2] at H
  have c2b0 : decide (x4_1 < (a0.size : Int)) = false:=decide_eq_false c2
  clear c2
  by_cases c22 : x3_1.size + 1 ≤ 9223372036854775807
  ·rw [if_pos c22] at H
   have c22b0:=eq_true c22
   have c22b1 : decide (x3_1.size + 1 ≤ 9223372036854775807) = true:=decide_eq_true c22
   try have c22b2 : (9223372036854775807 < x3_1.size + 1) = False:=eq_false (Nat.not_lt.2 c22)
   obtain rfl:=Option.some.inj H
   go_wp2
   go_ret
   exact ⟨by first|rfl|(simp;done)|(simp [*];done),by repeat (first|exact Drawn0.refl _|apply Drawn0.step)⟩
  rw [if_neg c22] at H
  exact absurd H (by simp)
end Go.Proofs.YtfgffjchphignaaGreatDoor.Print
end
section
namespace Go.Proofs.YtfgffjchphignaaGreatDoor.PureN
open Go.RowKit Go.Proofs.YtfgffjchphignaaGreatDoor.Print
open Go.Proofs.YtfgffjchphignaaGreatDoorX Go.Proofs.YtfgffjchphignaaGreatDoorW.PrintWords Go.Proofs.YtfgffjchphignaaGreatDoorW.PrintLast Go.Proofs.YtfgffjchphignaaGreatDoorW.PrintMore
/-! The document's Quote and Quoted (turned from the lex seat's). -/
theorem drop_cons (l : List UInt8) (i : Nat) (h : i < l.length) : l.drop i = l[i] :: l.drop (i + 1):=List.drop_eq_getElem_cons h
theorem w1 (i : Nat) (h : i ≤ 100000) : wrap64 ((i : Int) + 1) = ((i + 1 : Nat) : Int):=by unfold wrap64;omega
theorem ne_int (c : UInt8) (n : Nat) (hn : n < 256) (h : c ≠ UInt8.ofNat n) : ¬ (c.toNat : Int) = (n : Int):=fun e=>h ((Print.toNat_is c n hn).1 e)
theorem eq_int (c : UInt8) (n : Nat) (hn : n < 256) (h : c = UInt8.ofNat n) : (c.toNat : Int) = (n : Int):=(Print.toNat_is c n hn).2 h
def nums (l : List UInt8) : List Int:=l.map fun c=>(c.toNat : Int)
theorem ext_one (l : List UInt8) (i : Nat) (h : i < l.length) : (⟨l.toArray⟩ : ByteArray).extract i (i + 1) = ⟨[l[i]].toArray⟩:=by
 apply ByteArray.ext
 apply Array.ext'
 rw [ByteArray.data_extract,Array.toList_extract]
 show (l.drop i).take (i + 1 - i) = [l[i]]
 rw [drop_cons l i h,show i + 1 - i = 1 by omega]
 rfl
theorem rquote_l0 (l : List UInt8) (hl : l.length ≤ 700) : ∀ (d k i : Nat) (acc : List UInt8),i + d = l.length → d < k → acc.length ≤ 2 * i + 1 →
  spillwayref3_Quote.l0 k ⟨l.toArray⟩ ⟨acc.toArray⟩ (i : Int) = some ⟨(acc ++ (quoteB (l.drop i) ++ [34])).toArray⟩
 | 0,k,i,acc,h,hk,ha=>by
  obtain ⟨k,rfl⟩ : ∃ m,k = m + 1:=⟨k - 1,by omega⟩
  rw [spillwayref3_Quote.l0,size_list,if_neg (by omega),size_list,if_pos (by omega),List.drop_eq_nil_of_le (by omega),show (⟨#[34]⟩ : ByteArray) = ⟨[34].toArray⟩ from rfl,app_list]
  rfl
 | d + 1,k,i,acc,h,hk,ha=>by
  obtain ⟨k,rfl⟩ : ∃ m,k = m + 1:=⟨k - 1,by omega⟩
  have hi : i < l.length:=by omega
  rw [spillwayref3_Quote.l0,size_list,if_pos (by omega),if_pos (by omega),bt_list l i hi,w1 i (by omega),Int.toNat_natCast,Int.toNat_natCast,ext_one l i hi,drop_cons l i hi,quoteB]
  generalize l[i] = c
  rw [show (⟨#[92]⟩ : ByteArray) = ⟨[92].toArray⟩ from rfl,app_list,app_list,app_list,size_list,size_list,size_list]
  have hesc:=rquote_l0 l hl d k (i + 1) ((acc ++ [92]) ++ [c]) (by omega) (by omega) (by simp only [List.length_append,List.length_singleton];omega)
  have hord:=rquote_l0 l hl d k (i + 1) (acc ++ [c]) (by omega) (by omega) (by simp only [List.length_append,List.length_singleton];omega)
  have b1 : acc.length + 1 ≤ 9223372036854775807:=by omega
  have b2 : (i : Int) ≤ ((i + 1 : Nat) : Int):=by omega
  have b3 : ((i + 1 : Nat) : Int) ≤ (l.length : Int):=by omega
  have b4 : (acc ++ [92]).length + [c].length ≤ 9223372036854775807:=by simp only [List.length_append,List.length_singleton];omega
  have b5 : acc.length + [c].length ≤ 9223372036854775807:=by simp only [List.length_singleton];omega
  by_cases c34 : c = 34
  ·rw [if_pos (show (c.toNat : Int) = 34 from eq_int c 34 (by omega) c34),if_pos b1,if_pos b2,if_pos b3,if_pos b4,hesc,if_pos (Or.inl c34)]
   simp
  rw [if_neg (show ¬ (c.toNat : Int) = 34 from ne_int c 34 (by omega) c34)]
  by_cases c92 : c = 92
  ·rw [if_pos (show (c.toNat : Int) = 92 from eq_int c 92 (by omega) c92),if_pos b1,if_pos b2,if_pos b3,if_pos b4,hesc,if_pos (Or.inr c92)]
   simp
  rw [if_neg (show ¬ (c.toNat : Int) = 92 from ne_int c 92 (by omega) c92),if_pos b2,if_pos b3,if_pos b5,hord,if_neg (fun h=>h.elim c34 c92)]
  simp
theorem rquote_eq (l : List UInt8) (k : Nat) (hl : l.length ≤ 700) (hk : 700 < k) : spillwayref3_Quote.f k ⟨l.toArray⟩ = some ⟨(quote l).toArray⟩:=by
 have:=rquote_l0 l hl l.length k 0 [34] (by omega) (by omega) (by simp)
 exact this
end Go.Proofs.YtfgffjchphignaaGreatDoor.PureN
end
section
namespace Go.Proofs.YtfgffjchphignaaGreatDoor.Print
open Go.Sort Go.Shelf PureN Go.Maps Go.WideMaps
open Go.RowKit Go.Proofs.YtfgffjchphignaaGreatDoorX Go.Proofs.YtfgffjchphignaaGreatDoorW.PrintWords Go.Proofs.YtfgffjchphignaaGreatDoorW.PrintLast Go.Proofs.YtfgffjchphignaaGreatDoorW.PrintMore
/-! The kinds' map; expo.kindText, expo.kindOf. -/
theorem keyedS : Keyed Tryz.prog 9:=string_keyed Tryz.underlying9
theorem zeroK (w : World) : (zeroValue 3).run Tryz.prog w = .ok (.int .i64 0) w:=by kernel_rfl
structure MapK (w : World) (b n : Nat) (K : Kinds) : Prop where
 ex : ∃ D : DataW Unit,w.ownsMap Tryz.prog 9 (plainElem Tryz.prog 3) b n D ∧ ∀ nm : List UInt8,D.atKey (.string nm) (.lit (.int .i64 0)) = .lit (.int .i64 (kget K nm))
theorem MapK.look {w : World} {b n : Nat} {K : Kinds} (h : MapK w b n K) (s : ByteArray) (hs : s.size ≤ maxLen) : (Instr.lookup 66 (.map (some b)) (.string s) false).run Tryz.prog w = .ok (.int .i64 (kget K s.data.toList)) w:=by
 obtain ⟨D,hown,hK⟩:=h.ex
 obtain ⟨c,hrun,hat,_⟩:=hown.lookup_int keyedS Tryz.underlying66 Tryz.underlying3 (zeroK _) (keyOf_string_mk Tryz.underlying9 hs)
 rw [hK] at hat
 have hat : kget K s.data.toList = c:=by simpa only [DataW.lit.injEq,Lit.int.injEq,true_and] using hat
 rw [hrun,hat]
theorem MapK.upd {w : World} {b n : Nat} {K : Kinds} (h : MapK w b n K) (hn : n < maxLen) (s : ByteArray) (hs : s.size ≤ maxLen) (k : Int) (hk : (Lit.int .i64 k).wf = true) : ∃ w',(Instr.mapUpdate 66 (.map (some b)) (.string s) (.int .i64 k)).run Tryz.prog w = .ok () w' ∧ MapK w' b (n + 1) (kset K s.data.toList k) ∧ w.grownBy w' (some b):=by
 obtain ⟨D,hown,hK⟩:=h.ex
 obtain ⟨w',hrun,hown',hg⟩:=hown.update keyedS Tryz.underlying66 hn (keyOf_string_mk Tryz.underlying9 hs) (plainElem_int Tryz.underlying3 hk)
 refine ⟨w',hrun,⟨⟨_,hown',fun nm=>?_⟩⟩,hg⟩
 unfold kset kget
 by_cases e : nm = s.data.toList
 ·subst e
  rw [Maps.atKey_put_same hown.isMap (by trivial),List.find?_cons_of_pos (by simp)]
  rfl
 rw [Maps.atKey_put_other (fun h=>e (by injection h)),hK,List.find?_cons_of_neg (by simpa using fun h=>e h.symm)]
 rfl
theorem MapK.grown {w w' : World} {b n : Nat} {K : Kinds} (h : MapK w b n K) {row : Option Nat} (hg : w.grownBy w' row) (hne : some b ≠ row) : MapK w' b n K:=by
 obtain ⟨D,hown,hK⟩:=h.ex
 exact ⟨D,hown.kept hg hne,hK⟩
theorem MapK.below {w w' : World} {b n : Nat} {K : Kinds} (h : MapK w b n K) (hb : Below w.heap.size w w') : MapK w' b n K:=h.grown (grown_of_below hb none) (by simp)
theorem MapK.lt {w : World} {b n : Nat} {K : Kinds} (h : MapK w b n K) : b < w.heap.size:=by
 obtain ⟨D,hown,hK⟩:=h.ex
 exact hown.lt
theorem MapK.made (w : World) : MapK (w.alloc (.map #[] 0)) w.heap.size 0 []:=⟨.map [],World.ownsMap_made _ _ _ _,fun nm=>rfl⟩
theorem kindText_calls (k : Int) (hk : k = 0 ∨ k = 1 ∨ k = 2) (w : World) : Calls Tryz.prog 85 #[.int .i64 k] w fun e w'=>e = .returned (.string (ofL (kindT k))) ∧ w' = w:=by
 rcases hk with rfl|rfl|rfl
 all_goals
  go_enter Tryz.func85,Tryz.ntmps85
  go_wp2
  go_ret
  exact ⟨rfl,rfl⟩
def kindR (s : List UInt8) : Int × Bool:=match kindS s with|some k=>(k,true)|none=>(0,false)
theorem kindOf_calls (s : ByteArray) (w : World) : Calls Tryz.prog 90 #[.string s] w fun e w'=>e = .returned (.tuple #[.int .i64 (kindR s.data.toList).1,.bool (kindR s.data.toList).2]) ∧ w' = w:=by
 have h0:=fun W=>kindText_calls 0 (.inl rfl) W
 have h1:=fun W=>kindText_calls 1 (.inr (.inl rfl)) W
 have h2:=fun W=>kindText_calls 2 (.inr (.inr rfl)) W
 have e : ∀ k,((ofL (kindT k)).toList == s.toList) = (kindT k == s.data.toList):=fun k=>by rw [toList_list,ByteArray.toList_eq]
 have e0:=e 0
 have e1:=e 1
 have e2:=e 2
 clear e
 have hR : kindR s.data.toList = if kindT 0 == s.data.toList then (0,true) else if kindT 1 == s.data.toList then (1,true) else if kindT 2 == s.data.toList then (2,true) else (0,false):=by
  unfold kindR kindS
  generalize s.data.toList = l
  have c : ∀ i,(kindT i == l) = decide (l = kindT i):=fun i=>by rw [Bool.eq_iff_iff,beq_iff_eq,decide_eq_true_eq];exact eq_comm
  rw [c 0,c 1,c 2]
  by_cases a0 : l = kindT 0
  ·simp only [if_pos a0,decide_eq_true a0,if_true]
  simp only [if_neg a0,decide_eq_false a0,Bool.false_eq_true,if_false]
  by_cases a1 : l = kindT 1
  ·simp only [if_pos a1,decide_eq_true a1,if_true]
  simp only [if_neg a1,decide_eq_false a1,Bool.false_eq_true,if_false]
  by_cases a2 : l = kindT 2
  ·simp only [if_pos a2,decide_eq_true a2,if_true]
  simp only [if_neg a2,decide_eq_false a2,Bool.false_eq_true,if_false]
 rw [hR]
 clear hR
 generalize ofL (kindT 0) = T0 at h0 e0
 generalize ofL (kindT 1) = T1 at h1 e1
 generalize ofL (kindT 2) = T2 at h2 e2
 generalize (kindT 0 == s.data.toList) = b0 at e0 ⊢
 generalize (kindT 1 == s.data.toList) = b1 at e1 ⊢
 generalize (kindT 2 == s.data.toList) = b2 at e2 ⊢
 cases b0 with
 | true =>
  go_enter Tryz.func90,Tryz.ntmps90
  go_wp2_with fail
  refine wp_loop_rounds 1 ?_
  rw [rounds_succ]
  go_wp2_with (go_at_call 85;refine (h0 _).mono ?_;rintro e w' ⟨rfl,rfl⟩)
  go_ret2
  exact ⟨rfl,rfl⟩
 | false =>
  cases b1 with
  | true =>
   go_enter Tryz.func90,Tryz.ntmps90
   go_wp2_with fail
   refine wp_loop_rounds 2 ?_
   rw [rounds_succ]
   go_wp2_with (go_at_call 85;refine (h0 _).mono ?_;rintro e w' ⟨rfl,rfl⟩)
   rw [rounds_succ]
   go_wp2_with (go_at_call 85;refine (h1 _).mono ?_;rintro e w' ⟨rfl,rfl⟩)
   go_ret2
   exact ⟨rfl,rfl⟩
  | false =>
   cases b2 with
   | true =>
    go_enter Tryz.func90,Tryz.ntmps90
    go_wp2_with fail
    refine wp_loop_rounds 3 ?_
    rw [rounds_succ]
    go_wp2_with (go_at_call 85;refine (h0 _).mono ?_;rintro e w' ⟨rfl,rfl⟩)
    rw [rounds_succ]
    go_wp2_with (go_at_call 85;refine (h1 _).mono ?_;rintro e w' ⟨rfl,rfl⟩)
    rw [rounds_succ]
    go_wp2_with (go_at_call 85;refine (h2 _).mono ?_;rintro e w' ⟨rfl,rfl⟩)
    go_ret2
    exact ⟨rfl,rfl⟩
   | false =>
    go_enter Tryz.func90,Tryz.ntmps90
    go_wp2_with fail
    refine wp_loop_rounds 4 ?_
    rw [rounds_succ]
    go_wp2_with (go_at_call 85;refine (h0 _).mono ?_;rintro e w' ⟨rfl,rfl⟩)
    rw [rounds_succ]
    go_wp2_with (go_at_call 85;refine (h1 _).mono ?_;rintro e w' ⟨rfl,rfl⟩)
    rw [rounds_succ]
    go_wp2_with (go_at_call 85;refine (h2 _).mono ?_;rintro e w' ⟨rfl,rfl⟩)
    rw [rounds_succ]
    go_wp2_with fail
    go_ret2
    exact ⟨rfl,rfl⟩
/-! strings.Split at a sep of one byte; (expo.kinds).typed -/
theorem splitK_len (x : UInt8) : ∀ (f : Nat) (l : List UInt8),(Lib.splitK [x] 0 (Lib.countFrom [x] f l) l).length = Lib.countFrom [x] f l + 1
 | 0,l=>rfl
 | f + 1,l=>by
  rw [Lib.countFrom]
  cases h : (Lib.index l [x] == -1) with
  | true=>simp only [if_true];rfl
  | false =>
   simp only [Bool.false_eq_true,if_false]
   rw [Nat.add_comm 1,Lib.splitK,h]
   simp only [Bool.false_eq_true,if_false,List.length_cons]
   rw [Nat.add_zero,splitK_len x f]
theorem split_calls (x : UInt8) (s : ByteArray) (w : World) (hg_ : LaidW w) (hs : s.size ≤ 100000) :
  Calls Tryz.prog 25 #[.string s,.string ⟨#[x]⟩] w fun e w'=>e = .returned (.slice (some ⟨w.heap.size,0,none⟩) (sepS x [] s.data.toList).length (sepS x [] s.data.toList).length) ∧ w' = w.alloc (.cells ((sepS x [] s.data.toList).map fun l=>Value.string (ofL l)).toArray 9):=by
 obtain ⟨m,hm⟩:=hg_.most
 have hsp:=split_is x s
 have hlen : (Lib.splitB (⟨#[x]⟩ : ByteArray) 0 (Lib.countB s ⟨#[x]⟩) s).length = Lib.countB s ⟨#[x]⟩ + 1:=by
  have h:=Lib.splitB_data (⟨#[x]⟩ : ByteArray) 0 (Lib.countB s ⟨#[x]⟩) s
  rw [← List.length_map (f:=fun y : ByteArray=>y.data.toList),h]
  exact splitK_len x _ _
 have e1 : (sepS x [] s.data.toList).length = Lib.countB s ⟨#[x]⟩ + 1:=by rw [← hsp,List.length_map,hlen]
 have e2 : ((sepS x [] s.data.toList).map fun l=>Value.string (ofL l)) = (Lib.splitB (⟨#[x]⟩ : ByteArray) 0 (Lib.countB s ⟨#[x]⟩) s).map Value.string:=by
  rw [← hsp,List.map_map]
  rfl
 have:=Tryz.strings_Split s ⟨#[x]⟩ m w (by omega) hm (by show 1 ≤ 1;omega)
 rw [e1,e2]
 exact this
theorem MapK.mono {w : World} {b n m : Nat} {K : Kinds} (h : MapK w b n K) (hm : n ≤ m) : MapK w b m K:=by
 obtain ⟨D,h1,h2⟩:=h.ex
 exact ⟨D,h1.mono hm,h2⟩
def typK (K : Kinds) (o : Option (List UInt8 × Int)) : Kinds:=match o with|some x=>kset K x.1 x.2|none=>K
theorem sep_len (x : UInt8) : ∀ (l cur : List UInt8),(sepS x cur l).length ≤ l.length + 1
 | [],cur=>by simp [sepS]
 | c :: r,cur=>by
  rw [sepS]
  split
  ·have:=sep_len x r []
   simp only [List.length_cons]
   omega
  have:=sep_len x r (cur ++ [c])
  simp only [List.length_cons]
  omega
theorem sep_each (x : UInt8) : ∀ (l cur : List UInt8),∀ w ∈ sepS x cur l,w.length ≤ cur.length + l.length
 | [],cur=>by simp [sepS]
 | c :: r,cur=>by
  intro w hw
  rw [sepS] at hw
  split at hw
  ·rcases List.mem_cons.1 hw with rfl|hw
   ·omega
   have:=sep_each x r [] w hw
   simp only [List.length_cons,List.length_nil] at this ⊢
   omega
  have:=sep_each x r (cur ++ [c]) w hw
  simp only [List.length_cons,List.length_append,List.length_nil] at this ⊢
  omega
theorem typeW_ne (W : List (List UInt8)) (h : W.length ≠ 4) : typeW W = none:=by
 unfold typeW
 split
 ·exact absurd rfl h
 rfl
theorem typeW_four (a b c d : List UInt8) : typeW [a,b,c,d] = if a = [35] ∧ b = [84,89,80,69] ∧ nameB c = true then (kindS d).map fun k=>(c,k) else none:=rfl
theorem kind_small (s : List UInt8) (k : Int) (h : kindS s = some k) : k = 0 ∨ k = 1 ∨ k = 2:=by
 unfold kindS at h
 split at h
 ·exact .inl (Option.some.inj h).symm
 split at h
 ·exact .inr (.inl (Option.some.inj h).symm)
 split at h
 ·exact .inr (.inr (Option.some.inj h).symm)
 simp at h
theorem lit_eq (x : ByteArray) (l : List UInt8) : (x.toList = l) = (x.data.toList = l):=by rw [ByteArray.toList_eq]
set_option maxHeartbeats 2000000 in
set_option maxRecDepth 100000 in
theorem typed_calls (b n : Nat) (K : Kinds) (s : ByteArray) (w : World) (hg_ : LaidW w) (hM : MapK w b n K) (hn : n < 1000000) (hs : s.size ≤ 3000) :
  Calls Tryz.prog 56 #[.agg #[.map (some b)],.string s] w fun e w'=>e = .returned (.tuple #[]) ∧ MapK w' b (n + 1) (typK K (typeS s.data.toList)) ∧ w.grownBy w' (some b):=by
 have hsp:=split_calls 32 s (w.alloc (.cells #[.map (some b)] 68)) (LaidW.below hg_ (below_alloc (Below.refl _ _) _)) (by omega)
 have hW : splitS [] s.data.toList = sepS 32 [] s.data.toList:=split_sep _ _
 unfold typeS
 rw [hW]
 have hsz : s.data.toList.length = s.size:=Array.length_toList
 have hlen : (sepS 32 [] s.data.toList).length ≤ 10000:=by have:=sep_len 32 s.data.toList [];omega
 have heach:=sep_each 32 s.data.toList []
 have hM1:=hM.below (below_alloc (Below.refl _ _) (.cells #[.map (some b)] 68))
 have hM2:=hM1.below (below_alloc (Below.refl _ _) (.cells ((sepS 32 [] s.data.toList).map fun l=>Value.string (ofL l)).toArray 9))
 have hlt:=hM.lt
 generalize sepS 32 [] s.data.toList = W at hsp hlen heach hM2 ⊢
 have hgr : w.grownBy ((w.alloc (.cells #[.map (some b)] 68)).alloc (.cells (W.map fun l=>Value.string (ofL l)).toArray 9)) (some b):=grown_of_below (below_alloc (below_alloc (Below.refl _ _) _) _) _
 by_cases h4 : W.length = 4
 ·match W,h4 with
  | [a,bb,c,d],_ =>
   have hc3:=heach c (by simp)
   simp only [List.length_nil] at hc3
   simp only [List.map_cons,List.map_nil,List.length_cons,List.length_nil,Nat.reduceAdd] at hsp hM2 hgr
   rw [typeW_four]
   have hkd:=fun W=>kindOf_calls (ofL d) W
   have hnm:=fun W=>name_calls (ofL c) W (by rw [ofL_size];omega)
   have hcd : (ofL c).data.toList = c:=rfl
   have hdd : (ofL d).data.toList = d:=rfl
   rw [hcd] at hnm
   rw [hdd] at hkd
   have la : ((ofL a).toList = [35]) = (a = [35]):=lit_eq _ _
   have lb : ((ofL bb).toList = [84,89,80,69]) = (bb = [84,89,80,69]):=lit_eq _ _
   have hCs : (ofL c).size ≤ maxLen:=by rw [ofL_size];unfold maxLen;omega
   have hM2':=Aside0.mk hM2
   have hgr':=Aside0.mk hgr
   have HL:=Aside0.mk hlt
   have HN:=Aside0.mk hn
   clear hM2 hgr hM hM1 heach hsz hlen hlt hn hg_ hs hW
   by_cases ha : a = [35]
   ·have ha1 : ((ofL a).toList == [35]) = true:=by rw [beq_iff_eq,la];exact ha
    by_cases hb : bb = [84,89,80,69]
    ·have hb1 : ((ofL bb).toList == [84,89,80,69]) = true:=by rw [beq_iff_eq,lb];exact hb
     cases hcn : nameB c with
     | true =>
      rw [if_pos ⟨ha,hb,rfl⟩]
      rw [hcn] at hnm
      have hkr : kindR d = match kindS d with|some k=>(k,true)|none=>(0,false):=rfl
      generalize ofL a = A at hsp hM2' hgr' ha1
      generalize ofL bb = B at hsp hM2' hgr' hb1
      clear la lb ha hb hcn
      cases hkS : kindS d with
      | none =>
       rw [hkS] at hkr
       rw [hkr] at hkd
       have HK : Aside0 (typK K ((none : Option Int).map fun k=>(c,k)) = K):=⟨rfl⟩
       clear hkS hkr hcd hdd
       generalize ofL c = C at *
       generalize ofL d = D at *
       go_enter Tryz.func56,Tryz.ntmps56
       go_wp2_with (first|(go_at_call 25;refine hsp.mono ?_;rintro e w' ⟨rfl,rfl⟩)|(go_at_call 63;refine (hnm _).mono ?_;rintro e w' ⟨rfl,⟨nd,rfl⟩⟩)|(go_at_call 90;refine (hkd _).mono ?_;rintro e w' ⟨rfl,rfl⟩))
       go_end0
       exact ⟨rfl,by rw [HK.out];exact MapK.mono ⟨hM2'.out.ex⟩ (Nat.le_succ _),⟨hgr'.out.os,hgr'.out.tape,hgr'.out.output,hgr'.out.size,hgr'.out.block⟩⟩
      | some k =>
       rw [hkS] at hkr
       rw [hkr] at hkd
       have HK : Aside0 (typK K ((some k : Option Int).map fun k=>(c,k)) = kset K c k):=⟨rfl⟩
       have hk3:=kind_small d k hkS
       clear hkS hkr hdd
       have HCD:=Aside0.mk hcd
       clear hcd
       generalize hC : ofL c = C at *
       generalize ofL d = D at *
       have hne : b ≠ w.heap.size:=by have:=HL.out;omega
       clear hC
       go_enter Tryz.func56,Tryz.ntmps56
       go_wp2_with (first|(go_at_call 25;refine hsp.mono ?_;rintro e w' ⟨rfl,rfl⟩)|(go_at_call 63;refine (hnm _).mono ?_;rintro e w' ⟨rfl,⟨nd,rfl⟩⟩)|(go_at_call 90;refine (hkd _).mono ?_;rintro e w' ⟨rfl,rfl⟩))
       have c0 : ((((w.alloc (.cells #[.map (some b)] 68)).alloc (.cells #[.string A,.string B,.string C,.string D] 9)).drewN nd).drew).cell? ⟨w.heap.size,0,none⟩ = some (.map (some b)):=by
        show ((w.alloc (.cells #[.map (some b)] 68)).alloc (.cells #[.string A,.string B,.string C,.string D] 9)).cell? ⟨w.heap.size,0,none⟩ = _
        exact Lib.cell?_alloc_some _ ((blk_cell (heap_alloc_new w _) 0).trans rfl)
       have c2 : ((((w.alloc (.cells #[.map (some b)] 68)).alloc (.cells #[.string A,.string B,.string C,.string D] 9)).drewN nd).drew).cell? ⟨w.heap.size + 1,2,none⟩ = some (.string C):=by
        have hsz : (w.alloc (.cells #[.map (some b)] 68)).heap.size = w.heap.size + 1:=by simp
        have:=blk_cell (heap_alloc_new (w.alloc (.cells #[.map (some b)] 68)) (.cells #[.string A,.string B,.string C,.string D] 9)) 2
        rw [hsz] at this
        exact this.trans rfl
       have hM3 : MapK ((((w.alloc (.cells #[.map (some b)] 68)).alloc (.cells #[.string A,.string B,.string C,.string D] 9)).drewN nd).drew) b n K:=⟨hM2'.out.ex⟩
       have hG3 : w.grownBy ((((w.alloc (.cells #[.map (some b)] 68)).alloc (.cells #[.string A,.string B,.string C,.string D] 9)).drewN nd).drew) (some b):=⟨hgr'.out.os,hgr'.out.tape,hgr'.out.output,hgr'.out.size,hgr'.out.block⟩
       generalize (((w.alloc (.cells #[.map (some b)] 68)).alloc (.cells #[.string A,.string B,.string C,.string D] 9)).drewN nd) = Wr at c0 c2 hM3 hG3 ⊢
       have hdr : ({ Wr with drawn:=Wr.drawn + 1 } : World) = Wr.drew:=rfl
       refine wp_region_still_tail 6 (by kernel_rfl) (by kernel_rfl) ?_
       rw [hdr]
       clear hdr
       generalize Wr.drew = Wd at c0 c2 hM3 hG3 ⊢
       obtain ⟨W',hrun,hM4,hG4⟩:=hM3.upd (by have:=HN.out;unfold maxLen;omega) C hCs k (WalkArith.wf_i64 (by omega))
       have HM4:=Aside0.mk hM4
       have HG4:=Aside0.mk (hG3.trans hG4)
       clear hM3 hG3 hM4 hG4
       simp only [List.take_succ_cons,List.take_zero,List.drop_succ_cons,List.drop_zero]
       repeat still_step
       refine wpStill_nil ?_
       go_wp2
       go_end0
       rw [HK.out,← HCD.out]
       exact ⟨rfl,HM4.out,HG4.out⟩
     | false =>
      rw [if_neg (fun h=>by have:=h.2.2;simp at this)]
      rw [hcn] at hnm
      generalize ofL a = A at hsp hM2' hgr' ha1
      generalize ofL bb = B at hsp hM2' hgr' hb1
      clear la lb ha hb hcn hcd hdd
      generalize ofL c = C at *
      generalize ofL d = D at *
      go_enter Tryz.func56,Tryz.ntmps56
      go_wp2_with (first|(go_at_call 25;refine hsp.mono ?_;rintro e w' ⟨rfl,rfl⟩)|(go_at_call 63;refine (hnm _).mono ?_;rintro e w' ⟨rfl,⟨nd,rfl⟩⟩)|(go_at_call 90;refine (hkd _).mono ?_;rintro e w' ⟨rfl,rfl⟩))
      (try simp only [Exit.inBlock,Exit.then]);refine bodyPost_ret (results_none rfl _ _ _) rfl ?_
      exact ⟨rfl,MapK.mono ⟨hM2'.out.ex⟩ (Nat.le_succ _),⟨hgr'.out.os,hgr'.out.tape,hgr'.out.output,hgr'.out.size,hgr'.out.block⟩⟩
    rw [if_neg (fun h=>hb h.2.1)]
    have hb1 : ((ofL bb).toList == [84,89,80,69]) = false:=by rw [beq_eq_false_iff_ne];intro e;exact hb (lb ▸ e)
    generalize ofL a = A at hsp hM2' hgr' ha1
    generalize ofL bb = B at hsp hM2' hgr' hb1
    clear la lb ha hb hcd hdd
    generalize ofL c = C at *
    generalize ofL d = D at *
    go_enter Tryz.func56,Tryz.ntmps56
    go_wp2_with (first|(go_at_call 25;refine hsp.mono ?_;rintro e w' ⟨rfl,rfl⟩)|(go_at_call 63;refine (hnm _).mono ?_;rintro e w' ⟨rfl,⟨nd,rfl⟩⟩)|(go_at_call 90;refine (hkd _).mono ?_;rintro e w' ⟨rfl,rfl⟩))
    (try simp only [Exit.inBlock,Exit.then]);refine bodyPost_ret (results_none rfl _ _ _) rfl ?_
    exact ⟨rfl,MapK.mono ⟨hM2'.out.ex⟩ (Nat.le_succ _),⟨hgr'.out.os,hgr'.out.tape,hgr'.out.output,hgr'.out.size,hgr'.out.block⟩⟩
   rw [if_neg (fun h=>ha h.1)]
   have ha1 : ((ofL a).toList == [35]) = false:=by rw [beq_eq_false_iff_ne];intro e;exact ha (la ▸ e)
   generalize ofL a = A at hsp hM2' hgr' ha1
   clear la lb ha hcd hdd
   generalize ofL bb = B at *
   generalize ofL c = C at *
   generalize ofL d = D at *
   go_enter Tryz.func56,Tryz.ntmps56
   go_wp2_with (first|(go_at_call 25;refine hsp.mono ?_;rintro e w' ⟨rfl,rfl⟩)|(go_at_call 63;refine (hnm _).mono ?_;rintro e w' ⟨rfl,⟨nd,rfl⟩⟩)|(go_at_call 90;refine (hkd _).mono ?_;rintro e w' ⟨rfl,rfl⟩))
   (try simp only [Exit.inBlock,Exit.then]);refine bodyPost_ret (results_none rfl _ _ _) rfl ?_
   exact ⟨rfl,MapK.mono ⟨hM2'.out.ex⟩ (Nat.le_succ _),⟨hgr'.out.os,hgr'.out.tape,hgr'.out.output,hgr'.out.size,hgr'.out.block⟩⟩
 have hne : ((W.length : Int) != 4) = true:=by rw [bne_iff_ne];omega
 rw [typeW_ne W h4]
 have HM2:=Aside0.mk (hM2.mono (Nat.le_succ _))
 have HG2:=Aside0.mk hgr
 clear hM hM1 hM2 hgr heach h4 hlen hsz hW
 go_enter Tryz.func56,Tryz.ntmps56
 go_wp2_with (go_at_call 25;refine hsp.mono ?_;rintro e w' ⟨rfl,rfl⟩)
 (try simp only [Exit.inBlock,Exit.then]);refine bodyPost_ret (results_none rfl _ _ _) rfl ?_
 exact ⟨rfl,HM2.out,HG2.out⟩
/-! What a reader holds. -/
theorem info43 : (Tryz.prog.info? 43).map (fun i=>(i.zero,i.size,i.bytes)) = some (some (.agg #[(.int .i64 0),(.int .i64 0)]),2,16):=by kernel_rfl
def scrS (x : Scr) : S34:=⟨x.labels.map ofPr,⟨x.ovf,x.v⟩,x.t,x.hasT,x.kind⟩
def badS (x : Int × Int) : S43:=⟨x.1,x.2⟩
structure RdW (lb : Nat) (lc : Array Value) (w0 w : World) (rb mb n : Nat) (vo vb : Value) (B : Bod) : Prop where
 blk : w.heap[rb]? = some (.cells #[.map (some mb),vo,vb] 70 (0,0))
 map : MapK w mb n B.of
 out : Kd.S k34 34 w w0.heap.size (fun _=>True) vo (B.out.map scrS)
 bad : Kd.R k43 43 w w0.heap.size (fun _=>True) vb (B.bad.map badS)
 low : w0.heap.size ≤ rb ∧ w0.heap.size ≤ mb
 bel : Below w0.heap.size w0 w
 lin : w.heap[lb]? = some (.cells lc 9 (0,0))
 linlow : w0.heap.size ≤ lb
theorem MapK.obj {w : World} {b n : Nat} {K : Kinds} (h : MapK w b n K) : ∃ es clock,w.heap[b]? = some (.map es clock):=by
 obtain ⟨D,⟨es,clock,hb,_⟩,_⟩:=h.ex
 exact ⟨es,clock,hb⟩
theorem MapK.apart {w : World} {b n : Nat} {K : Kinds} (h : MapK w b n K) {g : Nat} {cs : Array Value} {t : TypeId} {fr : Nat × Nat} (hg : w.heap[g]? = some (.cells cs t fr)) : b ≠ g:=by
 obtain ⟨es,clock,hb⟩:=h.obj
 rintro rfl
 rw [hg] at hb
 simp at hb
theorem MapK.apart_row {w : World} {b n : Nat} {K : Kinds} (h : MapK w b n K) {α : Type} {d : Kd α} {e base : Nat} {ok : Nat → Prop} {v : Value} {xs : List α} (hR : d.R e w base ok v xs) : some b ≠ v.ownBlock:=by
 intro he
 obtain ⟨cells,hc⟩:=Kd.R_typed hR b he.symm
 exact h.apart hc rfl
theorem MapK.apart_rowS {w : World} {b n : Nat} {K : Kinds} (h : MapK w b n K) {α : Type} {d : Kd α} {e base : Nat} {ok : Nat → Prop} {v : Value} {xs : List α} (hR : Kd.S d e w base ok v xs) : some b ≠ v.ownBlock:=by
 intro he
 obtain ⟨cells,hc⟩:=Kd.S_typed hR b he.symm
 exact h.apart hc rfl
theorem MapK.setCell {w : World} {b n : Nat} {K : Kinds} (h : MapK w b n K) {p : Addr} (hp : b ≠ p.block) (u : Value) : MapK (w.setCell p u) b n K:=by
 obtain ⟨D,h1,h2⟩:=h.ex
 exact ⟨D,h1.setCell hp u,h2⟩
theorem ne_of_typ {w : World} {g1 g2 : Nat} {c1 c2 : Array Value} {t1 t2 : TypeId} {f1 f2 : Nat × Nat} (h1 : w.heap[g1]? = some (.cells c1 t1 f1)) (h2 : w.heap[g2]? = some (.cells c2 t2 f2)) (ht : t1 ≠ t2) : g2 ≠ g1:=by
 rintro rfl
 rw [h1] at h2
 injection h2 with h2
 injection h2 with _ h3
 exact ht h3
theorem blk_far {w : World} {g b j : Nat} {o : Obj} {u : Value} (h : w.heap[g]? = some o) (hne : g ≠ b) : (w.setCell ⟨b,j,none⟩ u).heap[g]? = some o:=(Below.heap_setCell w ⟨b,j,none⟩ u g hne).trans h
/-- A row that is apart from a map's block. -/
theorem R_map {w w' : World} {b n : Nat} {K : Kinds} (h : MapK w b n K) {α : Type} {d : Kd α} {e base : Nat} {ok : Nat → Prop} {v : Value} {xs : List α} (hR : d.R e w base ok v xs) (hg : w.grownBy w' (some b)) : d.R e w' base ok v xs:=by
 have h1:=Kd.R_bound hR
 refine Kd.R_mono (Kd.R_grown h1 hg (fun k hk=>?_)) (fun k hk=>hk.1)
 obtain ⟨_,_,_,q,_,cells,hc⟩:=hk
 intro e2
 cases e2
 exact h.apart hc rfl
theorem S_map {w w' : World} {b n : Nat} {K : Kinds} (h : MapK w b n K) {α : Type} {d : Kd α} {e base : Nat} {ok : Nat → Prop} {v : Value} {xs : List α} (hR : Kd.S d e w base ok v xs) (hg : w.grownBy w' (some b)) : Kd.S d e w' base ok v xs:=by
 have h1:=Kd.S_bound hR
 refine Kd.S_mono (Kd.S_grown h1 hg (fun k hk=>?_)) (fun k hk=>hk.1)
 obtain ⟨_,_,_,q,_,cells,hc⟩:=hk
 intro e2
 cases e2
 exact h.apart hc rfl
theorem RdW.below {lb : Nat} {lc : Array Value} {w0 w w' : World} {rb mb n : Nat} {vo vb : Value} {B : Bod} (h : RdW lb lc w0 w rb mb n vo vb B) (hb : Below w.heap.size w w') : RdW lb lc w0 w' rb mb n vo vb B :=
 ⟨(hb.block rb (blk_lt h.blk)).trans h.blk,h.map.below hb,Kd.S_below h.out hb,Kd.R_below h.bad hb,h.low,below_step h.bel hb,(hb.block lb (blk_lt h.lin)).trans h.lin,h.linlow⟩
theorem RdW.typed {lb : Nat} {lc : Array Value} {w0 w w' : World} {rb mb n n' : Nat} {vo vb : Value} {B : Bod} (h : RdW lb lc w0 w rb mb n vo vb B) {K' : Kinds} (hm : MapK w' mb n' K') (hg : w.grownBy w' (some mb)) : RdW lb lc w0 w' rb mb n' vo vb { B with of:=K' } :=
 ⟨blk_grown h.blk hg (fun e=>h.map.apart h.blk (by cases e;rfl)),hm,S_map h.map h.out hg,R_map h.map h.bad hg,h.low,pw_below_grown h.bel (some mb) h.bel.size hg (fun k hk=>by cases hk;exact h.low.2),blk_grown h.lin hg (fun e=>h.map.apart h.lin (by cases e;rfl)),h.linlow⟩
theorem RdW.badded {lb : Nat} {lc : Array Value} {w0 w w' : World} {rb mb n : Nat} {vo vb vb' : Value} {B : Bod} {x : Int × Int} (h : RdW lb lc w0 w rb mb n vo vb B) (hR : Kd.R k43 43 w' w0.heap.size (fun _=>True) vb' (B.bad.map badS ++ [badS x])) (hb : Below w0.heap.size w0 w') (hg : w.grownBy w' vb.ownBlock) :
  RdW lb lc w0 (w'.setCell ⟨rb,2,none⟩ vb') rb mb n vo vb' { B with bad:=B.bad ++ [x] }:=by
 have hblk:=blk_grown h.blk hg (Kd.R_ne h.bad h.blk (by decide))
 have hmap:=h.map.grown hg (h.map.apart_row h.bad)
 have hlin:=blk_grown h.lin hg (Kd.R_ne h.bad h.lin (by decide))
 have hout:=Kd.S_over' h.out (Kd.R_typed h.bad) (by decide) hg
 refine ⟨blk_set hblk 2 vb',hmap.setCell (hmap.apart hblk) _,Kd.S_set hout hblk (by decide) 2 vb',?_,h.low,below_set hb h.low.1,blk_far hlin (ne_of_typ hblk hlin (by decide)),h.linlow⟩
 have:=Kd.R_set hR hblk (by decide) 2 vb'
 rw [List.map_append]
 exact this
theorem RdW.outed {lb : Nat} {lc : Array Value} {w0 w w' : World} {rb mb n : Nat} {vo vb vo' : Value} {B : Bod} {x : Scr} (h : RdW lb lc w0 w rb mb n vo vb B) (hR : Kd.S k34 34 w' w0.heap.size (fun _=>True) vo' (B.out.map scrS ++ [scrS x])) (hb : Below w0.heap.size w0 w') (hg : w.grownBy w' vo.ownBlock) :
  RdW lb lc w0 (w'.setCell ⟨rb,1,none⟩ vo') rb mb n vo' vb { B with out:=B.out ++ [x] }:=by
 have hblk:=blk_grown h.blk hg (Kd.S_ne h.out h.blk (by decide))
 have hmap:=h.map.grown hg (h.map.apart_rowS h.out)
 have hlin:=blk_grown h.lin hg (Kd.S_ne h.out h.lin (by decide))
 have hbad:=Kd.R_over' h.bad (Kd.S_typed h.out) (by decide) hg
 refine ⟨blk_set hblk 1 vo',hmap.setCell (hmap.apart hblk) _,?_,Kd.R_set hbad hblk (by decide) 1 vo',h.low,below_set hb h.low.1,blk_far hlin (ne_of_typ hblk hlin (by decide)),h.linlow⟩
 have:=Kd.S_set hR hblk (by decide) 1 vo'
 rw [List.map_append]
 exact this
/-! (*expo.reader).line -/
theorem lineS_err (s : List UInt8) (e : Int) (h : lineS s = .error e) : e ≠ 0:=by
 have hX : ∀ a b c,lineW a b c = .error e → e ≠ 0:=by
  intro a b c h
  unfold lineW at h
  repeat' split at h
  all_goals first|(have:=Except.error.inj h;omega)|simp at h
 unfold lineS at h
 split at h
 ·have:=Except.error.inj h;omega
 split at h
 ·exact hX _ _ _ h
 ·exact hX _ _ _ h
 have:=Except.error.inj h;omega
theorem lineS_ok (s : List UInt8) (x : Scr) (h : lineS s = .ok x) : isS x.labels = true ∧ nameB (getL x.labels NL) = true ∧ x.kind = 0:=by
 have hX : ∀ a b c,lineW a b c = .ok x → isS x.labels = true ∧ nameB (getL x.labels NL) = true ∧ x.kind = 0:=by
  intro a b c h
  unfold lineW at h
  cases hp : parseR a with
  | none=>rw [hp] at h;simp at h
  | some ps =>
   have hS:=(parseR_is a ps hp).1
   rw [hp] at h
   simp only [] at h
   cases hn : nameB (getL ps NL) with
   | false=>rw [hn,if_pos rfl] at h;simp at h
   | true =>
    rw [hn,if_neg (by simp)] at h
    split at h
    ·simp at h
    split at h
    ·rw [← Except.ok.inj h];exact ⟨hS,hn,rfl⟩
    split at h
    ·simp at h
    rw [← Except.ok.inj h];exact ⟨hS,hn,rfl⟩
 unfold lineS at h
 split at h
 ·simp at h
 split at h
 ·exact hX _ _ _ h
 ·exact hX _ _ _ h
 simp at h
set_option maxHeartbeats 4000000 in
set_option maxRecDepth 100000 in
theorem line_empty (w : World) (rb : Nat) (i : Int) : Calls Tryz.prog 26 #[.pointer (some ⟨rb,0,none⟩),.int .i64 i,.string ⟨#[]⟩] w fun e w'=>e = .returned (.tuple #[]) ∧ w' = w:=by
 go_enter Tryz.func26,Tryz.ntmps26
 go_wp2
 go_end0
 exact ⟨rfl,rfl⟩
set_option maxHeartbeats 4000000 in
set_option maxRecDepth 100000 in
theorem line_typed {lb : Nat} {lc : Array Value} (w0 w : World) (rb mb n : Nat) (vo vb : Value) (B : Bod) (i : Int) (s : ByteArray) (hg_ : LaidW w) (h : RdW lb lc w0 w rb mb n vo vb B) (hn : n < 1000000) (hs : s.size ≤ 3000) (r : List UInt8) (hc : s.data.toList = 35 :: r) :
  Calls Tryz.prog 26 #[.pointer (some ⟨rb,0,none⟩),.int .i64 i,.string s] w fun e w'=>e = .returned (.tuple #[]) ∧ RdW lb lc w0 w' rb mb (n + 1) vo vb { B with of:=typK B.of (typeS s.data.toList) }:=by
 have hne : (s.toList == ([] : List UInt8)) = false:=by rw [ByteArray.toList_eq,hc];rfl
 have hemp : s.toList.isEmpty = false:=by rw [ByteArray.toList_eq,hc];rfl
 have hp : 0 < s.size:=by have:=congrArg List.length hc;rw [Array.length_toList,List.length_cons] at this;show 0 < s.data.size;omega
 obtain ⟨c,hcb,hg⟩:=bt_byte s 0 hp
 rw [hc] at hg
 have hce : c = 35:=((by simpa using hg : (35 : UInt8) = c)).symm
 rw [hce] at hcb
 have f1 : (bt s 0 == 35) = true:=by rw [show (0 : Int) = ((0 : Nat) : Int) from rfl,hcb];rfl
 have q3 : (0 < s.size) = True:=eq_true hp
 have hx3 : ∀ h : 0 < s.size,((s[0]'h).toNat : Int) = bt s 0:=bt_at s 0
 have qi3 : (0 < (s.size : Int)) = True:=eq_true (by omega)
 have hty:=typed_calls mb n B.of s w hg_ h.map hn hs
 have c0 : w.cell? ⟨rb,0,none⟩ = some (.map (some mb)):=(blk_cell h.blk 0).trans rfl
 have HR:=Aside0.mk h
 clear hg_ h hn hs hc hp hg hcb hce
 go_enter Tryz.func26,Tryz.ntmps26
 go_wp2_with (go_at_call 56;refine hty.mono ?_;rintro e w' ⟨rfl,hM,hG⟩)
 go_end0
 exact ⟨rfl,HR.out.typed hM hG⟩
theorem first_byte (s : ByteArray) (c : UInt8) (r : List UInt8) (hc : s.data.toList = c :: r) (hne : c ≠ 35) : 0 < s.size ∧ (s.toList == ([] : List UInt8)) = false ∧ s.toList.isEmpty = false ∧ (bt s 0 == 35) = false:=by
 have hp : 0 < s.size:=by have:=congrArg List.length hc;rw [Array.length_toList,List.length_cons] at this;show 0 < s.data.size;omega
 obtain ⟨c2,hcb,hg⟩:=bt_byte s 0 hp
 rw [hc] at hg
 have hce : c = c2:=by simpa using hg
 refine ⟨hp,by rw [ByteArray.toList_eq,hc];rfl,by rw [ByteArray.toList_eq,hc];rfl,?_⟩
 rw [show (0 : Int) = ((0 : Nat) : Int) from rfl,hcb,← hce]
 rw [beq_eq_false_iff_ne]
 exact fun e=>hne ((toNat_is c 35 (by omega)).1 e)
set_option maxHeartbeats 4000000 in
set_option maxRecDepth 100000 in
theorem line_bad {lb : Nat} {lc : Array Value} (w0 w : World) (rb mb n : Nat) (vo vb : Value) (B : Bod) (i : Int) (s : ByteArray) (hg_ : LaidW w) (h : RdW lb lc w0 w rb mb n vo vb B) (hs : s.size ≤ 3000) (c : UInt8) (r : List UInt8) (hc : s.data.toList = c :: r) (hc2 : c ≠ 35) (e : Int) (he : lineS s.data.toList = .error e) (hl : B.bad.length ≤ 100000) :
  Calls Tryz.prog 26 #[.pointer (some ⟨rb,0,none⟩),.int .i64 i,.string s] w fun e' w'=>e' = .returned (.tuple #[]) ∧ ∃ vb',RdW lb lc w0 w' rb mb n vo vb' { B with bad:=B.bad ++ [(i,e)] }:=by
 obtain ⟨hp,hne,hemp,f1⟩:=first_byte s c r hc hc2
 have q3 : (0 < s.size) = True:=eq_true hp
 have hx3 : ∀ h : 0 < s.size,((s[0]'h).toNat : Int) = bt s 0:=bt_at s 0
 have qi3 : (0 < (s.size : Int)) = True:=eq_true (by omega)
 have hsz : s.data.toList.length = s.size:=Array.length_toList
 have hf:=line_eq s.data.toList 4000 (by omega) (by omega)
 rw [he] at hf
 have hln:=expo_Line.calls 4000 s [] false 0 0 false 0 e w hg_ hf
 have hen : (e != 0) = true:=bne_iff_ne.2 (lineS_err _ _ he)
 have HR:=Aside0.mk h
 have HL:=Aside0.mk hl
 clear hg_ h hs hc hp hsz hf he hl
 go_enter Tryz.func26,Tryz.ntmps26
 go_wp2_with (fail)
 refine hln.mono ?_
 rintro e1 w1 ⟨v0,rfl,ho,hb⟩
 obtain ⟨A1,c1,rfl⟩:=Kd.R_slice ho
 have HR1:=Aside0.mk ((HR.out.below hb).below (below_alloc (Below.refl _ _) (.cells #[.slice A1 0 c1,.bool false,.int .i64 0,.int .i64 0,.bool false,.int .i64 0] 34)))
 have c2 : World.cell? _ ⟨rb,2,none⟩ = some vb:=(blk_cell HR1.out.blk 2).trans rfl
 have f2:=blk_frozen HR1.out.blk 2
 clear HR hln ho hb
 go_wp2_with (first|((with_reducible refine gate_builtin (b:=.append) (xs:=#[.tmp 21,.tmp 25]) rfl ?_);at_builtin;refine Kd.R_append k43 (w0:=w0) w0.heap.size rfl (.tmp 21) (.tmp 25) 24 43 (.agg #[(.int .i64 0),(.int .i64 0)]) 16 rfl Tryz.underlying24 info43 rfl (by decide) (by omega) vb (B.bad.map badS) (badS (i,e)) [.int .i64 i,.int .i64 e] (fun _=>True) (fun _=>False) rfl (by first|(go_simp;done)|(go_simp;rfl)) ?aP (fun _ hk=>hk.elim) ?aF ?aO ?aB ?aS ?aL ?_;(case aP=>exact k43_mkM _ _ _ _);(case aF=>exact (fun _ _=>trivial));(case aO=>exact HR1.out.bad);(case aB=>exact HR1.out.bel);(case aS=>exact HR1.out.bel.size);(case aL=>have:=HL.out;rw [List.length_map];omega);intro vb' w2 ho2 hb2 hg2 hat2;have HB':=HR1.out.badded (x:=(i,e)) ho2 hb2 hg2;have hB2:=blk_grown HR1.out.blk hg2 (Kd.R_ne HR1.out.bad HR1.out.blk (by decide));have f3:=blk_frozen hB2 2;have c3 : w2.cell? ⟨rb,2,none⟩ = some vb:=(blk_cell hB2 2).trans rfl;obtain ⟨A2,n2,rfl⟩:=Kd.R_slice ho2;simp only [List.length_append,List.length_map,List.length_singleton] at HB';have HB:=Aside0.mk HB';clear ho2 hb2 hg2 hat2 c2 f2 hB2 HB'))
 refine ⟨rfl,.tuple #[],?_,rfl,_,HB.out⟩
 exact results_none rfl _ _ _
/-! (*expo.reader).line, at a line that reads well -/
theorem nameB_len {n : List UInt8} (h : nameB n = true) : n.length ≤ 20:=by
 cases n with
 | nil=>simp
 | cons c r =>
  simp only [nameB,Bool.and_eq_true,decide_eq_true_eq] at h
  exact h.2
theorem RdW.farX {lb : Nat} {lc : Array Value} {w0 w : World} {rb mb n : Nat} {vo vb : Value} {B : Bod} (h : RdW lb lc w0 w rb mb n vo vb B) {xb : Nat} {cs : Array Value} (hx : w.heap[xb]? = some (.cells cs 34 (0,0)))
  {N : Nat} (ho : Kd.S k34 34 w w0.heap.size (fun k=>k < N) vo (B.out.map scrS)) (hN : N ≤ xb) (low : w0.heap.size ≤ xb) (j : Nat) (u : Value) : RdW lb lc w0 (w.setCell ⟨xb,j,none⟩ u) rb mb n vo vb B:=by
 have hne : rb ≠ xb:=by
  rintro rfl
  have h1:=h.blk
  rw [hx] at h1
  injection h1 with h1
  injection h1 with _ h2
  exact absurd h2 (by decide)
 exact ⟨(Below.heap_setCell w ⟨xb,j,none⟩ u rb hne).trans h.blk,h.map.setCell (h.map.apart hx) u,Kd.S_mono (Kd.S_far (p:=⟨xb,j,none⟩) ho (fun k hk e=>by have hk2 : k < N:=hk;have e2 : k = xb:=e;omega) u) (fun _ _=>trivial),Kd.R_set h.bad hx (by decide) j u,h.low,below_set h.bel low,blk_far h.lin (ne_of_typ hx h.lin (by decide)),h.linlow⟩
set_option maxHeartbeats 8000000 in
set_option maxRecDepth 100000 in
theorem line_ok {lb : Nat} {lc : Array Value} (w0 w : World) (rb mb n : Nat) (vo vb : Value) (B : Bod) (i : Int) (s : ByteArray) (hg_ : LaidW w) (h : RdW lb lc w0 w rb mb n vo vb B) (hs : s.size ≤ 3000) (c : UInt8) (r : List UInt8) (hc : s.data.toList = c :: r) (hc2 : c ≠ 35) (x : Scr) (he : lineS s.data.toList = .ok x) (hl : B.out.length ≤ 100000) :
  Calls Tryz.prog 26 #[.pointer (some ⟨rb,0,none⟩),.int .i64 i,.string s] w fun e' w'=>e' = .returned (.tuple #[]) ∧ ∃ vo',RdW lb lc w0 w' rb mb n vo' vb { B with out:=B.out ++ [{ x with kind:=kget B.of (getL x.labels NL) }] }:=by
 obtain ⟨hp,hne,hemp,f1⟩:=first_byte s c r hc hc2
 have q3 : (0 < s.size) = True:=eq_true hp
 have hx3 : ∀ h : 0 < s.size,((s[0]'h).toNat : Int) = bt s 0:=bt_at s 0
 have qi3 : (0 < (s.size : Int)) = True:=eq_true (by omega)
 have hsz : s.data.toList.length = s.size:=Array.length_toList
 have hf:=line_eq s.data.toList 4000 (by omega) (by omega)
 rw [he] at hf
 obtain ⟨hS,hnm,hk0⟩:=lineS_ok _ _ he
 have hmt:=metric_eq x.labels hS 4000 (by omega)
 rw [hnm] at hmt
 have hnl:=nameB_len hnm
 have hln:=expo_Line.calls 4000 s (x.labels.map ofPr) x.ovf x.v x.t x.hasT 0 0 w hg_ hf
 have HQ : Aside0 (∀ kd : Int,(⟨x.labels.map ofPr,⟨x.ovf,x.v⟩,x.t,x.hasT,kd⟩ : S34) = scrS { x with kind:=kd }):=⟨fun _=>rfl⟩
 have HR:=Aside0.mk h
 have HL:=Aside0.mk hl
 have HM:=Aside0.mk hmt
 have HN:=Aside0.mk hnl
 clear hg_ h hs hc hp hsz hf he hl hmt hnl hk0 hnm hS
 generalize x.labels.map ofPr = L at hln HM HQ
 generalize hN0 : ofL (getL x.labels NL) = nm at HM
 have HND : Aside0 (getL x.labels NL = nm.data.toList):=⟨by rw [← hN0]⟩
 have hNs : nm.size ≤ maxLen:=by have:=HN.out;rw [← hN0,ofL_size];unfold maxLen;omega
 clear hN0
 generalize x.ovf = xo at hln HQ
 generalize x.v = xv at hln HQ
 generalize x.t = xt at hln HQ
 generalize x.hasT = xh at hln HQ
 go_enter Tryz.func26,Tryz.ntmps26
 go_wp2_with (fail)
 refine hln.mono ?_
 rintro e1 w1 ⟨v0,rfl,ho,hb⟩
 have HO0:=Aside0.mk (Kd.R_mono (ok':=fun k=>w.heap.size ≤ k) (Kd.R_lower (Kd.R_bound ho) HR.out.bel.size) (fun k hk=>hk.2.1))
 obtain ⟨A1,c1,rfl⟩:=Kd.R_slice ho
 have HR1:=Aside0.mk ((HR.out.below hb).below (below_alloc (Below.refl _ _) (.cells #[.slice A1 L.length c1,.bool xo,.int .i64 xv,.int .i64 xt,.bool xh,.int .i64 0] 34)))
 have HW1:=Aside0.mk (Nat.le_trans HR.out.bel.size (below_size hb))
 have HVB:=Aside0.mk (Kd.S_lt HR.out.out)
 have HV1:=Aside0.mk (Kd.S_below (Kd.S_mono (ok':=fun k=>k < w.heap.size) (Kd.S_bound HR.out.out) (fun _ hk=>hk.2.2.1)) (below_alloc hb (.cells #[.slice A1 L.length c1,.bool xo,.int .i64 xv,.int .i64 xt,.bool xh,.int .i64 0] 34)))
 have HNW:=Aside0.mk (below_size hb)
 clear HR hln ho hb
 have HO1:=Aside0.mk (Kd.R_alloc HO0.out (.cells #[.slice A1 L.length c1,.bool xo,.int .i64 xv,.int .i64 xt,.bool xh,.int .i64 0] 34))
 clear HO0
 go_wp2_with (fail)
 refine (expo_metric.calls 4000 A1 c1 L nm true _ (Kd.R_reads' HO1.out).2.2 (Kd.R_reads' HO1.out).2.1 HM.out).mono ?_
 rintro e w2 ⟨rfl,hb⟩
 have HR2:=HR1.out.below hb
 have HO2:=Kd.R_below HO1.out hb
 have HV2:=Kd.S_below HV1.out hb
 have BX:=(hb.block w1.heap.size (by unfold World.alloc;simp)).trans (by unfold World.alloc;simp;rfl)
 have GX:=Aside0.mk (HW1.out)
 have HNX:=Aside0.mk HNW.out
 clear HNW
 clear HR1 HO1 HW1 hb HV1
 generalize w1.heap.size = xb at BX GX HNX ⊢
 have c0 : w2.cell? ⟨rb,0,none⟩ = some (.map (some mb)):=(blk_cell HR2.blk 0).trans rfl
 have f4 : w2.frozen? ⟨xb,5,none⟩ = false:=blk_frozen BX 5
 have c4 : w2.cell? ⟨xb,5,none⟩ = some (.int .i64 0):=(blk_cell BX 5).trans (by rfl)
 have hlook:=HR2.map.look nm hNs
 rw [← HND.out] at hlook
 generalize hkd : kget B.of (getL x.labels NL) = kd at hlook
 have HKD:=Aside0.mk hkd
 clear hkd
 have HR3:=Aside0.mk (HR2.farX BX HV2 HNX.out GX.out 5 (.int .i64 kd))
 have HO3:=Aside0.mk (Kd.R_set HO2 BX (by decide) 5 (.int .i64 kd))
 have BX3:=Aside0.mk (blk_set BX 5 (.int .i64 kd))
 have HXB : Aside0 (some xb ≠ vo.ownBlock):=⟨fun e=>by have:=HVB.out xb e.symm;have:=HNX.out;omega⟩
 have HV3:=Aside0.mk (Kd.S_far (p:=⟨xb,5,none⟩) HV2 (fun k hk e=>by have hk2 : k < w.heap.size:=hk;have e2 : k = xb:=e;have:=HNX.out;omega) (.int .i64 kd))
 clear HR2 HO2 HV2 BX
 go_wp2_with (fail)
 clear c0 f4 c4 hlook
 generalize w2.setCell ⟨xb,5,none⟩ (.int .i64 kd) = w3 at HR3 HO3 BX3 HV3 ⊢
 have HR4:=Aside0.mk (HR3.out.below (below_drew (Below.refl _ _)))
 have HO4:=Aside0.mk (Kd.R_drew HO3.out)
 have BX4:=Aside0.mk (blk_drew BX3.out)
 have HV4:=Aside0.mk (Kd.S_drew HV3.out)
 clear HR3 HO3 BX3 HV3
 refine start_ (n:=11) (S:=fun w'=>w'.cell? ⟨xb,0,none⟩ = some (.slice A1 L.length c1) ∧ w'.cell? ⟨xb,1,none⟩ = some (.bool xo) ∧ w'.cell? ⟨xb,2,none⟩ = some (.int .i64 xv) ∧ w'.cell? ⟨xb,3,none⟩ = some (.int .i64 xt) ∧ w'.cell? ⟨xb,4,none⟩ = some (.bool xh) ∧ w'.cell? ⟨xb,5,none⟩ = some (.int .i64 kd) ∧ w'.cell? ⟨rb,1,none⟩ = some vo) (ds:=[10]) #[false,false,false,false,false,false,false,false,false,false,false] (by kernel_rfl) rfl rfl (⟨(blk_cell BX4.out 0).trans (by rfl),(blk_cell BX4.out 1).trans (by rfl),(blk_cell BX4.out 2).trans (by rfl),(blk_cell BX4.out 3).trans (by rfl),(blk_cell BX4.out 4).trans (by rfl),(blk_cell BX4.out 5).trans (by rfl),(blk_cell HR4.out.blk 1).trans (by rfl)⟩) (fun hHeld=>?_)
 generalize w3.drew = w4 at HR4 HO4 BX4 HV4 hHeld ⊢
 refine pure_ (i:=0) (N:=some 43) (v:=?_) (a':=?_) #[true,false,false,false,false,false,false,false,false,false,false] rfl rfl (by kernel_rfl) (fun _ _ _ h=>h) (Or.inl ⟨by first|rfl|exact wanted_on rfl rfl rfl (by rfl),?_⟩) ?_ ?_
 rotate_left
 ·intro w'
  go_simp
  with_reducible rfl
 rotate_left
 ·simp only [Act.put,List.setIfInBounds_toArray,List.set_cons_zero,List.set_cons_succ,i64_w,i32_w]
  rfl
 refine pure_ (i:=1) (N:=some 44) (v:=?_) (a':=?_) #[true,true,false,false,false,false,false,false,false,false,false] rfl rfl (by kernel_rfl) (fun _ _ _ h=>h) (Or.inl ⟨by first|rfl|exact wanted_on rfl rfl rfl (by rfl),?_⟩) ?_ ?_
 rotate_left
 ·intro w'
  go_simp
  with_reducible rfl
 rotate_left
 ·simp only [Act.put,List.setIfInBounds_toArray,List.set_cons_zero,List.set_cons_succ,i64_w,i32_w]
  rfl
 refine pure_ (i:=2) (N:=some 45) (v:=?_) (a':=?_) #[true,true,true,false,false,false,false,false,false,false,false] rfl rfl (by kernel_rfl) (fun _ _ _ h=>h) (Or.inl ⟨by first|rfl|exact wanted_on rfl rfl rfl (by rfl),?_⟩) ?_ ?_
 rotate_left
 ·intro w'
  go_simp
  with_reducible rfl
 rotate_left
 ·simp only [Act.put,List.setIfInBounds_toArray,List.set_cons_zero,List.set_cons_succ,i64_w,i32_w]
  rfl
 refine pure_ (i:=3) (N:=some 46) (v:=?_) (a':=?_) #[true,true,true,true,false,false,false,false,false,false,false] rfl rfl (by kernel_rfl) (fun _ _ _ h=>h) (Or.inl ⟨by first|rfl|exact wanted_on rfl rfl rfl (by rfl),?_⟩) ?_ ?_
 rotate_left
 ·intro w'
  go_simp
  with_reducible rfl
 rotate_left
 ·simp only [Act.put,List.setIfInBounds_toArray,List.set_cons_zero,List.set_cons_succ,i64_w,i32_w]
  rfl
 refine take_ (i:=4) (N:=some 47) (v:=?_) (a':=?_) #[true,true,true,true,true,false,false,false,false,false,false] rfl rfl (by kernel_rfl) (fun _ _ _ h=>h) (Or.inl ⟨by first|rfl|exact wanted_on rfl rfl rfl (by rfl),?_⟩) hHeld ?_ ?_
 rotate_left
 ·rintro w' ⟨s0,s1,s2,s3,s4,s5,s6⟩
  go_simp
  with_reducible rfl
 rotate_left
 ·simp only [Act.put,List.setIfInBounds_toArray,List.set_cons_zero,List.set_cons_succ,i64_w,i32_w]
  rfl
 refine take_ (i:=5) (N:=some 48) (v:=?_) (a':=?_) #[true,true,true,true,true,true,false,false,false,false,false] rfl rfl (by kernel_rfl) (fun _ _ _ h=>h) (Or.inl ⟨by first|rfl|exact wanted_on rfl rfl rfl (by rfl),?_⟩) hHeld ?_ ?_
 rotate_left
 ·rintro w' ⟨s0,s1,s2,s3,s4,s5,s6⟩
  go_simp
  with_reducible rfl
 rotate_left
 ·simp only [Act.put,List.setIfInBounds_toArray,List.set_cons_zero,List.set_cons_succ,i64_w,i32_w]
  rfl
 refine one_ (i:=6) (N:=some 49) #[true,true,true,true,true,true,true,false,false,false,false] rfl rfl (by kernel_rfl) (by decide) (fun K hK=>?_)
 refine value_ (w1:=?_) (v:=?_) (by rfl) rfl ?_ ?_
 rotate_left 2
 ·go_simp
  constructor
  ·rfl
  rfl
 refine hK.out _ _ ⟨(blk_cell (blk_alloc BX4.out _) 0).trans (by rfl),(blk_cell (blk_alloc BX4.out _) 1).trans (by rfl),(blk_cell (blk_alloc BX4.out _) 2).trans (by rfl),(blk_cell (blk_alloc BX4.out _) 3).trans (by rfl),(blk_cell (blk_alloc BX4.out _) 4).trans (by rfl),(blk_cell (blk_alloc BX4.out _) 5).trans (by rfl),(blk_cell (blk_alloc HR4.out.blk _) 1).trans (by rfl)⟩ (fun hHeld=>?_)
 clear hK K
 refine norm_ (a':=?_) ?_ ?_
 rotate_left
 ·show Act.put _ (some 49) _ = _
  simp only [Act.put,List.setIfInBounds_toArray,List.set_cons_zero,List.set_cons_succ,i64_w,i32_w]
  rfl
 refine one_ (i:=7) (N:=some 50) #[true,true,true,true,true,true,true,true,false,false,false] rfl rfl (by kernel_rfl) (by decide) (fun K hK=>?_)
 refine Kd.S_append_step k34 (w0:=w0) w0.heap.size (by rfl) (.tmp 47) (.tmp 49) 23 34 (.agg #[.slice none 0 0,.bool false,.int .i64 0,.int .i64 0,.bool false,.int .i64 0]) 64 rfl Tryz.underlying23 info34 rfl (by decide) (by omega) vo (B.out.map scrS) (⟨L,⟨xo,xv⟩,xt,xh,kd⟩ : S34) [.slice A1 L.length c1,.bool xo,.int .i64 xv,.int .i64 xt,.bool xh,.int .i64 kd] (fun _=>True) (fun k=>w.heap.size ≤ k) rfl rfl ?aP (fun k hk=>⟨trivial,fun e=>by have:=HVB.out k e.symm;have hk2 : w.heap.size ≤ k:=hk;omega⟩) ?aF ?aO ?aB ?aS ?aL ?_
 (case aP=>exact k34_mkM _ _ _ _ HO4.out)
 (case aF=>exact (fun _ _=>trivial))
 (case aO=>exact Kd.S_mono HV4.out (fun k hk=>⟨trivial,fun h=>by have hk2 : k < w.heap.size:=hk;have h2 : w.heap.size ≤ k:=h;omega⟩))
 (case aB=>exact HR4.out.bel)
 (case aS=>exact HR4.out.bel.size)
 (case aL=>have:=HL.out;rw [List.length_map];omega)
 intro vo' w5 ho hb hg hat
 rw [HQ.out kd] at ho
 have HB':=HR4.out.outed ho hb hg
 have hB5:=blk_grown HR4.out.blk hg (Kd.S_ne HR4.out.out HR4.out.blk (by decide))
 have f5:=blk_frozen hB5 1
 have c5 : w5.cell? ⟨rb,1,none⟩ = some vo:=(blk_cell hB5 1).trans rfl
 have BX5:=blk_grown BX4.out hg HXB.out
 obtain ⟨A2,n2,rfl⟩:=Kd.S_slice ho
 rw [HKD.out.symm] at HB'
 simp only [List.length_append,List.length_map,List.length_singleton] at HB'
 have HB:=Aside0.mk HB'
 clear hb hg hat HB'
 refine hK.out _ _ ⟨(blk_cell BX5 0).trans (by rfl),(blk_cell BX5 1).trans (by rfl),(blk_cell BX5 2).trans (by rfl),(blk_cell BX5 3).trans (by rfl),(blk_cell BX5 4).trans (by rfl),(blk_cell BX5 5).trans (by rfl),(blk_cell hB5 1).trans (by rfl)⟩ (fun hHeld=>?_)
 clear hK K hB5 BX5 ho
 refine norm_ (a':=?_) ?_ ?_
 rotate_left
 ·show Act.put _ (some 50) _ = _
  simp only [Act.put,List.setIfInBounds_toArray,List.set_cons_zero,List.set_cons_succ,i64_w,i32_w]
  rfl
 refine pure_ (i:=8) (N:=some 51) (v:=?_) (a':=?_) #[true,true,true,true,true,true,true,true,true,false,false] rfl rfl (by kernel_rfl) (fun _ _ _ h=>h) (Or.inl ⟨by first|rfl|exact wanted_on rfl rfl rfl (by rfl),?_⟩) ?_ ?_
 rotate_left
 ·intro w'
  go_simp
  with_reducible rfl
 rotate_left
 ·simp only [Act.put,List.setIfInBounds_toArray,List.set_cons_zero,List.set_cons_succ,i64_w,i32_w]
  rfl
 refine pure_ (i:=9) (N:=some 52) (v:=?_) (a':=?_) #[true,true,true,true,true,true,true,true,true,true,false] rfl rfl (by kernel_rfl) (fun _ _ _ h=>h) (Or.inl ⟨by first|rfl|exact wanted_on rfl rfl rfl (by rfl),?_⟩) ?_ ?_
 rotate_left
 ·intro w'
  go_simp
  with_reducible rfl
 rotate_left
 ·simp only [Act.put,List.setIfInBounds_toArray,List.set_cons_zero,List.set_cons_succ,i64_w,i32_w]
  rfl
 refine last_ (i:=10) (N:=none) #[true,true,true,true,true,true,true,true,true,true,true] rfl rfl (by kernel_rfl) (by decide) (fun Kz hKz=>?_)
 refine skip_ (w1:=w5.setCell ⟨rb,1,none⟩ (.slice A2 (B.out.length + 1) n2)) rfl rfl ?hrun ?_
 case hrun =>
  clear hHeld
  first|(go_simp;done)|(go_simp;rfl)
 refine hKz.out _ _ ?_
 clear hKz Kz
 refine done_ (by kernel_rfl) ?_
 go_wp2
 go_end0
 refine ⟨rfl,_,HB.out⟩
/-! expo.Parse -/
theorem RdW.mono {lb : Nat} {lc : Array Value} {w0 w : World} {rb mb n m : Nat} {vo vb : Value} {B : Bod} (h : RdW lb lc w0 w rb mb n vo vb B) (hm : n ≤ m) : RdW lb lc w0 w rb mb m vo vb B :=
 ⟨h.blk,h.map.mono hm,h.out,h.bad,h.low,h.bel,h.lin,h.linlow⟩
theorem line_calls {lb : Nat} {lc : Array Value} (w0 w : World) (rb mb n : Nat) (vo vb : Value) (B : Bod) (i : Int) (s : ByteArray) (hg_ : LaidW w) (h : RdW lb lc w0 w rb mb n vo vb B) (hn : n < 1000000) (hs : s.size ≤ 3000) (hlo : B.out.length ≤ 100000) (hlb : B.bad.length ≤ 100000) :
  Calls Tryz.prog 26 #[.pointer (some ⟨rb,0,none⟩),.int .i64 i,.string s] w fun e w'=>e = .returned (.tuple #[]) ∧ ∃ vo' vb',RdW lb lc w0 w' rb mb (n + 1) vo' vb' (stepB B i s.data.toList):=by
 cases hc : s.data.toList with
 | nil =>
  have e : s = ⟨#[]⟩:=by
   cases s with
   | mk a=>cases a with
    | mk l=>cases hc;rfl
  subst e
  exact (line_empty w rb i).mono (fun e w' ⟨h1,h2⟩=>⟨h1,vo,vb,by rw [h2];exact h.mono (by omega)⟩)
 | cons c r =>
  by_cases h35 : c = 35
  ·subst h35
   refine (line_typed w0 w rb mb n vo vb B i s hg_ h hn hs r hc).mono (fun e w' ⟨h1,h2⟩=>⟨h1,vo,vb,?_⟩)
   rw [hc] at h2
   unfold typK at h2
   unfold stepB
   simp only [if_true]
   cases ht : typeS (35 :: r) with
   | none=>rw [ht] at h2;exact h2
   | some x=>rw [ht] at h2;exact h2
  cases hl : lineS s.data.toList with
  | error er =>
   refine (line_bad w0 w rb mb n vo vb B i s hg_ h hs c r hc h35 er hl hlb).mono (fun e w' ⟨h1,vb',h2⟩=>⟨h1,vo,vb',?_⟩)
   rw [hc] at hl
   unfold stepB
   simp only [if_neg h35,hl]
   exact h2.mono (by omega)
  | ok x =>
   refine (line_ok w0 w rb mb n vo vb B i s hg_ h hs c r hc h35 x hl hlo).mono (fun e w' ⟨h1,vo',h2⟩=>⟨h1,vo',vb,?_⟩)
   rw [hc] at hl
   unfold stepB
   simp only [if_neg h35,hl]
   exact h2.mono (by omega)
theorem step_len (B : Bod) (i : Int) (s : List UInt8) : (stepB B i s).out.length ≤ B.out.length + 1 ∧ (stepB B i s).bad.length ≤ B.bad.length + 1:=by
 unfold stepB
 split
 ·exact ⟨by omega,by omega⟩
 split
 ·split
  ·exact ⟨by show B.out.length ≤ _;omega,by show B.bad.length ≤ _;omega⟩
  exact ⟨by omega,by omega⟩
 split
 ·exact ⟨by show B.out.length ≤ _;omega,by simp⟩
 exact ⟨by simp,by show B.bad.length ≤ _;omega⟩
def expo_Parse.f (a0 : ByteArray) : Option (List S34 × List S43):=some ((scrapeS a0.data.toList).1.map scrS,(scrapeS a0.data.toList).2.map badS)
set_option maxHeartbeats 4000000 in
set_option maxRecDepth 100000 in
theorem parse_long (a0 : ByteArray) (w : World) (h : 3000 < a0.size) :
  Calls Tryz.prog 10 #[.string a0] w fun e w'=>∃ v1 : Value,e = .returned (.tuple #[.slice none 0 0,v1]) ∧ Kd.R k43 43 w' w.heap.size (fun _=>True) v1 [⟨0,11⟩] ∧ Below w.heap.size w w':=by
 have q1 : decide ((3000 : Int) < (a0.size : Int)) = true:=decide_eq_true (by omega)
 have q2 : decide (3000 < a0.size) = true:=decide_eq_true (by omega)
 have q3 : (3000 < a0.size) = True:=eq_true h
 clear h
 go_enter Tryz.func10,Tryz.ntmps10
 go_wp2_with (fail)
 go_ret2
 refine ⟨_,rfl,⟨fun _ _=>trivial,[.int .i64 0,.int .i64 11],?_,?_⟩,below_alloc (Below.refl _ _) _⟩
 ·exact World.ownsRow_lit (base:=w.heap.size) (e:=43) (size:=2) w #[.int .i64 0,.int .i64 11] 1 (Nat.le_refl _) (by decide) rfl
 refine ⟨rfl,fun j p hj=>?_⟩
 cases j with
 | zero =>
  obtain rfl : (⟨0,11⟩ : S43) = p:=by simpa using hj
  exact k43_mkM _ _ _ _
 | succ j=>simp at hj
set_option maxHeartbeats 4000000 in
set_option maxRecDepth 100000 in
theorem parse_short (a0 : ByteArray) (w : World) (hg_ : LaidW w) (h : a0.size ≤ 3000) :
  Calls Tryz.prog 10 #[.string a0] w fun e w'=>∃ v0 v1 : Value,e = .returned (.tuple #[v0,v1]) ∧ Kd.S k34 34 w' w.heap.size (fun _=>True) v0 ((runB ⟨[],[],[]⟩ 1 (linesS [] a0.data.toList)).out.map scrS) ∧ Kd.R k43 43 w' w.heap.size (fun _=>True) v1 ((runB ⟨[],[],[]⟩ 1 (linesS [] a0.data.toList)).bad.map badS) ∧ Below w.heap.size w w':=by
 have q1 : decide ((3000 : Int) < (a0.size : Int)) = false:=decide_eq_false (by omega)
 have q2 : decide (3000 < a0.size) = false:=decide_eq_false (by omega)
 have q3 : (3000 < a0.size) = False:=eq_false (by omega)
 have hW : linesS [] a0.data.toList = sepS 10 [] a0.data.toList:=lines_sep _ _
 rw [hW]
 have hsz : a0.data.toList.length = a0.size:=Array.length_toList
 have hlen : (sepS 10 [] a0.data.toList).length ≤ 10000:=by have:=sep_len 10 a0.data.toList [];omega
 have heach : ∀ l ∈ sepS 10 [] a0.data.toList,l.length ≤ 3000:=by
  intro l hl
  have h1:=sep_each 10 a0.data.toList [] l hl
  simp only [List.length_nil] at h1
  omega
 have hsp:=split_calls 10 a0 ((w.alloc (.map #[] 0)).alloc (.cells #[.map (some w.heap.size),.slice none 0 0,.slice none 0 0] 70)) (LaidW.below hg_ (below_alloc (below_alloc (Below.refl _ _) _) _)) (by omega)
 generalize sepS 10 [] a0.data.toList = L at hsp hlen heach ⊢
 have hmk : (Instr.makeMap 66 none).run Tryz.prog w = .ok (.map (some w.heap.size)) (w.alloc (.map #[] 0)):=by kernel_rfl
 have HG:=Aside0.mk hg_
 have HE:=Aside0.mk heach
 have HN:=Aside0.mk hlen
 clear hg_ h hW hsz hlen heach
 go_enter Tryz.func10,Tryz.ntmps10
 go_wp2_with (fail)
 refine hsp.mono ?_
 rintro e1 w1 ⟨rfl,rfl⟩
 have hR0 : RdW (w.heap.size + 2) (L.map fun l=>Value.string (ofL l)).toArray w (((w.alloc (.map #[] 0)).alloc (.cells #[.map (some w.heap.size),.slice none 0 0,.slice none 0 0] 70)).alloc (.cells (L.map fun l=>Value.string (ofL l)).toArray 9)) (w.heap.size + 1) w.heap.size 0 (.slice none 0 0) (.slice none 0 0) ⟨[],[],[]⟩:=by
  refine ⟨?_,(MapK.made w).below (below_alloc (below_alloc (Below.refl _ _) _) _),Kd.S_nil _ _ _ _ _,Kd.R_nil _ _ _ _ _,⟨by omega,by omega⟩,below_alloc (below_alloc (below_alloc (Below.refl _ _) _) _) _,?_,by omega⟩
  ·exact blk_alloc (by have h:=heap_alloc_new (w.alloc (.map #[] 0)) (.cells #[.map (some w.heap.size),.slice none 0 0,.slice none 0 0] 70);rw [show (w.alloc (.map #[] 0)).heap.size = w.heap.size + 1 from by unfold World.alloc;simp] at h;exact h) _
  have h:=heap_alloc_new ((w.alloc (.map #[] 0)).alloc (.cells #[.map (some w.heap.size),.slice none 0 0,.slice none 0 0] 70)) (.cells (L.map fun l=>Value.string (ofL l)).toArray 9)
  rw [show ((w.alloc (.map #[] 0)).alloc (.cells #[.map (some w.heap.size),.slice none 0 0,.slice none 0 0] 70)).heap.size = w.heap.size + 2 from by unfold World.alloc;simp] at h
  exact h
 have HR:=Aside0.mk hR0
 clear hsp hR0 hmk
 have hsz : ((w.alloc (.map #[] 0)).alloc (.cells #[.map (some w.heap.size),.slice none 0 0,.slice none 0 0] 70)).heap.size = w.heap.size + 2:=by unfold World.alloc;simp
 rw [hsz]
 clear hsz
 generalize hmb : w.heap.size = mb at HR ⊢
 generalize ((w.alloc (.map #[] 0)).alloc (.cells #[.map (some mb),.slice none 0 0,.slice none 0 0] 70)).alloc (.cells (L.map fun l=>Value.string (ofL l)).toArray 9) = ws at HR ⊢
 go_wp2_with (fail)
 go_loopg [5,6,19] L.length (fun gg s5 s6 s19 wr=>∃ (i n : Nat) (vo vb : Value) (B : Bod),s19 = .int .i64 i ∧ L.length - i ≤ gg ∧ Aside0 (i ≤ L.length ∧ n ≤ i ∧ B.out.length ≤ i ∧ B.bad.length ≤ i) ∧ Aside0 (runB B ((i : Int) + 1) (L.drop i) = runB ⟨[],[],[]⟩ 1 L) ∧ Aside0 (RdW (mb + 2) (L.map fun l=>Value.string (ofL l)).toArray w wr (mb + 1) mb n vo vb B))
 case atStart=>exact ⟨0,0,_,_,⟨[],[],[]⟩,rfl,by omega,⟨⟨by omega,by omega,by simp,by simp⟩⟩,⟨rfl⟩,HR⟩
 clear HR
 obtain ⟨i,n,vo,vb,B,rfl,hgg,HI,HQ,HR⟩:=hrel
 by_cases hlt : i < L.length
 ·have hltz : (i : Int) < (L.length : Int):=by omega
  have hLi : L[i]? = some L[i]:=List.getElem?_eq_getElem hlt
  have x0 : wr.cell? ⟨mb + 2,i,none⟩ = some (.string (ofL L[i])):=(blk_cell HR.out.lin i).trans (by simp [hLi])
  have hmem : L[i] ∈ L:=List.getElem_mem hlt
  have hB:=(HR.out.bel)
  have hline:=fun j=>line_calls w wr (mb + 1) mb n vo vb B j (ofL L[i]) (LaidW.below HG.out hB) HR.out (by have:=HI.out;have:=HN.out;omega) (by rw [ofL_size];exact HE.out _ hmem) (by have:=HI.out;have:=HN.out;omega) (by have:=HI.out;have:=HN.out;omega)
  have HD:=Aside0.mk (show L.drop i = L[i] :: L.drop (i + 1) from List.drop_eq_getElem_cons hlt)
  have hdl : (ofL L[i]).data.toList = L[i]:=rfl
  rw [hdl] at hline
  clear hB hLi hmem hdl
  generalize L[i] = l at *
  go_wp2_with (fail)
  refine (hline _).mono ?_
  rintro e w2 ⟨rfl,vo',vb',h2⟩
  have hw : wrap64 ((i : Int) + 1) = ((i + 1 : Nat) : Int):=wrap_succ i (by have:=HI.out;have:=HN.out;omega)
  rw [hw] at h2
  have hst:=step_len B ((i + 1 : Nat) : Int) l
  have HR2:=Aside0.mk h2
  clear h2 hline x0
  go_wp2
  go_roundg (L.length - (i + 1))
  case measure=>omega
  case rel=>exact ⟨i + 1,n + 1,vo',vb',_,by rw [hw],by omega,⟨by have:=HI.out;omega⟩,⟨by have h:=HQ.out;rw [HD.out,runB] at h;rw [← h];push_cast;rfl⟩,HR2⟩
 obtain rfl : i = L.length:=by have:=HI.out;omega
 have hltz : ¬ ((L.length : Int) < (L.length : Int)):=by omega
 have hBo:=HQ.out
 rw [List.drop_length,runB] at hBo
 have HBo:=Aside0.mk hBo
 have HZ:=HR.out
 have c0 : wr.cell? ⟨mb + 1,1,none⟩ = some vo:=(blk_cell HZ.blk 1).trans rfl
 have c1 : wr.cell? ⟨mb + 1,2,none⟩ = some vb:=(blk_cell HZ.blk 2).trans rfl
 obtain ⟨A0,n0,rfl⟩:=Kd.S_slice HZ.out
 obtain ⟨A1,n1,rfl⟩:=Kd.R_slice HZ.bad
 clear hBo HZ HQ HI hlt hgg
 go_wp2_with (fail)
 go_quiet (fail)
 go_wp2
 go_ret2
 have hO:=Kd.S_drewN HR.out.out nq
 have hB:=Kd.R_drewN HR.out.bad nq
 have hb:=pw_below_drewN HR.out.bel nq
 rw [HBo.out] at hO hB
 rw [HBo.out]
 simp only [List.length_map] at hO hB
 try rw [← hmb]
 exact ⟨_,_,rfl,hO,hB,hb⟩
theorem expo_Parse.calls (a0 : ByteArray) (r1 : List S34) (r2 : List S43) (w : World) (hg_ : LaidW w) (h : expo_Parse.f a0 = some (r1,r2)) :
  Calls Tryz.prog 10 #[.string a0] w fun e w'=>∃ v0_ v1_ : Value,e = .returned (.tuple #[v0_,v1_]) ∧ Kd.S k34 34 w' w.heap.size (fun _=>True) v0_ r1 ∧ Kd.R k43 43 w' w.heap.size (fun _=>True) v1_ r2 ∧ Below w.heap.size w w':=by
 unfold expo_Parse.f scrapeS at h
 have hsz : a0.data.toList.length = a0.size:=Array.length_toList
 by_cases hl : 3000 < a0.size
 ·rw [if_pos (by rw [hsz];exact hl)] at h
  cases h
  exact (parse_long a0 w hl).mono (fun e w' ⟨v1,h1,h2,h3⟩=>⟨_,v1,h1,Kd.S_nil _ _ _ _ _,h2,h3⟩)
 rw [if_neg (by rw [hsz];exact hl)] at h
 cases h
 exact parse_short a0 w hg_ (by omega)
end Go.Proofs.YtfgffjchphignaaGreatDoor.Print
end
section
namespace Go.Proofs.YtfgffjchphignaaGreatDoor.Print
open Go.RowKit Go.Proofs.YtfgffjchphignaaGreatDoorX Go.Proofs.YtfgffjchphignaaGreatDoorW.PrintWords Go.Proofs.YtfgffjchphignaaGreatDoorW.PrintLast Go.Proofs.YtfgffjchphignaaGreatDoorW.PrintMore
/-! ### spillwaylaw6_known: function 9 -/
def spillwaylaw6_known.f (k : Nat)  : Option (Bool):=(expo_Parse.f (⟨#[35,32,84,89,80,69,32,117,112,32,103,97,117,103,101,10,117,112,123,106,111,98,61,34,97,32,98,34,125,32,49,46,53,32,55,10,10,119,104,97,116,10,117,112,32,111,118,102,10]⟩ : ByteArray)).bind fun bt181=>((expo_Line.f k (⟨#[117,112,32,120]⟩ : ByteArray)).bind fun bt187=>(if (bt181.1.length : Int) = 2 then (if 0 < (bt181.1.length : Int) then (if ((rd_T34 bt181.1 0).f2) = 7 then (if (rd_T34 bt181.1 0).f3 = true then (if ((rd_T34 bt181.1 0).f4) = 2 then (if ((rd_T34 bt181.1 0).f1.f1) = 1500000 then (if 1 < (bt181.1.length : Int) then (if (rd_T34 bt181.1 1).f1.f0 = true then (if (bt181.2.length : Int) = 1 then (if 0 < (bt181.2.length : Int) then (if ((rd_T43 bt181.2 0).f0) = 4 then (if ((rd_T43 bt181.2 0).f1) = 12 then (some (bt187.2.2.2.2.2.2 == 20)) else (none)) else (none)) else (none)) else (none)) else (none)) else (none)) else (none)) else (none)) else (none)) else (none)) else (none)) else (none)))
set_option maxHeartbeats 8000000 in
set_option maxRecDepth 100000 in
theorem spillwaylaw6_known.calls (k : Nat)  (r : Bool) (w : World) (hg_ : LaidW w) (h : spillwaylaw6_known.f k  = some r) :
  Calls Tryz.prog 9 #[] w fun e w'=>e = .returned (.bool r) ∧ Below w.heap.size w w':=by
 have HLW:=Aside0.mk hg_
 clear hg_
 have hu34:=Tryz.underlying34
 have HB:=Aside0.mk (Below.refl w.heap.size w)
 have H : ((expo_Parse.f (⟨#[35,32,84,89,80,69,32,117,112,32,103,97,117,103,101,10,117,112,123,106,111,98,61,34,97,32,98,34,125,32,49,46,53,32,55,10,10,119,104,97,116,10,117,112,32,111,118,102,10]⟩ : ByteArray)).bind fun bt181=>((expo_Line.f k (⟨#[117,112,32,120]⟩ : ByteArray)).bind fun bt187=>(if (bt181.1.length : Int) = 2 then (if 0 < (bt181.1.length : Int) then (if ((rd_T34 bt181.1 0).f2) = 7 then (if (rd_T34 bt181.1 0).f3 = true then (if ((rd_T34 bt181.1 0).f4) = 2 then (if ((rd_T34 bt181.1 0).f1.f1) = 1500000 then (if 1 < (bt181.1.length : Int) then (if (rd_T34 bt181.1 1).f1.f0 = true then (if (bt181.2.length : Int) = 1 then (if 0 < (bt181.2.length : Int) then (if ((rd_T43 bt181.2 0).f0) = 4 then (if ((rd_T43 bt181.2 0).f1) = 12 then (some (bt187.2.2.2.2.2.2 == 20)) else (none)) else (none)) else (none)) else (none)) else (none)) else (none)) else (none)) else (none)) else (none)) else (none)) else (none)) else (none)))) = some r:=h
 clear h
 replace H:=Option.bind_eq_some_iff.mp H
 obtain ⟨⟨t181,t182⟩,A10,H⟩:=H
 replace H : ((expo_Line.f k (⟨#[117,112,32,120]⟩ : ByteArray)).bind fun bt187=>(if (t181.length : Int) = 2 then (if 0 < (t181.length : Int) then (if ((rd_T34 t181 0).f2) = 7 then (if (rd_T34 t181 0).f3 = true then (if ((rd_T34 t181 0).f4) = 2 then (if ((rd_T34 t181 0).f1.f1) = 1500000 then (if 1 < (t181.length : Int) then (if (rd_T34 t181 1).f1.f0 = true then (if (t182.length : Int) = 1 then (if 0 < (t182.length : Int) then (if ((rd_T43 t182 0).f0) = 4 then (if ((rd_T43 t182 0).f1) = 12 then (some (bt187.2.2.2.2.2.2 == 20)) else (none)) else (none)) else (none)) else (none)) else (none)) else (none)) else (none)) else (none)) else (none)) else (none)) else (none)) else (none))) = some r:=H
 have A1:=Aside0.mk A10
 clear A10
 replace H:=Option.bind_eq_some_iff.mp H
 obtain ⟨⟨t187,t190,t191,t192,t193,t194,t195⟩,A20,H⟩:=H
 replace H : (if (t181.length : Int) = 2 then (if 0 < (t181.length : Int) then (if ((rd_T34 t181 0).f2) = 7 then (if (rd_T34 t181 0).f3 = true then (if ((rd_T34 t181 0).f4) = 2 then (if ((rd_T34 t181 0).f1.f1) = 1500000 then (if 1 < (t181.length : Int) then (if (rd_T34 t181 1).f1.f0 = true then (if (t182.length : Int) = 1 then (if 0 < (t182.length : Int) then (if ((rd_T43 t182 0).f0) = 4 then (if ((rd_T43 t182 0).f1) = 12 then (some (t195 == 20)) else (none)) else (none)) else (none)) else (none)) else (none)) else (none)) else (none)) else (none)) else (none)) else (none)) else (none)) else (none)) = some r:=H
 have A2:=Aside0.mk A20
 clear A20
 by_cases c3 : (t181.length : Int) = 2
 ·rw [if_pos c3] at H
  have c3b0 : ((t181.length : Int) == 2) = true:=beq_iff_eq.mpr c3
  have c3b1 : ((t181.length : Int) != 2) = false:=bne_eq_false_iff_eq.mpr c3
  clear c3
  by_cases c4 : 0 < (t181.length : Int)
  ·rw [if_pos c4] at H
   have c4b0 : decide (0 < (t181.length : Int)) = true:=decide_eq_true c4
   have c4b1 : decide (0 < t181.length) = true:=decide_eq_true (by omega)
   clear c4
   by_cases c5 : ((rd_T34 t181 0).f2) = 7
   ·rw [if_pos c5] at H
    have c5b0 : (((rd_T34 t181 0).f2) == 7) = true:=beq_iff_eq.mpr c5
    have c5b1 : (((rd_T34 t181 0).f2) != 7) = false:=bne_eq_false_iff_eq.mpr c5
    clear c5
    obtain ⟨bq6,hbq6⟩ : ∃ b_ : Bool,b_ = ((rd_T34 t181 0).f3):=⟨_,rfl⟩
    replace H : (if bq6 = true then (if ((rd_T34 t181 0).f4) = 2 then (if ((rd_T34 t181 0).f1.f1) = 1500000 then (if 1 < (t181.length : Int) then (if (rd_T34 t181 1).f1.f0 = true then (if (t182.length : Int) = 1 then (if 0 < (t182.length : Int) then (if ((rd_T43 t182 0).f0) = 4 then (if ((rd_T43 t182 0).f1) = 12 then (some (t195 == 20)) else (none)) else (none)) else (none)) else (none)) else (none)) else (none)) else (none)) else (none)) else (none)) = some r:=by rw [← hbq6] at H;exact H
    have Nbq6:=Aside0.mk hbq6
    clear hbq6
    by_cases c7 : bq6 = true
    ·subst c7
     have H1 : (if ((rd_T34 t181 0).f4) = 2 then (if ((rd_T34 t181 0).f1.f1) = 1500000 then (if 1 < (t181.length : Int) then (if (rd_T34 t181 1).f1.f0 = true then (if (t182.length : Int) = 1 then (if 0 < (t182.length : Int) then (if ((rd_T43 t182 0).f0) = 4 then (if ((rd_T43 t182 0).f1) = 12 then (some (t195 == 20)) else (none)) else (none)) else (none)) else (none)) else (none)) else (none)) else (none)) else (none)) = some r:=by rw [if_pos rfl] at H;exact H
     clear H
     have H:=H1
     clear H1
     by_cases c8 : ((rd_T34 t181 0).f4) = 2
     ·rw [if_pos c8] at H
      have c8b0 : (((rd_T34 t181 0).f4) == 2) = true:=beq_iff_eq.mpr c8
      have c8b1 : (((rd_T34 t181 0).f4) != 2) = false:=bne_eq_false_iff_eq.mpr c8
      clear c8
      by_cases c9 : ((rd_T34 t181 0).f1.f1) = 1500000
      ·rw [if_pos c9] at H
       have c9b0 : (((rd_T34 t181 0).f1.f1) == 1500000) = true:=beq_iff_eq.mpr c9
       have c9b1 : (((rd_T34 t181 0).f1.f1) != 1500000) = false:=bne_eq_false_iff_eq.mpr c9
       clear c9
       by_cases c10 : 1 < (t181.length : Int)
       ·rw [if_pos c10] at H
        have c10b0 : decide (1 < (t181.length : Int)) = true:=decide_eq_true c10
        have c10b1 : decide (1 < t181.length) = true:=decide_eq_true (by omega)
        clear c10
        obtain ⟨bq11,hbq11⟩ : ∃ b_ : Bool,b_ = ((rd_T34 t181 1).f1.f0):=⟨_,rfl⟩
        replace H : (if bq11 = true then (if (t182.length : Int) = 1 then (if 0 < (t182.length : Int) then (if ((rd_T43 t182 0).f0) = 4 then (if ((rd_T43 t182 0).f1) = 12 then (some (t195 == 20)) else (none)) else (none)) else (none)) else (none)) else (none)) = some r:=by rw [← hbq11] at H;exact H
        have Nbq11:=Aside0.mk hbq11
        clear hbq11
        by_cases c12 : bq11 = true
        ·subst c12
         have H1 : (if (t182.length : Int) = 1 then (if 0 < (t182.length : Int) then (if ((rd_T43 t182 0).f0) = 4 then (if ((rd_T43 t182 0).f1) = 12 then (some (t195 == 20)) else (none)) else (none)) else (none)) else (none)) = some r:=by rw [if_pos rfl] at H;exact H
         clear H
         have H:=H1
         clear H1
         by_cases c13 : (t182.length : Int) = 1
         ·rw [if_pos c13] at H
          have c13b0 : ((t182.length : Int) == 1) = true:=beq_iff_eq.mpr c13
          have c13b1 : ((t182.length : Int) != 1) = false:=bne_eq_false_iff_eq.mpr c13
          clear c13
          by_cases c14 : 0 < (t182.length : Int)
          ·rw [if_pos c14] at H
           have c14b0 : decide (0 < (t182.length : Int)) = true:=decide_eq_true c14
           have c14b1 : decide (0 < t182.length) = true:=decide_eq_true (by omega)
           clear c14
           by_cases c15 : ((rd_T43 t182 0).f0) = 4
           ·rw [if_pos c15] at H
            have c15b0 : (((rd_T43 t182 0).f0) == 4) = true:=beq_iff_eq.mpr c15
            have c15b1 : (((rd_T43 t182 0).f0) != 4) = false:=bne_eq_false_iff_eq.mpr c15
            clear c15
            by_cases c16 : ((rd_T43 t182 0).f1) = 12
            ·rw [if_pos c16] at H
             have c16b0 : (((rd_T43 t182 0).f1) == 12) = true:=beq_iff_eq.mpr c16
             have c16b1 : (((rd_T43 t182 0).f1) != 12) = false:=bne_eq_false_iff_eq.mpr c16
             clear c16
             obtain rfl:=Option.some.inj H
             go_enter Tryz.func9,Tryz.ntmps9
             go_wp2_with (first|((with_reducible refine gate_callee (f:=10) rfl ?_);refine goesL_ (some 6) rfl rfl Tryz.func10 (by kernel_rfl) rfl #[.string (⟨#[35,32,84,89,80,69,32,117,112,32,103,97,117,103,101,10,117,112,123,106,111,98,61,34,97,32,98,34,125,32,49,46,53,32,55,10,10,119,104,97,116,10,117,112,32,111,118,102,10]⟩ : ByteArray)] rfl (by (try simp only [List.map_toArray,List.map_cons,List.map_nil]);first|done|rfl|(simp only [List.length_drop,List.length_take];rfl)) ?_;(with_reducible refine (expo_Parse.calls (⟨#[35,32,84,89,80,69,32,117,112,32,103,97,117,103,101,10,117,112,123,106,111,98,61,34,97,32,98,34,125,32,49,46,53,32,55,10,10,119,104,97,116,10,117,112,32,111,118,102,10]⟩ : ByteArray) t181 t182 _ ?side1 A1.out).mono ?_);(case side1=>exact LaidW.below HLW.out (by repeat (first|(with_reducible first|exact HB.out|apply below_alloc|apply pw_below_drewN|apply below_drew1)|exact HB.out|(refine below_set ?_ (Aside0.out ?hge);(case hge=>assumption)))));rintro e w17 ⟨v183,v185,rfl,ho0,ho1,hb⟩;refine ⟨_,rfl,?_⟩;have n0_:=Aside0.mk (Kd.S_lower ho0 (below_size (by repeat (first|(with_reducible first|exact HB.out|apply below_alloc|apply pw_below_drewN|apply below_drew1)|exact HB.out))));have n1_:=Aside0.mk (Kd.R_lower ho1 (below_size (by repeat (first|(with_reducible first|exact HB.out|apply below_alloc|apply pw_below_drewN|apply below_drew1)|exact HB.out))));have n2_:=Aside0.mk (below_step (by repeat (first|(with_reducible first|exact HB.out|apply below_alloc|apply pw_below_drewN|apply below_drew1)|exact HB.out)) hb);clear HB;have HO184:=n0_;have HO186:=n1_;have HB:=n2_;clear n0_ n1_ n2_;(try clear hb);(try clear hb2);(try clear hk);(try clear hi);(try clear ho0);(try clear ho1))|((with_reducible refine gate_callee (f:=12) rfl ?_);refine goesL_ (some 10) rfl rfl Tryz.func12 (by kernel_rfl) rfl #[.string (⟨#[117,112,32,120]⟩ : ByteArray)] rfl (by (try simp only [List.map_toArray,List.map_cons,List.map_nil]);first|done|rfl|(simp only [List.length_drop,List.length_take];rfl)) ?_;(with_reducible refine (expo_Line.calls k (⟨#[117,112,32,120]⟩ : ByteArray) t187 t190 t191 t192 t193 t194 t195 _ ?side1 A2.out).mono ?_);(case side1=>exact LaidW.below HLW.out (by repeat (first|(with_reducible first|exact HB.out|apply below_alloc|apply pw_below_drewN|apply below_drew1)|exact HB.out|(refine below_set ?_ (Aside0.out ?hge);(case hge=>assumption)))));rintro e w18 ⟨v188,rfl,ho0,hb⟩;refine ⟨_,rfl,?_⟩;have n0_:=Aside0.mk (Kd.S_elder' (by (with_reducible repeat (first|apply Kd.S_alloc|apply Kd.S_drewN|apply Kd.S_drew));exact HO184.out) (Kd.R_base ho0) hb);have n1_:=Aside0.mk (Kd.R_below (by (with_reducible repeat (first|apply Kd.R_alloc|apply Kd.R_drewN|apply Kd.R_drew));exact HO186.out) hb);have n2_:=Aside0.mk (Kd.R_lower ho0 (below_size (by repeat (first|(with_reducible first|exact HB.out|apply below_alloc|apply pw_below_drewN|apply below_drew1)|exact HB.out))));have n3_:=Aside0.mk (below_step (by repeat (first|(with_reducible first|exact HB.out|apply below_alloc|apply pw_below_drewN|apply below_drew1)|exact HB.out)) hb);clear HO184;clear HO186;clear HB;have HO184:=n0_;have HO186:=n1_;have HO189:=n2_;have HB:=n3_;clear n0_ n1_ n2_ n3_;(try clear hb);(try clear hb2);(try clear hk);(try clear hi);(try clear ho0))|((with_reducible refine gate_dst (N:=3) rfl ?_);(try (refine gate_guard (by rfl) ?_;dsimp only));refine box_event ?hg (N:=3) ?hd (cs:=#[.slice none 0 0,.bool false,.int .i64 0,.int .i64 0,.bool false,.int .i64 0]) (t:=34) ?hr ?_;(case hd=>rfl);(case hg=>rfl);(case hr=>first|(go_simp;done)|(go_simp;rfl));intro gb196 hg w19 hbox hb;have n0_:=Aside0.mk (Kd.S_below (Kd.S_elderB (by (with_reducible repeat (first|apply Kd.S_alloc|apply Kd.S_drewN|apply Kd.S_drew));exact HO184.out) gb196 (Nat.le_of_eq hg.symm)) hb);have n1_:=Aside0.mk (Kd.R_below (by (with_reducible repeat (first|apply Kd.R_alloc|apply Kd.R_drewN|apply Kd.R_drew));exact HO186.out) hb);have n2_:=Aside0.mk (Kd.R_below (by (with_reducible repeat (first|apply Kd.R_alloc|apply Kd.R_drewN|apply Kd.R_drew));exact HO189.out) hb);have n3_:=Aside0.mk (below_step (by repeat (first|(with_reducible first|exact HB.out|apply below_alloc|apply pw_below_drewN|apply below_drew1)|exact HB.out)) hb);have n4_:=Aside0.mk (hbox);have n5_:=Aside0.mk ((by rw [hg];exact (below_size (by repeat (first|(with_reducible first|exact HB.out|apply below_alloc|apply pw_below_drewN|apply below_drew1)|exact HB.out))) : w.heap.size ≤ gb196));have n6_:=Aside0.mk ((by rw [hg];exact (below_size (by repeat (first|(with_reducible first|exact HB.out|apply below_alloc|apply pw_below_drewN|apply below_drew1)|exact HB.out))) : w.heap.size ≤ gb196));clear HO184;clear HO186;clear HO189;clear HB;have HO184:=n0_;have HO186:=n1_;have HO189:=n2_;have HB:=n3_;have BK196:=n4_;have GW196:=n5_;have GE196:=n6_;clear n0_ n1_ n2_ n3_ n4_ n5_ n6_;clear hb hbox hg;obtain ⟨Ao20,co20,eo20⟩:=Kd.R_slice HO189.out;subst eo20;have hcz21_0 : w19.cell? ⟨gb196,0,none⟩ = some (.slice none 0 0):=(blk_cell BK196.out 0).trans rfl;have hcz21_1 : w19.cell? ⟨gb196,1,none⟩ = some (.bool false):=(blk_cell BK196.out 1).trans rfl;have hcz21_2 : w19.cell? ⟨gb196,2,none⟩ = some (.int .i64 0):=(blk_cell BK196.out 2).trans rfl;have hcz21_3 : w19.cell? ⟨gb196,3,none⟩ = some (.int .i64 0):=(blk_cell BK196.out 3).trans rfl;have hcz21_4 : w19.cell? ⟨gb196,4,none⟩ = some (.bool false):=(blk_cell BK196.out 4).trans rfl;have hcz21_5 : w19.cell? ⟨gb196,5,none⟩ = some (.int .i64 0):=(blk_cell BK196.out 5).trans rfl;have hfz21_0:=blk_frozen BK196.out 0;have hfz21_1:=blk_frozen BK196.out 1;have hfz21_2:=blk_frozen BK196.out 2;have hfz21_3:=blk_frozen BK196.out 3;have hfz21_4:=blk_frozen BK196.out 4;have hfz21_5:=blk_frozen BK196.out 5)|((with_reducible refine gate_store (t:=34) (p:=3) rfl ?_);refine store_event (t:=34) (p:=3) (v:=?vo_w22) (w1:=((((((w19.setCell ⟨gb196,0,none⟩ (.slice Ao20 t187.length co20)).setCell ⟨gb196,1,none⟩ (.bool t190)).setCell ⟨gb196,2,none⟩ (.int .i64 t191)).setCell ⟨gb196,3,none⟩ (.int .i64 t192)).setCell ⟨gb196,4,none⟩ (.bool t193)).setCell ⟨gb196,5,none⟩ (.int .i64 t194))) ?hg ?ho ?hn ?hr ?_;(case ho=>rfl);(case hg=>rfl);(case hn=>rfl);(case hr=>first|(go_simp;done)|(go_simp;rfl));intro w22 hw;have n0_ : Aside0 (Kd.S k34 34 w22 w.heap.size (fun k_=>some k_ ≠ (.slice Ao20 t187.length co20 : Value).ownBlock ∧ k_ ≠ gb196) v183 t181):=⟨(by rw [hw];exact (by (with_reducible repeat (first|apply Kd.S_alloc|apply Kd.S_drewN|apply Kd.S_drew));exact Kd.S_mono (Kd.S_far (p:=⟨gb196,5,none⟩) (Kd.S_far (p:=⟨gb196,4,none⟩) (Kd.S_far (p:=⟨gb196,3,none⟩) (Kd.S_far (p:=⟨gb196,2,none⟩) (Kd.S_far (p:=⟨gb196,1,none⟩) (Kd.S_far (p:=⟨gb196,0,none⟩) (Kd.S_mono HO184.out (fun k_ hk=>(⟨hk,hk.2⟩ : _ ∧ k_ ≠ gb196))) (fun _ hk=>hk.2) (.slice Ao20 t187.length co20)) (fun _ hk=>hk.2) (.bool t190)) (fun _ hk=>hk.2) (.int .i64 t191)) (fun _ hk=>hk.2) (.int .i64 t192)) (fun _ hk=>hk.2) (.bool t193)) (fun _ hk=>hk.2) (.int .i64 t194)) (fun _ hk=>⟨hk.1.1.2,hk.1.2⟩)))⟩;have n1_ : Aside0 (Kd.R k43 43 w22 w.heap.size (fun _=>True) v185 t182):=⟨(by rw [hw];exact (by (with_reducible repeat (first|apply Kd.R_alloc|apply Kd.R_drewN|apply Kd.R_drew));exact Kd.R_mono (Kd.R_far (p:=⟨gb196,5,none⟩) (Kd.R_far (p:=⟨gb196,4,none⟩) (Kd.R_far (p:=⟨gb196,3,none⟩) (Kd.R_far (p:=⟨gb196,2,none⟩) (Kd.R_far (p:=⟨gb196,1,none⟩) (Kd.R_far (p:=⟨gb196,0,none⟩) (Kd.R_types HO186.out BK196.out (by decide)) (fun _ hk=>hk.2) (.slice Ao20 t187.length co20)) (fun _ hk=>hk.2) (.bool t190)) (fun _ hk=>hk.2) (.int .i64 t191)) (fun _ hk=>hk.2) (.int .i64 t192)) (fun _ hk=>hk.2) (.bool t193)) (fun _ hk=>hk.2) (.int .i64 t194)) (fun _ hk=>trivial)))⟩;have n2_ : Aside0 (Kd.R k60 60 w22 w.heap.size (fun _=>True) (.slice Ao20 t187.length co20) t187):=⟨(by rw [hw];exact (by (with_reducible repeat (first|apply Kd.R_alloc|apply Kd.R_drewN|apply Kd.R_drew));exact Kd.R_mono (Kd.R_far (p:=⟨gb196,5,none⟩) (Kd.R_far (p:=⟨gb196,4,none⟩) (Kd.R_far (p:=⟨gb196,3,none⟩) (Kd.R_far (p:=⟨gb196,2,none⟩) (Kd.R_far (p:=⟨gb196,1,none⟩) (Kd.R_far (p:=⟨gb196,0,none⟩) (Kd.R_types HO189.out BK196.out (by decide)) (fun _ hk=>hk.2) (.slice Ao20 t187.length co20)) (fun _ hk=>hk.2) (.bool t190)) (fun _ hk=>hk.2) (.int .i64 t191)) (fun _ hk=>hk.2) (.int .i64 t192)) (fun _ hk=>hk.2) (.bool t193)) (fun _ hk=>hk.2) (.int .i64 t194)) (fun _ hk=>trivial)))⟩;have n3_ : Aside0 (w22.heap[gb196]? = some (.cells #[.slice Ao20 t187.length co20,.bool t190,.int .i64 t191,.int .i64 t192,.bool t193,.int .i64 t194] 34 (0,0))):=⟨(by rw [hw];exact (by (with_reducible repeat (first|refine blk_drewN ?_ _|refine blk_drew ?_|refine blk_alloc ?_ _));refine blk_put (cs:=#[.slice Ao20 t187.length co20,.bool t190,.int .i64 t191,.int .i64 t192,.bool t193,.int .i64 0]) ?_ 5 _ rfl;(with_reducible repeat (first|refine blk_drewN ?_ _|refine blk_drew ?_|refine blk_alloc ?_ _));refine blk_put (cs:=#[.slice Ao20 t187.length co20,.bool t190,.int .i64 t191,.int .i64 t192,.bool false,.int .i64 0]) ?_ 4 _ rfl;(with_reducible repeat (first|refine blk_drewN ?_ _|refine blk_drew ?_|refine blk_alloc ?_ _));refine blk_put (cs:=#[.slice Ao20 t187.length co20,.bool t190,.int .i64 t191,.int .i64 0,.bool false,.int .i64 0]) ?_ 3 _ rfl;(with_reducible repeat (first|refine blk_drewN ?_ _|refine blk_drew ?_|refine blk_alloc ?_ _));refine blk_put (cs:=#[.slice Ao20 t187.length co20,.bool t190,.int .i64 0,.int .i64 0,.bool false,.int .i64 0]) ?_ 2 _ rfl;(with_reducible repeat (first|refine blk_drewN ?_ _|refine blk_drew ?_|refine blk_alloc ?_ _));refine blk_put (cs:=#[.slice Ao20 t187.length co20,.bool false,.int .i64 0,.int .i64 0,.bool false,.int .i64 0]) ?_ 1 _ rfl;(with_reducible repeat (first|refine blk_drewN ?_ _|refine blk_drew ?_|refine blk_alloc ?_ _));refine blk_put (cs:=#[.slice none 0 0,.bool false,.int .i64 0,.int .i64 0,.bool false,.int .i64 0]) ?_ 0 _ rfl;(with_reducible repeat (first|refine blk_drewN ?_ _|refine blk_drew ?_|refine blk_alloc ?_ _));exact BK196.out))⟩;have n4_ : Aside0 (Below w.heap.size w w22):=⟨(by rw [hw];exact (by repeat (first|(with_reducible first|exact HB.out|apply below_alloc|apply pw_below_drewN|apply below_drew1|refine below_set ?_ GE196.out)|exact HB.out)))⟩;clear hw;clear HO184;clear HO186;clear HO189;clear BK196;clear HB;have HO184:=n0_;have HO186:=n1_;have HO189:=n2_;have BK196:=n3_;have HB:=n4_;clear n0_ n1_ n2_ n3_ n4_;obtain ⟨Ao23,co23,eo23⟩:=Kd.S_slice HO184.out;subst eo23;have p197 : 0 ≤ (0 : Int):=(by omega);have q197 : 0 < (t181.length : Int):=of_decide_eq_true (by first|(with_reducible assumption)|assumption);obtain ⟨ad197,A197_0,c197_0,e197,hx197_0,hx197_1,hx197_2,hx197_3,hx197_4,hx197_5,hl197_0,hi197_0⟩:=at_T34 (Kd.S_reads' HO184.out).2.2 0 p197 q197;(try rw [← Nbq6.out] at hx197_1);(try rw [← Nbq11.out] at hx197_1);(try rw [← Nbq6.out] at hx197_4);(try rw [← Nbq11.out] at hx197_4);cases e197;obtain ⟨ce197,hce197,hMe197,hcc197⟩:=Kd.S_get HO184.out z34 0 p197 (by first|exact q197|exact of_decide_eq_true (by first|(with_reducible assumption)|assumption)|(have e_:=(Kd.S_reads' HO184.out).1;omega));obtain ⟨ve197_0,rfl,ge197_0⟩:=k34_openM hMe197;have hv197_0:=hcc197 0 _ rfl;rw [Nat.add_zero] at hv197_0;replace hv197_0:=Option.some.inj (hv197_0.symm.trans hx197_0);rw [hv197_0] at ge197_0;have HL197_0:=Aside0.mk (show Kd.R k60 60 _ _ _ _ ((rd_T34 t181 0).f0) from ge197_0);clear hv197_0 ge197_0;clear hcc197 hce197;have qi197 : (0 < t181.length) = True:=eq_true (by omega);(try rw [show ((0 : Int)).toNat = 0 from rfl] at hx197_0);(try rw [show 0 * 6 = 0 from rfl] at hx197_0);(try rw [Addr.add_zero'] at hx197_0);(try rw [show ((0 : Int)).toNat = 0 from rfl] at hx197_1);(try rw [show 0 * 6 = 0 from rfl] at hx197_1);(try rw [Addr.add_zero'] at hx197_1);(try rw [show ((0 : Int)).toNat = 0 from rfl] at hx197_2);(try rw [show 0 * 6 = 0 from rfl] at hx197_2);(try rw [Addr.add_zero'] at hx197_2);(try rw [show ((0 : Int)).toNat = 0 from rfl] at hx197_3);(try rw [show 0 * 6 = 0 from rfl] at hx197_3);(try rw [Addr.add_zero'] at hx197_3);(try rw [show ((0 : Int)).toNat = 0 from rfl] at hx197_4);(try rw [show 0 * 6 = 0 from rfl] at hx197_4);(try rw [Addr.add_zero'] at hx197_4);(try rw [show ((0 : Int)).toNat = 0 from rfl] at hx197_5);(try rw [show 0 * 6 = 0 from rfl] at hx197_5);(try rw [Addr.add_zero'] at hx197_5);have HR197_0:=Aside0.mk hi197_0;have HC197_0:=Aside0.mk hl197_0;clear hi197_0 hl197_0;replace p197:=eq_true p197;replace q197:=eq_true q197;have p198 : 0 ≤ (0 : Int):=(by omega);have q198 : 0 < (t181.length : Int):=of_decide_eq_true (by first|(with_reducible assumption)|assumption);obtain ⟨ad198,A198_0,c198_0,e198,hx198_0,hx198_1,hx198_2,hx198_3,hx198_4,hx198_5,hl198_0,hi198_0⟩:=at_T34 (Kd.S_reads' HO184.out).2.2 0 p198 q198;(try rw [← Nbq6.out] at hx198_1);(try rw [← Nbq11.out] at hx198_1);(try rw [← Nbq6.out] at hx198_4);(try rw [← Nbq11.out] at hx198_4);obtain rfl : ad197 = ad198:=(by injection e198);obtain ⟨ce198,hce198,hMe198,hcc198⟩:=Kd.S_get HO184.out z34 0 p198 (by first|exact q198|exact of_decide_eq_true (by first|(with_reducible assumption)|assumption)|(have e_:=(Kd.S_reads' HO184.out).1;omega));obtain ⟨ve198_0,rfl,ge198_0⟩:=k34_openM hMe198;have hv198_0:=hcc198 0 _ rfl;rw [Nat.add_zero] at hv198_0;replace hv198_0:=Option.some.inj (hv198_0.symm.trans hx198_0);rw [hv198_0] at ge198_0;have HL198_0:=Aside0.mk (show Kd.R k60 60 _ _ _ _ ((rd_T34 t181 0).f0) from ge198_0);clear hv198_0 ge198_0;clear hcc198 hce198;have qi198 : (0 < t181.length) = True:=eq_true (by omega);(try rw [show ((0 : Int)).toNat = 0 from rfl] at hx198_0);(try rw [show 0 * 6 = 0 from rfl] at hx198_0);(try rw [Addr.add_zero'] at hx198_0);(try rw [show ((0 : Int)).toNat = 0 from rfl] at hx198_1);(try rw [show 0 * 6 = 0 from rfl] at hx198_1);(try rw [Addr.add_zero'] at hx198_1);(try rw [show ((0 : Int)).toNat = 0 from rfl] at hx198_2);(try rw [show 0 * 6 = 0 from rfl] at hx198_2);(try rw [Addr.add_zero'] at hx198_2);(try rw [show ((0 : Int)).toNat = 0 from rfl] at hx198_3);(try rw [show 0 * 6 = 0 from rfl] at hx198_3);(try rw [Addr.add_zero'] at hx198_3);(try rw [show ((0 : Int)).toNat = 0 from rfl] at hx198_4);(try rw [show 0 * 6 = 0 from rfl] at hx198_4);(try rw [Addr.add_zero'] at hx198_4);(try rw [show ((0 : Int)).toNat = 0 from rfl] at hx198_5);(try rw [show 0 * 6 = 0 from rfl] at hx198_5);(try rw [Addr.add_zero'] at hx198_5);have HR198_0:=Aside0.mk hi198_0;have HC198_0:=Aside0.mk hl198_0;clear hi198_0 hl198_0;replace p198:=eq_true p198;replace q198:=eq_true q198;have ea_:=Option.some.inj (hx197_0.symm.trans hx198_0);injection ea_ with ea_ en_ ec_;subst ea_;subst ec_;clear en_;have p199 : 0 ≤ (0 : Int):=(by omega);have q199 : 0 < (t181.length : Int):=of_decide_eq_true (by first|(with_reducible assumption)|assumption);obtain ⟨ad199,A199_0,c199_0,e199,hx199_0,hx199_1,hx199_2,hx199_3,hx199_4,hx199_5,hl199_0,hi199_0⟩:=at_T34 (Kd.S_reads' HO184.out).2.2 0 p199 q199;(try rw [← Nbq6.out] at hx199_1);(try rw [← Nbq11.out] at hx199_1);(try rw [← Nbq6.out] at hx199_4);(try rw [← Nbq11.out] at hx199_4);obtain rfl : ad197 = ad199:=(by injection e199);obtain ⟨ce199,hce199,hMe199,hcc199⟩:=Kd.S_get HO184.out z34 0 p199 (by first|exact q199|exact of_decide_eq_true (by first|(with_reducible assumption)|assumption)|(have e_:=(Kd.S_reads' HO184.out).1;omega));obtain ⟨ve199_0,rfl,ge199_0⟩:=k34_openM hMe199;have hv199_0:=hcc199 0 _ rfl;rw [Nat.add_zero] at hv199_0;replace hv199_0:=Option.some.inj (hv199_0.symm.trans hx199_0);rw [hv199_0] at ge199_0;have HL199_0:=Aside0.mk (show Kd.R k60 60 _ _ _ _ ((rd_T34 t181 0).f0) from ge199_0);clear hv199_0 ge199_0;clear hcc199 hce199;have qi199 : (0 < t181.length) = True:=eq_true (by omega);(try rw [show ((0 : Int)).toNat = 0 from rfl] at hx199_0);(try rw [show 0 * 6 = 0 from rfl] at hx199_0);(try rw [Addr.add_zero'] at hx199_0);(try rw [show ((0 : Int)).toNat = 0 from rfl] at hx199_1);(try rw [show 0 * 6 = 0 from rfl] at hx199_1);(try rw [Addr.add_zero'] at hx199_1);(try rw [show ((0 : Int)).toNat = 0 from rfl] at hx199_2);(try rw [show 0 * 6 = 0 from rfl] at hx199_2);(try rw [Addr.add_zero'] at hx199_2);(try rw [show ((0 : Int)).toNat = 0 from rfl] at hx199_3);(try rw [show 0 * 6 = 0 from rfl] at hx199_3);(try rw [Addr.add_zero'] at hx199_3);(try rw [show ((0 : Int)).toNat = 0 from rfl] at hx199_4);(try rw [show 0 * 6 = 0 from rfl] at hx199_4);(try rw [Addr.add_zero'] at hx199_4);(try rw [show ((0 : Int)).toNat = 0 from rfl] at hx199_5);(try rw [show 0 * 6 = 0 from rfl] at hx199_5);(try rw [Addr.add_zero'] at hx199_5);have HR199_0:=Aside0.mk hi199_0;have HC199_0:=Aside0.mk hl199_0;clear hi199_0 hl199_0;replace p199:=eq_true p199;replace q199:=eq_true q199;have ea_:=Option.some.inj (hx197_0.symm.trans hx199_0);injection ea_ with ea_ en_ ec_;subst ea_;subst ec_;clear en_;have p200 : 0 ≤ (0 : Int):=(by omega);have q200 : 0 < (t181.length : Int):=of_decide_eq_true (by first|(with_reducible assumption)|assumption);obtain ⟨ad200,A200_0,c200_0,e200,hx200_0,hx200_1,hx200_2,hx200_3,hx200_4,hx200_5,hl200_0,hi200_0⟩:=at_T34 (Kd.S_reads' HO184.out).2.2 0 p200 q200;(try rw [← Nbq6.out] at hx200_1);(try rw [← Nbq11.out] at hx200_1);(try rw [← Nbq6.out] at hx200_4);(try rw [← Nbq11.out] at hx200_4);obtain rfl : ad197 = ad200:=(by injection e200);obtain ⟨ce200,hce200,hMe200,hcc200⟩:=Kd.S_get HO184.out z34 0 p200 (by first|exact q200|exact of_decide_eq_true (by first|(with_reducible assumption)|assumption)|(have e_:=(Kd.S_reads' HO184.out).1;omega));obtain ⟨ve200_0,rfl,ge200_0⟩:=k34_openM hMe200;have hv200_0:=hcc200 0 _ rfl;rw [Nat.add_zero] at hv200_0;replace hv200_0:=Option.some.inj (hv200_0.symm.trans hx200_0);rw [hv200_0] at ge200_0;have HL200_0:=Aside0.mk (show Kd.R k60 60 _ _ _ _ ((rd_T34 t181 0).f0) from ge200_0);clear hv200_0 ge200_0;clear hcc200 hce200;have qi200 : (0 < t181.length) = True:=eq_true (by omega);(try rw [show ((0 : Int)).toNat = 0 from rfl] at hx200_0);(try rw [show 0 * 6 = 0 from rfl] at hx200_0);(try rw [Addr.add_zero'] at hx200_0);(try rw [show ((0 : Int)).toNat = 0 from rfl] at hx200_1);(try rw [show 0 * 6 = 0 from rfl] at hx200_1);(try rw [Addr.add_zero'] at hx200_1);(try rw [show ((0 : Int)).toNat = 0 from rfl] at hx200_2);(try rw [show 0 * 6 = 0 from rfl] at hx200_2);(try rw [Addr.add_zero'] at hx200_2);(try rw [show ((0 : Int)).toNat = 0 from rfl] at hx200_3);(try rw [show 0 * 6 = 0 from rfl] at hx200_3);(try rw [Addr.add_zero'] at hx200_3);(try rw [show ((0 : Int)).toNat = 0 from rfl] at hx200_4);(try rw [show 0 * 6 = 0 from rfl] at hx200_4);(try rw [Addr.add_zero'] at hx200_4);(try rw [show ((0 : Int)).toNat = 0 from rfl] at hx200_5);(try rw [show 0 * 6 = 0 from rfl] at hx200_5);(try rw [Addr.add_zero'] at hx200_5);have HR200_0:=Aside0.mk hi200_0;have HC200_0:=Aside0.mk hl200_0;clear hi200_0 hl200_0;replace p200:=eq_true p200;replace q200:=eq_true q200;have ea_:=Option.some.inj (hx197_0.symm.trans hx200_0);injection ea_ with ea_ en_ ec_;subst ea_;subst ec_;clear en_;have p201 : 0 ≤ (1 : Int):=(by omega);have q201 : 1 < (t181.length : Int):=of_decide_eq_true (by first|(with_reducible assumption)|assumption);obtain ⟨ad201,A201_0,c201_0,e201,hx201_0,hx201_1,hx201_2,hx201_3,hx201_4,hx201_5,hl201_0,hi201_0⟩:=at_T34 (Kd.S_reads' HO184.out).2.2 1 p201 q201;(try rw [← Nbq6.out] at hx201_1);(try rw [← Nbq11.out] at hx201_1);(try rw [← Nbq6.out] at hx201_4);(try rw [← Nbq11.out] at hx201_4);obtain rfl : ad197 = ad201:=(by injection e201);obtain ⟨ce201,hce201,hMe201,hcc201⟩:=Kd.S_get HO184.out z34 1 p201 (by first|exact q201|exact of_decide_eq_true (by first|(with_reducible assumption)|assumption)|(have e_:=(Kd.S_reads' HO184.out).1;omega));obtain ⟨ve201_0,rfl,ge201_0⟩:=k34_openM hMe201;have hv201_0:=hcc201 0 _ rfl;rw [Nat.add_zero] at hv201_0;replace hv201_0:=Option.some.inj (hv201_0.symm.trans hx201_0);rw [hv201_0] at ge201_0;have HL201_0:=Aside0.mk (show Kd.R k60 60 _ _ _ _ ((rd_T34 t181 1).f0) from ge201_0);clear hv201_0 ge201_0;clear hcc201 hce201;(try simp only [show (1 : Int).toNat = 1 from rfl,Nat.reduceMul,Nat.reduceEqDiff,Go.Addr.add,↓reduceIte] at hx201_0);(try simp only [show (1 : Int).toNat = 1 from rfl,Nat.reduceMul,Nat.reduceEqDiff,Go.Addr.add,↓reduceIte] at hx201_1);(try simp only [show (1 : Int).toNat = 1 from rfl,Nat.reduceMul,Nat.reduceEqDiff,Go.Addr.add,↓reduceIte] at hx201_2);(try simp only [show (1 : Int).toNat = 1 from rfl,Nat.reduceMul,Nat.reduceEqDiff,Go.Addr.add,↓reduceIte] at hx201_3);(try simp only [show (1 : Int).toNat = 1 from rfl,Nat.reduceMul,Nat.reduceEqDiff,Go.Addr.add,↓reduceIte] at hx201_4);(try simp only [show (1 : Int).toNat = 1 from rfl,Nat.reduceMul,Nat.reduceEqDiff,Go.Addr.add,↓reduceIte] at hx201_5);have qi201 : (1 < t181.length) = True:=eq_true (by omega);(try rw [show ((1 : Int)).toNat = 1 from rfl] at hx201_0);(try rw [show 1 * 6 = 6 from rfl] at hx201_0);(try rw [show ((1 : Int)).toNat = 1 from rfl] at hx201_1);(try rw [show 1 * 6 = 6 from rfl] at hx201_1);(try rw [show ((1 : Int)).toNat = 1 from rfl] at hx201_2);(try rw [show 1 * 6 = 6 from rfl] at hx201_2);(try rw [show ((1 : Int)).toNat = 1 from rfl] at hx201_3);(try rw [show 1 * 6 = 6 from rfl] at hx201_3);(try rw [show ((1 : Int)).toNat = 1 from rfl] at hx201_4);(try rw [show 1 * 6 = 6 from rfl] at hx201_4);(try rw [show ((1 : Int)).toNat = 1 from rfl] at hx201_5);(try rw [show 1 * 6 = 6 from rfl] at hx201_5);have HR201_0:=Aside0.mk hi201_0;have HC201_0:=Aside0.mk hl201_0;clear hi201_0 hl201_0;replace p201:=eq_true p201;replace q201:=eq_true q201;obtain ⟨Ao24,co24,eo24⟩:=Kd.R_slice HO186.out;subst eo24;have p202 : 0 ≤ (0 : Int):=(by omega);have q202 : 0 < (t182.length : Int):=of_decide_eq_true (by first|(with_reducible assumption)|assumption);obtain ⟨ad202,e202,hx202_0,hx202_1⟩:=at_T43 (Kd.R_reads' HO186.out).2.2 0 p202 q202;cases e202;have qi202 : (0 < t182.length) = True:=eq_true (by omega);(try rw [show ((0 : Int)).toNat = 0 from rfl] at hx202_0);(try rw [show 0 * 2 = 0 from rfl] at hx202_0);(try rw [Addr.add_zero'] at hx202_0);(try rw [show ((0 : Int)).toNat = 0 from rfl] at hx202_1);(try rw [show 0 * 2 = 0 from rfl] at hx202_1);(try rw [Addr.add_zero'] at hx202_1);replace p202:=eq_true p202;replace q202:=eq_true q202;have p203 : 0 ≤ (0 : Int):=(by omega);have q203 : 0 < (t182.length : Int):=of_decide_eq_true (by first|(with_reducible assumption)|assumption);obtain ⟨ad203,e203,hx203_0,hx203_1⟩:=at_T43 (Kd.R_reads' HO186.out).2.2 0 p203 q203;obtain rfl : ad202 = ad203:=(by injection e203);have qi203 : (0 < t182.length) = True:=eq_true (by omega);(try rw [show ((0 : Int)).toNat = 0 from rfl] at hx203_0);(try rw [show 0 * 2 = 0 from rfl] at hx203_0);(try rw [Addr.add_zero'] at hx203_0);(try rw [show ((0 : Int)).toNat = 0 from rfl] at hx203_1);(try rw [show 0 * 2 = 0 from rfl] at hx203_1);(try rw [Addr.add_zero'] at hx203_1);replace p203:=eq_true p203;replace q203:=eq_true q203))
             go_ret
             exact ⟨by first|rfl|(simp [errW_none,errW_some] <;> rfl)|(simp [*,errW_none,errW_some] <;> rfl),by repeat (first|(with_reducible first|exact HB.out|apply below_alloc|apply pw_below_drewN|apply below_drew1|refine below_set ?_ GE196.out)|exact HB.out)⟩
            rw [if_neg c16] at H
            exact absurd H (by simp)
           rw [if_neg c15] at H
           exact absurd H (by simp)
          rw [if_neg c14] at H
          exact absurd H (by simp)
         rw [if_neg c13] at H
         exact absurd H (by simp)
        replace c12:=Bool.eq_false_iff.mpr c12
        subst c12
        have H1 : (none) = some r:=by rw [if_neg (show ¬ (false = true) by decide)] at H;exact H
        clear H
        have H:=H1
        clear H1
        exact absurd H (by simp)
       rw [if_neg c10] at H
       exact absurd H (by simp)
      rw [if_neg c9] at H
      exact absurd H (by simp)
     rw [if_neg c8] at H
     exact absurd H (by simp)
    replace c7:=Bool.eq_false_iff.mpr c7
    subst c7
    have H1 : (none) = some r:=by rw [if_neg (show ¬ (false = true) by decide)] at H;exact H
    clear H
    have H:=H1
    clear H1
    exact absurd H (by simp)
   rw [if_neg c5] at H
   exact absurd H (by simp)
  rw [if_neg c4] at H
  exact absurd H (by simp)
 rw [if_neg c3] at H
 exact absurd H (by simp)
theorem eqA32 (d : Nat) (w : World) (x0 y0 : Bool) (x1 y1 : Int) :
  (Op.equalIn (d + 2) 32 (.agg #[.bool x0,.int .i64 x1]) (.agg #[.bool y0,.int .i64 y1])).run Tryz.prog w = .ok (x0 == y0 && (x1 == y1)) w:=by
 refine eqA_of Tryz.underlying32 (by kernel_rfl) ?_
 refine eqf_cons (by rfl) (by go_simp;rfl) (by go_simp;rfl) (by go_simp) ?_
 exact eqf_last (by rfl) (by go_simp;rfl) (by go_simp;rfl) (by go_simp)
end Go.Proofs.YtfgffjchphignaaGreatDoor.Print
end
section
namespace Go.Proofs.YtfgffjchphignaaGreatDoor.PureN
open Go.RowKit Go.Proofs.YtfgffjchphignaaGreatDoor.Print Go.Proofs.YtfgffjchphignaaGreatDoorW.PrintWords Go.Proofs.YtfgffjchphignaaGreatDoorW.PrintLast
/-! ExpoLines, in plain Lean. -/
theorem known_isL : spillwaylaw6_known.f 4000 = some true:=by decide +kernel
abbrev b0 : Bod:=⟨[],[],[]⟩
structure InvL (l0 : List ByteArray) (i : Nat) (body : ByteArray) (B : Bod) : Prop where
 bd : body.data.toList = ((l0.take i).map (·.data.toList)).flatMap (· ++ [10])
 run : B = runB b0 1 ((l0.take i).map (·.data.toList))
 of : B.of = []
 ok : ∀ s ∈ (l0.take i).map (·.data.toList),s.length ≤ 150 ∧ (10 : UInt8) ∉ s
 lab : ∀ x ∈ B.out,x.labels.length ≤ 10
 len : B.out.length ≤ i ∧ B.bad.length ≤ i
end Go.Proofs.YtfgffjchphignaaGreatDoor.PureN
end
section
namespace Go.Proofs.YtfgffjchphignaaGreatDoor.Print
open Go.RowKit Go.Proofs.YtfgffjchphignaaGreatDoorX Go.Proofs.YtfgffjchphignaaGreatDoorW.PrintWords Go.Proofs.YtfgffjchphignaaGreatDoorW.PrintLast Go.Proofs.YtfgffjchphignaaGreatDoorW.PrintMore
/-! ### spillwayref3_Value: function 17 -/
def spillwayref3_Value.l0 : Nat → ByteArray → Int → Option (Bool)
 | 0,_,_=>none
 | k + 1,x0,x3=>if x3 < (x0.size : Int) then (if 0 ≤ x3 then (if (bt x0 x3) = 10 then (some false) else (spillwayref3_Value.l0 k x0 (wrap64 (x3 + 1)))) else (none)) else (some (decide ((x0.size : Int) ≤ 30)))
def spillwayref3_Value.f (k : Nat) (a0 : ByteArray) : Option (Bool):=spillwayref3_Value.l0 k a0 0
set_option maxHeartbeats 8000000 in
set_option maxRecDepth 100000 in
theorem spillwayref3_Value.calls (k : Nat) (a0 : ByteArray) (r : Bool) (w : World) (h : spillwayref3_Value.f k a0 = some r) :
  Calls Tryz.prog 17 #[.string a0] w fun e w'=>e = .returned (.bool r) ∧ Drawn0 w w':=by
 have H : (spillwayref3_Value.l0 k a0 0) = some r:=h
 clear h
 have H':=Aside0.mk H
 clear H
 go_enter Tryz.func17,Tryz.ntmps17
 go_wp2
 go_loopg [3] k (fun kq v3 w'=>∃ (x3_1 : Int),v3 = .int .i64 x3_1 ∧ Aside0 (spillwayref3_Value.l0 kq a0 x3_1 = some r) ∧ Aside0 (kq ≤ k) ∧ Drawn0 w w')
 case atStart=>exact ⟨(0),(by first|rfl|(simp;done)|(simp [*];done)),H',⟨Nat.le_refl _⟩,by repeat (first|exact Drawn0.refl _|apply Drawn0.step)⟩
 clear H'
 try clear c1
 obtain ⟨x3_1,rfl,HA,HK1,⟨m1,rfl⟩⟩:=hrel
 cases gk with
 | zero=>exact absurd HA.out (by simp [spillwayref3_Value.l0])
 | succ k1 =>
  have H:=HA.out
  clear HA
  simp only [spillwayref3_Value.l0] at H
  by_cases c2 : x3_1 < (a0.size : Int)
  ·rw [if_pos c2] at H
   have c2b0 : decide (x3_1 < (a0.size : Int)) = true:=decide_eq_true c2
   clear c2
   by_cases c3 : 0 ≤ x3_1
   ·rw [if_pos c3] at H
    have c3b0 : decide (0 ≤ x3_1) = true:=decide_eq_true c3
    clear c3
    by_cases c5 : (bt a0 x3_1) = 10
    ·rw [if_pos c5] at H
     have c5b0 : ((bt a0 x3_1) == 10) = true:=beq_iff_eq.mpr c5
     have c5b1 : ((bt a0 x3_1) != 10) = false:=bne_eq_false_iff_eq.mpr c5
     clear c5
     obtain rfl:=Option.some.inj H
     have p4 : 0 ≤ (x3_1 : Int):=of_decide_eq_true (by first|(with_reducible assumption)|assumption)
     have q4 : x3_1 < (a0.size : Int):=of_decide_eq_true (by first|(with_reducible assumption)|assumption)
     have hx4:=bt_at a0 x3_1
     replace p4:=eq_true p4
     replace q4:=eq_true q4
     go_wp2
     go_ret
     exact ⟨by first|rfl|(simp;done)|(simp [*];done),by repeat (first|exact Drawn0.refl _|apply Drawn0.step)⟩
    rw [if_neg c5] at H
    have c5b0 : ((bt a0 x3_1) == 10) = false:=beq_eq_false_iff_ne.mpr c5
    have c5b1 : ((bt a0 x3_1) != 10) = true:=bne_iff_ne.mpr c5
    have H':=Aside0.mk H
    clear H
    have p4 : 0 ≤ (x3_1 : Int):=of_decide_eq_true (by first|(with_reducible assumption)|assumption)
    have q4 : x3_1 < (a0.size : Int):=of_decide_eq_true (by first|(with_reducible assumption)|assumption)
    have hx4:=bt_at a0 x3_1
    replace p4:=eq_true p4
    replace q4:=eq_true q4
    go_wp2
    go_roundg k1
    case measure=>have:=HK1.out;omega
    case rel=>exact ⟨(wrap64 (x3_1 + 1)),(by first|rfl|(simp;done)|(simp [*];done)),H',⟨by have:=HK1.out;omega⟩,by repeat (first|exact Drawn0.refl _|apply Drawn0.step)⟩
   rw [if_neg c3] at H
   exact absurd H (by simp)
  rw [if_neg c2] at H
  have c2b0 : decide (x3_1 < (a0.size : Int)) = false:=decide_eq_false c2
  clear c2
  obtain rfl:=Option.some.inj H
  go_wp2
  go_ret
  exact ⟨by first|rfl|(simp;done)|(simp [*];done),by repeat (first|exact Drawn0.refl _|apply Drawn0.step)⟩
end Go.Proofs.YtfgffjchphignaaGreatDoor.Print
end
section
namespace Go.Proofs.YtfgffjchphignaaGreatDoor.PureN
open Go.RowKit Go.Proofs.YtfgffjchphignaaGreatDoor.Print
open Go.Proofs.YtfgffjchphignaaGreatDoorX Go.Proofs.YtfgffjchphignaaGreatDoorW.PrintWords Go.Proofs.YtfgffjchphignaaGreatDoorW.PrintLast Go.Proofs.YtfgffjchphignaaGreatDoorW.PrintMore
/-! The document's names and values. -/
theorem rval_loop (s : ByteArray) (hn : s.size ≤ 4611686018427387904) (d : Nat) : ∀ (x : Nat) (k : Nat),x + d = s.size → d < k →
  spillwayref3_Value.l0 k s (x : Int) = some (!(s.data.toList.drop x).contains 10 && decide (s.size ≤ 30)):=by
 induction d with
 | zero =>
  intro x k h hk
  obtain ⟨k,rfl⟩ : ∃ m,k = m + 1:=⟨k - 1,by omega⟩
  have hd : s.data.toList.drop x = []:=List.drop_eq_nil_of_le (by simp;show s.size ≤ _;omega)
  rw [spillwayref3_Value.l0,if_neg (by omega),hd]
  exact congrArg some (decide_eq_decide.2 (by omega))
 | succ d ih =>
  intro x k h hk
  obtain ⟨k,rfl⟩ : ∃ m,k = m + 1:=⟨k - 1,by omega⟩
  obtain ⟨c,hc,hg⟩:=bt_byte s x (by omega)
  have hd : s.data.toList.drop x = c :: s.data.toList.drop (x + 1):=by
   obtain ⟨hl,e⟩:=List.getElem?_eq_some_iff.1 hg
   rw [List.drop_eq_getElem_cons hl,e]
  have hw : wrap64 ((x : Int) + 1) = ((x + 1 : Nat) : Int):=by unfold wrap64;omega
  rw [spillwayref3_Value.l0,if_pos (by omega),if_pos (by omega),hw,hc,hd,List.contains_cons]
  by_cases h10 : (c.toNat : Int) = 10
  ·have e : c = 10:=(toNat_is c 10 (by omega)).1 h10
   rw [if_pos h10,e]
   rfl
  have e : ((10 : UInt8) == c) = false:=beq_eq_false_iff_ne.2 (fun e=>h10 (by rw [← e];rfl))
  rw [if_neg h10,ih (x + 1) k (by omega) (by omega),e,Bool.false_or]
theorem rval_eq (s : ByteArray) (hn : s.size ≤ 4611686018427387904) (k : Nat) (hk : s.size < k) : spillwayref3_Value.f k s = some (!s.data.toList.contains 10 && decide (s.data.toList.length ≤ 30)):=by
 have h:=rval_loop s hn s.size 0 k (by omega) hk
 rw [show ((0 : Nat) : Int) = 0 from rfl,List.drop_zero] at h
 unfold spillwayref3_Value.f
 rw [h,show s.data.toList.length = s.size from Array.length_toList]
end Go.Proofs.YtfgffjchphignaaGreatDoor.PureN
end
section
namespace Go.Proofs.YtfgffjchphignaaGreatDoor.Print
open Go.Sort Go.Shelf PureN
open Go.RowKit Go.Proofs.YtfgffjchphignaaGreatDoorX Go.Proofs.YtfgffjchphignaaGreatDoorW.PrintWords Go.Proofs.YtfgffjchphignaaGreatDoorW.PrintLast Go.Proofs.YtfgffjchphignaaGreatDoorW.PrintMore
/-! The document's kinds of metrics: names and kinds side by side. -/
def rkget : List ByteArray → List Int → ByteArray → Int
 | a :: ns,k :: ks,n=>if a = n then k else rkget ns ks n
 | _,_,_=>0
theorem rkget_set (n : ByteArray) (v : Int) (m : ByteArray) : ∀ (ns : List ByteArray) (ks : List Int) (i : Nat),ks.length = ns.length → (∀ j,j < i → ns[j]? ≠ some n) → ns[i]? = some n → rkget ns (ks.set i v) m = if n = m then v else rkget ns ks m
 | [],_,i,_,_,h=>by simp at h
 | a :: ns,[],i,h,_,_=>by simp at h
 | a :: ns,k :: ks,0,h,_,h2=>by
  obtain rfl : a = n:=by simpa using h2
  rw [List.set_cons_zero,rkget,rkget]
  split <;> rfl
 | a :: ns,k :: ks,i + 1,h,h1,h2=>by
  have hne : a ≠ n:=fun e=>h1 0 (by omega) (by simp [e])
  rw [List.set_cons_succ,rkget,rkget,rkget_set n v m ns ks i (by simpa using h) (fun j hj=>by simpa using h1 (j + 1) (by omega)) (by simpa using h2)]
  by_cases e : a = m
  ·rw [if_pos e,if_pos e,if_neg (fun e2=>hne (e.trans e2.symm))]
  rw [if_neg e,if_neg e]
theorem rkget_app (n : ByteArray) (v : Int) (m : ByteArray) : ∀ (ns : List ByteArray) (ks : List Int),ks.length = ns.length → n ∉ ns → rkget (ns ++ [n]) (ks ++ [v]) m = if n = m then v else rkget ns ks m
 | [],[],_,_=>rfl
 | [],k :: ks,h,_=>by simp at h
 | a :: ns,[],h,_=>by simp at h
 | a :: ns,k :: ks,h,h1=>by
  have hne : a ≠ n:=fun e=>h1 (by simp [e])
  rw [List.cons_append,List.cons_append,rkget,rkget,rkget_app n v m ns ks (by simpa using h) (fun e=>h1 (by simp [e]))]
  by_cases e : a = m
  ·rw [if_pos e,if_pos e,if_neg (fun e2=>hne (e.trans e2.symm))]
  rw [if_neg e,if_neg e]
theorem ba_inj_ {a b : ByteArray} (h : a.data.toList = b.data.toList) : a = b:=by
 cases a;cases b
 rename_i x y
 cases x;cases y
 cases h
 rfl
theorem kget_kset (K : Kinds) (n m : List UInt8) (v : Int) : kget (kset K n v) m = if n = m then v else kget K m:=by
 unfold kget kset
 rw [List.find?_cons]
 by_cases e : n = m
 ·rw [if_pos e,show ((n,v).1 == m) = true from beq_iff_eq.2 e]
  rfl
 rw [if_neg e,show ((n,v).1 == m) = false from beq_eq_false_iff_ne.2 e]
structure RkA (ns : List ByteArray) (ks : List Int) (K : Kinds) : Prop where
 len : ks.length = ns.length
 agr : ∀ m : ByteArray,rkget ns ks m = kget K m.data.toList
theorem RkA.nil : RkA [] [] []:=⟨rfl,fun _=>rfl⟩
theorem RkA.at_ {ns : List ByteArray} {ks : List Int} {K : Kinds} (h : RkA ns ks K) (n : ByteArray) (v : Int) (i : Nat) (h1 : ∀ j,j < i → ns[j]? ≠ some n) (h2 : ns[i]? = some n) : RkA ns (ks.set i v) (kset K n.data.toList v):=by
 refine ⟨by rw [List.length_set];exact h.len,fun m=>?_⟩
 rw [rkget_set n v m ns ks i h.len h1 h2,kget_kset,h.agr]
 by_cases e : n = m
 ·rw [if_pos e,if_pos (by rw [e])]
 rw [if_neg e,if_neg (fun e2=>e (ba_inj_ e2))]
theorem RkA.new {ns : List ByteArray} {ks : List Int} {K : Kinds} (h : RkA ns ks K) (n : ByteArray) (v : Int) (h1 : n ∉ ns) : RkA (ns ++ [n]) (ks ++ [v]) (kset K n.data.toList v):=by
 refine ⟨by rw [List.length_append,List.length_append,h.len];rfl,fun m=>?_⟩
 rw [rkget_app n v m ns ks h.len h1,kget_kset,h.agr]
 by_cases e : n = m
 ·rw [if_pos e,if_pos (by rw [e])]
 rw [if_neg e,if_neg (fun e2=>e (ba_inj_ e2))]
end Go.Proofs.YtfgffjchphignaaGreatDoor.Print
end
section
namespace Go.Proofs.YtfgffjchphignaaGreatDoor.Print
open Go.Sort Go.Shelf PureN
open Go.RowKit Go.Proofs.YtfgffjchphignaaGreatDoorX Go.Proofs.YtfgffjchphignaaGreatDoorW.PrintWords Go.Proofs.YtfgffjchphignaaGreatDoorW.PrintLast Go.Proofs.YtfgffjchphignaaGreatDoorW.PrintMore
attribute [local go_sem high] eqA32
/-! ExpoBuilt: the walk. -/
theorem line_lit (S : ByteArray) (l : List UInt8) (h : S.data.toList = l) (k : Nat) : expo_Line.f k S = some (scrOut (lineS l)):=by unfold expo_Line.f;rw [h]
theorem blt_line (S v : ByteArray) (a : Bool) (n : Int) (u : Nat) (h : Bool) (hS : S.data.toList = bltL v.data.toList a n u h) (hv : valB v.data.toList = true) (hn : PureN.R n) (hi : isNm a n = true) (hu : u ≤ 1000000) : expo_Line.f 4000 S = some ((bltP v.data.toList).map ofPr,a,n,(if h then (u : Int) else 0),h,0,0):=by
 rw [line_lit S _ hS,blt_ok _ hv a n hn hi u hu h]
 rfl
theorem blt_line_end (S v : ByteArray) (a : Bool) (n : Int) (u : Nat) (h : Bool) (hS : S.data.toList = bltL v.data.toList a n u h) : ∃ e,e ≠ 0 ∧ expo_Line.f 4000 (S ++ (⟨#[32]⟩ : ByteArray)) = some ([],false,0,0,false,0,e):=by
 obtain ⟨e,he⟩:=blt_end v.data.toList a n u h
 have h2:=line_lit (S ++ (⟨#[32]⟩ : ByteArray)) (bltL v.data.toList a n u h ++ [32]) (by rw [← hS];simp [ByteArray.append_eq,ByteArray.data_append]) 4000
 rw [he] at h2
 exact ⟨e,lineS_err _ _ he,h2⟩
theorem blt_line_two (q p v : ByteArray) (a : Bool) (n : Int) (hq : q.data.toList = quote v.data.toList) (hp : p.data.toList = printS a n) : ∃ e,e ≠ 0 ∧ expo_Line.f 4000 ((⟨#[117,112,123,97,61]⟩ : ByteArray) ++ q ++ (⟨#[125,32,32]⟩ : ByteArray) ++ p) = some ([],false,0,0,false,0,e):=by
 obtain ⟨e,he⟩:=blt_two v.data.toList a n
 have h2:=line_lit ((⟨#[117,112,123,97,61]⟩ : ByteArray) ++ q ++ (⟨#[125,32,32]⟩ : ByteArray) ++ p) (bltW v.data.toList ++ 32 :: 32 :: printS a n) (by
  unfold bltW
  rw [← hq,← hp]
  simp [ByteArray.append_eq,ByteArray.data_append]) 4000
 rw [he] at h2
 exact ⟨e,lineS_err _ _ he,h2⟩
theorem blt_text (q p v : ByteArray) (a : Bool) (n : Int) (u : Nat) (hq : q.data.toList = quote v.data.toList) (hp : p.data.toList = printS a n) : ((⟨#[117,112,123,97,61]⟩ : ByteArray) ++ q ++ (⟨#[125,32]⟩ : ByteArray) ++ p).data.toList = bltL v.data.toList a n u false:=by
 unfold bltL bltW
 rw [← hq,← hp]
 simp [ByteArray.append_eq,ByteArray.data_append]
theorem blt_textT (q p d v : ByteArray) (a : Bool) (n : Int) (u : Nat) (hq : q.data.toList = quote v.data.toList) (hp : p.data.toList = printS a n) (hd : d.data.toList = Lib.decDigits u) : ((⟨#[117,112,123,97,61]⟩ : ByteArray) ++ q ++ (⟨#[125,32]⟩ : ByteArray) ++ p ++ (⟨#[32]⟩ : ByteArray) ++ d).data.toList = bltL v.data.toList a n u true:=by
 unfold bltL bltW
 rw [← hq,← hp,← hd]
 simp [ByteArray.append_eq,ByteArray.data_append]
theorem rd_blt (v : ByteArray) : (rd_T60 ((bltP v.data.toList).map ofPr) 1).f1 = v:=by
 have h : (rd_T60 ((bltP v.data.toList).map ofPr) 1).f1 = ofL v.data.toList:=rfl
 rw [h]
theorem blt_lab {w : World} {base gl cl : Nat} {ok : Nat → Prop} {v : ByteArray} (h : Kd.R k60 60 w base ok (.slice (some ⟨gl,0,none⟩) 2 cl) ((bltP v.data.toList).map ofPr)) : w.cell? ⟨gl,3,none⟩ = some (.string v):=by
 have hC:=(Kd.R_reads' h).2.2
 have hl : ((bltP v.data.toList).map ofPr).length = 2:=rfl
 obtain ⟨adl,hadl,l0,l1⟩:=at_T60 hC 1 (by omega) (by rw [hl];omega)
 obtain rfl : (⟨gl,0,none⟩ : Addr) = adl:=Option.some.inj hadl
 rw [rd_blt] at l1
 exact l1
theorem far6 {w : World} {g y : Nat} {o : Obj} (h : w.heap[g]? = some o) (hne : g ≠ y) (b0 b1 b2 b3 b4 b5 : Value) : (set6 w y b0 b1 b2 b3 b4 b5).heap[g]? = some o :=
 blk_off (blk_off (blk_off (blk_off (blk_off (blk_off h hne) hne) hne) hne) hne) hne
set_option maxHeartbeats 8000000 in
set_option maxRecDepth 100000 in
theorem built_none (v : ByteArray) (a : Bool) (n t : Int) (wi : Bool) (w : World) (hg_ : LaidW w) (hkn : spillwaylaw6_known.f 4000 = some true) (h0 : v.size = 0) : Calls Tryz.prog 7 #[.string v,.agg #[.bool a,.int .i64 n],.int .u32 t,.bool wi] w fun e w'=>e = .returned (.bool true) ∧ Below w.heap.size w w':=by
 have k0 : ((v.size : Int) == 0) = true:=by rw [h0];rfl
 clear h0
 have HG:=Aside0.mk hg_
 have hkc:=spillwaylaw6_known.calls 4000 true (w.alloc (.cells #[.bool a,.int .i64 n] 32)) (LaidW.below hg_ (below_alloc (Below.refl _ _) _)) hkn
 have hx0:=heap_alloc_new w (.cells #[.bool a,.int .i64 n] 32)
 have hw0:=below_alloc (Below.refl w.heap.size w) (.cells #[.bool a,.int .i64 n] 32)
 have HX0:=Aside0.mk hx0
 have HW0:=Aside0.mk hw0
 clear hg_ hkn hx0 hw0
 go_enter Tryz.func7,Tryz.ntmps7
 go_wp2_with (go_at_call 9;refine hkc.mono ?_;rintro e w1 ⟨rfl,hb1⟩;have HX1:=Aside0.mk ((hb1.block _ (blk_lt HX0.out)).trans HX0.out);have HW1:=Aside0.mk (below_step HW0.out hb1);have x0:=(blk_cell HX1.out 0).trans (show _ = some (Value.bool a) from rfl);have x1:=(blk_cell HX1.out 1).trans (show _ = some (Value.int .i64 n) from rfl);clear hkc hb1 HX0 HW0)
 go_ret
 exact ⟨rfl,HW1.out⟩
set_option maxHeartbeats 8000000 in
set_option maxRecDepth 100000 in
theorem built_long (v : ByteArray) (a : Bool) (n t : Int) (wi : Bool) (w : World) (hg_ : LaidW w) (hkn : spillwaylaw6_known.f 4000 = some true) (h0 : 30 < v.size) : Calls Tryz.prog 7 #[.string v,.agg #[.bool a,.int .i64 n],.int .u32 t,.bool wi] w fun e w'=>e = .returned (.bool true) ∧ Below w.heap.size w w':=by
 have k0 : ((v.size : Int) == 0) = false:=beq_eq_false_iff_ne.2 (by omega)
 have k1 : decide (30 < v.size) = true:=decide_eq_true h0
 have k2 : decide ((30 : Int) < (v.size : Int)) = true:=decide_eq_true (by omega)
 clear h0
 have HG:=Aside0.mk hg_
 have hkc:=spillwaylaw6_known.calls 4000 true (w.alloc (.cells #[.bool a,.int .i64 n] 32)) (LaidW.below hg_ (below_alloc (Below.refl _ _) _)) hkn
 have hx0:=heap_alloc_new w (.cells #[.bool a,.int .i64 n] 32)
 have hw0:=below_alloc (Below.refl w.heap.size w) (.cells #[.bool a,.int .i64 n] 32)
 have HX0:=Aside0.mk hx0
 have HW0:=Aside0.mk hw0
 clear hg_ hkn hx0 hw0
 go_enter Tryz.func7,Tryz.ntmps7
 go_wp2_with (go_at_call 9;refine hkc.mono ?_;rintro e w1 ⟨rfl,hb1⟩;have HX1:=Aside0.mk ((hb1.block _ (blk_lt HX0.out)).trans HX0.out);have HW1:=Aside0.mk (below_step HW0.out hb1);have x0:=(blk_cell HX1.out 0).trans (show _ = some (Value.bool a) from rfl);have x1:=(blk_cell HX1.out 1).trans (show _ = some (Value.int .i64 n) from rfl);clear hkc hb1 HX0 HW0)
 go_ret
 exact ⟨rfl,HW1.out⟩
set_option maxHeartbeats 8000000 in
set_option maxRecDepth 100000 in
theorem built_not (v : ByteArray) (a : Bool) (n t : Int) (wi : Bool) (w : World) (hg_ : LaidW w) (hkn : spillwaylaw6_known.f 4000 = some true) (h0 : v.size ≠ 0) (h1 : v.size ≤ 30) (hi : isNm a n = false) : Calls Tryz.prog 7 #[.string v,.agg #[.bool a,.int .i64 n],.int .u32 t,.bool wi] w fun e w'=>e = .returned (.bool true) ∧ Below w.heap.size w w':=by
 have k0 : ((v.size : Int) == 0) = false:=beq_eq_false_iff_ne.2 (by omega)
 have k1 : decide (30 < v.size) = false:=decide_eq_false (by omega)
 have k2 : decide ((30 : Int) < (v.size : Int)) = false:=decide_eq_false (by omega)
 have hic:=fun W_=>fixis_calls a n W_
 rw [hi] at hic
 clear h0 h1 hi
 have HG:=Aside0.mk hg_
 have hkc:=spillwaylaw6_known.calls 4000 true (w.alloc (.cells #[.bool a,.int .i64 n] 32)) (LaidW.below hg_ (below_alloc (Below.refl _ _) _)) hkn
 have hx0:=heap_alloc_new w (.cells #[.bool a,.int .i64 n] 32)
 have hw0:=below_alloc (Below.refl w.heap.size w) (.cells #[.bool a,.int .i64 n] 32)
 have HX0:=Aside0.mk hx0
 have HW0:=Aside0.mk hw0
 clear hg_ hkn hx0 hw0
 go_enter Tryz.func7,Tryz.ntmps7
 go_wp2_with (go_at_call 9;refine hkc.mono ?_;rintro e w1 ⟨rfl,hb1⟩;have HX1:=Aside0.mk ((hb1.block _ (blk_lt HX0.out)).trans HX0.out);have HW1:=Aside0.mk (below_step HW0.out hb1);have x0:=(blk_cell HX1.out 0).trans (show _ = some (Value.bool a) from rfl);have x1:=(blk_cell HX1.out 1).trans (show _ = some (Value.int .i64 n) from rfl);clear hkc hb1 HX0 HW0)
 refine (hic _).mono ?_
 rintro e2 w2 ⟨rfl,hb2⟩
 have HX2:=Aside0.mk ((hb2.block _ (blk_lt HX1.out)).trans HX1.out)
 have HW2:=Aside0.mk (below_step HW1.out hb2)
 clear hic hb2 HX1 HW1 x0 x1
 go_wp2_with (fail)
 go_ret
 exact ⟨rfl,HW2.out⟩
set_option maxHeartbeats 8000000 in
set_option maxRecDepth 100000 in
theorem built_val (v : ByteArray) (a : Bool) (n t : Int) (wi : Bool) (w : World) (hg_ : LaidW w) (hkn : spillwaylaw6_known.f 4000 = some true) (h0 : v.size ≠ 0) (h1 : v.size ≤ 30) (hi : isNm a n = true) (hv : spillwayref3_Value.f 1000 v = some false) : Calls Tryz.prog 7 #[.string v,.agg #[.bool a,.int .i64 n],.int .u32 t,.bool wi] w fun e w'=>e = .returned (.bool true) ∧ Below w.heap.size w w':=by
 have k0 : ((v.size : Int) == 0) = false:=beq_eq_false_iff_ne.2 (by omega)
 have k1 : decide (30 < v.size) = false:=decide_eq_false (by omega)
 have k2 : decide ((30 : Int) < (v.size : Int)) = false:=decide_eq_false (by omega)
 have hic:=fun W_=>fixis_calls a n W_
 rw [hi] at hic
 have hvc:=fun W_=>spillwayref3_Value.calls 1000 v false W_ hv
 clear h0 h1 hi hv
 have HG:=Aside0.mk hg_
 have hkc:=spillwaylaw6_known.calls 4000 true (w.alloc (.cells #[.bool a,.int .i64 n] 32)) (LaidW.below hg_ (below_alloc (Below.refl _ _) _)) hkn
 have hx0:=heap_alloc_new w (.cells #[.bool a,.int .i64 n] 32)
 have hw0:=below_alloc (Below.refl w.heap.size w) (.cells #[.bool a,.int .i64 n] 32)
 have HX0:=Aside0.mk hx0
 have HW0:=Aside0.mk hw0
 clear hg_ hkn hx0 hw0
 go_enter Tryz.func7,Tryz.ntmps7
 go_wp2_with (go_at_call 9;refine hkc.mono ?_;rintro e w1 ⟨rfl,hb1⟩;have HX1:=Aside0.mk ((hb1.block _ (blk_lt HX0.out)).trans HX0.out);have HW1:=Aside0.mk (below_step HW0.out hb1);have x0:=(blk_cell HX1.out 0).trans (show _ = some (Value.bool a) from rfl);have x1:=(blk_cell HX1.out 1).trans (show _ = some (Value.int .i64 n) from rfl);clear hkc hb1 HX0 HW0)
 refine (hic _).mono ?_
 rintro e2 w2 ⟨rfl,hb2⟩
 have HX2:=Aside0.mk ((hb2.block _ (blk_lt HX1.out)).trans HX1.out)
 have HW2:=Aside0.mk (below_step HW1.out hb2)
 clear hic hb2 HX1 HW1 x0 x1
 go_wp2_with (fail)
 refine (hvc _).mono ?_
 rintro e3 w3 ⟨rfl,hd3⟩
 obtain ⟨m3,rfl⟩:=hd3.out
 have HX3:=Aside0.mk (blk_drewN HX2.out m3)
 have HW3:=Aside0.mk (pw_below_drewN HW2.out m3)
 clear hvc hd3 HX2 HW2
 go_wp2_with (fail)
 go_ret
 exact ⟨rfl,HW3.out⟩
set_option maxHeartbeats 8000000 in
set_option maxRecDepth 100000 in
theorem built_main (v : ByteArray) (a : Bool) (n t : Int) (wi : Bool) (w : World) (hg_ : LaidW w) (hkn : spillwaylaw6_known.f 4000 = some true) (h0 : v.size ≠ 0) (h1 : v.size ≤ 30) (hi : isNm a n = true) (hv : spillwayref3_Value.f 1000 v = some true) (hn : PureN.R n) (ht0 : 0 ≤ t) (ht1 : t ≤ 4294967295) : Calls Tryz.prog 7 #[.string v,.agg #[.bool a,.int .i64 n],.int .u32 t,.bool wi] w fun e w'=>e = .returned (.bool true) ∧ Below w.heap.size w w':=by
 have k0 : ((v.size : Int) == 0) = false:=beq_eq_false_iff_ne.2 (by omega)
 have k1 : decide (30 < v.size) = false:=decide_eq_false (by omega)
 have k2 : decide ((30 : Int) < (v.size : Int)) = false:=decide_eq_false (by omega)
 have hic:=fun W_=>fixis_calls a n W_
 rw [hi] at hic
 have hvc:=fun W_=>spillwayref3_Value.calls 1000 v true W_ hv
 have hvz : v.data.toList.length = v.size:=Array.length_toList
 have hvb : valB v.data.toList = true:=by
  have h:=rval_eq v (by omega) 1000 (by omega)
  rw [hv] at h
  have h2:=(Option.some.inj h).symm
  rw [Bool.and_eq_true] at h2
  unfold valB
  rw [Bool.and_eq_true,Bool.and_eq_true]
  exact ⟨⟨decide_eq_true (by omega),h2.2⟩,h2.1⟩
 have hQ:=rquote_eq v.data.toList 1000 (by omega) (by omega)
 have hvv : (⟨v.data.toList.toArray⟩ : ByteArray) = v:=ba_inj_ rfl
 rw [hvv] at hQ
 have hP:=fixprint_eq a n hn
 obtain ⟨q,hq⟩ : ∃ q : ByteArray,q = ⟨(quote v.data.toList).toArray⟩:=⟨_,rfl⟩
 obtain ⟨p,hp⟩ : ∃ p : ByteArray,p = ⟨(printS a n).toArray⟩:=⟨_,rfl⟩
 rw [← hq] at hQ
 rw [← hp] at hP
 have hqd : q.data.toList = quote v.data.toList:=by rw [hq]
 have hpd : p.data.toList = printS a n:=by rw [hp]
 have hqs : q.size ≤ 62:=by
  have h2 : q.data.toList.length = q.size:=Array.length_toList
  have h3:=quoteB_len v.data.toList
  rw [hqd] at h2
  unfold quote at h2
  simp at h2
  omega
 have hps : p.size ≤ 40:=by
  have h2 : p.data.toList.length = p.size:=Array.length_toList
  have h3:=printS_len a n hn
  rw [hpd] at h2
  omega
 have s1 : (9223372036854775807 < 5 + q.size) = False:=eq_false (by omega)
 have s2 : (9223372036854775807 < 5 + q.size + 2) = False:=eq_false (by omega)
 have s3 : (9223372036854775807 < 5 + q.size + 2 + p.size) = False:=eq_false (by omega)
 have s4 : (9223372036854775807 < 5 + q.size + 2 + p.size + 1) = False:=eq_false (by omega)
 have s7 : (9223372036854775807 < 5 + q.size + 3) = False:=eq_false (by omega)
 have s8 : (9223372036854775807 < 5 + q.size + 3 + p.size) = False:=eq_false (by omega)
 have hqc:=fun W_=>spillwayref3_Quote.calls 1000 v q W_ hQ
 have hpc:=fun W_ hg=>fix_Print.calls a n p W_ hg hP
 have HVB:=Aside0.mk hvb
 have HQD:=Aside0.mk hqd
 have HPD:=Aside0.mk hpd
 have HQS:=Aside0.mk hqs
 have HPS:=Aside0.mk hps
 have HI:=Aside0.mk hi
 have HR:=Aside0.mk hn
 have HT:=Aside0.mk (And.intro ht0 ht1)
 clear h0 h1 hi hv hvz hvb hQ hvv hP hq hp hqd hpd hqs hps hn ht0 ht1
 have HG:=Aside0.mk hg_
 have hkc:=spillwaylaw6_known.calls 4000 true (w.alloc (.cells #[.bool a,.int .i64 n] 32)) (LaidW.below hg_ (below_alloc (Below.refl _ _) _)) hkn
 have hx0:=heap_alloc_new w (.cells #[.bool a,.int .i64 n] 32)
 have hw0:=below_alloc (Below.refl w.heap.size w) (.cells #[.bool a,.int .i64 n] 32)
 have HX0:=Aside0.mk hx0
 have HW0:=Aside0.mk hw0
 clear hg_ hkn hx0 hw0
 go_enter Tryz.func7,Tryz.ntmps7
 go_wp2_with (go_at_call 9;refine hkc.mono ?_;rintro e w1 ⟨rfl,hb1⟩;have HX1:=Aside0.mk ((hb1.block _ (blk_lt HX0.out)).trans HX0.out);have HW1:=Aside0.mk (below_step HW0.out hb1);have x0:=(blk_cell HX1.out 0).trans (show _ = some (Value.bool a) from rfl);have x1:=(blk_cell HX1.out 1).trans (show _ = some (Value.int .i64 n) from rfl);clear hkc hb1 HX0 HW0)
 refine (hic _).mono ?_
 rintro e2 w2 ⟨rfl,hb2⟩
 have HX2:=Aside0.mk ((hb2.block _ (blk_lt HX1.out)).trans HX1.out)
 have HW2:=Aside0.mk (below_step HW1.out hb2)
 clear hic hb2 HX1 HW1 x0 x1
 go_wp2_with (fail)
 refine (hvc _).mono ?_
 rintro e3 w3 ⟨rfl,hd3⟩
 obtain ⟨m3,rfl⟩:=hd3.out
 have HX3:=Aside0.mk (blk_drewN HX2.out m3)
 have HW3:=Aside0.mk (pw_below_drewN HW2.out m3)
 clear hvc hd3 HX2 HW2
 go_wp2_with (fail)
 have HX:=Aside0.mk (blk_drew HX3.out)
 have HW:=Aside0.mk (below_step HW3.out (below_drew (Below.refl _ _)))
 clear HX3 HW3
 refine start_ (n:=8) (S:=fun w'=>w'.cell? ⟨w.heap.size,0,none⟩ = some (.bool a) ∧ w'.cell? ⟨w.heap.size,1,none⟩ = some (.int .i64 n)) (ds:=[]) #[false,false,false,false,false,false,false,false] (by kernel_rfl) rfl rfl (⟨(blk_cell HX.out 0).trans rfl,(blk_cell HX.out 1).trans rfl⟩) (fun hHeld=>?_)
 generalize World.drew _ = w4 at HX HW hHeld ⊢
 refine pure_ (i:=0) (N:=some 37) (v:=?_) (a':=?_) #[true,false,false,false,false,false,false,false] rfl rfl (by kernel_rfl) (fun _ _ _ h=>h) (Or.inl ⟨by first|rfl|exact wanted_on rfl rfl rfl (by rfl),?_⟩) ?_ ?_
 rotate_left
 ·intro w'
  go_simp
  with_reducible rfl
 rotate_left
 ·simp only [Act.put,List.setIfInBounds_toArray,List.set_cons_zero,List.set_cons_succ,i64_w,i32_w]
  rfl
 refine take_ (i:=4) (N:=some 41) (v:=?_) (a':=?_) #[true,false,false,false,true,false,false,false] rfl rfl (by kernel_rfl) (fun _ _ _ h=>h) (Or.inl ⟨by first|rfl|exact wanted_on rfl rfl rfl (by rfl),?_⟩) hHeld ?_ ?_
 rotate_left
 ·rintro w' ⟨s0,s1⟩
  go_simp
  with_reducible rfl
 rotate_left
 ·simp only [Act.put,List.setIfInBounds_toArray,List.set_cons_zero,List.set_cons_succ,i64_w,i32_w]
  rfl
 refine one_ (i:=1) (N:=some 38) #[true,true,false,false,true,false,false,false] rfl rfl (by kernel_rfl) (by decide) (fun K hK=>?_)
 refine goes_ Tryz.func18 (by kernel_rfl) rfl #[.string v] (by rfl) rfl rfl (by (try simp only [List.map_toArray,List.map_cons,List.map_nil]);first|done|rfl) ?_
 refine (hqc w4).mono ?_
 rintro e w' ⟨rfl,hd⟩
 refine ⟨_,rfl,?_⟩
 obtain ⟨m,rfl⟩:=hd.out
 have hb:=pw_below_drewN (Below.refl w4.heap.size w4) m
 clear hd
 have HX':=Aside0.mk ((hb.block _ (blk_lt HX.out)).trans HX.out)
 have HW':=Aside0.mk (below_step HW.out hb)
 clear HX HW
 have HX:=HX'
 clear HX'
 have HW:=HW'
 clear HW'
 clear hb
 refine hK.out _ _ ⟨(blk_cell HX.out 0).trans rfl,(blk_cell HX.out 1).trans rfl⟩ (fun hHeld=>?_)
 clear hK K
 refine norm_ (a':=?_) ?_ ?_
 rotate_left
 ·show Act.put _ (some 38) _ = _
  simp only [Act.put,List.setIfInBounds_toArray,List.set_cons_zero,List.set_cons_succ,i64_w,i32_w]
  rfl
 generalize w4.drewN m = w5 at HX HW hHeld ⊢
 refine pure_ (i:=2) (N:=some 39) (v:=?_) (a':=?_) #[true,true,true,false,true,false,false,false] rfl rfl (by kernel_rfl) (fun _ _ _ h=>h) (Or.inl ⟨by first|rfl|exact wanted_on rfl rfl rfl (by rfl),?_⟩) ?_ ?_
 rotate_left
 ·intro w'
  go_simp
  with_reducible rfl
 rotate_left
 ·simp only [Act.put,List.setIfInBounds_toArray,List.set_cons_zero,List.set_cons_succ,i64_w,i32_w]
  rfl
 refine pure_ (i:=3) (N:=some 40) (v:=?_) (a':=?_) #[true,true,true,true,true,false,false,false] rfl rfl (by kernel_rfl) (fun _ _ _ h=>h) (Or.inl ⟨by first|rfl|exact wanted_on rfl rfl rfl (by rfl),?_⟩) ?_ ?_
 rotate_left
 ·intro w'
  go_simp
  with_reducible rfl
 rotate_left
 ·simp only [Act.put,List.setIfInBounds_toArray,List.set_cons_zero,List.set_cons_succ,i64_w,i32_w]
  rfl
 refine one_ (i:=5) (N:=some 42) #[true,true,true,true,true,true,false,false] rfl rfl (by kernel_rfl) (by decide) (fun K hK=>?_)
 refine goes_ Tryz.func19 (by kernel_rfl) rfl #[.agg #[.bool a,.int .i64 n]] (by rfl) rfl rfl (by (try simp only [List.map_toArray,List.map_cons,List.map_nil]);first|done|rfl) ?_
 refine (hpc w5 (LaidW.below HG.out HW.out)).mono ?_
 rintro e w' ⟨rfl,hb⟩
 refine ⟨_,rfl,?_⟩
 have HX':=Aside0.mk ((hb.block _ (blk_lt HX.out)).trans HX.out)
 have HW':=Aside0.mk (below_step HW.out hb)
 clear HX HW
 have HX:=HX'
 clear HX'
 have HW:=HW'
 clear HW'
 clear hb hHeld
 refine hK.out _ _ ⟨(blk_cell HX.out 0).trans rfl,(blk_cell HX.out 1).trans rfl⟩ (fun hHeld=>?_)
 clear hK K
 refine norm_ (a':=?_) ?_ ?_
 rotate_left
 ·show Act.put _ (some 42) _ = _
  simp only [Act.put,List.setIfInBounds_toArray,List.set_cons_zero,List.set_cons_succ,i64_w,i32_w]
  rfl
 refine pure_ (i:=6) (N:=some 43) (v:=?_) (a':=?_) #[true,true,true,true,true,true,true,false] rfl rfl (by kernel_rfl) (fun _ _ _ h=>h) (Or.inl ⟨by first|rfl|exact wanted_on rfl rfl rfl (by rfl),?_⟩) ?_ ?_
 rotate_left
 ·intro w'
  go_simp
  with_reducible rfl
 rotate_left
 ·simp only [Act.put,List.setIfInBounds_toArray,List.set_cons_zero,List.set_cons_succ,i64_w,i32_w]
  rfl
 refine pure_ (i:=7) (N:=some 9) (v:=?_) (a':=?_) #[true,true,true,true,true,true,true,true] rfl rfl (by kernel_rfl) (fun _ _ _ h=>h) (Or.inl ⟨by first|rfl|exact wanted_on rfl rfl rfl (by rfl),?_⟩) ?_ ?_
 rotate_left
 ·intro w'
  go_simp
  with_reducible rfl
 rotate_left
 ·simp only [Act.put,List.setIfInBounds_toArray,List.set_cons_zero,List.set_cons_succ,i64_w,i32_w]
  rfl
 refine done_ (by kernel_rfl) ?_
 obtain ⟨u,hu,hu2⟩ : ∃ u : Nat,t.tmod 1000001 = (u : Int) ∧ u ≤ 1000000:=by
  have h:=HT.out
  refine ⟨(t.tmod 1000001).toNat,?_,?_⟩ <;> (rw [Int.tmod_eq_emod_of_nonneg h.1];omega)
 have hw10 : wrap64 (t.tmod 1000001) = (u : Int):=by rw [hu];unfold wrap64;omega
 have hw11 : IntKind.u64.wrap (u : Int) = (u : Int):=by rw [IntKind.wrap_u64];omega
 have hD:=rDigits_eq 30 u (by omega) (by omega) (by omega)
 obtain ⟨d,hd⟩ : ∃ d : ByteArray,d = ⟨(Lib.decDigits u).toArray⟩:=⟨_,rfl⟩
 rw [← hd] at hD
 have hdd : d.data.toList = Lib.decDigits u:=by rw [hd]
 have hds : d.size ≤ 7:=by
  have h2 : d.data.toList.length = d.size:=Array.length_toList
  have h3:=dec_len u 7 (by omega) (by omega)
  rw [hdd] at h2
  omega
 have s5 : (9223372036854775807 < 5 + q.size + 2 + p.size + 1 + d.size) = False:=eq_false (by have:=HQS.out;have:=HPS.out;omega)
 have hdc:=fun W_=>spillwayref2_Digits.calls 30 (u : Int) d W_ hD
 have HDD:=Aside0.mk hdd
 have HDS:=Aside0.mk hds
 obtain ⟨e3,he3,hl3⟩:=blt_line_two q p v a n HQD.out HPD.out
 have HE3:=Aside0.mk he3
 have HL3:=Aside0.mk hl3
 clear hD hd hdd hds hu he3 hl3 hHeld
 cases wi
 all_goals go_wp2_with (fail)
 all_goals rw [hw10]
 rotate_left
 try rw [hw11]
 refine (hdc _).mono ?_
 rintro e9 w9 ⟨rfl,hb9⟩
 have HX9:=Aside0.mk ((hb9.block _ (blk_lt HX.out)).trans HX.out)
 have HW9:=Aside0.mk (below_step HW.out hb9)
 clear hb9 HX HW
 have HX:=HX9
 have HW:=HW9
 clear HX9 HW9
 go_wp2_with (fail)
 obtain ⟨S1,hS1⟩ : ∃ S1 : ByteArray,S1 = (⟨#[117,112,123,97,61]⟩ : ByteArray) ++ q ++ (⟨#[125,32]⟩ : ByteArray) ++ p ++ (⟨#[32]⟩ : ByteArray) ++ d:=⟨_,rfl⟩
 rw [← hS1]
 have HS : Aside0 (S1.data.toList = bltL v.data.toList a n u true):=⟨by rw [hS1];exact blt_textT q p d v a n u HQD.out HPD.out HDD.out⟩
 have sS : (9223372036854775807 < S1.size + 1) = False:=eq_false (by have:=HQS.out;have:=HPS.out;have:=HDS.out;rw [hS1];simp only [ByteArray.size_append];show ¬ 9223372036854775807 < 5 + q.size + 2 + p.size + 1 + d.size + 1;omega)
 clear hS1
 have hlc : Calls Tryz.prog 12 #[.string S1] _ _:=expo_Line.calls 4000 S1 ((bltP v.data.toList).map ofPr) a n (u : Int) true 0 0 _ (LaidW.below HG.out HW.out) (blt_line S1 v a n u true HS.out HVB.out HR.out HI.out hu2)
 refine hlc.mono ?_
 rintro e w10 ⟨v10,rfl,ho,hb⟩
 obtain ⟨gl,cl,hv10⟩:=R_shape ho (show 0 < 2 by omega)
 have hv11 : v10 = .slice (some ⟨gl,0,none⟩) 2 cl:=hv10
 subst hv11
 have hx5:=below_alloc hb (.cells #[.slice (some ⟨gl,0,none⟩) 2 cl,.bool a,.int .i64 n,.int .i64 (u : Int),.bool true,.int .i64 0] 34)
 have HLR:=Aside0.mk (Kd.R_below (Kd.R_lower ho HW.out.size) (below_alloc (Below.refl w10.heap.size w10) (.cells #[.slice (some ⟨gl,0,none⟩) 2 cl,.bool a,.int .i64 n,.int .i64 (u : Int),.bool true,.int .i64 0] 34)))
 have XB:=Aside0.mk (heap_alloc_new w10 (.cells #[.slice (some ⟨gl,0,none⟩) 2 cl,.bool a,.int .i64 n,.int .i64 (u : Int),.bool true,.int .i64 0] 34))
 have HX':=Aside0.mk ((hx5.block _ (blk_lt HX.out)).trans HX.out)
 have HW':=Aside0.mk (below_step HW.out hx5)
 clear hlc ho hb hx5 hv10 HX HW
 have HX:=HX'
 have HW:=HW'
 clear HX' HW'
 go_wp2_with (fail)
 generalize w10.alloc (.cells #[.slice (some ⟨gl,0,none⟩) 2 cl,.bool a,.int .i64 n,.int .i64 (u : Int),.bool true,.int .i64 0] 34) = w11 at HX HW XB HLR ⊢
 generalize w10.heap.size = xb at XB ⊢
 rotate_left
 obtain ⟨S1,hS1⟩ : ∃ S1 : ByteArray,S1 = (⟨#[117,112,123,97,61]⟩ : ByteArray) ++ q ++ (⟨#[125,32]⟩ : ByteArray) ++ p:=⟨_,rfl⟩
 rw [← hS1]
 have HS : Aside0 (S1.data.toList = bltL v.data.toList a n u false):=⟨by rw [hS1];exact blt_text q p v a n u HQD.out HPD.out⟩
 have sS : (9223372036854775807 < S1.size + 1) = False:=eq_false (by have:=HQS.out;have:=HPS.out;rw [hS1];simp only [ByteArray.size_append];show ¬ 9223372036854775807 < 5 + q.size + 2 + p.size + 1;omega)
 clear hS1
 have hlc : Calls Tryz.prog 12 #[.string S1] _ _:=expo_Line.calls 4000 S1 ((bltP v.data.toList).map ofPr) a n 0 false 0 0 _ (LaidW.below HG.out HW.out) (blt_line S1 v a n u false HS.out HVB.out HR.out HI.out hu2)
 refine hlc.mono ?_
 rintro e w10 ⟨v10,rfl,ho,hb⟩
 obtain ⟨gl,cl,hv10⟩:=R_shape ho (show 0 < 2 by omega)
 have hv11 : v10 = .slice (some ⟨gl,0,none⟩) 2 cl:=hv10
 subst hv11
 have hx5:=below_alloc hb (.cells #[.slice (some ⟨gl,0,none⟩) 2 cl,.bool a,.int .i64 n,.int .i64 0,.bool false,.int .i64 0] 34)
 have HLR:=Aside0.mk (Kd.R_below (Kd.R_lower ho HW.out.size) (below_alloc (Below.refl w10.heap.size w10) (.cells #[.slice (some ⟨gl,0,none⟩) 2 cl,.bool a,.int .i64 n,.int .i64 0,.bool false,.int .i64 0] 34)))
 have XB:=Aside0.mk (heap_alloc_new w10 (.cells #[.slice (some ⟨gl,0,none⟩) 2 cl,.bool a,.int .i64 n,.int .i64 0,.bool false,.int .i64 0] 34))
 have HX':=Aside0.mk ((hx5.block _ (blk_lt HX.out)).trans HX.out)
 have HW':=Aside0.mk (below_step HW.out hx5)
 clear hlc ho hb hx5 hv10 HX HW
 have HX:=HX'
 have HW:=HW'
 clear HX' HW'
 go_wp2_with (fail)
 generalize w10.alloc (.cells #[.slice (some ⟨gl,0,none⟩) 2 cl,.bool a,.int .i64 n,.int .i64 0,.bool false,.int .i64 0] 34) = w11 at HX HW XB HLR ⊢
 generalize w10.heap.size = xb at XB ⊢
 all_goals
  obtain ⟨e2_,he2,hl2⟩:=blt_line_end S1 v a n u _ HS.out
  have HE2:=Aside0.mk he2
  have hlc2:=expo_Line.calls 4000 (S1 ++ (⟨#[32]⟩ : ByteArray)) [] false 0 0 false 0 e2_ _ (LaidW.below HG.out HW.out) hl2
  refine hlc2.mono ?_
  rintro e w12 ⟨v12,rfl,ho,hb⟩
  obtain ⟨A12,c12,rfl⟩:=Kd.R_slice ho
  have hx5:=below_alloc hb (.cells #[.slice A12 0 c12,.bool false,.int .i64 0,.int .i64 0,.bool false,.int .i64 0] 34)
  have HX':=Aside0.mk (blk_drew ((hx5.block _ (blk_lt HX.out)).trans HX.out))
  have XB':=Aside0.mk (blk_drew ((hx5.block _ (blk_lt XB.out)).trans XB.out))
  have HLR':=Aside0.mk (Kd.R_drew (Kd.R_below HLR.out hx5))
  have HW':=Aside0.mk (below_step (below_step HW.out hx5) (below_drew (Below.refl _ _)))
  clear hlc2 he2 hl2 ho hb hx5 HX HW XB HLR HS
  have HX:=HX'
  have XB:=XB'
  have HLR:=HLR'
  have HW:=HW'
  clear HX' XB' HLR' HW'
  go_wp2_with (fail)
  refine start_ (n:=14) (S:=fun w'=>w'.cell? ⟨w.heap.size,0,none⟩ = some (.bool a) ∧ w'.cell? ⟨w.heap.size,1,none⟩ = some (.int .i64 n)) (ds:=[12]) #[false,false,false,false,false,false,false,false,false,false,false,false,false,false] (by kernel_rfl) rfl rfl (⟨(blk_cell HX.out 0).trans rfl,(blk_cell HX.out 1).trans rfl⟩) (fun hHeld=>?_)
  generalize World.drew _ = w20 at HX HW XB HLR hHeld ⊢
  refine pure_ (i:=0) (N:=some 66) (v:=?_) (a':=?_) #[true,false,false,false,false,false,false,false,false,false,false,false,false,false] rfl rfl (by kernel_rfl) (fun _ _ _ h=>h) (Or.inl ⟨by first|rfl|exact wanted_on rfl rfl rfl (by rfl),?_⟩) ?_ ?_
  rotate_left
  ·intro w'
   go_simp
   with_reducible rfl
  rotate_left
  ·simp only [Act.put,List.setIfInBounds_toArray,List.set_cons_zero,List.set_cons_succ,i64_w,i32_w]
   rfl
  refine take_ (i:=4) (N:=some 70) (v:=?_) (a':=?_) #[true,false,false,false,true,false,false,false,false,false,false,false,false,false] rfl rfl (by kernel_rfl) (fun _ _ _ h=>h) (Or.inl ⟨by first|rfl|exact wanted_on rfl rfl rfl (by rfl),?_⟩) hHeld ?_ ?_
  rotate_left
  ·rintro w' ⟨s0,s1⟩
   go_simp
   with_reducible rfl
  rotate_left
  ·simp only [Act.put,List.setIfInBounds_toArray,List.set_cons_zero,List.set_cons_succ,i64_w,i32_w]
   rfl
  refine two_ (i:=1) (j:=11) (Ni:=some 67) (Nj:=some 15) #[true,true,false,false,true,false,false,false,false,false,false,false,false,false] #[true,false,false,false,true,false,false,false,false,false,false,true,false,false] rfl rfl rfl rfl (by kernel_rfl) (by decide) (by decide) (fun K hK=>?_) (fun K hK=>?_)
  ·refine goes_ Tryz.func18 (by kernel_rfl) rfl #[.string v] (by rfl) rfl rfl (by (try simp only [List.map_toArray,List.map_cons,List.map_nil]);first|done|rfl) ?_
   refine (hqc w20).mono ?_
   rintro e w' ⟨rfl,hd⟩
   refine ⟨_,rfl,?_⟩
   obtain ⟨m,rfl⟩:=hd.out
   have hb:=pw_below_drewN (Below.refl w20.heap.size w20) m
   clear hd
   have HX':=Aside0.mk ((hb.block _ (blk_lt HX.out)).trans HX.out)
   have HW':=Aside0.mk (below_step HW.out hb)
   have XB':=Aside0.mk ((hb.block _ (blk_lt XB.out)).trans XB.out)
   have HLR':=Aside0.mk (Kd.R_below HLR.out hb)
   clear HX HW XB HLR
   have HX:=HX'
   clear HX'
   have HW:=HW'
   clear HW'
   have XB:=XB'
   clear XB'
   have HLR:=HLR'
   clear HLR'
   clear hb
   refine hK.out _ _ ⟨(blk_cell HX.out 0).trans rfl,(blk_cell HX.out 1).trans rfl⟩ (fun hHeld=>?_)
   clear hK K
   refine norm_ (a':=?_) ?_ ?_
   rotate_left
   ·show Act.put _ (some 67) _ = _
    simp only [Act.put,List.setIfInBounds_toArray,List.set_cons_zero,List.set_cons_succ,i64_w,i32_w]
    rfl
   generalize w20.drewN m = w21 at HX HW XB HLR hHeld ⊢
   refine pure_ (i:=2) (N:=some 68) (v:=?_) (a':=?_) #[true,true,true,false,true,false,false,false,false,false,false,false,false,false] rfl rfl (by kernel_rfl) (fun _ _ _ h=>h) (Or.inl ⟨by first|rfl|exact wanted_on rfl rfl rfl (by rfl),?_⟩) ?_ ?_
   rotate_left
   ·intro w'
    go_simp
    with_reducible rfl
   rotate_left
   ·simp only [Act.put,List.setIfInBounds_toArray,List.set_cons_zero,List.set_cons_succ,i64_w,i32_w]
    rfl
   refine pure_ (i:=3) (N:=some 69) (v:=?_) (a':=?_) #[true,true,true,true,true,false,false,false,false,false,false,false,false,false] rfl rfl (by kernel_rfl) (fun _ _ _ h=>h) (Or.inl ⟨by first|rfl|exact wanted_on rfl rfl rfl (by rfl),?_⟩) ?_ ?_
   rotate_left
   ·intro w'
    go_simp
    with_reducible rfl
   rotate_left
   ·simp only [Act.put,List.setIfInBounds_toArray,List.set_cons_zero,List.set_cons_succ,i64_w,i32_w]
    rfl
   refine two_ (i:=5) (j:=11) (Ni:=some 71) (Nj:=some 15) #[true,true,true,true,true,true,false,false,false,false,false,false,false,false] #[true,true,true,true,true,false,false,false,false,false,false,true,false,false] rfl rfl rfl rfl (by kernel_rfl) (by decide) (by decide) (fun K hK=>?_) (fun K hK=>?_)
   ·refine goes_ Tryz.func19 (by kernel_rfl) rfl #[.agg #[.bool a,.int .i64 n]] (by rfl) rfl rfl (by (try simp only [List.map_toArray,List.map_cons,List.map_nil]);first|done|rfl) ?_
    refine (hpc w21 (LaidW.below HG.out HW.out)).mono ?_
    rintro e w22 ⟨rfl,hb⟩
    refine ⟨_,rfl,?_⟩
    have HX':=Aside0.mk ((hb.block _ (blk_lt HX.out)).trans HX.out)
    have HW':=Aside0.mk (below_step HW.out hb)
    have XB':=Aside0.mk ((hb.block _ (blk_lt XB.out)).trans XB.out)
    have HLR':=Aside0.mk (Kd.R_below HLR.out hb)
    clear HX HW XB HLR
    have HX:=HX'
    clear HX'
    have HW:=HW'
    clear HW'
    have XB:=XB'
    clear XB'
    have HLR:=HLR'
    clear HLR'
    clear hb
    refine hK.out _ _ ⟨(blk_cell HX.out 0).trans rfl,(blk_cell HX.out 1).trans rfl⟩ (fun hHeld=>?_)
    clear hK K
    refine norm_ (a':=?_) ?_ ?_
    rotate_left
    ·show Act.put _ (some 71) _ = _
     simp only [Act.put,List.setIfInBounds_toArray,List.set_cons_zero,List.set_cons_succ,i64_w,i32_w]
     rfl
    refine pure_ (i:=6) (N:=some 72) (v:=?_) (a':=?_) #[true,true,true,true,true,true,true,false,false,false,false,false,false,false] rfl rfl (by kernel_rfl) (fun _ _ _ h=>h) (Or.inl ⟨by first|rfl|exact wanted_on rfl rfl rfl (by rfl),?_⟩) ?_ ?_
    rotate_left
    ·intro w'
     go_simp
     with_reducible rfl
    rotate_left
    ·simp only [Act.put,List.setIfInBounds_toArray,List.set_cons_zero,List.set_cons_succ,i64_w,i32_w]
     rfl
    refine two_ (i:=7) (j:=11) (Ni:=some 73) (Nj:=some 15) #[true,true,true,true,true,true,true,true,false,false,false,false,false,false] #[true,true,true,true,true,true,true,false,false,false,false,true,false,false] rfl rfl rfl rfl (by kernel_rfl) (by decide) (by decide) (fun K hK=>?_) (fun K hK=>?_)
    ·refine goes_ Tryz.func12 (by kernel_rfl) rfl #[.string ((⟨#[117,112,123,97,61]⟩ : ByteArray) ++ q ++ (⟨#[125,32,32]⟩ : ByteArray) ++ p)] (by rfl) rfl rfl (by (try simp only [List.map_toArray,List.map_cons,List.map_nil]);first|done|rfl) ?_
     refine (expo_Line.calls 4000 ((⟨#[117,112,123,97,61]⟩ : ByteArray) ++ q ++ (⟨#[125,32,32]⟩ : ByteArray) ++ p) [] false 0 0 false 0 e3 w22 (LaidW.below HG.out HW.out) HL3.out).mono ?_
     rintro e w23 ⟨v9,rfl,ho,hb⟩
     refine ⟨_,rfl,?_⟩
     obtain ⟨A9,c9,rfl⟩:=Kd.R_slice ho
     clear ho
     have HX':=Aside0.mk ((hb.block _ (blk_lt HX.out)).trans HX.out)
     have HW':=Aside0.mk (below_step HW.out hb)
     have XB':=Aside0.mk ((hb.block _ (blk_lt XB.out)).trans XB.out)
     have HLR':=Aside0.mk (Kd.R_below HLR.out hb)
     clear HX HW XB HLR
     have HX:=HX'
     clear HX'
     have HW:=HW'
     clear HW'
     have XB:=XB'
     clear XB'
     have HLR:=HLR'
     clear HLR'
     clear hb
     refine hK.out _ _ ⟨(blk_cell HX.out 0).trans rfl,(blk_cell HX.out 1).trans rfl⟩ (fun hHeld=>?_)
     clear hK K
     refine norm_ (a':=?_) ?_ ?_
     rotate_left
     ·show Act.put _ (some 73) _ = _
      simp only [Act.put,List.setIfInBounds_toArray,List.set_cons_zero,List.set_cons_succ,i64_w,i32_w]
      rfl
     refine pure_ (i:=8) (N:=some 65) (v:=?_) (a':=?_) #[true,true,true,true,true,true,true,true,true,false,false,false,false,false] rfl rfl (by kernel_rfl) (fun _ _ _ h=>h) (Or.inl ⟨by first|rfl|exact wanted_on rfl rfl rfl (by rfl),?_⟩) ?_ ?_
     rotate_left
     ·intro w'
      go_simp
      with_reducible rfl
     rotate_left
     ·simp only [Act.put,List.setIfInBounds_toArray,List.set_cons_zero,List.set_cons_succ,i64_w,i32_w]
      rfl
     refine pure_ (i:=9) (N:=some 74) (v:=?_) (a':=?_) #[true,true,true,true,true,true,true,true,true,true,false,false,false,false] rfl rfl (by kernel_rfl) (fun _ _ _ h=>h) (Or.inl ⟨by first|rfl|exact wanted_on rfl rfl rfl (by rfl),?_⟩) ?_ ?_
     rotate_left
     ·intro w'
      go_simp
      with_reducible rfl
     rotate_left
     ·simp only [Act.put,List.setIfInBounds_toArray,List.set_cons_zero,List.set_cons_succ,i64_w,i32_w]
      rfl
     refine pure_ (i:=10) (N:=some 75) (v:=?_) (a':=?_) #[true,true,true,true,true,true,true,true,true,true,true,false,false,false] rfl rfl (by kernel_rfl) (fun _ _ _ h=>h) (Or.inl ⟨by first|rfl|exact wanted_on rfl rfl rfl (by rfl),?_⟩) ?_ ?_
     rotate_left
     ·intro w'
      go_simp
      with_reducible rfl
     rotate_left
     ·simp only [Act.put,List.setIfInBounds_toArray,List.set_cons_zero,List.set_cons_succ,i64_w,i32_w]
      rfl
     refine one_ (i:=11) (N:=some 15) #[true,true,true,true,true,true,true,true,true,true,true,true,false,false] rfl rfl (by kernel_rfl) (by decide) (fun K hK=>?_)
     refine value_ (w1:=?_) (v:=?_) (by rfl) rfl ?_ ?_
     rotate_left 2
     ·go_simp
      first|(constructor <;> rfl)|rfl
     have YB:=Aside0.mk (heap_alloc_new w23 (.cells #[.slice none 0 0,.bool false,.int .i64 0,.int .i64 0,.bool false,.int .i64 0] 34))
     have NE:=Aside0.mk (show xb < w23.heap.size from blk_lt XB.out)
     have NL:=Aside0.mk (show w.heap.size ≤ w23.heap.size from HW.out.size)
     have hb:=below_alloc (Below.refl w23.heap.size w23) (.cells #[.slice none 0 0,.bool false,.int .i64 0,.int .i64 0,.bool false,.int .i64 0] 34)
     have HX':=Aside0.mk ((hb.block _ (blk_lt HX.out)).trans HX.out)
     have HW':=Aside0.mk (below_step HW.out hb)
     have XB':=Aside0.mk ((hb.block _ (blk_lt XB.out)).trans XB.out)
     have HLR':=Aside0.mk (Kd.R_below HLR.out hb)
     clear HX HW XB HLR
     have HX:=HX'
     clear HX'
     have HW:=HW'
     clear HW'
     have XB:=XB'
     clear XB'
     have HLR:=HLR'
     clear HLR'
     clear hb
     refine hK.out _ _ ⟨(blk_cell HX.out 0).trans rfl,(blk_cell HX.out 1).trans rfl⟩ (fun hHeld=>?_)
     clear hK K
     refine norm_ (a':=?_) ?_ ?_
     rotate_left
     ·show Act.put _ (some 15) _ = _
      simp only [Act.put,List.setIfInBounds_toArray,List.set_cons_zero,List.set_cons_succ,i64_w,i32_w]
      rfl
     generalize w23.alloc (.cells #[.slice none 0 0,.bool false,.int .i64 0,.int .i64 0,.bool false,.int .i64 0] 34) = w24 at HX HW XB HLR YB hHeld ⊢
     generalize w23.heap.size = yb at YB NE NL ⊢
     obtain ⟨⟨y0,y1,y2,y3,y4,y5⟩,⟨f0,f1,f2,f3,f4,f5⟩⟩:=cel6 YB.out
     refine last_ (i:=12) (N:=none) #[true,true,true,true,true,true,true,true,true,true,true,true,true,false] rfl rfl (by kernel_rfl) (by decide) (fun Kz hKz=>?_)
     refine skip_ (w1:=(((((w24.setCell ⟨yb,0,none⟩ (.slice A9 0 c9)).setCell ⟨yb,1,none⟩ (.bool false)).setCell ⟨yb,2,none⟩ (.int .i64 0)).setCell ⟨yb,3,none⟩ (.int .i64 0)).setCell ⟨yb,4,none⟩ (.bool false)).setCell ⟨yb,5,none⟩ (.int .i64 0)) rfl rfl ?hrun ?_
     case hrun =>
      clear hHeld
      first|(go_simp;done)|(go_simp;rfl)
     refine hKz.out _ _ ?_
     clear hKz Kz hHeld y0 y1 y2 y3 y4 y5 f0 f1 f2 f3 f4 f5
     refine pure_ (i:=13) (N:=some 16) (v:=?_) (a':=?_) #[true,true,true,true,true,true,true,true,true,true,true,true,true,true] rfl rfl (by kernel_rfl) (fun _ _ _ h=>h) (Or.inl ⟨by first|rfl|exact wanted_on rfl rfl rfl (by rfl),?_⟩) ?_ ?_
     rotate_left
     ·intro w'
      go_simp
      with_reducible rfl
     rotate_left
     ·simp only [Act.put,List.setIfInBounds_toArray,List.set_cons_zero,List.set_cons_succ,i64_w,i32_w]
      rfl
     refine done_ (by kernel_rfl) ?_
     have HX':=Aside0.mk (far6 HX.out (ne_of_typ YB.out HX.out (by decide)) (.slice A9 0 c9) (.bool false) (.int .i64 0) (.int .i64 0) (.bool false) (.int .i64 0))
     have XB':=Aside0.mk (far6 XB.out (Nat.ne_of_lt NE.out) (.slice A9 0 c9) (.bool false) (.int .i64 0) (.int .i64 0) (.bool false) (.int .i64 0))
     have HLR':=Aside0.mk (R6 HLR.out YB.out (.slice A9 0 c9) (.bool false) (.int .i64 0) (.int .i64 0) (.bool false) (.int .i64 0))
     have HW':=Aside0.mk (bel6 HW.out NL.out (.slice A9 0 c9) (.bool false) (.int .i64 0) (.int .i64 0) (.bool false) (.int .i64 0))
     clear HX XB HLR HW YB NE NL
     dsimp only [set6] at HX' XB' HLR' HW'
     generalize (((((w24.setCell ⟨yb,0,none⟩ (.slice A9 0 c9)).setCell ⟨yb,1,none⟩ (.bool false)).setCell ⟨yb,2,none⟩ (.int .i64 0)).setCell ⟨yb,3,none⟩ (.int .i64 0)).setCell ⟨yb,4,none⟩ (.bool false)).setCell ⟨yb,5,none⟩ (.int .i64 0) = w40 at HX' XB' HLR' HW' ⊢
     skip
     have x0:=(blk_cell HX'.out 0).trans (show _ = some (Value.bool a) from rfl)
     have x1:=(blk_cell HX'.out 1).trans (show _ = some (Value.int .i64 n) from rfl)
     obtain ⟨⟨z0,z1,z2,z3,z4,z5⟩,_⟩:=cel6 XB'.out
     have l2:=blt_lab HLR'.out
     clear HX' XB' HLR'
     have e1 : (a == a && (n == n)) = true:=by simp
     have e2 : (v.toList == v.toList) = true:=beq_self_eq_true _
     have e3n : (e3 != 0) = true:=bne_iff_ne.2 HE3.out
     have e2n : (e2_ != 0) = true:=bne_iff_ne.2 HE2.out
     go_wp2_with (fail)
     go_ret
     exact ⟨by first|rfl|(simp;done)|(simp [e1,e2,e3n,e2n];done),HW'.out⟩
    refine value_ (w1:=?_) (v:=?_) (by rfl) rfl ?_ ?_
    rotate_left 2
    ·go_simp
     first|(constructor <;> rfl)|rfl
    have YB:=Aside0.mk (heap_alloc_new w22 (.cells #[.slice none 0 0,.bool false,.int .i64 0,.int .i64 0,.bool false,.int .i64 0] 34))
    have NE:=Aside0.mk (show xb < w22.heap.size from blk_lt XB.out)
    have NL:=Aside0.mk (show w.heap.size ≤ w22.heap.size from HW.out.size)
    have hb:=below_alloc (Below.refl w22.heap.size w22) (.cells #[.slice none 0 0,.bool false,.int .i64 0,.int .i64 0,.bool false,.int .i64 0] 34)
    have HX':=Aside0.mk ((hb.block _ (blk_lt HX.out)).trans HX.out)
    have HW':=Aside0.mk (below_step HW.out hb)
    have XB':=Aside0.mk ((hb.block _ (blk_lt XB.out)).trans XB.out)
    have HLR':=Aside0.mk (Kd.R_below HLR.out hb)
    clear HX HW XB HLR
    have HX:=HX'
    clear HX'
    have HW:=HW'
    clear HW'
    have XB:=XB'
    clear XB'
    have HLR:=HLR'
    clear HLR'
    clear hb
    refine hK.out _ _ ⟨(blk_cell HX.out 0).trans rfl,(blk_cell HX.out 1).trans rfl⟩ (fun hHeld=>?_)
    clear hK K
    refine norm_ (a':=?_) ?_ ?_
    rotate_left
    ·show Act.put _ (some 15) _ = _
     simp only [Act.put,List.setIfInBounds_toArray,List.set_cons_zero,List.set_cons_succ,i64_w,i32_w]
     rfl
    generalize w22.alloc (.cells #[.slice none 0 0,.bool false,.int .i64 0,.int .i64 0,.bool false,.int .i64 0] 34) = w23 at HX HW XB HLR YB hHeld ⊢
    generalize w22.heap.size = yb at YB NE NL ⊢
    refine one_ (i:=7) (N:=some 73) #[true,true,true,true,true,true,true,true,false,false,false,true,false,false] rfl rfl (by kernel_rfl) (by decide) (fun K hK=>?_)
    refine goes_ Tryz.func12 (by kernel_rfl) rfl #[.string ((⟨#[117,112,123,97,61]⟩ : ByteArray) ++ q ++ (⟨#[125,32,32]⟩ : ByteArray) ++ p)] (by rfl) rfl rfl (by (try simp only [List.map_toArray,List.map_cons,List.map_nil]);first|done|rfl) ?_
    refine (expo_Line.calls 4000 ((⟨#[117,112,123,97,61]⟩ : ByteArray) ++ q ++ (⟨#[125,32,32]⟩ : ByteArray) ++ p) [] false 0 0 false 0 e3 w23 (LaidW.below HG.out HW.out) HL3.out).mono ?_
    rintro e w24 ⟨v9,rfl,ho,hb⟩
    refine ⟨_,rfl,?_⟩
    obtain ⟨A9,c9,rfl⟩:=Kd.R_slice ho
    clear ho
    have HX':=Aside0.mk ((hb.block _ (blk_lt HX.out)).trans HX.out)
    have HW':=Aside0.mk (below_step HW.out hb)
    have XB':=Aside0.mk ((hb.block _ (blk_lt XB.out)).trans XB.out)
    have HLR':=Aside0.mk (Kd.R_below HLR.out hb)
    have YB':=Aside0.mk ((hb.block _ (blk_lt YB.out)).trans YB.out)
    clear HX HW XB HLR YB
    have HX:=HX'
    clear HX'
    have HW:=HW'
    clear HW'
    have XB:=XB'
    clear XB'
    have HLR:=HLR'
    clear HLR'
    have YB:=YB'
    clear YB'
    clear hb
    refine hK.out _ _ ⟨(blk_cell HX.out 0).trans rfl,(blk_cell HX.out 1).trans rfl⟩ (fun hHeld=>?_)
    clear hK K
    refine norm_ (a':=?_) ?_ ?_
    rotate_left
    ·show Act.put _ (some 73) _ = _
     simp only [Act.put,List.setIfInBounds_toArray,List.set_cons_zero,List.set_cons_succ,i64_w,i32_w]
     rfl
    refine pure_ (i:=8) (N:=some 65) (v:=?_) (a':=?_) #[true,true,true,true,true,true,true,true,true,false,false,true,false,false] rfl rfl (by kernel_rfl) (fun _ _ _ h=>h) (Or.inl ⟨by first|rfl|exact wanted_on rfl rfl rfl (by rfl),?_⟩) ?_ ?_
    rotate_left
    ·intro w'
     go_simp
     with_reducible rfl
    rotate_left
    ·simp only [Act.put,List.setIfInBounds_toArray,List.set_cons_zero,List.set_cons_succ,i64_w,i32_w]
     rfl
    refine pure_ (i:=9) (N:=some 74) (v:=?_) (a':=?_) #[true,true,true,true,true,true,true,true,true,true,false,true,false,false] rfl rfl (by kernel_rfl) (fun _ _ _ h=>h) (Or.inl ⟨by first|rfl|exact wanted_on rfl rfl rfl (by rfl),?_⟩) ?_ ?_
    rotate_left
    ·intro w'
     go_simp
     with_reducible rfl
    rotate_left
    ·simp only [Act.put,List.setIfInBounds_toArray,List.set_cons_zero,List.set_cons_succ,i64_w,i32_w]
     rfl
    refine pure_ (i:=10) (N:=some 75) (v:=?_) (a':=?_) #[true,true,true,true,true,true,true,true,true,true,true,true,false,false] rfl rfl (by kernel_rfl) (fun _ _ _ h=>h) (Or.inl ⟨by first|rfl|exact wanted_on rfl rfl rfl (by rfl),?_⟩) ?_ ?_
    rotate_left
    ·intro w'
     go_simp
     with_reducible rfl
    rotate_left
    ·simp only [Act.put,List.setIfInBounds_toArray,List.set_cons_zero,List.set_cons_succ,i64_w,i32_w]
     rfl
    obtain ⟨⟨y0,y1,y2,y3,y4,y5⟩,⟨f0,f1,f2,f3,f4,f5⟩⟩:=cel6 YB.out
    refine last_ (i:=12) (N:=none) #[true,true,true,true,true,true,true,true,true,true,true,true,true,false] rfl rfl (by kernel_rfl) (by decide) (fun Kz hKz=>?_)
    refine skip_ (w1:=(((((w24.setCell ⟨yb,0,none⟩ (.slice A9 0 c9)).setCell ⟨yb,1,none⟩ (.bool false)).setCell ⟨yb,2,none⟩ (.int .i64 0)).setCell ⟨yb,3,none⟩ (.int .i64 0)).setCell ⟨yb,4,none⟩ (.bool false)).setCell ⟨yb,5,none⟩ (.int .i64 0)) rfl rfl ?hrun ?_
    case hrun =>
     clear hHeld
     first|(go_simp;done)|(go_simp;rfl)
    refine hKz.out _ _ ?_
    clear hKz Kz hHeld y0 y1 y2 y3 y4 y5 f0 f1 f2 f3 f4 f5
    refine pure_ (i:=13) (N:=some 16) (v:=?_) (a':=?_) #[true,true,true,true,true,true,true,true,true,true,true,true,true,true] rfl rfl (by kernel_rfl) (fun _ _ _ h=>h) (Or.inl ⟨by first|rfl|exact wanted_on rfl rfl rfl (by rfl),?_⟩) ?_ ?_
    rotate_left
    ·intro w'
     go_simp
     with_reducible rfl
    rotate_left
    ·simp only [Act.put,List.setIfInBounds_toArray,List.set_cons_zero,List.set_cons_succ,i64_w,i32_w]
     rfl
    refine done_ (by kernel_rfl) ?_
    have HX':=Aside0.mk (far6 HX.out (ne_of_typ YB.out HX.out (by decide)) (.slice A9 0 c9) (.bool false) (.int .i64 0) (.int .i64 0) (.bool false) (.int .i64 0))
    have XB':=Aside0.mk (far6 XB.out (Nat.ne_of_lt NE.out) (.slice A9 0 c9) (.bool false) (.int .i64 0) (.int .i64 0) (.bool false) (.int .i64 0))
    have HLR':=Aside0.mk (R6 HLR.out YB.out (.slice A9 0 c9) (.bool false) (.int .i64 0) (.int .i64 0) (.bool false) (.int .i64 0))
    have HW':=Aside0.mk (bel6 HW.out NL.out (.slice A9 0 c9) (.bool false) (.int .i64 0) (.int .i64 0) (.bool false) (.int .i64 0))
    clear HX XB HLR HW YB NE NL
    dsimp only [set6] at HX' XB' HLR' HW'
    generalize (((((w24.setCell ⟨yb,0,none⟩ (.slice A9 0 c9)).setCell ⟨yb,1,none⟩ (.bool false)).setCell ⟨yb,2,none⟩ (.int .i64 0)).setCell ⟨yb,3,none⟩ (.int .i64 0)).setCell ⟨yb,4,none⟩ (.bool false)).setCell ⟨yb,5,none⟩ (.int .i64 0) = w40 at HX' XB' HLR' HW' ⊢
    skip
    have x0:=(blk_cell HX'.out 0).trans (show _ = some (Value.bool a) from rfl)
    have x1:=(blk_cell HX'.out 1).trans (show _ = some (Value.int .i64 n) from rfl)
    obtain ⟨⟨z0,z1,z2,z3,z4,z5⟩,_⟩:=cel6 XB'.out
    have l2:=blt_lab HLR'.out
    clear HX' XB' HLR'
    have e1 : (a == a && (n == n)) = true:=by simp
    have e2 : (v.toList == v.toList) = true:=beq_self_eq_true _
    have e3n : (e3 != 0) = true:=bne_iff_ne.2 HE3.out
    have e2n : (e2_ != 0) = true:=bne_iff_ne.2 HE2.out
    go_wp2_with (fail)
    go_ret
    exact ⟨by first|rfl|(simp;done)|(simp [e1,e2,e3n,e2n];done),HW'.out⟩
   refine value_ (w1:=?_) (v:=?_) (by rfl) rfl ?_ ?_
   rotate_left 2
   ·go_simp
    first|(constructor <;> rfl)|rfl
   have YB:=Aside0.mk (heap_alloc_new w21 (.cells #[.slice none 0 0,.bool false,.int .i64 0,.int .i64 0,.bool false,.int .i64 0] 34))
   have NE:=Aside0.mk (show xb < w21.heap.size from blk_lt XB.out)
   have NL:=Aside0.mk (show w.heap.size ≤ w21.heap.size from HW.out.size)
   have hb:=below_alloc (Below.refl w21.heap.size w21) (.cells #[.slice none 0 0,.bool false,.int .i64 0,.int .i64 0,.bool false,.int .i64 0] 34)
   have HX':=Aside0.mk ((hb.block _ (blk_lt HX.out)).trans HX.out)
   have HW':=Aside0.mk (below_step HW.out hb)
   have XB':=Aside0.mk ((hb.block _ (blk_lt XB.out)).trans XB.out)
   have HLR':=Aside0.mk (Kd.R_below HLR.out hb)
   clear HX HW XB HLR
   have HX:=HX'
   clear HX'
   have HW:=HW'
   clear HW'
   have XB:=XB'
   clear XB'
   have HLR:=HLR'
   clear HLR'
   clear hb
   refine hK.out _ _ ⟨(blk_cell HX.out 0).trans rfl,(blk_cell HX.out 1).trans rfl⟩ (fun hHeld=>?_)
   clear hK K
   refine norm_ (a':=?_) ?_ ?_
   rotate_left
   ·show Act.put _ (some 15) _ = _
    simp only [Act.put,List.setIfInBounds_toArray,List.set_cons_zero,List.set_cons_succ,i64_w,i32_w]
    rfl
   generalize w21.alloc (.cells #[.slice none 0 0,.bool false,.int .i64 0,.int .i64 0,.bool false,.int .i64 0] 34) = w22 at HX HW XB HLR YB hHeld ⊢
   generalize w21.heap.size = yb at YB NE NL ⊢
   refine one_ (i:=5) (N:=some 71) #[true,true,true,true,true,true,false,false,false,false,false,true,false,false] rfl rfl (by kernel_rfl) (by decide) (fun K hK=>?_)
   refine goes_ Tryz.func19 (by kernel_rfl) rfl #[.agg #[.bool a,.int .i64 n]] (by rfl) rfl rfl (by (try simp only [List.map_toArray,List.map_cons,List.map_nil]);first|done|rfl) ?_
   refine (hpc w22 (LaidW.below HG.out HW.out)).mono ?_
   rintro e w23 ⟨rfl,hb⟩
   refine ⟨_,rfl,?_⟩
   have HX':=Aside0.mk ((hb.block _ (blk_lt HX.out)).trans HX.out)
   have HW':=Aside0.mk (below_step HW.out hb)
   have XB':=Aside0.mk ((hb.block _ (blk_lt XB.out)).trans XB.out)
   have HLR':=Aside0.mk (Kd.R_below HLR.out hb)
   have YB':=Aside0.mk ((hb.block _ (blk_lt YB.out)).trans YB.out)
   clear HX HW XB HLR YB
   have HX:=HX'
   clear HX'
   have HW:=HW'
   clear HW'
   have XB:=XB'
   clear XB'
   have HLR:=HLR'
   clear HLR'
   have YB:=YB'
   clear YB'
   clear hb
   refine hK.out _ _ ⟨(blk_cell HX.out 0).trans rfl,(blk_cell HX.out 1).trans rfl⟩ (fun hHeld=>?_)
   clear hK K
   refine norm_ (a':=?_) ?_ ?_
   rotate_left
   ·show Act.put _ (some 71) _ = _
    simp only [Act.put,List.setIfInBounds_toArray,List.set_cons_zero,List.set_cons_succ,i64_w,i32_w]
    rfl
   refine pure_ (i:=6) (N:=some 72) (v:=?_) (a':=?_) #[true,true,true,true,true,true,true,false,false,false,false,true,false,false] rfl rfl (by kernel_rfl) (fun _ _ _ h=>h) (Or.inl ⟨by first|rfl|exact wanted_on rfl rfl rfl (by rfl),?_⟩) ?_ ?_
   rotate_left
   ·intro w'
    go_simp
    with_reducible rfl
   rotate_left
   ·simp only [Act.put,List.setIfInBounds_toArray,List.set_cons_zero,List.set_cons_succ,i64_w,i32_w]
    rfl
   refine one_ (i:=7) (N:=some 73) #[true,true,true,true,true,true,true,true,false,false,false,true,false,false] rfl rfl (by kernel_rfl) (by decide) (fun K hK=>?_)
   refine goes_ Tryz.func12 (by kernel_rfl) rfl #[.string ((⟨#[117,112,123,97,61]⟩ : ByteArray) ++ q ++ (⟨#[125,32,32]⟩ : ByteArray) ++ p)] (by rfl) rfl rfl (by (try simp only [List.map_toArray,List.map_cons,List.map_nil]);first|done|rfl) ?_
   refine (expo_Line.calls 4000 ((⟨#[117,112,123,97,61]⟩ : ByteArray) ++ q ++ (⟨#[125,32,32]⟩ : ByteArray) ++ p) [] false 0 0 false 0 e3 w23 (LaidW.below HG.out HW.out) HL3.out).mono ?_
   rintro e w24 ⟨v9,rfl,ho,hb⟩
   refine ⟨_,rfl,?_⟩
   obtain ⟨A9,c9,rfl⟩:=Kd.R_slice ho
   clear ho
   have HX':=Aside0.mk ((hb.block _ (blk_lt HX.out)).trans HX.out)
   have HW':=Aside0.mk (below_step HW.out hb)
   have XB':=Aside0.mk ((hb.block _ (blk_lt XB.out)).trans XB.out)
   have HLR':=Aside0.mk (Kd.R_below HLR.out hb)
   have YB':=Aside0.mk ((hb.block _ (blk_lt YB.out)).trans YB.out)
   clear HX HW XB HLR YB
   have HX:=HX'
   clear HX'
   have HW:=HW'
   clear HW'
   have XB:=XB'
   clear XB'
   have HLR:=HLR'
   clear HLR'
   have YB:=YB'
   clear YB'
   clear hb
   refine hK.out _ _ ⟨(blk_cell HX.out 0).trans rfl,(blk_cell HX.out 1).trans rfl⟩ (fun hHeld=>?_)
   clear hK K
   refine norm_ (a':=?_) ?_ ?_
   rotate_left
   ·show Act.put _ (some 73) _ = _
    simp only [Act.put,List.setIfInBounds_toArray,List.set_cons_zero,List.set_cons_succ,i64_w,i32_w]
    rfl
   refine pure_ (i:=8) (N:=some 65) (v:=?_) (a':=?_) #[true,true,true,true,true,true,true,true,true,false,false,true,false,false] rfl rfl (by kernel_rfl) (fun _ _ _ h=>h) (Or.inl ⟨by first|rfl|exact wanted_on rfl rfl rfl (by rfl),?_⟩) ?_ ?_
   rotate_left
   ·intro w'
    go_simp
    with_reducible rfl
   rotate_left
   ·simp only [Act.put,List.setIfInBounds_toArray,List.set_cons_zero,List.set_cons_succ,i64_w,i32_w]
    rfl
   refine pure_ (i:=9) (N:=some 74) (v:=?_) (a':=?_) #[true,true,true,true,true,true,true,true,true,true,false,true,false,false] rfl rfl (by kernel_rfl) (fun _ _ _ h=>h) (Or.inl ⟨by first|rfl|exact wanted_on rfl rfl rfl (by rfl),?_⟩) ?_ ?_
   rotate_left
   ·intro w'
    go_simp
    with_reducible rfl
   rotate_left
   ·simp only [Act.put,List.setIfInBounds_toArray,List.set_cons_zero,List.set_cons_succ,i64_w,i32_w]
    rfl
   refine pure_ (i:=10) (N:=some 75) (v:=?_) (a':=?_) #[true,true,true,true,true,true,true,true,true,true,true,true,false,false] rfl rfl (by kernel_rfl) (fun _ _ _ h=>h) (Or.inl ⟨by first|rfl|exact wanted_on rfl rfl rfl (by rfl),?_⟩) ?_ ?_
   rotate_left
   ·intro w'
    go_simp
    with_reducible rfl
   rotate_left
   ·simp only [Act.put,List.setIfInBounds_toArray,List.set_cons_zero,List.set_cons_succ,i64_w,i32_w]
    rfl
   obtain ⟨⟨y0,y1,y2,y3,y4,y5⟩,⟨f0,f1,f2,f3,f4,f5⟩⟩:=cel6 YB.out
   refine last_ (i:=12) (N:=none) #[true,true,true,true,true,true,true,true,true,true,true,true,true,false] rfl rfl (by kernel_rfl) (by decide) (fun Kz hKz=>?_)
   refine skip_ (w1:=(((((w24.setCell ⟨yb,0,none⟩ (.slice A9 0 c9)).setCell ⟨yb,1,none⟩ (.bool false)).setCell ⟨yb,2,none⟩ (.int .i64 0)).setCell ⟨yb,3,none⟩ (.int .i64 0)).setCell ⟨yb,4,none⟩ (.bool false)).setCell ⟨yb,5,none⟩ (.int .i64 0)) rfl rfl ?hrun ?_
   case hrun =>
    clear hHeld
    first|(go_simp;done)|(go_simp;rfl)
   refine hKz.out _ _ ?_
   clear hKz Kz hHeld y0 y1 y2 y3 y4 y5 f0 f1 f2 f3 f4 f5
   refine pure_ (i:=13) (N:=some 16) (v:=?_) (a':=?_) #[true,true,true,true,true,true,true,true,true,true,true,true,true,true] rfl rfl (by kernel_rfl) (fun _ _ _ h=>h) (Or.inl ⟨by first|rfl|exact wanted_on rfl rfl rfl (by rfl),?_⟩) ?_ ?_
   rotate_left
   ·intro w'
    go_simp
    with_reducible rfl
   rotate_left
   ·simp only [Act.put,List.setIfInBounds_toArray,List.set_cons_zero,List.set_cons_succ,i64_w,i32_w]
    rfl
   refine done_ (by kernel_rfl) ?_
   have HX':=Aside0.mk (far6 HX.out (ne_of_typ YB.out HX.out (by decide)) (.slice A9 0 c9) (.bool false) (.int .i64 0) (.int .i64 0) (.bool false) (.int .i64 0))
   have XB':=Aside0.mk (far6 XB.out (Nat.ne_of_lt NE.out) (.slice A9 0 c9) (.bool false) (.int .i64 0) (.int .i64 0) (.bool false) (.int .i64 0))
   have HLR':=Aside0.mk (R6 HLR.out YB.out (.slice A9 0 c9) (.bool false) (.int .i64 0) (.int .i64 0) (.bool false) (.int .i64 0))
   have HW':=Aside0.mk (bel6 HW.out NL.out (.slice A9 0 c9) (.bool false) (.int .i64 0) (.int .i64 0) (.bool false) (.int .i64 0))
   clear HX XB HLR HW YB NE NL
   dsimp only [set6] at HX' XB' HLR' HW'
   generalize (((((w24.setCell ⟨yb,0,none⟩ (.slice A9 0 c9)).setCell ⟨yb,1,none⟩ (.bool false)).setCell ⟨yb,2,none⟩ (.int .i64 0)).setCell ⟨yb,3,none⟩ (.int .i64 0)).setCell ⟨yb,4,none⟩ (.bool false)).setCell ⟨yb,5,none⟩ (.int .i64 0) = w40 at HX' XB' HLR' HW' ⊢
   skip
   have x0:=(blk_cell HX'.out 0).trans (show _ = some (Value.bool a) from rfl)
   have x1:=(blk_cell HX'.out 1).trans (show _ = some (Value.int .i64 n) from rfl)
   obtain ⟨⟨z0,z1,z2,z3,z4,z5⟩,_⟩:=cel6 XB'.out
   have l2:=blt_lab HLR'.out
   clear HX' XB' HLR'
   have e1 : (a == a && (n == n)) = true:=by simp
   have e2 : (v.toList == v.toList) = true:=beq_self_eq_true _
   have e3n : (e3 != 0) = true:=bne_iff_ne.2 HE3.out
   have e2n : (e2_ != 0) = true:=bne_iff_ne.2 HE2.out
   go_wp2_with (fail)
   go_ret
   exact ⟨by first|rfl|(simp;done)|(simp [e1,e2,e3n,e2n];done),HW'.out⟩
  refine value_ (w1:=?_) (v:=?_) (by rfl) rfl ?_ ?_
  rotate_left 2
  ·go_simp
   first|(constructor <;> rfl)|rfl
  have YB:=Aside0.mk (heap_alloc_new w20 (.cells #[.slice none 0 0,.bool false,.int .i64 0,.int .i64 0,.bool false,.int .i64 0] 34))
  have NE:=Aside0.mk (show xb < w20.heap.size from blk_lt XB.out)
  have NL:=Aside0.mk (show w.heap.size ≤ w20.heap.size from HW.out.size)
  have hb:=below_alloc (Below.refl w20.heap.size w20) (.cells #[.slice none 0 0,.bool false,.int .i64 0,.int .i64 0,.bool false,.int .i64 0] 34)
  have HX':=Aside0.mk ((hb.block _ (blk_lt HX.out)).trans HX.out)
  have HW':=Aside0.mk (below_step HW.out hb)
  have XB':=Aside0.mk ((hb.block _ (blk_lt XB.out)).trans XB.out)
  have HLR':=Aside0.mk (Kd.R_below HLR.out hb)
  clear HX HW XB HLR
  have HX:=HX'
  clear HX'
  have HW:=HW'
  clear HW'
  have XB:=XB'
  clear XB'
  have HLR:=HLR'
  clear HLR'
  clear hb
  refine hK.out _ _ ⟨(blk_cell HX.out 0).trans rfl,(blk_cell HX.out 1).trans rfl⟩ (fun hHeld=>?_)
  clear hK K
  refine norm_ (a':=?_) ?_ ?_
  rotate_left
  ·show Act.put _ (some 15) _ = _
   simp only [Act.put,List.setIfInBounds_toArray,List.set_cons_zero,List.set_cons_succ,i64_w,i32_w]
   rfl
  generalize w20.alloc (.cells #[.slice none 0 0,.bool false,.int .i64 0,.int .i64 0,.bool false,.int .i64 0] 34) = w21 at HX HW XB HLR YB hHeld ⊢
  generalize w20.heap.size = yb at YB NE NL ⊢
  refine one_ (i:=1) (N:=some 67) #[true,true,false,false,true,false,false,false,false,false,false,true,false,false] rfl rfl (by kernel_rfl) (by decide) (fun K hK=>?_)
  refine goes_ Tryz.func18 (by kernel_rfl) rfl #[.string v] (by rfl) rfl rfl (by (try simp only [List.map_toArray,List.map_cons,List.map_nil]);first|done|rfl) ?_
  refine (hqc w21).mono ?_
  rintro e w' ⟨rfl,hd⟩
  refine ⟨_,rfl,?_⟩
  obtain ⟨m,rfl⟩:=hd.out
  have hb:=pw_below_drewN (Below.refl w21.heap.size w21) m
  clear hd
  have HX':=Aside0.mk ((hb.block _ (blk_lt HX.out)).trans HX.out)
  have HW':=Aside0.mk (below_step HW.out hb)
  have XB':=Aside0.mk ((hb.block _ (blk_lt XB.out)).trans XB.out)
  have HLR':=Aside0.mk (Kd.R_below HLR.out hb)
  have YB':=Aside0.mk ((hb.block _ (blk_lt YB.out)).trans YB.out)
  clear HX HW XB HLR YB
  have HX:=HX'
  clear HX'
  have HW:=HW'
  clear HW'
  have XB:=XB'
  clear XB'
  have HLR:=HLR'
  clear HLR'
  have YB:=YB'
  clear YB'
  clear hb
  refine hK.out _ _ ⟨(blk_cell HX.out 0).trans rfl,(blk_cell HX.out 1).trans rfl⟩ (fun hHeld=>?_)
  clear hK K
  refine norm_ (a':=?_) ?_ ?_
  rotate_left
  ·show Act.put _ (some 67) _ = _
   simp only [Act.put,List.setIfInBounds_toArray,List.set_cons_zero,List.set_cons_succ,i64_w,i32_w]
   rfl
  generalize w21.drewN m = w22 at HX HW XB HLR YB hHeld ⊢
  refine pure_ (i:=2) (N:=some 68) (v:=?_) (a':=?_) #[true,true,true,false,true,false,false,false,false,false,false,true,false,false] rfl rfl (by kernel_rfl) (fun _ _ _ h=>h) (Or.inl ⟨by first|rfl|exact wanted_on rfl rfl rfl (by rfl),?_⟩) ?_ ?_
  rotate_left
  ·intro w'
   go_simp
   with_reducible rfl
  rotate_left
  ·simp only [Act.put,List.setIfInBounds_toArray,List.set_cons_zero,List.set_cons_succ,i64_w,i32_w]
   rfl
  refine pure_ (i:=3) (N:=some 69) (v:=?_) (a':=?_) #[true,true,true,true,true,false,false,false,false,false,false,true,false,false] rfl rfl (by kernel_rfl) (fun _ _ _ h=>h) (Or.inl ⟨by first|rfl|exact wanted_on rfl rfl rfl (by rfl),?_⟩) ?_ ?_
  rotate_left
  ·intro w'
   go_simp
   with_reducible rfl
  rotate_left
  ·simp only [Act.put,List.setIfInBounds_toArray,List.set_cons_zero,List.set_cons_succ,i64_w,i32_w]
   rfl
  refine one_ (i:=5) (N:=some 71) #[true,true,true,true,true,true,false,false,false,false,false,true,false,false] rfl rfl (by kernel_rfl) (by decide) (fun K hK=>?_)
  refine goes_ Tryz.func19 (by kernel_rfl) rfl #[.agg #[.bool a,.int .i64 n]] (by rfl) rfl rfl (by (try simp only [List.map_toArray,List.map_cons,List.map_nil]);first|done|rfl) ?_
  refine (hpc w22 (LaidW.below HG.out HW.out)).mono ?_
  rintro e w23 ⟨rfl,hb⟩
  refine ⟨_,rfl,?_⟩
  have HX':=Aside0.mk ((hb.block _ (blk_lt HX.out)).trans HX.out)
  have HW':=Aside0.mk (below_step HW.out hb)
  have XB':=Aside0.mk ((hb.block _ (blk_lt XB.out)).trans XB.out)
  have HLR':=Aside0.mk (Kd.R_below HLR.out hb)
  have YB':=Aside0.mk ((hb.block _ (blk_lt YB.out)).trans YB.out)
  clear HX HW XB HLR YB
  have HX:=HX'
  clear HX'
  have HW:=HW'
  clear HW'
  have XB:=XB'
  clear XB'
  have HLR:=HLR'
  clear HLR'
  have YB:=YB'
  clear YB'
  clear hb
  refine hK.out _ _ ⟨(blk_cell HX.out 0).trans rfl,(blk_cell HX.out 1).trans rfl⟩ (fun hHeld=>?_)
  clear hK K
  refine norm_ (a':=?_) ?_ ?_
  rotate_left
  ·show Act.put _ (some 71) _ = _
   simp only [Act.put,List.setIfInBounds_toArray,List.set_cons_zero,List.set_cons_succ,i64_w,i32_w]
   rfl
  refine pure_ (i:=6) (N:=some 72) (v:=?_) (a':=?_) #[true,true,true,true,true,true,true,false,false,false,false,true,false,false] rfl rfl (by kernel_rfl) (fun _ _ _ h=>h) (Or.inl ⟨by first|rfl|exact wanted_on rfl rfl rfl (by rfl),?_⟩) ?_ ?_
  rotate_left
  ·intro w'
   go_simp
   with_reducible rfl
  rotate_left
  ·simp only [Act.put,List.setIfInBounds_toArray,List.set_cons_zero,List.set_cons_succ,i64_w,i32_w]
   rfl
  refine one_ (i:=7) (N:=some 73) #[true,true,true,true,true,true,true,true,false,false,false,true,false,false] rfl rfl (by kernel_rfl) (by decide) (fun K hK=>?_)
  refine goes_ Tryz.func12 (by kernel_rfl) rfl #[.string ((⟨#[117,112,123,97,61]⟩ : ByteArray) ++ q ++ (⟨#[125,32,32]⟩ : ByteArray) ++ p)] (by rfl) rfl rfl (by (try simp only [List.map_toArray,List.map_cons,List.map_nil]);first|done|rfl) ?_
  refine (expo_Line.calls 4000 ((⟨#[117,112,123,97,61]⟩ : ByteArray) ++ q ++ (⟨#[125,32,32]⟩ : ByteArray) ++ p) [] false 0 0 false 0 e3 w23 (LaidW.below HG.out HW.out) HL3.out).mono ?_
  rintro e w24 ⟨v9,rfl,ho,hb⟩
  refine ⟨_,rfl,?_⟩
  obtain ⟨A9,c9,rfl⟩:=Kd.R_slice ho
  clear ho
  have HX':=Aside0.mk ((hb.block _ (blk_lt HX.out)).trans HX.out)
  have HW':=Aside0.mk (below_step HW.out hb)
  have XB':=Aside0.mk ((hb.block _ (blk_lt XB.out)).trans XB.out)
  have HLR':=Aside0.mk (Kd.R_below HLR.out hb)
  have YB':=Aside0.mk ((hb.block _ (blk_lt YB.out)).trans YB.out)
  clear HX HW XB HLR YB
  have HX:=HX'
  clear HX'
  have HW:=HW'
  clear HW'
  have XB:=XB'
  clear XB'
  have HLR:=HLR'
  clear HLR'
  have YB:=YB'
  clear YB'
  clear hb
  refine hK.out _ _ ⟨(blk_cell HX.out 0).trans rfl,(blk_cell HX.out 1).trans rfl⟩ (fun hHeld=>?_)
  clear hK K
  refine norm_ (a':=?_) ?_ ?_
  rotate_left
  ·show Act.put _ (some 73) _ = _
   simp only [Act.put,List.setIfInBounds_toArray,List.set_cons_zero,List.set_cons_succ,i64_w,i32_w]
   rfl
  refine pure_ (i:=8) (N:=some 65) (v:=?_) (a':=?_) #[true,true,true,true,true,true,true,true,true,false,false,true,false,false] rfl rfl (by kernel_rfl) (fun _ _ _ h=>h) (Or.inl ⟨by first|rfl|exact wanted_on rfl rfl rfl (by rfl),?_⟩) ?_ ?_
  rotate_left
  ·intro w'
   go_simp
   with_reducible rfl
  rotate_left
  ·simp only [Act.put,List.setIfInBounds_toArray,List.set_cons_zero,List.set_cons_succ,i64_w,i32_w]
   rfl
  refine pure_ (i:=9) (N:=some 74) (v:=?_) (a':=?_) #[true,true,true,true,true,true,true,true,true,true,false,true,false,false] rfl rfl (by kernel_rfl) (fun _ _ _ h=>h) (Or.inl ⟨by first|rfl|exact wanted_on rfl rfl rfl (by rfl),?_⟩) ?_ ?_
  rotate_left
  ·intro w'
   go_simp
   with_reducible rfl
  rotate_left
  ·simp only [Act.put,List.setIfInBounds_toArray,List.set_cons_zero,List.set_cons_succ,i64_w,i32_w]
   rfl
  refine pure_ (i:=10) (N:=some 75) (v:=?_) (a':=?_) #[true,true,true,true,true,true,true,true,true,true,true,true,false,false] rfl rfl (by kernel_rfl) (fun _ _ _ h=>h) (Or.inl ⟨by first|rfl|exact wanted_on rfl rfl rfl (by rfl),?_⟩) ?_ ?_
  rotate_left
  ·intro w'
   go_simp
   with_reducible rfl
  rotate_left
  ·simp only [Act.put,List.setIfInBounds_toArray,List.set_cons_zero,List.set_cons_succ,i64_w,i32_w]
   rfl
  obtain ⟨⟨y0,y1,y2,y3,y4,y5⟩,⟨f0,f1,f2,f3,f4,f5⟩⟩:=cel6 YB.out
  refine last_ (i:=12) (N:=none) #[true,true,true,true,true,true,true,true,true,true,true,true,true,false] rfl rfl (by kernel_rfl) (by decide) (fun Kz hKz=>?_)
  refine skip_ (w1:=(((((w24.setCell ⟨yb,0,none⟩ (.slice A9 0 c9)).setCell ⟨yb,1,none⟩ (.bool false)).setCell ⟨yb,2,none⟩ (.int .i64 0)).setCell ⟨yb,3,none⟩ (.int .i64 0)).setCell ⟨yb,4,none⟩ (.bool false)).setCell ⟨yb,5,none⟩ (.int .i64 0)) rfl rfl ?hrun ?_
  case hrun =>
   clear hHeld
   first|(go_simp;done)|(go_simp;rfl)
  refine hKz.out _ _ ?_
  clear hKz Kz hHeld y0 y1 y2 y3 y4 y5 f0 f1 f2 f3 f4 f5
  refine pure_ (i:=13) (N:=some 16) (v:=?_) (a':=?_) #[true,true,true,true,true,true,true,true,true,true,true,true,true,true] rfl rfl (by kernel_rfl) (fun _ _ _ h=>h) (Or.inl ⟨by first|rfl|exact wanted_on rfl rfl rfl (by rfl),?_⟩) ?_ ?_
  rotate_left
  ·intro w'
   go_simp
   with_reducible rfl
  rotate_left
  ·simp only [Act.put,List.setIfInBounds_toArray,List.set_cons_zero,List.set_cons_succ,i64_w,i32_w]
   rfl
  refine done_ (by kernel_rfl) ?_
  have HX':=Aside0.mk (far6 HX.out (ne_of_typ YB.out HX.out (by decide)) (.slice A9 0 c9) (.bool false) (.int .i64 0) (.int .i64 0) (.bool false) (.int .i64 0))
  have XB':=Aside0.mk (far6 XB.out (Nat.ne_of_lt NE.out) (.slice A9 0 c9) (.bool false) (.int .i64 0) (.int .i64 0) (.bool false) (.int .i64 0))
  have HLR':=Aside0.mk (R6 HLR.out YB.out (.slice A9 0 c9) (.bool false) (.int .i64 0) (.int .i64 0) (.bool false) (.int .i64 0))
  have HW':=Aside0.mk (bel6 HW.out NL.out (.slice A9 0 c9) (.bool false) (.int .i64 0) (.int .i64 0) (.bool false) (.int .i64 0))
  clear HX XB HLR HW YB NE NL
  dsimp only [set6] at HX' XB' HLR' HW'
  generalize (((((w24.setCell ⟨yb,0,none⟩ (.slice A9 0 c9)).setCell ⟨yb,1,none⟩ (.bool false)).setCell ⟨yb,2,none⟩ (.int .i64 0)).setCell ⟨yb,3,none⟩ (.int .i64 0)).setCell ⟨yb,4,none⟩ (.bool false)).setCell ⟨yb,5,none⟩ (.int .i64 0) = w40 at HX' XB' HLR' HW' ⊢
  skip
  have x0:=(blk_cell HX'.out 0).trans (show _ = some (Value.bool a) from rfl)
  have x1:=(blk_cell HX'.out 1).trans (show _ = some (Value.int .i64 n) from rfl)
  obtain ⟨⟨z0,z1,z2,z3,z4,z5⟩,_⟩:=cel6 XB'.out
  have l2:=blt_lab HLR'.out
  clear HX' XB' HLR'
  have e1 : (a == a && (n == n)) = true:=by simp
  have e2 : (v.toList == v.toList) = true:=beq_self_eq_true _
  have e3n : (e3 != 0) = true:=bne_iff_ne.2 HE3.out
  have e2n : (e2_ != 0) = true:=bne_iff_ne.2 HE2.out
  go_wp2_with (fail)
  go_ret
  exact ⟨by first|rfl|(simp;done)|(simp [e1,e2,e3n,e2n];done),HW'.out⟩
end Go.Proofs.YtfgffjchphignaaGreatDoor.Print
end
section
namespace Go.Proofs.YtfgffjchphignaaGreatDoor.Print
open Go.Sort Go.Shelf PureN
open Go.RowKit Go.Proofs.YtfgffjchphignaaGreatDoorX Go.Proofs.YtfgffjchphignaaGreatDoorW.PrintWords Go.Proofs.YtfgffjchphignaaGreatDoorW.PrintLast Go.Proofs.YtfgffjchphignaaGreatDoorW.PrintMore
/-! ExpoBuilt: all ways. -/
theorem built_walk (v : ByteArray) (a : Bool) (n t : Int) (wi : Bool) (w : World) (hg_ : LaidW w) (hkn : spillwaylaw6_known.f 4000 = some true) (hn : -9223372036854775808 ≤ n ∧ n ≤ 9223372036854775807) (ht : 0 ≤ t ∧ t ≤ 4294967295) :
  Calls Tryz.prog 7 #[.string v,.agg #[.bool a,.int .i64 n],.int .u32 t,.bool wi] w fun e w'=>e = .returned (.bool true) ∧ Below w.heap.size w w':=by
 by_cases h0 : v.size = 0
 ·exact built_none v a n t wi w hg_ hkn h0
 by_cases h1 : 30 < v.size
 ·exact built_long v a n t wi w hg_ hkn h1
 cases hi : isNm a n with
 | false=>exact built_not v a n t wi w hg_ hkn h0 (by omega) hi
 | true =>
  have hv:=rval_eq v (by omega) 1000 (by omega)
  cases hb : (!v.data.toList.contains 10 && decide (v.data.toList.length ≤ 30)) with
  | false =>
   rw [hb] at hv
   exact built_val v a n t wi w hg_ hkn h0 (by omega) hi hv
  | true =>
   rw [hb] at hv
   exact built_main v a n t wi w hg_ hkn h0 (by omega) hi hv hn ht.1 ht.2
end Go.Proofs.YtfgffjchphignaaGreatDoor.Print
end
section
namespace Go.Proofs.YtfgffjchphignaaGreatDoor.Open
open Go.ChangeShapes Go.WideShapes Go.ChangeAt Go.RowKit
open Go.Proofs.YtfgffjchphignaaGreatDoorW.PrintWords
set_option maxRecDepth 100000 in
/-- A number that came in. -/
theorem open_num {H : Type} {enc : TypeId × Value → H} {W : World} {base b0 : Nat} {r : Reach} {sp : Nat → Bool} {held : Bool} {v : Value} {d : DataW H} {ps : List MemPlace} (hok : Value.okWide Tryz.prog W r b0 32 v) (h : DataW.Trod enc Tryz.prog W base sp held 32 v d ps) :
  ∃ (b : Bool) (n : Int),v = .agg #[.bool b,.int .i64 n] ∧ PureN.R n:=by
 obtain ⟨xs,rfl⟩ : ∃ xs,v = .agg xs:=by
  simp only [Value.okWide,Tryz.underlying32] at hok
  obtain ⟨cs,h1,_⟩:=hok
  exact ⟨cs,h1⟩
 obtain ⟨fuel,hf⟩:=h
 simp only [Value.cells] at hf
 obtain ⟨ys,k,hk,hxy,hlen,hxl,hg⟩:=DataW.trod_struct Tryz.underlying32 hf
 have hl2 : xs.toList.length = 2:=hlen.trans (by kernel_rfl)
 have c4 : Tryz.prog.cellsOf 4 = 1:=by kernel_rfl
 have c2 : Tryz.prog.cellsOf 2 = 1:=by kernel_rfl
 obtain ⟨xs⟩:=xs
 match xs,hl2,ys,hxl with
 | [v0,v1],_,[y0,y1],_ =>
  have g0:=hg 0 _ rfl
  have g1:=hg 1 _ rfl
  simp [c4,c2] at g0 g1
  obtain ⟨b,e0,_⟩:=DataW.trod_bool Tryz.underlying4 g0
  obtain ⟨n,e1,_,w1⟩:=DataW.trod_int Tryz.underlying2 g1
  simp at e0 e1
  subst e0 e1
  exact ⟨b,n,rfl,by simpa [PureN.R,Lit.wf,IntKind.min,IntKind.max,IntKind.signed,IntKind.bits] using w1⟩
end Go.Proofs.YtfgffjchphignaaGreatDoor.Open
end
