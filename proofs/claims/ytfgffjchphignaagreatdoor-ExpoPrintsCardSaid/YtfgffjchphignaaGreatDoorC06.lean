/- A part of the proof of ExpoPrints: what the functions that the law reaches come to. -/
import Derived.Test.YtfgffjchphignaaGreatDoorC05
import Derived.Test.YtfgffjchphignaaGreatDoorC04
import Derived.Test.YtfgffjchphignaaGreatDoorC01
import Derived.Deep.Slices
import Derived.ChangeArms
import Derived.WideShapes
set_option linter.unusedVariables false
set_option linter.unusedSimpArgs false
section
namespace Go.Proofs.YtfgffjchphignaaGreatDoor.Print
open Go.Sort Go.Shelf PureN
open Go.RowKit Go.Proofs.YtfgffjchphignaaGreatDoorX Go.Proofs.YtfgffjchphignaaGreatDoorW.PrintWords Go.Proofs.YtfgffjchphignaaGreatDoorW.PrintLast Go.Proofs.YtfgffjchphignaaGreatDoorW.PrintMore
/-! spillwayref6.Print: the walk. -/
abbrev nil1 : Value:=.slice none 0 0
/-- A row of samples that came in: small enough. -/
def okL (l : List S34) : Prop:=l.length ≤ 12 ∧ ∀ x ∈ l,okPs x.f0 ∧ PureN.R x.f1.f1
structure YAt (w : World) (p : Addr) (B0 : Option Addr) (e0 : Nat) (x : S34) : Prop where
 c0 : w.cell? p = some (.slice B0 x.f0.length e0)
 c1 : w.cell? ⟨p.block,p.off + 1,none⟩ = some (.bool x.f1.f0)
 c2 : w.cell? ⟨p.block,p.off + 2,none⟩ = some (.int .i64 x.f1.f1)
 c3 : w.cell? ⟨p.block,p.off + 3,none⟩ = some (.int .i64 x.f2)
 c4 : w.cell? ⟨p.block,p.off + 4,none⟩ = some (.bool x.f3)
 c5 : w.cell? ⟨p.block,p.off + 5,none⟩ = some (.int .i64 x.f4)
theorem YAt.below {w w' : World} {n : Nat} {p : Addr} {B0 : Option Addr} {e0 : Nat} {x : S34} (h : YAt w p B0 e0 x) (hn : n = w.heap.size) (hb : Below n w w') : YAt w' p B0 e0 x:=by
 subst hn
 exact ⟨(hb.cell (World.block_lt_of_cell? _ _ h.c0)).trans h.c0,(hb.cell (World.block_lt_of_cell? _ _ h.c1)).trans h.c1,(hb.cell (World.block_lt_of_cell? _ _ h.c2)).trans h.c2,(hb.cell (World.block_lt_of_cell? _ _ h.c3)).trans h.c3,(hb.cell (World.block_lt_of_cell? _ _ h.c4)).trans h.c4,(hb.cell (World.block_lt_of_cell? _ _ h.c5)).trans h.c5⟩
set_option maxHeartbeats 40000000 in
set_option maxRecDepth 100000 in
theorem refPrint_calls (A0 : Option Addr) (c0 : Nat) (l : List S34) (w : World) (hr : Kd.C k34 w A0 l.length l) (hc0 : l.length ≤ c0) (hok : okL l) :
  Calls Tryz.prog 24 #[.slice A0 l.length c0] w fun e w'=>e = .returned (.string (ofL (runP [] [] l))) ∧ Below w.heap.size w w':=by
 have HL:=Aside0.mk hr
 have HOK:=Aside0.mk hok
 have hkb:=heap_alloc_new w (.cells #[nil1,nil1] 75)
 have hnb:=heap_alloc_new (w.alloc (.cells #[nil1,nil1] 75)) (.cells #[.string ⟨#[117,110,116,121,112,101,100]⟩,.string ⟨#[99,111,117,110,116,101,114]⟩,.string ⟨#[103,97,117,103,101]⟩] 49)
 rw [show (w.alloc (.cells #[nil1,nil1] 75)).heap.size = w.heap.size + 1 from by unfold World.alloc;simp] at hnb
 have hkb2:=blk_alloc hkb (.cells #[.string ⟨#[117,110,116,121,112,101,100]⟩,.string ⟨#[99,111,117,110,116,101,114]⟩,.string ⟨#[103,97,117,103,101]⟩] 49)
 have hb2:=below_alloc (below_alloc (Below.refl w.heap.size w) (.cells #[nil1,nil1] 75)) (.cells #[.string ⟨#[117,110,116,121,112,101,100]⟩,.string ⟨#[99,111,117,110,116,101,114]⟩,.string ⟨#[103,97,117,103,101]⟩] 49)
 have HR0 : Aside0 (RfH w ((w.alloc (.cells #[nil1,nil1] 75)).alloc (.cells #[.string ⟨#[117,110,116,121,112,101,100]⟩,.string ⟨#[99,111,117,110,116,101,114]⟩,.string ⟨#[103,97,117,103,101]⟩] 49)) w.heap.size nil1 nil1 nil1 nil1 [] []):=⟨⟨hkb2,hnb,Kd.R_nil _ _ _ _ _,Kd.R_nil _ _ _ _ _,Nat.le_refl _,hb2⟩⟩
 clear hr hc0 hok hkb hnb hkb2 hb2
 go_enter Tryz.func24,Tryz.ntmps24
 go_wp2_with (fail)
 generalize (w.alloc (.cells #[nil1,nil1] 75)).alloc (.cells #[.string ⟨#[117,110,116,121,112,101,100]⟩,.string ⟨#[99,111,117,110,116,101,114]⟩,.string ⟨#[103,97,117,103,101]⟩] 49) = ws at HR0 ⊢
 generalize hkb : w.heap.size = kb at HR0 ⊢
 go_loopg [3,6,7,8] l.length (fun gg s3 s6 _ _ wr=>∃ (i : Nat) (vn vk : Value) (ns : List ByteArray) (ks : List Int) (KK : Kinds) (S : ByteArray),s3 = .string S ∧ s6 = .int .i64 i ∧ l.length - i ≤ gg ∧ Aside0 (i ≤ l.length ∧ ns.length ≤ i ∧ S.size ≤ 400 * i) ∧ Aside0 (runP KK S.data.toList (l.drop i) = runP [] [] l) ∧ Aside0 (RfH w wr kb vn vk vn vk ns ks) ∧ Aside0 (RkA ns ks KK))
 case atStart=>exact ⟨0,_,_,[],[],[],ByteArray.empty,rfl,rfl,by omega,⟨by simp⟩,⟨rfl⟩,HR0,⟨RkA.nil⟩⟩
 clear HR0
 obtain ⟨i,vn,vk,ns,ks,KK,S,rfl,rfl,hgg,HI,HQ,HR,HA⟩:=hrel
 by_cases hlt : i < l.length
 ·have hltz : (i : Int) < (l.length : Int):=by omega
  obtain ⟨ad,B0,e0,rfl,y0,y1,y2,y3,y4,y5,hcp,yr⟩:=at_T34 HL.out (i : Int) (by omega) (by omega)
  have hmem : l[i] ∈ l:=List.getElem_mem hlt
  have hrd : rd_T34 l (i : Int) = l[i]:=by
   unfold rd_T34
   rw [Int.toNat_natCast,List.getD_eq_getElem?_getD,List.getElem?_eq_getElem hlt]
   rfl
  rw [hrd] at y0 y1 y2 y3 y4 y5 hcp yr
  have hok1:=HOK.out.2 _ hmem
  have hq:=HQ.out
  rw [List.drop_eq_getElem_cons hlt,runP] at hq
  generalize l[i] = x at y0 y1 y2 y3 y4 y5 hcp yr hok1 hq
  rw [Int.toNat_natCast] at y0 y1 y2 y3 y4 y5
  have HQ1:=Aside0.mk hq
  have HX:=Aside0.mk hok1
  have HCP:=Aside0.mk hcp
  have HLT:=Aside0.mk hlt
  have HYW : Aside0 (YAt w (ad.add (i * 6)) B0 e0 x):=⟨⟨y0,y1,y2,y3,y4,y5⟩⟩
  have HPW:=Aside0.mk yr
  have hic:=refIs_calls B0 e0 x.f0 x.f1.f0 x.f1.f1 x.f2 x.f3 x.f4 wr (Kd.C_below HPW.out HR.out.bel) hcp hok1.1
  rw [show (⟨x.f0,⟨x.f1.f0,x.f1.f1⟩,x.f2,x.f3,x.f4⟩ : S34) = x from rfl] at hic
  have hw:=wrap_succ_ i (by have:=HOK.out.1;omega)
  clear hmem hrd hok1 hq HQ hcp yr y0 y1 y2 y3 y4 y5
  obtain ⟨y0,y1,y2,y3,y4,y5⟩:=HYW.out.below rfl HR.out.bel
  cases hb : isScr x with
  | false =>
   rw [hb] at hic
   go_wp2_with (fail)
   refine hic.mono ?_
   rintro e1 w1 ⟨rfl,hb1⟩
   have HB1:=Aside0.mk (below_step HR.out.bel hb1)
   clear hic hb1
   go_wp2_with (fail)
   go_ret
   have h:=HQ1.out
   rw [if_pos hb] at h
   rw [← h]
   exact ⟨rfl,HB1.out⟩
  | true =>
   rw [hb] at hic
   go_wp2_with (fail)
   refine hic.mono ?_
   rintro e1 w1 ⟨rfl,hb1⟩
   have HXI:=Aside0.mk (isScr_is x hb)
   have HR_:=Aside0.mk (HR.out.below hb1)
   clear HR
   have HR:=HR_
   clear HR_
   clear hb1 hic y0 y1 y2 y3 y4 y5
   have hG:=rget_eq (⟨#[95,95,110,97,109,101,95,95]⟩ : ByteArray) x.f0 (by have:=HX.out.1.1;omega) 2000 (by have:=HX.out.1.1;omega)
   rw [show (⟨#[95,95,110,97,109,101,95,95]⟩ : ByteArray).data.toList = NL from rfl] at hG
   have hgc:=spillwayref3_Get.calls 2000 B0 e0 x.f0 (⟨#[95,95,110,97,109,101,95,95]⟩ : ByteArray) _ w1 (Kd.C_below HPW.out HR.out.bel) HCP.out hG
   have HKG : Aside0 (rkget ns ks (ofL (getL (x.f0.map pr) NL)) = kget KK (getL (x.f0.map pr) NL)):=⟨HA.out.agr _⟩
   have HNZ : Aside0 ((ofL (getL (x.f0.map pr) NL)).size ≤ 20):=⟨by rw [ofL_size];exact name_le _ HXI.out.nm⟩
   have HND : Aside0 ((ofL (getL (x.f0.map pr) NL)).data.toList = getL (x.f0.map pr) NL):=⟨rfl⟩
   generalize hnm : ofL (getL (x.f0.map pr) NL) = nm at hgc HKG HNZ HND
   clear hG hnm
   obtain ⟨y0,y1,y2,y3,y4,y5⟩:=HYW.out.below rfl HR.out.bel
   go_wp2_with (fail)
   refine hgc.mono ?_
   rintro e2 w2 ⟨rfl,hd2⟩
   obtain ⟨m2,rfl⟩:=hd2.out
   have hb2:=pw_below_drewN (Below.refl w1.heap.size w1) m2
   have HR_:=Aside0.mk (HR.out.below hb2)
   clear HR
   have HR:=HR_
   clear HR_
   clear hgc hd2 hb2 y0 y1 y2 y3 y4 y5
   generalize w1.drewN m2 = w2 at HR ⊢
   go_wp2_with (fail)
   have HW10:=below_drew (Below.refl w2.heap.size w2)
   have HR_:=Aside0.mk (HR.out.below HW10)
   clear HR
   have HR:=HR_
   clear HR_
   clear HW10
   have hH:=(HYW.out.below rfl HR.out.bel).c5
   refine start_ (n:=9) (S:=fun w'=>w'.cell? ⟨(ad.add (i * 6)).block,(ad.add (i * 6)).off + 5,none⟩ = some (.int .i64 x.f4)) (ds:=[]) #[false,false,false,false,false,false,false,false,false] (by kernel_rfl) rfl rfl (hH) (fun hHeld=>?_)
   clear hH
   generalize World.drew _ = w3 at HR hHeld ⊢
   refine pure_ (i:=0) (N:=some 30) (v:=?_) (a':=?_) #[true,false,false,false,false,false,false,false,false] rfl rfl (by kernel_rfl) (fun _ _ _ h=>h) (Or.inl ⟨by first|rfl|exact wanted_on rfl rfl rfl (by rfl),?_⟩) ?_ ?_
   rotate_left
   ·intro w'
    go_simp
    with_reducible rfl
   rotate_left
   ·simp only [Act.put,List.setIfInBounds_toArray,List.set_cons_zero,List.set_cons_succ,i64_w,i32_w]
    rfl
   refine pure_ (i:=1) (N:=some 31) (v:=?_) (a':=?_) #[true,true,false,false,false,false,false,false,false] rfl rfl (by kernel_rfl) (fun _ _ _ h=>h) (Or.inl ⟨by first|rfl|exact wanted_on rfl rfl rfl (by rfl),?_⟩) ?_ ?_
   rotate_left
   ·intro w'
    go_simp
    with_reducible rfl
   rotate_left
   ·simp only [Act.put,List.setIfInBounds_toArray,List.set_cons_zero,List.set_cons_succ,i64_w,i32_w]
    rfl
   refine pure_ (i:=3) (N:=some 33) (v:=?_) (a':=?_) #[true,true,false,true,false,false,false,false,false] rfl rfl (by kernel_rfl) (fun _ _ _ h=>h) (Or.inl ⟨by first|rfl|exact wanted_on rfl rfl rfl (by rfl),?_⟩) ?_ ?_
   rotate_left
   ·intro w'
    go_simp
    with_reducible rfl
   rotate_left
   ·simp only [Act.put,List.setIfInBounds_toArray,List.set_cons_zero,List.set_cons_succ,i64_w,i32_w]
    rfl
   refine pure_ (i:=4) (N:=some 34) (v:=?_) (a':=?_) #[true,true,false,true,true,false,false,false,false] rfl rfl (by kernel_rfl) (fun _ _ _ h=>h) (Or.inl ⟨by first|rfl|exact wanted_on rfl rfl rfl (by rfl),?_⟩) ?_ ?_
   rotate_left
   ·intro w'
    go_simp
    with_reducible rfl
   rotate_left
   ·simp only [Act.put,List.setIfInBounds_toArray,List.set_cons_zero,List.set_cons_succ,i64_w,i32_w]
    rfl
   refine pure_ (i:=5) (N:=some 35) (v:=?_) (a':=?_) #[true,true,false,true,true,true,false,false,false] rfl rfl (by kernel_rfl) (fun _ _ _ h=>h) (Or.inl ⟨by first|rfl|exact wanted_on rfl rfl rfl (by rfl),?_⟩) ?_ ?_
   rotate_left
   ·intro w'
    go_simp
    with_reducible rfl
   rotate_left
   ·simp only [Act.put,List.setIfInBounds_toArray,List.set_cons_zero,List.set_cons_succ,i64_w,i32_w]
    rfl
   refine pure_ (i:=6) (N:=some 36) (v:=?_) (a':=?_) #[true,true,false,true,true,true,true,false,false] rfl rfl (by kernel_rfl) (fun _ _ _ h=>h) (Or.inl ⟨by first|rfl|exact wanted_on rfl rfl rfl (by rfl),?_⟩) ?_ ?_
   rotate_left
   ·intro w'
    go_simp
    with_reducible rfl
   rotate_left
   ·simp only [Act.put,List.setIfInBounds_toArray,List.set_cons_zero,List.set_cons_succ,i64_w,i32_w]
    rfl
   refine take_ (i:=7) (N:=some 37) (v:=?_) (a':=?_) #[true,true,false,true,true,true,true,true,false] rfl rfl (by kernel_rfl) (fun _ _ _ h=>h) (Or.inl ⟨by first|rfl|exact wanted_on rfl rfl rfl (by rfl),?_⟩) hHeld ?_ ?_
   rotate_left
   ·rintro w' s0
    go_simp
    with_reducible rfl
   rotate_left
   ·simp only [Act.put,List.setIfInBounds_toArray,List.set_cons_zero,List.set_cons_succ,i64_w,i32_w]
    rfl
   refine one_ (i:=2) (N:=some 32) #[true,true,true,true,true,true,true,true,false] rfl rfl (by kernel_rfl) (by decide) (fun K hK=>?_)
   refine goes_ Tryz.func32 (by kernel_rfl) rfl #[.pointer (some ⟨kb,0,none⟩),.string nm] (by rfl) rfl rfl (by (try simp only [List.map_toArray,List.map_cons,List.map_nil]);first|done|rfl) ?_
   refine (kinds_get w3 kb w.heap.size _ _ vn vk ns ks nm HR.out.blk HR.out.nam HR.out.kin HA.out.len (by have:=HI.out;have:=HOK.out.1;omega)).mono ?_
   rintro e w4 ⟨rfl,rfl⟩
   refine ⟨_,rfl,?_⟩
   rw [HKG.out]
   refine hK.out _ _ hHeld (fun hHeld=>?_)
   clear hK
   refine norm_ (a':=?_) ?_ ?_
   rotate_left
   ·show Act.put _ (some 32) _ = _
    simp only [Act.put,List.setIfInBounds_toArray,List.set_cons_zero,List.set_cons_succ,i64_w,i32_w]
    rfl
   refine pure_ (i:=8) (N:=some 38) (v:=?_) (a':=?_) #[true,true,true,true,true,true,true,true,true] rfl rfl (by kernel_rfl) (fun _ _ _ h=>h) (Or.inl ⟨by first|rfl|exact wanted_on rfl rfl rfl (by rfl),?_⟩) ?_ ?_
   rotate_left
   ·intro w'
    go_simp
    with_reducible rfl
   rotate_left
   ·simp only [Act.put,List.setIfInBounds_toArray,List.set_cons_zero,List.set_cons_succ,i64_w,i32_w]
    rfl
   refine done_ (by kernel_rfl) ?_
   clear hHeld
   have hor : (kget KK (getL (x.f0.map pr) NL) = x.f4) ∨ (kget KK (getL (x.f0.map pr) NL) ≠ x.f4 ∧ x.f4 = 0) ∨ (kget KK (getL (x.f0.map pr) NL) ≠ x.f4 ∧ x.f4 = 1) ∨ (kget KK (getL (x.f0.map pr) NL) ≠ x.f4 ∧ x.f4 = 2):=by
    have h0:=HXI.out.k0
    have h1:=HXI.out.k1
    by_cases h : kget KK (getL (x.f0.map pr) NL) = x.f4
    ·exact Or.inl h
    have h2 : x.f4 = 0 ∨ x.f4 = 1 ∨ x.f4 = 2:=by omega
    rcases h2 with h2|h2|h2
    ·exact Or.inr (Or.inl ⟨h,h2⟩)
    ·exact Or.inr (Or.inr (Or.inl ⟨h,h2⟩))
    exact Or.inr (Or.inr (Or.inr ⟨h,h2⟩))
   rcases hor with hk|⟨hk,h4⟩|⟨hk,h4⟩|⟨hk,h4⟩
   have hkn : (kget KK (getL (x.f0.map pr) NL) != x.f4) = false:=bne_eq_false_iff_eq.2 hk
   rw [hkn]
   go_wp2_with (fail)
   obtain ⟨S1,hS1⟩ : ∃ S1 : ByteArray,S1 = S:=⟨_,rfl⟩
   rw [← hS1]
   have HS1 : Aside0 (S1.data.toList = putT KK S.data.toList x):=⟨by unfold putT;rw [if_pos hk,hS1]⟩
   have HZ1 : Aside0 (S1.size ≤ 400 * i + 40):=⟨by rw [hS1];have:=HI.out;omega⟩
   have HA_ : Aside0 (RkA ns ks (putK KK x)):=⟨by unfold putK;rw [if_pos hk];exact HA.out⟩
   have HNS : Aside0 (ns.length ≤ ns.length + 1):=⟨by omega⟩
   clear hS1 HA HKG hkn
   have HA:=HA_
   clear HA_
   rotate_left
   have hkn : (kget KK (getL (x.f0.map pr) NL) != x.f4) = true:=bne_iff_ne.2 hk
   rw [hkn]
   have hst:=kinds_setH KK nm 0 HR.out HA.out (by have:=HI.out;have:=HOK.out.1;omega)
   rw [HND.out] at hst
   obtain ⟨y0,y1,y2,y3,y4,y5⟩:=HYW.out.below rfl HR.out.bel
   rw [h4] at y5
   go_wp2_with (fail)
   refine hst.mono ?_
   rintro e5 w5 ⟨rfl,vn',vk',ns',ks',h1,h2,h3⟩
   clear hst y0 y1 y2 y3 y4 y5 HR HA HKG
   have HR:=Aside0.mk h1
   have HA : Aside0 (RkA ns' ks' (putK KK x)):=⟨by unfold putK;rw [if_neg hk,h4];exact h2⟩
   have HNS:=Aside0.mk h3
   clear h1 h2 h3
   obtain ⟨y0,y1,y2,y3,y4,y5⟩:=HYW.out.below rfl HR.out.bel
   rw [h4] at y5
   have n0:=(blk_cell HR.out.arr 0).trans (show _ = some (Value.string (⟨#[117,110,116,121,112,101,100]⟩ : ByteArray)) from rfl)
   have a1 : (9223372036854775807 < S.size + 7) = False:=eq_false (by have:=HI.out;have:=HOK.out.1;omega)
   have a2 : (9223372036854775807 < S.size + 7 + nm.size) = False:=eq_false (by have:=HI.out;have:=HOK.out.1;have:=HNZ.out;omega)
   have a3 : (9223372036854775807 < S.size + 7 + nm.size + 1) = False:=eq_false (by have:=HI.out;have:=HOK.out.1;have:=HNZ.out;omega)
   have a4 : (9223372036854775807 < S.size + 7 + nm.size + 1 + 7) = False:=eq_false (by have:=HI.out;have:=HOK.out.1;have:=HNZ.out;omega)
   have a5 : (9223372036854775807 < S.size + 7 + nm.size + 1 + 7 + 1) = False:=eq_false (by have:=HI.out;have:=HOK.out.1;have:=HNZ.out;omega)
   go_wp2_with (fail)
   obtain ⟨S1,hS1⟩ : ∃ S1 : ByteArray,S1 = S ++ (⟨#[35,32,84,89,80,69,32]⟩ : ByteArray) ++ nm ++ (⟨#[32]⟩ : ByteArray) ++ (⟨#[117,110,116,121,112,101,100]⟩ : ByteArray) ++ (⟨#[10]⟩ : ByteArray):=⟨_,rfl⟩
   rw [← hS1]
   have HS1 : Aside0 (S1.data.toList = putT KK S.data.toList x):=⟨by
    unfold putT typL
    rw [if_neg hk,h4,hS1,← HND.out]
    simp [ByteArray.append_eq,ByteArray.data_append,kindT]⟩
   have HZ1 : Aside0 (S1.size ≤ 400 * i + 40):=⟨by
    rw [hS1]
    simp only [ByteArray.size_append]
    have:=HI.out
    have:=HNZ.out
    show S.size + 7 + nm.size + 1 + 7 + 1 ≤ _
    omega⟩
   clear hS1 a1 a2 a3 a4 a5 n0 y0 y1 y2 y3 y4 y5 hkn
   rotate_left
   have hkn : (kget KK (getL (x.f0.map pr) NL) != x.f4) = true:=bne_iff_ne.2 hk
   rw [hkn]
   have hst:=kinds_setH KK nm 1 HR.out HA.out (by have:=HI.out;have:=HOK.out.1;omega)
   rw [HND.out] at hst
   obtain ⟨y0,y1,y2,y3,y4,y5⟩:=HYW.out.below rfl HR.out.bel
   rw [h4] at y5
   go_wp2_with (fail)
   refine hst.mono ?_
   rintro e5 w5 ⟨rfl,vn',vk',ns',ks',h1,h2,h3⟩
   clear hst y0 y1 y2 y3 y4 y5 HR HA HKG
   have HR:=Aside0.mk h1
   have HA : Aside0 (RkA ns' ks' (putK KK x)):=⟨by unfold putK;rw [if_neg hk,h4];exact h2⟩
   have HNS:=Aside0.mk h3
   clear h1 h2 h3
   obtain ⟨y0,y1,y2,y3,y4,y5⟩:=HYW.out.below rfl HR.out.bel
   rw [h4] at y5
   have n0:=(blk_cell HR.out.arr 1).trans (show _ = some (Value.string (⟨#[99,111,117,110,116,101,114]⟩ : ByteArray)) from rfl)
   have a1 : (9223372036854775807 < S.size + 7) = False:=eq_false (by have:=HI.out;have:=HOK.out.1;omega)
   have a2 : (9223372036854775807 < S.size + 7 + nm.size) = False:=eq_false (by have:=HI.out;have:=HOK.out.1;have:=HNZ.out;omega)
   have a3 : (9223372036854775807 < S.size + 7 + nm.size + 1) = False:=eq_false (by have:=HI.out;have:=HOK.out.1;have:=HNZ.out;omega)
   have a4 : (9223372036854775807 < S.size + 7 + nm.size + 1 + 7) = False:=eq_false (by have:=HI.out;have:=HOK.out.1;have:=HNZ.out;omega)
   have a5 : (9223372036854775807 < S.size + 7 + nm.size + 1 + 7 + 1) = False:=eq_false (by have:=HI.out;have:=HOK.out.1;have:=HNZ.out;omega)
   go_wp2_with (fail)
   obtain ⟨S1,hS1⟩ : ∃ S1 : ByteArray,S1 = S ++ (⟨#[35,32,84,89,80,69,32]⟩ : ByteArray) ++ nm ++ (⟨#[32]⟩ : ByteArray) ++ (⟨#[99,111,117,110,116,101,114]⟩ : ByteArray) ++ (⟨#[10]⟩ : ByteArray):=⟨_,rfl⟩
   rw [← hS1]
   have HS1 : Aside0 (S1.data.toList = putT KK S.data.toList x):=⟨by
    unfold putT typL
    rw [if_neg hk,h4,hS1,← HND.out]
    simp [ByteArray.append_eq,ByteArray.data_append,kindT]⟩
   have HZ1 : Aside0 (S1.size ≤ 400 * i + 40):=⟨by
    rw [hS1]
    simp only [ByteArray.size_append]
    have:=HI.out
    have:=HNZ.out
    show S.size + 7 + nm.size + 1 + 7 + 1 ≤ _
    omega⟩
   clear hS1 a1 a2 a3 a4 a5 n0 y0 y1 y2 y3 y4 y5 hkn
   rotate_left
   have hkn : (kget KK (getL (x.f0.map pr) NL) != x.f4) = true:=bne_iff_ne.2 hk
   rw [hkn]
   have hst:=kinds_setH KK nm 2 HR.out HA.out (by have:=HI.out;have:=HOK.out.1;omega)
   rw [HND.out] at hst
   obtain ⟨y0,y1,y2,y3,y4,y5⟩:=HYW.out.below rfl HR.out.bel
   rw [h4] at y5
   go_wp2_with (fail)
   refine hst.mono ?_
   rintro e5 w5 ⟨rfl,vn',vk',ns',ks',h1,h2,h3⟩
   clear hst y0 y1 y2 y3 y4 y5 HR HA HKG
   have HR:=Aside0.mk h1
   have HA : Aside0 (RkA ns' ks' (putK KK x)):=⟨by unfold putK;rw [if_neg hk,h4];exact h2⟩
   have HNS:=Aside0.mk h3
   clear h1 h2 h3
   obtain ⟨y0,y1,y2,y3,y4,y5⟩:=HYW.out.below rfl HR.out.bel
   rw [h4] at y5
   have n0:=(blk_cell HR.out.arr 2).trans (show _ = some (Value.string (⟨#[103,97,117,103,101]⟩ : ByteArray)) from rfl)
   have a1 : (9223372036854775807 < S.size + 7) = False:=eq_false (by have:=HI.out;have:=HOK.out.1;omega)
   have a2 : (9223372036854775807 < S.size + 7 + nm.size) = False:=eq_false (by have:=HI.out;have:=HOK.out.1;have:=HNZ.out;omega)
   have a3 : (9223372036854775807 < S.size + 7 + nm.size + 1) = False:=eq_false (by have:=HI.out;have:=HOK.out.1;have:=HNZ.out;omega)
   have a4 : (9223372036854775807 < S.size + 7 + nm.size + 1 + 5) = False:=eq_false (by have:=HI.out;have:=HOK.out.1;have:=HNZ.out;omega)
   have a5 : (9223372036854775807 < S.size + 7 + nm.size + 1 + 5 + 1) = False:=eq_false (by have:=HI.out;have:=HOK.out.1;have:=HNZ.out;omega)
   go_wp2_with (fail)
   obtain ⟨S1,hS1⟩ : ∃ S1 : ByteArray,S1 = S ++ (⟨#[35,32,84,89,80,69,32]⟩ : ByteArray) ++ nm ++ (⟨#[32]⟩ : ByteArray) ++ (⟨#[103,97,117,103,101]⟩ : ByteArray) ++ (⟨#[10]⟩ : ByteArray):=⟨_,rfl⟩
   rw [← hS1]
   have HS1 : Aside0 (S1.data.toList = putT KK S.data.toList x):=⟨by
    unfold putT typL
    rw [if_neg hk,h4,hS1,← HND.out]
    simp [ByteArray.append_eq,ByteArray.data_append,kindT]⟩
   have HZ1 : Aside0 (S1.size ≤ 400 * i + 40):=⟨by
    rw [hS1]
    simp only [ByteArray.size_append]
    have:=HI.out
    have:=HNZ.out
    show S.size + 7 + nm.size + 1 + 5 + 1 ≤ _
    omega⟩
   clear hS1 a1 a2 a3 a4 a5 n0 y0 y1 y2 y3 y4 y5 hkn
   rotate_left
   all_goals
    clear hk
    have hP1:=rprint_eq3 x.f0 HX.out.1 900 (by omega)
    have hP2:=rprint_eq x.f1.f0 x.f1.f1 HX.out.2
    obtain ⟨P1,hp1⟩ : ∃ P1 : ByteArray,P1 = ofL (printL (x.f0.map pr)):=⟨_,rfl⟩
    obtain ⟨P2,hp2⟩ : ∃ P2 : ByteArray,P2 = ⟨(printS x.f1.f0 x.f1.f1).toArray⟩:=⟨_,rfl⟩
    rw [← hp1] at hP1
    rw [← hp2] at hP2
    have HP1:=Aside0.mk hP1
    have HP2:=Aside0.mk hP2
    have HD1 : Aside0 (P1.data.toList = printL (x.f0.map pr)):=⟨by rw [hp1]⟩
    have HD2 : Aside0 (P2.data.toList = printS x.f1.f0 x.f1.f1):=⟨by rw [hp2]⟩
    have HZP1 : Aside0 (P1.size ≤ 100000):=⟨by
     have h2 : P1.data.toList.length = P1.size:=Array.length_toList
     rw [HD1.out] at h2
     have:=printL_le _ HXI.out.ps
     omega⟩
    have HZP2 : Aside0 (P2.size ≤ 40):=⟨by
     have h2 : P2.data.toList.length = P2.size:=Array.length_toList
     rw [HD2.out] at h2
     have:=printS_len x.f1.f0 x.f1.f1 HX.out.2
     omega⟩
    have b1 : (9223372036854775807 < P1.size + 1) = False:=eq_false (by have:=HZP1.out;omega)
    have b2 : (9223372036854775807 < P1.size + 1 + P2.size) = False:=eq_false (by have:=HZP1.out;have:=HZP2.out;omega)
    clear hP1 hP2 hp1 hp2
    have HR_:=Aside0.mk (HR.out.below (below_drew (Below.refl _ _)))
    clear HR
    have HR:=HR_
    clear HR_
    refine start_ (n:=15) (S:=fun w'=>w'.cell? (ad.add (i * 6)) = some (.slice B0 x.f0.length e0) ∧ w'.cell? ⟨(ad.add (i * 6)).block,(ad.add (i * 6)).off + 1,none⟩ = some (.bool x.f1.f0) ∧ w'.cell? ⟨(ad.add (i * 6)).block,(ad.add (i * 6)).off + 2,none⟩ = some (.int .i64 x.f1.f1)) (ds:=[]) #[false,false,false,false,false,false,false,false,false,false,false,false,false,false,false] (by kernel_rfl) rfl rfl (⟨(HYW.out.below rfl HR.out.bel).c0,(HYW.out.below rfl HR.out.bel).c1,(HYW.out.below rfl HR.out.bel).c2⟩) (fun hHeld=>?_)
    generalize World.drew _ = w6 at HR hHeld ⊢
    refine pure_ (i:=0) (N:=some 61) (v:=?_) (a':=?_) #[true,false,false,false,false,false,false,false,false,false,false,false,false,false,false] rfl rfl (by kernel_rfl) (fun _ _ _ h=>h) (Or.inl ⟨by first|rfl|exact wanted_on rfl rfl rfl (by rfl),?_⟩) ?_ ?_
    rotate_left
    ·intro w'
     go_simp
     with_reducible rfl
    rotate_left
    ·simp only [Act.put,List.setIfInBounds_toArray,List.set_cons_zero,List.set_cons_succ,i64_w,i32_w]
     rfl
    refine pure_ (i:=1) (N:=some 62) (v:=?_) (a':=?_) #[true,true,false,false,false,false,false,false,false,false,false,false,false,false,false] rfl rfl (by kernel_rfl) (fun _ _ _ h=>h) (Or.inl ⟨by first|rfl|exact wanted_on rfl rfl rfl (by rfl),?_⟩) ?_ ?_
    rotate_left
    ·intro w'
     go_simp
     with_reducible rfl
    rotate_left
    ·simp only [Act.put,List.setIfInBounds_toArray,List.set_cons_zero,List.set_cons_succ,i64_w,i32_w]
     rfl
    refine pure_ (i:=2) (N:=some 63) (v:=?_) (a':=?_) #[true,true,true,false,false,false,false,false,false,false,false,false,false,false,false] rfl rfl (by kernel_rfl) (fun _ _ _ h=>h) (Or.inl ⟨by first|rfl|exact wanted_on rfl rfl rfl (by rfl),?_⟩) ?_ ?_
    rotate_left
    ·intro w'
     go_simp
     with_reducible rfl
    rotate_left
    ·simp only [Act.put,List.setIfInBounds_toArray,List.set_cons_zero,List.set_cons_succ,i64_w,i32_w]
     rfl
    refine pure_ (i:=3) (N:=some 64) (v:=?_) (a':=?_) #[true,true,true,true,false,false,false,false,false,false,false,false,false,false,false] rfl rfl (by kernel_rfl) (fun _ _ _ h=>h) (Or.inl ⟨by first|rfl|exact wanted_on rfl rfl rfl (by rfl),?_⟩) ?_ ?_
    rotate_left
    ·intro w'
     go_simp
     with_reducible rfl
    rotate_left
    ·simp only [Act.put,List.setIfInBounds_toArray,List.set_cons_zero,List.set_cons_succ,i64_w,i32_w]
     rfl
    refine pure_ (i:=7) (N:=some 68) (v:=?_) (a':=?_) #[true,true,true,true,false,false,false,true,false,false,false,false,false,false,false] rfl rfl (by kernel_rfl) (fun _ _ _ h=>h) (Or.inl ⟨by first|rfl|exact wanted_on rfl rfl rfl (by rfl),?_⟩) ?_ ?_
    rotate_left
    ·intro w'
     go_simp
     with_reducible rfl
    rotate_left
    ·simp only [Act.put,List.setIfInBounds_toArray,List.set_cons_zero,List.set_cons_succ,i64_w,i32_w]
     rfl
    refine pure_ (i:=8) (N:=some 69) (v:=?_) (a':=?_) #[true,true,true,true,false,false,false,true,true,false,false,false,false,false,false] rfl rfl (by kernel_rfl) (fun _ _ _ h=>h) (Or.inl ⟨by first|rfl|exact wanted_on rfl rfl rfl (by rfl),?_⟩) ?_ ?_
    rotate_left
    ·intro w'
     go_simp
     with_reducible rfl
    rotate_left
    ·simp only [Act.put,List.setIfInBounds_toArray,List.set_cons_zero,List.set_cons_succ,i64_w,i32_w]
     rfl
    refine pure_ (i:=9) (N:=some 70) (v:=?_) (a':=?_) #[true,true,true,true,false,false,false,true,true,true,false,false,false,false,false] rfl rfl (by kernel_rfl) (fun _ _ _ h=>h) (Or.inl ⟨by first|rfl|exact wanted_on rfl rfl rfl (by rfl),?_⟩) ?_ ?_
    rotate_left
    ·intro w'
     go_simp
     with_reducible rfl
    rotate_left
    ·simp only [Act.put,List.setIfInBounds_toArray,List.set_cons_zero,List.set_cons_succ,i64_w,i32_w]
     rfl
    refine pure_ (i:=10) (N:=some 71) (v:=?_) (a':=?_) #[true,true,true,true,false,false,false,true,true,true,true,false,false,false,false] rfl rfl (by kernel_rfl) (fun _ _ _ h=>h) (Or.inl ⟨by first|rfl|exact wanted_on rfl rfl rfl (by rfl),?_⟩) ?_ ?_
    rotate_left
    ·intro w'
     go_simp
     with_reducible rfl
    rotate_left
    ·simp only [Act.put,List.setIfInBounds_toArray,List.set_cons_zero,List.set_cons_succ,i64_w,i32_w]
     rfl
    refine take_ (i:=4) (N:=some 65) (v:=?_) (a':=?_) #[true,true,true,true,true,false,false,true,true,true,true,false,false,false,false] rfl rfl (by kernel_rfl) (fun _ _ _ h=>h) (Or.inl ⟨by first|rfl|exact wanted_on rfl rfl rfl (by rfl),?_⟩) hHeld ?_ ?_
    rotate_left
    ·rintro w' ⟨s0,s1,s2⟩
     go_simp
     with_reducible rfl
    rotate_left
    ·simp only [Act.put,List.setIfInBounds_toArray,List.set_cons_zero,List.set_cons_succ,i64_w,i32_w]
     rfl
    refine take_ (i:=11) (N:=some 72) (v:=?_) (a':=?_) #[true,true,true,true,true,false,false,true,true,true,true,true,false,false,false] rfl rfl (by kernel_rfl) (fun _ _ _ h=>h) (Or.inl ⟨by first|rfl|exact wanted_on rfl rfl rfl (by rfl),?_⟩) hHeld ?_ ?_
    rotate_left
    ·rintro w' ⟨s0,s1,s2⟩
     go_simp
     with_reducible rfl
    rotate_left
    ·simp only [Act.put,List.setIfInBounds_toArray,List.set_cons_zero,List.set_cons_succ,i64_w,i32_w]
     rfl
    refine one_ (i:=5) (N:=some 66) #[true,true,true,true,true,true,false,true,true,true,true,true,false,false,false] rfl rfl (by kernel_rfl) (by decide) (fun K hK=>?_)
    refine goes_ Tryz.func53 (by kernel_rfl) rfl #[.slice B0 x.f0.length e0] (by rfl) rfl rfl (by (try simp only [List.map_toArray,List.map_cons,List.map_nil]);first|done|rfl) ?_
    refine (spillwayref3_Print.calls 900 B0 e0 x.f0 P1 w6 (Kd.C_below HPW.out HR.out.bel) HCP.out HP1.out).mono ?_
    rintro e w7 ⟨rfl,hb7⟩
    refine ⟨_,rfl,?_⟩
    have HR_:=Aside0.mk (HR.out.below hb7)
    clear HR
    have HR:=HR_
    clear HR_
    clear hb7
    refine hK.out _ _ ⟨(HYW.out.below rfl HR.out.bel).c0,(HYW.out.below rfl HR.out.bel).c1,(HYW.out.below rfl HR.out.bel).c2⟩ (fun hHeld=>?_)
    clear hK
    refine norm_ (a':=?_) ?_ ?_
    rotate_left
    ·show Act.put _ (some 66) _ = _
     simp only [Act.put,List.setIfInBounds_toArray,List.set_cons_zero,List.set_cons_succ,i64_w,i32_w]
     rfl
    refine pure_ (i:=6) (N:=some 67) (v:=?_) (a':=?_) #[true,true,true,true,true,true,true,true,true,true,true,true,false,false,false] rfl rfl (by kernel_rfl) (fun _ _ _ h=>h) (Or.inl ⟨by first|rfl|exact wanted_on rfl rfl rfl (by rfl),?_⟩) ?_ ?_
    rotate_left
    ·intro w'
     go_simp
     with_reducible rfl
    rotate_left
    ·simp only [Act.put,List.setIfInBounds_toArray,List.set_cons_zero,List.set_cons_succ,i64_w,i32_w]
     rfl
    refine one_ (i:=12) (N:=some 73) #[true,true,true,true,true,true,true,true,true,true,true,true,true,false,false] rfl rfl (by kernel_rfl) (by decide) (fun K hK=>?_)
    refine goes_ Tryz.func54 (by kernel_rfl) rfl #[.agg #[.bool x.f1.f0,.int .i64 x.f1.f1]] (by rfl) rfl rfl (by (try simp only [List.map_toArray,List.map_cons,List.map_nil]);first|done|rfl) ?_
    refine (spillwayref2_Print.calls 300 x.f1.f0 x.f1.f1 P2 w7 HP2.out).mono ?_
    rintro e w8 ⟨rfl,hb8⟩
    refine ⟨_,rfl,?_⟩
    have HR_:=Aside0.mk (HR.out.below hb8)
    clear HR
    have HR:=HR_
    clear HR_
    clear hb8
    refine hK.out _ _ ⟨(HYW.out.below rfl HR.out.bel).c0,(HYW.out.below rfl HR.out.bel).c1,(HYW.out.below rfl HR.out.bel).c2⟩ (fun hHeld=>?_)
    clear hK
    refine norm_ (a':=?_) ?_ ?_
    rotate_left
    ·show Act.put _ (some 73) _ = _
     simp only [Act.put,List.setIfInBounds_toArray,List.set_cons_zero,List.set_cons_succ,i64_w,i32_w]
     rfl
    refine pure_ (i:=13) (N:=some 74) (v:=?_) (a':=?_) #[true,true,true,true,true,true,true,true,true,true,true,true,true,true,false] rfl rfl (by kernel_rfl) (fun _ _ _ h=>h) (Or.inl ⟨by first|rfl|exact wanted_on rfl rfl rfl (by rfl),?_⟩) ?_ ?_
    rotate_left
    ·intro w'
     go_simp
     with_reducible rfl
    rotate_left
    ·simp only [Act.put,List.setIfInBounds_toArray,List.set_cons_zero,List.set_cons_succ,i64_w,i32_w]
     rfl
    refine pure_ (i:=14) (N:=some 8) (v:=?_) (a':=?_) #[true,true,true,true,true,true,true,true,true,true,true,true,true,true,true] rfl rfl (by kernel_rfl) (fun _ _ _ h=>h) (Or.inl ⟨by first|rfl|exact wanted_on rfl rfl rfl (by rfl),?_⟩) ?_ ?_
    rotate_left
    ·intro w'
     go_simp
     with_reducible rfl
    rotate_left
    ·simp only [Act.put,List.setIfInBounds_toArray,List.set_cons_zero,List.set_cons_succ,i64_w,i32_w]
     rfl
    refine done_ (by kernel_rfl) ?_
    clear hHeld
    have hor2 : x.f3 = true ∨ x.f3 = false:=by cases x.f3 <;> simp
    obtain ⟨y0,y1,y2,y3,y4,y5⟩:=HYW.out.below rfl HR.out.bel
    rcases hor2 with hf|hf
    ·rw [hf] at y4
     obtain ⟨u,hu⟩ : ∃ u : Nat,x.f2 = (u : Int):=⟨x.f2.toNat,by have:=HXI.out.t0;omega⟩
     have hu2 : u ≤ 1000000:=by have:=HXI.out.t1;omega
     have hw11 : IntKind.u64.wrap (u : Int) = (u : Int):=by rw [IntKind.wrap_u64];omega
     have hD:=rDigits_eq 30 u (by omega) (by omega) (by omega)
     obtain ⟨d,hd⟩ : ∃ d : ByteArray,d = ⟨(Lib.decDigits u).toArray⟩:=⟨_,rfl⟩
     rw [← hd] at hD
     have hdd : d.data.toList = Lib.decDigits u:=by rw [hd]
     have HDS : Aside0 (d.size ≤ 7):=⟨by
      have h2 : d.data.toList.length = d.size:=Array.length_toList
      have h3:=dec_len u 7 (by omega) (by omega)
      rw [hdd] at h2
      omega⟩
     have hdc:=fun W_=>spillwayref2_Digits.calls 30 (u : Int) d W_ hD
     rw [hu] at y3
     have b3 : (9223372036854775807 < P1.size + 1 + P2.size + 1) = False:=eq_false (by have:=HZP1.out;have:=HZP2.out;omega)
     have b4 : (9223372036854775807 < P1.size + 1 + P2.size + 1 + d.size) = False:=eq_false (by have:=HZP1.out;have:=HZP2.out;have:=HDS.out;omega)
     have HDD:=Aside0.mk hdd
     have HU:=Aside0.mk hu
     clear hD hd hdd hu hu2
     go_wp2_with (fail)
     try rw [hw11]
     refine (hdc _).mono ?_
     rintro e9 w9 ⟨rfl,hb9⟩
     have HR_:=Aside0.mk (HR.out.below hb9)
     clear HR hb9 hdc y0 y1 y2 y3 y4 y5
     have HR:=HR_
     clear HR_
     have HT8 : Aside0 ((P1 ++ (⟨#[32]⟩ : ByteArray) ++ P2 ++ (⟨#[32]⟩ : ByteArray) ++ d).data.toList = oneL x):=⟨by
      unfold oneL
      rw [hf,if_pos rfl,← HD1.out,← HD2.out,HU.out,Int.toNat_natCast,← HDD.out]
      simp [ByteArray.append_eq,ByteArray.data_append]⟩
     have HSZ : Aside0 ((oneL x).length = P1.size + 1 + P2.size + 1 + d.size):=⟨by
      have h2 : (P1 ++ (⟨#[32]⟩ : ByteArray) ++ P2 ++ (⟨#[32]⟩ : ByteArray) ++ d).data.toList.length = (P1 ++ (⟨#[32]⟩ : ByteArray) ++ P2 ++ (⟨#[32]⟩ : ByteArray) ++ d).size:=Array.length_toList
      rw [HT8.out] at h2
      rw [h2]
      simp only [ByteArray.size_append]
      rfl⟩
     have hq:=HQ1.out
     rw [if_neg (by rw [hb];simp),HSZ.out] at hq
     by_cases h300 : 300 < P1.size + 1 + P2.size + 1 + d.size
     ·have k1 : decide (300 < P1.size + 1 + P2.size + 1 + d.size) = true:=decide_eq_true h300
      have k2 : decide ((300 : Int) < (P1.size : Int) + 1 + (P2.size : Int) + 1 + (d.size : Int)) = true:=decide_eq_true (by omega)
      rw [if_pos h300] at hq
      clear h300
      have HQ2:=Aside0.mk hq
      clear hq
      go_wp2_with (fail)
      go_ret
      rw [← HQ2.out]
      exact ⟨rfl,HR.out.bel⟩
     have k1 : decide (300 < P1.size + 1 + P2.size + 1 + d.size) = false:=decide_eq_false h300
     have k2 : decide ((300 : Int) < (P1.size : Int) + 1 + (P2.size : Int) + 1 + (d.size : Int)) = false:=decide_eq_false (by omega)
     rw [if_neg h300] at hq
     have HZ8:=Aside0.mk (show P1.size + 1 + P2.size + 1 + d.size ≤ 300 by omega)
     have HQ2:=Aside0.mk hq
     clear h300 hq
     have b5 : (9223372036854775807 < S1.size + (P1.size + 1 + P2.size + 1 + d.size)) = False:=eq_false (by have:=HI.out;have:=HOK.out.1;have:=HZ1.out;have:=HZ8.out;omega)
     have b6 : (9223372036854775807 < S1.size + (P1.size + 1 + P2.size + 1 + d.size) + 1) = False:=eq_false (by have:=HI.out;have:=HOK.out.1;have:=HZ1.out;have:=HZ8.out;omega)
     go_wp2_with (fail)
     go_roundg (l.length - (i + 1))
     case measure=>omega
     refine ⟨i + 1,_,_,_,_,putK KK x,S1 ++ (P1 ++ (⟨#[32]⟩ : ByteArray) ++ P2 ++ (⟨#[32]⟩ : ByteArray) ++ d) ++ (⟨#[10]⟩ : ByteArray),rfl,by first|rw [hw]|(push_cast;rfl),by omega,⟨by
      have:=HI.out
      have:=HZ1.out
      have:=HZ8.out
      have:=HNS.out
      simp only [ByteArray.size_append]
      refine ⟨by have:=HLT.out;omega,by omega,?_⟩
      show S1.size + (P1.size + 1 + P2.size + 1 + d.size) + 1 ≤ _
      omega⟩,⟨?_⟩,HR,HA⟩
     have h:=HQ2.out
     rw [← HS1.out,← HT8.out] at h
     rw [← h]
     congr 1 <;> simp [ByteArray.append_eq,ByteArray.data_append]
    rw [hf] at y4
    have HT8 : Aside0 ((P1 ++ (⟨#[32]⟩ : ByteArray) ++ P2).data.toList = oneL x):=⟨by
     unfold oneL
     rw [hf,if_neg (by simp),← HD1.out,← HD2.out]
     simp [ByteArray.append_eq,ByteArray.data_append]⟩
    have HSZ : Aside0 ((oneL x).length = P1.size + 1 + P2.size):=⟨by
     have h2 : (P1 ++ (⟨#[32]⟩ : ByteArray) ++ P2).data.toList.length = (P1 ++ (⟨#[32]⟩ : ByteArray) ++ P2).size:=Array.length_toList
     rw [HT8.out] at h2
     rw [h2]
     simp only [ByteArray.size_append]
     rfl⟩
    have hq:=HQ1.out
    rw [if_neg (by rw [hb];simp),HSZ.out] at hq
    by_cases h300 : 300 < P1.size + 1 + P2.size
    ·have k1 : decide (300 < P1.size + 1 + P2.size) = true:=decide_eq_true h300
     have k2 : decide ((300 : Int) < (P1.size : Int) + 1 + (P2.size : Int)) = true:=decide_eq_true (by omega)
     rw [if_pos h300] at hq
     clear h300
     have HQ2:=Aside0.mk hq
     clear hq
     go_wp2_with (fail)
     go_ret
     rw [← HQ2.out]
     exact ⟨rfl,HR.out.bel⟩
    have k1 : decide (300 < P1.size + 1 + P2.size) = false:=decide_eq_false h300
    have k2 : decide ((300 : Int) < (P1.size : Int) + 1 + (P2.size : Int)) = false:=decide_eq_false (by omega)
    rw [if_neg h300] at hq
    have HZ8:=Aside0.mk (show P1.size + 1 + P2.size ≤ 300 by omega)
    have HQ2:=Aside0.mk hq
    clear h300 hq
    have b5 : (9223372036854775807 < S1.size + (P1.size + 1 + P2.size)) = False:=eq_false (by have:=HI.out;have:=HOK.out.1;have:=HZ1.out;have:=HZ8.out;omega)
    have b6 : (9223372036854775807 < S1.size + (P1.size + 1 + P2.size) + 1) = False:=eq_false (by have:=HI.out;have:=HOK.out.1;have:=HZ1.out;have:=HZ8.out;omega)
    go_wp2_with (fail)
    go_roundg (l.length - (i + 1))
    case measure=>omega
    refine ⟨i + 1,_,_,_,_,putK KK x,S1 ++ (P1 ++ (⟨#[32]⟩ : ByteArray) ++ P2) ++ (⟨#[10]⟩ : ByteArray),rfl,by first|rw [hw]|(push_cast;rfl),by omega,⟨by
     have:=HI.out
     have:=HZ1.out
     have:=HZ8.out
     have:=HNS.out
     simp only [ByteArray.size_append]
     refine ⟨by have:=HLT.out;omega,by omega,?_⟩
     show S1.size + (P1.size + 1 + P2.size) + 1 ≤ _
     omega⟩,⟨?_⟩,HR,HA⟩
    have h:=HQ2.out
    rw [← HS1.out,← HT8.out] at h
    rw [← h]
    congr 1 <;> simp [ByteArray.append_eq,ByteArray.data_append]
 obtain rfl : i = l.length:=by have:=HI.out;omega
 have hltz : ¬ ((l.length : Int) < (l.length : Int)):=by omega
 have hq:=HQ.out
 rw [List.drop_length,runP] at hq
 have HQ2:=Aside0.mk hq
 clear hq HQ
 go_wp2_with (fail)
 go_ret
 rw [← HQ2.out]
 exact ⟨rfl,by have h:=HR.out.bel;first|exact h|rwa [hkb] at h⟩
end Go.Proofs.YtfgffjchphignaaGreatDoor.Print
end
section
namespace Go.Proofs.YtfgffjchphignaaGreatDoor.Print
open Go.Sort Go.Shelf PureN Go.Maps Go.WideMaps
open Go.RowKit Go.Proofs.YtfgffjchphignaaGreatDoorX Go.Proofs.YtfgffjchphignaaGreatDoorW.PrintWords Go.Proofs.YtfgffjchphignaaGreatDoorW.PrintLast Go.Proofs.YtfgffjchphignaaGreatDoorW.PrintMore
/-! expo.Print. -/
theorem one_len (x : S34) (h : isScr x = true) (hn : PureN.R x.f1.f1) : (oneL x).length ≤ 3000:=by
 have hix:=isScr_is x h
 have h1:=printL_le _ hix.ps
 have h2:=printS_len x.f1.f0 x.f1.f1 hn
 have h3:=dec_len x.f2.toNat 21 (by omega) (by have:=hix.t1;omega)
 unfold oneL
 split
 ·simp only [List.length_append,List.length_cons];omega
 simp only [List.length_append,List.length_cons,List.length_nil];omega
set_option maxHeartbeats 4000000 in
set_option maxRecDepth 100000 in
theorem expoPrint_calls (A0 : Option Addr) (c0 : Nat) (l : List S34) (w : World) (hg_ : LaidW w) (hr : Kd.C k34 w A0 l.length l) (hc0 : l.length ≤ c0) (hok : okL l) :
  Calls Tryz.prog 23 #[.slice A0 l.length c0] w fun e w'=>e = .returned (.string (ofL (runE [] [] false l))) ∧ Below w.heap.size w w':=by
 have HL:=Aside0.mk hr
 have HOK:=Aside0.mk hok
 have HG:=Aside0.mk hg_
 have hmk:=MapK.made w
 have hmk2:=hmk.below (below_alloc (Below.refl _ _) (.cells #[.map (some w.heap.size),.pointer none,.slice none 0 0,.bool false] 104))
 have hpb:=heap_alloc_new (w.alloc (.map #[] 0)) (.cells #[.map (some w.heap.size),.pointer none,.slice none 0 0,.bool false] 104)
 rw [show (w.alloc (.map #[] 0)).heap.size = w.heap.size + 1 from by unfold World.alloc;simp] at hpb
 have hb2:=below_alloc (below_alloc (Below.refl w.heap.size w) (.map #[] 0)) (.cells #[.map (some w.heap.size),.pointer none,.slice none 0 0,.bool false] 104)
 have HH0 : Aside0 (PrW w ((w.alloc (.map #[] 0)).alloc (.cells #[.map (some w.heap.size),.pointer none,.slice none 0 0,.bool false] 104)) (w.heap.size + 1) w.heap.size 0 (.pointer none) (.slice none 0 0) false [] []):=⟨⟨⟨by omega,hpb,⟨rfl,.inl ⟨rfl,rfl⟩⟩,by simp [Value.ownBlock]⟩,.inl rfl,hmk2,Nat.le_refl _,hb2⟩⟩
 clear hr hc0 hok hmk hmk2 hpb hb2 hg_
 have hmk : (Instr.makeMap 66 none).run Tryz.prog w = .ok (.map (some w.heap.size)) (w.alloc (.map #[] 0)):=by kernel_rfl
 go_enter Tryz.func23,Tryz.ntmps23
 go_wp2_with (fail)
 clear hmk
 generalize (w.alloc (.map #[] 0)).alloc (.cells #[.map (some w.heap.size),.pointer none,.slice none 0 0,.bool false] 104) = ws at HH0 ⊢
 have HPB : Aside0 (w.heap.size ≤ w.heap.size + 1):=⟨by omega⟩
 generalize w.heap.size + 1 = pb at HH0 HPB ⊢
 generalize hmb : w.heap.size = mb at HH0 HPB ⊢
 go_loopg [5,12] l.length (fun gg s5 s12 wr=>∃ (i n : Nat) (pa pv : Value) (lg : Bool) (S : List UInt8) (KK : Kinds),s12 = .int .i64 i ∧ l.length - i ≤ gg ∧ Aside0 (i ≤ l.length ∧ n ≤ i ∧ S.length ≤ 4000 * i) ∧ Aside0 ((i = 0 → pv = .slice none 0 0 ∧ S = []) ∧ (0 < i → S ≠ [])) ∧ Aside0 (runE KK S lg (l.drop i) = runE [] [] false l) ∧ Aside0 (PrW w wr pb mb n pa pv lg S KK))
 case atStart=>exact ⟨0,0,_,_,_,[],[],rfl,by omega,⟨by simp⟩,⟨fun _=>⟨rfl,rfl⟩,fun h=>by omega⟩,⟨rfl⟩,HH0⟩
 clear HH0
 obtain ⟨i,n,pa,pv,lg,S,KK,rfl,hgg,HI,HZ,HQ,HR⟩:=hrel
 by_cases hlt : i < l.length
 ·have hltz : (i : Int) < (l.length : Int):=by omega
  obtain ⟨ad,B0,e0,rfl,y0,y1,y2,y3,y4,y5,hcp,yr⟩:=at_T34 HL.out (i : Int) (by omega) (by omega)
  have hmem : l[i] ∈ l:=List.getElem_mem hlt
  have hrd : rd_T34 l (i : Int) = l[i]:=by
   unfold rd_T34
   rw [Int.toNat_natCast,List.getD_eq_getElem?_getD,List.getElem?_eq_getElem hlt]
   rfl
  rw [hrd] at y0 y1 y2 y3 y4 y5 hcp yr
  have hok1:=HOK.out.2 _ hmem
  have hq:=HQ.out
  rw [List.drop_eq_getElem_cons hlt,runE] at hq
  generalize l[i] = x at y0 y1 y2 y3 y4 y5 hcp yr hok1 hq
  rw [Int.toNat_natCast] at y0 y1 y2 y3 y4 y5
  have HQ1:=Aside0.mk hq
  have HX:=Aside0.mk hok1
  have HCP:=Aside0.mk hcp
  have HLT:=Aside0.mk hlt
  have HYW : Aside0 (YAt w (ad.add (i * 6)) B0 e0 x):=⟨⟨y0,y1,y2,y3,y4,y5⟩⟩
  have HPW:=Aside0.mk yr
  have hic:=fun W_ h=>expoIs_calls B0 e0 x.f0 x.f1.f0 x.f1.f1 x.f2 x.f3 x.f4 W_ (Kd.C_below HPW.out h) hcp hok1.1
  rw [show (⟨x.f0,⟨x.f1.f0,x.f1.f1⟩,x.f2,x.f3,x.f4⟩ : S34) = x from rfl] at hic
  have hw:=wrap_succ_ i (by have:=HOK.out.1;omega)
  clear hmem hrd hok1 hq HQ hcp yr y0 y1 y2 y3 y4 y5
  obtain ⟨y0,y1,y2,y3,y4,y5⟩:=HYW.out.below (by omega) HR.out.bel
  have hba:=below_alloc (Below.refl wr.heap.size wr) (.cells #[.slice B0 x.f0.length e0,.bool x.f1.f0,.int .i64 x.f1.f1,.int .i64 x.f2,.bool x.f3,.int .i64 x.f4] 34)
  have HR1:=Aside0.mk (HR.out.below hba)
  have HX1:=Aside0.mk (heap_alloc_new wr (.cells #[.slice B0 x.f0.length e0,.bool x.f1.f0,.int .i64 x.f1.f1,.int .i64 x.f2,.bool x.f3,.int .i64 x.f4] 34))
  have hic2:=hic _ HR1.out.bel
  clear hic hba
  cases hb : isScr x with
  | false =>
   rw [hb] at hic2
   have HB:=Aside0.mk hb
   clear hb
   go_wp2_with (fail)
   refine hic2.mono ?_
   rintro e1 w1 ⟨rfl,hb1⟩
   have HB1:=Aside0.mk (below_step HR1.out.bel hb1)
   clear hic2 hb1 y0 y1 y2 y3 y4 y5
   go_wp2_with (fail)
   go_ret
   have h:=HQ1.out
   rw [if_pos HB.out] at h
   rw [← h,hmb.symm]
   exact ⟨rfl,HB1.out⟩
  | true =>
   rw [hb] at hic2
   have HB:=Aside0.mk hb
   clear hb
   go_wp2_with (fail)
   refine hic2.mono ?_
   rintro e1 w1 ⟨rfl,hb1⟩
   have HR2:=Aside0.mk (HR1.out.below hb1)
   have HX2:=Aside0.mk ((hb1.block _ (blk_lt HX1.out)).trans HX1.out)
   clear hic2 hb1 y0 y1 y2 y3 y4 y5 HR1 HX1 HR
   have hs:=sample_calls w w1 pb mb n pa pv lg S KK B0 e0 x HR2.out HG.out HPW.out HCP.out HX.out.1 HX.out.2 HB.out (by have:=HI.out;have:=HOK.out.1;omega) (by have:=HI.out;have:=HOK.out.1;omega)
   obtain ⟨⟨y0,y1,y2,y3,y4,y5⟩,_⟩:=cel6 HX2.out
   go_wp2_with (fail)
   refine hs.mono ?_
   rintro e3 w3 ⟨rfl,pa',pv',h3⟩
   have HR3:=Aside0.mk h3
   clear h3 hs y0 y1 y2 y3 y4 y5 HR2 HX2
   go_wp2
   go_roundg (l.length - (i + 1))
   case measure=>omega
   have hix:=isScr_is x HB.out
   have e1:=typL_len _ x.f4 hix.nm
   have e2 : (putT KK S x).length ≤ S.length + 40:=by
    unfold putT
    split
    ·omega
    rw [List.length_append];omega
   have e3:=one_len x HB.out HX.out.2
   refine ⟨i + 1,n + 1,pa',pv',_,_,_,by rw [hw],by omega,⟨⟨by omega,by have:=HI.out;omega,?_⟩⟩,⟨fun h=>by omega,fun _=>by simp⟩,⟨?_⟩,HR3⟩
   ·have:=HI.out
    simp only [List.length_append,List.length_cons,List.length_nil]
    omega
   have h:=HQ1.out
   rw [if_neg (by rw [HB.out];simp)] at h
   exact h
 obtain rfl : i = l.length:=by have:=HI.out;omega
 have hltz : ¬ ((l.length : Int) < (l.length : Int)):=by omega
 have hq:=HQ.out
 rw [List.drop_length,runE] at hq
 have HQ1:=Aside0.mk hq
 have c3 : wr.cell? ⟨pb,3,none⟩ = some (.bool lg):=(blk_cell HR.out.prb.blk 3).trans rfl
 clear hq HQ hlt hgg
 cases lg with
 | true =>
  go_wp2_with (fail)
  go_ret
  rw [← HQ1.out,if_pos trivial,hmb.symm]
  exact ⟨rfl,HR.out.bel⟩
 | false =>
  have hstr : Calls Tryz.prog 52 #[.pointer (some ⟨pb,1,none⟩)] wr fun e w'=>e = .returned (.string (ofL S)) ∧ Below w.heap.size wr w':=by
   by_cases hz : l.length = 0
   ·obtain ⟨rfl,rfl⟩:=HZ.out.1 hz
    exact stringP_nil _ pb mb pa false wr HR.out.prb
   exact stringP _ pb mb pa pv false S wr HR.out.prb (HZ.out.2 (by omega))
  go_wp2_with (fail)
  refine hstr.mono ?_
  rintro e4 w4 ⟨rfl,hb4⟩
  have HB4:=Aside0.mk (show Below w.heap.size w w4 from ⟨hb4.os.trans HR.out.bel.os,hb4.tape.trans HR.out.bel.tape,hb4.output.trans HR.out.bel.output,Nat.le_trans HR.out.bel.size hb4.size,fun k hk=>(hb4.block k hk).trans (HR.out.bel.block k hk)⟩)
  clear hb4 hstr c3
  go_wp2_with (fail)
  go_ret
  rw [← HQ1.out,hmb.symm]
  exact ⟨rfl,HB4.out⟩
end Go.Proofs.YtfgffjchphignaaGreatDoor.Print
end
section
namespace Go.Proofs.YtfgffjchphignaaGreatDoor.PureN
open Go.RowKit Go.Proofs.YtfgffjchphignaaGreatDoor.Print
open Go.Proofs.YtfgffjchphignaaGreatDoorX Go.Proofs.YtfgffjchphignaaGreatDoorW.PrintWords Go.Proofs.YtfgffjchphignaaGreatDoorW.PrintLast Go.Proofs.YtfgffjchphignaaGreatDoorW.PrintMore
/-! What is printed is read as the same samples. -/
theorem sep_app (x : UInt8) : ∀ (a cur r : List UInt8),x ∉ a → sepS x cur (a ++ x :: r) = (cur ++ a) :: sepS x [] r
 | [],cur,r,_=>by rw [List.nil_append,sepS,if_pos rfl,List.append_nil]
 | c :: a,cur,r,h=>by
  rw [List.cons_append,sepS,if_neg (fun e=>h (by rw [e];exact List.mem_cons_self)),sep_app x a _ r (fun h2=>h (List.mem_cons_of_mem _ h2)),List.append_assoc]
  rfl
theorem sep_all (x : UInt8) : ∀ (a cur : List UInt8),x ∉ a → sepS x cur a = [cur ++ a]
 | [],cur,_=>by rw [sepS,List.append_nil]
 | c :: a,cur,h=>by
  rw [sepS,if_neg (fun e=>h (by rw [e];exact List.mem_cons_self)),sep_all x a _ (fun h2=>h (List.mem_cons_of_mem _ h2)),List.append_assoc]
  rfl
theorem idc_not {n : List UInt8} (h : nameB n = true) (x : UInt8) (hx : idc x = false) : x ∉ n:=by
 have:=(name_idc h).1
 rw [List.all_eq_true] at this
 intro hm
 rw [this x hm] at hx
 cases hx
theorem quoteB_no : ∀ v : List UInt8,(10 : UInt8) ∉ v → (10 : UInt8) ∉ quoteB v
 | [],_=>by simp [quoteB]
 | c :: r,h=>by
  rw [quoteB,List.mem_append]
  rintro (h2|h2)
  ·split at h2
   ·simp only [List.mem_cons,List.not_mem_nil,or_false] at h2
    rcases h2 with h2|h2
    ·revert h2;decide
    exact h (by rw [h2];exact List.mem_cons_self)
   simp only [List.mem_cons,List.not_mem_nil,or_false] at h2
   exact h (by rw [h2];exact List.mem_cons_self)
  exact quoteB_no r (fun h3=>h (List.mem_cons_of_mem _ h3)) h2
theorem val_no {v : List UInt8} (h : valB v = true) : (10 : UInt8) ∉ v:=by
 unfold valB at h
 simp at h
 exact h.2
theorem oneP_no (p : Pr) (h : nameB p.1 = true ∧ valB p.2 = true) : (10 : UInt8) ∉ oneP p:=by
 have h1:=idc_not h.1 10 (by decide)
 have h2:=quoteB_no _ (val_no h.2)
 unfold oneP quote
 simp only [List.mem_append,List.mem_cons,List.not_mem_nil,or_false,not_or]
 exact ⟨h1,by decide,by decide,h2,by decide⟩
theorem joinP_no : ∀ ps : List Pr,(∀ p ∈ ps,nameB p.1 = true ∧ valB p.2 = true) → (10 : UInt8) ∉ joinP ps
 | [],_=>by simp [joinP]
 | [p],h=>oneP_no p (h p List.mem_cons_self)
 | p :: q :: r,h=>by
  rw [joinP]
  simp only [List.mem_append,List.mem_cons,not_or]
  exact ⟨oneP_no p (h p List.mem_cons_self),by decide,joinP_no (q :: r) (fun x hx=>h x (List.mem_cons_of_mem _ hx))⟩
theorem printL_no (ps : List Pr) (h : isS ps = true) : (10 : UInt8) ∉ printL ps:=by
 have hi:=isS_is ps h
 unfold printL
 rw [if_pos h]
 split
 ·rename_i hn
  have h1:=idc_not hn 10 (by decide)
  split
  ·exact h1
  simp only [List.mem_append,List.mem_cons,List.not_mem_nil,or_false,not_or]
  exact ⟨h1,by decide,joinP_no _ (rest_each hi.each),by decide⟩
 simp only [List.mem_append,List.mem_cons,List.not_mem_nil,or_false,not_or]
 exact ⟨by decide,joinP_no _ hi.each,by decide⟩
theorem body_no (N : Nat) : (10 : UInt8) ∉ bodyS N:=by
 have hd : ∀ u,(10 : UInt8) ∉ Lib.decDigits u:=fun u h=>by
  have:=List.all_eq_true.1 (dec_all u) 10 h
  revert this
  decide
 unfold bodyS
 rw [List.mem_append]
 rintro (hc|hc)
 ·exact hd _ hc
 split at hc
 ·rcases List.mem_cons.1 hc with h|hc
  ·revert h;decide
  exact hd _ (List.mem_of_mem_drop (trim_mem _ _ hc))
 simp at hc
theorem dec_no (u : Nat) : (10 : UInt8) ∉ Lib.decDigits u:=fun h=>by
 have:=List.all_eq_true.1 (dec_all u) 10 h
 revert this
 decide
theorem printS_no (a : Bool) (n : Int) : (10 : UInt8) ∉ printS a n:=by
 intro hc
 unfold printS at hc
 split at hc
 ·revert hc
  decide
 split at hc
 ·rcases List.mem_cons.1 hc with h|hc
  ·revert h;decide
  exact body_no _ hc
 exact body_no _ hc
theorem oneL_no (x : S34) (h : IsX x) : (10 : UInt8) ∉ oneL x:=by
 have h1:=printL_no _ h.ps
 have h2:=printS_no x.f1.f0 x.f1.f1
 have h3:=dec_no x.f2.toNat
 unfold oneL
 split
 ·simp only [List.mem_append,List.mem_cons,List.not_mem_nil,or_false,not_or]
  exact ⟨⟨h1,by decide,h2⟩,by decide,h3⟩
 simp only [List.mem_append,List.mem_cons,List.not_mem_nil,or_false,not_or]
 exact ⟨h1,by decide,h2⟩
theorem oneL_ok (x : S34) (h : IsX x) (hn : R x.f1.f1) (hl : (oneL x).length ≤ 300) : lineS (oneL x) = .ok ⟨x.f0.map pr,x.f1.f0,x.f1.f1,x.f2,x.f3,0⟩:=by
 have hp:=parse_is x.f1.f0 x.f1.f1 hn h.num
 have hpr:=parseR_ok _ h.ps
 have hnm:=h.nm
 unfold lineS
 rw [if_neg (by omega)]
 cases h3 : x.f3 with
 | false =>
  have hw : wordsS false [] (oneL x) = [printL (x.f0.map pr),printS x.f1.f0 x.f1.f1]:=by
   unfold oneL
   rw [h3,if_neg (by simp),List.append_nil,words_print _ h.ps,words_32,words_end _ _ (print_ok _ _)]
   rfl
  rw [hw]
  show lineW _ _ none = _
  unfold lineW
  rw [hpr]
  simp only [hnm,hp]
  rw [h.th h3]
  rfl
 | true =>
  have hw : wordsS false [] (oneL x) = [printL (x.f0.map pr),printS x.f1.f0 x.f1.f1,Lib.decDigits x.f2.toNat]:=by
   unfold oneL
   rw [h3,if_pos rfl,List.append_assoc,words_print _ h.ps,List.cons_append,words_32,words_sp _ _ _ (print_ok _ _),words_end _ _ (dec_ok2 _)]
   rfl
  have ht:=time_dec x.f2.toNat (by have:=h.t1;omega)
  rw [Int.toNat_of_nonneg h.t0] at ht
  rw [hw]
  show lineW _ _ (some _) = _
  unfold lineW
  rw [hpr]
  simp only [hnm,hp,ht]
  rfl
theorem oneL_head (x : S34) (h : IsX x) : ∃ c r,oneL x = c :: r ∧ c ≠ 35:=by
 have hp : ∃ c r,printL (x.f0.map pr) = c :: r ∧ c ≠ 35:=by
  unfold printL
  rw [if_pos h.ps,if_pos h.nm]
  have hi:=name_idc h.nm
  obtain ⟨c,r,e⟩ : ∃ c r,getL (x.f0.map pr) NL = c :: r:=by
   cases e : getL (x.f0.map pr) NL with
   | nil=>exact absurd e hi.2
   | cons c r=>exact ⟨c,r,rfl⟩
  have hc : c ≠ 35:=by
   have:=List.all_eq_true.1 hi.1 c (by rw [e];exact List.mem_cons_self)
   rintro rfl
   revert this
   decide
  split
  ·exact ⟨c,r,e,hc⟩
  exact ⟨c,_,by rw [e];rfl,hc⟩
 obtain ⟨c,r,e,hc⟩:=hp
 exact ⟨c,_,by unfold oneL;rw [e];rfl,hc⟩
theorem typ_ok (n : List UInt8) (k : Int) (hn : nameB n = true) (hk : k = 0 ∨ k = 1 ∨ k = 2) : typeS ([35,32,84,89,80,69,32] ++ n ++ 32 :: kindT k) = some (n,k):=by
 unfold typeS
 have h0 : (32 : UInt8) ∉ n:=idc_not hn 32 (by decide)
 have hkt : (32 : UInt8) ∉ kindT k:=by rcases hk with rfl|rfl|rfl <;> decide
 have hks : kindS (kindT k) = some k:=by rcases hk with rfl|rfl|rfl <;> decide
 have e : splitS [] ([35,32,84,89,80,69,32] ++ n ++ 32 :: kindT k) = [[35],[84,89,80,69],n,kindT k]:=by
  rw [split_sep,show [35,32,84,89,80,69,32] ++ n ++ 32 :: kindT k = [35] ++ 32 :: ([84,89,80,69] ++ 32 :: (n ++ 32 :: kindT k)) from by simp,sep_app 32 [35] _ _ (by decide),sep_app 32 [84,89,80,69] _ _ (by decide),sep_app 32 n _ _ h0,sep_all 32 (kindT k) _ hkt]
  rfl
 rw [e,typeW_four,if_pos ⟨rfl,rfl,hn⟩,hks]
 rfl
def scrOf (x : S34) : Scr:=⟨x.f0.map pr,x.f1.f0,x.f1.f1,x.f2,x.f3,x.f4⟩
theorem runP_app : ∀ (l : List S34) (K : Kinds) (s : List UInt8),(∀ x ∈ l,isScr x = true ∧ (oneL x).length ≤ 300) → runP K s l = s ++ runP K [] l
 | [],K,s,_=>by rw [runP,runP,List.append_nil]
 | x :: l,K,s,h=>by
  have hx:=h x List.mem_cons_self
  have hr:=fun y hy=>h y (List.mem_cons_of_mem _ hy)
  rw [runP,if_neg (by rw [hx.1];simp),if_neg (by omega),runP,if_neg (by rw [hx.1];simp),if_neg (by omega),runP_app l _ _ hr,runP_app l _ (putT K [] x ++ oneL x ++ [10]) hr]
  unfold putT
  split <;> simp
theorem runP_bad : ∀ (l : List S34) (K : Kinds) (s : List UInt8),¬ (∀ x ∈ l,isScr x = true ∧ (oneL x).length ≤ 300) → runP K s l = []
 | [],K,s,h=>absurd (fun x hx=>by simp at hx) h
 | x :: l,K,s,h=>by
  rw [runP]
  split
  ·rfl
  split
  ·rfl
  rename_i h1 h2
  refine runP_bad l _ _ (fun h3=>h (fun y hy=>?_))
  rcases List.mem_cons.1 hy with rfl|hy
  ·exact ⟨by cases e : isScr y with|true=>rfl|false=>exact absurd e h1,by omega⟩
  exact h3 y hy
theorem step_oneL (B : Bod) (j : Int) (x : S34) (h : IsX x) (hn : R x.f1.f1) (hl : (oneL x).length ≤ 300) (hk : kget B.of (getL (x.f0.map pr) NL) = x.f4) : stepB B j (oneL x) = { B with out:=B.out ++ [scrOf x] }:=by
 have ho:=oneL_ok x h hn hl
 obtain ⟨c,r,e,hc⟩:=oneL_head x h
 rw [e] at ho ⊢
 unfold stepB
 simp only [if_neg hc,ho,hk]
 rfl
theorem step_typL (B : Bod) (j : Int) (n : List UInt8) (k : Int) (hn : nameB n = true) (hk : k = 0 ∨ k = 1 ∨ k = 2) : stepB B j ([35,32,84,89,80,69,32] ++ n ++ 32 :: kindT k) = { B with of:=kset B.of n k }:=by
 have ht:=typ_ok n k hn hk
 rw [show [35,32,84,89,80,69,32] ++ n ++ 32 :: kindT k = 35 :: ([32,84,89,80,69,32] ++ n ++ 32 :: kindT k) from rfl] at ht ⊢
 unfold stepB
 simp only [if_true,ht]
theorem kget_set (K : Kinds) (n : List UInt8) (v : Int) : kget (kset K n v) n = v:=by
 unfold kget kset
 rw [List.find?_cons_of_pos (by simp)]
 rfl
theorem typL_no (n : List UInt8) (k : Int) (hn : nameB n = true) (hk : k = 0 ∨ k = 1 ∨ k = 2) : (10 : UInt8) ∉ [35,32,84,89,80,69,32] ++ n ++ 32 :: kindT k:=by
 have h0 : (10 : UInt8) ∉ n:=idc_not hn 10 (by decide)
 have hkt : (10 : UInt8) ∉ kindT k:=by rcases hk with rfl|rfl|rfl <;> decide
 simp only [List.mem_append,List.mem_cons,List.not_mem_nil,or_false,not_or]
 exact ⟨⟨⟨by decide,by decide,by decide,by decide,by decide,by decide,by decide⟩,h0⟩,by decide,hkt⟩
theorem run_back : ∀ (l : List S34) (B : Bod) (j : Int),(∀ x ∈ l,isScr x = true ∧ R x.f1.f1 ∧ (oneL x).length ≤ 300) → ∃ K',runB B j (linesS [] (runP B.of [] l)) = ⟨K',B.out ++ l.map scrOf,B.bad⟩
 | [],B,j,_=>⟨B.of,by rw [runP,linesS,runB,runB,stepB];simp⟩
 | x :: l,B,j,h=>by
  obtain ⟨h1,h2,h3⟩:=h x List.mem_cons_self
  have hr:=fun y hy=>h y (List.mem_cons_of_mem _ hy)
  have hx:=isScr_is x h1
  have hk : x.f4 = 0 ∨ x.f4 = 1 ∨ x.f4 = 2:=by have:=hx.k0;have:=hx.k1;omega
  rw [runP,if_neg (by rw [h1];simp),if_neg (by omega),runP_app l _ _ (fun y hy=>⟨(hr y hy).1,(hr y hy).2.2⟩)]
  have hno:=oneL_no x hx
  by_cases e : kget B.of (getL (x.f0.map pr) NL) = x.f4
  ·have eT : putT B.of [] x = []:=if_pos e
   have eK : putK B.of x = B.of:=if_pos e
   rw [eT,eK,List.nil_append,List.append_assoc,show [10] ++ runP B.of [] l = 10 :: runP B.of [] l from rfl,lines_sep,sep_app 10 _ _ _ hno,← lines_sep,runB,List.nil_append,step_oneL B j x hx h2 h3 e]
   obtain ⟨K',hK⟩:=run_back l { B with out:=B.out ++ [scrOf x] } (j + 1) hr
   refine ⟨K',hK.trans ?_⟩
   simp
  have eT : putT B.of [] x = typL (getL (x.f0.map pr) NL) x.f4:=if_neg e
  have eK : putK B.of x = kset B.of (getL (x.f0.map pr) NL) x.f4:=if_neg e
  have hn2:=typL_no (getL (x.f0.map pr) NL) x.f4 hx.nm hk
  have hst:=step_typL B j (getL (x.f0.map pr) NL) x.f4 hx.nm hk
  rw [eT,eK]
  have hb:=run_back l { B with of:=kset B.of (getL (x.f0.map pr) NL) x.f4,out:=B.out ++ [scrOf x] } (j + 1 + 1) hr
  obtain ⟨K',hK⟩:=hb
  simp only [] at hK
  generalize runP (kset B.of (getL (x.f0.map pr) NL) x.f4) [] l = T at hK ⊢
  have e2 : typL (getL (x.f0.map pr) NL) x.f4 ++ oneL x ++ [10] ++ T = ([35,32,84,89,80,69,32] ++ getL (x.f0.map pr) NL ++ 32 :: kindT x.f4) ++ 10 :: (oneL x ++ 10 :: T):=by
   unfold typL
   simp
  rw [e2,lines_sep,sep_app 10 _ _ _ hn2,sep_app 10 _ _ _ hno,← lines_sep,runB,runB,List.nil_append,List.nil_append,hst,step_oneL _ _ x hx h2 h3 (kget_set _ _ _)]
  refine ⟨K',hK.trans ?_⟩
  simp
theorem of_pr (x : S60) : ofPr (pr x) = x:=rfl
theorem scr_of (x : S34) : scrS (scrOf x) = x:=by
 show (⟨(x.f0.map pr).map ofPr,⟨x.f1.f0,x.f1.f1⟩,x.f2,x.f3,x.f4⟩ : S34) = x
 rw [List.map_map,show (ofPr ∘ pr) = id from funext of_pr,List.map_id]
/-- A print that is not empty and not too long is read as the samples. -/
theorem scrape_back (l : List S34) (hn : ∀ x ∈ l,R x.f1.f1) (h0 : runP [] [] l ≠ []) (h1 : (runP [] [] l).length ≤ 3000) : scrapeS (runP [] [] l) = (l.map scrOf,[]):=by
 have hall : ∀ x ∈ l,isScr x = true ∧ (oneL x).length ≤ 300:=by
  by_cases h : ∀ x ∈ l,isScr x = true ∧ (oneL x).length ≤ 300
  ·exact h
  exact absurd (runP_bad l [] [] h) h0
 unfold scrapeS
 rw [if_neg (by omega)]
 obtain ⟨K',hK⟩:=run_back l ⟨[],[],[]⟩ 1 (fun x hx=>⟨(hall x hx).1,hn x hx,(hall x hx).2⟩)
 simp only [] at hK
 rw [hK]
 simp
theorem parse_back (l : List S34) (hn : ∀ x ∈ l,R x.f1.f1) (h0 : runP [] [] l ≠ []) (h1 : (runP [] [] l).length ≤ 3000) : expo_Parse.f (ofL (runP [] [] l)) = some (l,[]):=by
 unfold expo_Parse.f
 rw [show (ofL (runP [] [] l)).data.toList = runP [] [] l from rfl,scrape_back l hn h0 h1]
 rw [List.map_map,show (scrS ∘ scrOf) = id from funext scr_of,List.map_id]
 rfl
end Go.Proofs.YtfgffjchphignaaGreatDoor.PureN
end
section
namespace Go.Proofs.YtfgffjchphignaaGreatDoor.Print
open Go.Sort Go.Shelf PureN
open Go.RowKit Go.Proofs.YtfgffjchphignaaGreatDoorX Go.Proofs.YtfgffjchphignaaGreatDoorW.PrintWords Go.Proofs.YtfgffjchphignaaGreatDoorW.PrintLast Go.Proofs.YtfgffjchphignaaGreatDoorW.PrintMore
/-! ExpoPrints: the walk. -/
/-- What came in: texts and numbers as large as they can be. -/
def okI (l : List S34) : Prop:=∀ x ∈ l,(∀ z ∈ x.f0,z.f0.size ≤ 9223372036854775807 ∧ z.f1.size ≤ 9223372036854775807) ∧ PureN.R x.f1.f1
set_option maxHeartbeats 16000000 in
set_option maxRecDepth 100000 in
theorem prints_walk (A0 : Option Addr) (c0 : Nat) (l : List S34) (w : World) (hg_ : LaidW w) (hkn : spillwaylaw6_known.f 4000 = some true) (hr : Kd.C k34 w A0 l.length l) (hc0 : l.length ≤ c0) (hok : okI l) :
  Calls Tryz.prog 8 #[.slice A0 l.length c0] w fun e w'=>e = .returned (.bool true) ∧ Below w.heap.size w w':=by
 have HG:=Aside0.mk hg_
 have HL:=Aside0.mk hr
 have HC:=Aside0.mk hc0
 have HOK:=Aside0.mk hok
 have hkc:=spillwaylaw6_known.calls 4000 true w hg_ hkn
 clear hg_ hkn hr hc0 hok
 by_cases hs : (l.length : Int) > 12
 ·have hs1 : decide ((12 : Int) < (l.length : Int)) = true:=decide_eq_true hs
  have hs2 : decide (12 < l.length) = true:=decide_eq_true (by omega)
  clear hs
  go_enter Tryz.func8,Tryz.ntmps8
  go_wp2_with (go_at_call 9;refine hkc.mono ?_;rintro e w1 ⟨rfl,hb1⟩)
  go_ret
  exact ⟨rfl,hb1⟩
 have hs1 : decide ((12 : Int) < (l.length : Int)) = false:=decide_eq_false hs
 have hs2 : decide (12 < l.length) = false:=decide_eq_false (by omega)
 have HS : Aside0 (l.length ≤ 12):=⟨by omega⟩
 clear hs
 go_enter Tryz.func8,Tryz.ntmps8
 go_wp2_with (go_at_call 9;refine hkc.mono ?_;rintro e w1 ⟨rfl,hb1⟩)
 have HB1:=Aside0.mk hb1
 clear hkc hb1 hs1 hs2
 go_loopg [3,4] l.length (fun gg s3 s4 wr=>∃ (i : Nat),s3 = .bool ((l.take i).all isScr) ∧ s4 = .int .i64 i ∧ l.length - i ≤ gg ∧ Aside0 (i ≤ l.length) ∧ Aside0 (∀ x ∈ l.take i,x.f0.length ≤ 12) ∧ Aside0 (Below w.heap.size w wr))
 case atStart=>exact ⟨0,rfl,rfl,by omega,⟨by omega⟩,⟨fun x hx=>by simp at hx⟩,HB1⟩
 clear HB1
 obtain ⟨i,rfl,rfl,hgg,HI,HQ,HB⟩:=hrel
 by_cases hlt : i < l.length
 ·have hltz : (i : Int) < (l.length : Int):=by omega
  obtain ⟨ad,B0,e0,rfl,y0,y1,y2,y3,y4,y5,hcp,yr⟩:=at_T34 HL.out (i : Int) (by omega) (by omega)
  have hmem : l[i] ∈ l:=List.getElem_mem hlt
  have hrd : rd_T34 l (i : Int) = l[i]:=by
   unfold rd_T34
   rw [Int.toNat_natCast,List.getD_eq_getElem?_getD,List.getElem?_eq_getElem hlt]
   rfl
  rw [hrd] at y0 y1 y2 y3 y4 y5 hcp yr
  have hok1:=HOK.out _ hmem
  have HTK : Aside0 (l.take (i + 1) = l.take i ++ [l[i]]):=⟨by rw [List.take_add_one,List.getElem?_eq_getElem hlt];rfl⟩
  generalize l[i] = x at y0 y1 y2 y3 y4 y5 hcp yr hok1 HTK
  rw [Int.toNat_natCast] at y0 y1 y2 y3 y4 y5
  have HX:=Aside0.mk hok1
  have HCP:=Aside0.mk hcp
  have HLT:=Aside0.mk hlt
  have HYW : Aside0 (YAt w (ad.add (i * 6)) B0 e0 x):=⟨⟨y0,y1,y2,y3,y4,y5⟩⟩
  have HPW:=Aside0.mk yr
  have hw:=wrap_succ_ i (by have:=HS.out;omega)
  clear hmem hrd hok1 hcp yr y0 y1 y2 y3 y4 y5
  by_cases hx : 12 < x.f0.length
  ·have q : decide ((12 : Int) < (x.f0.length : Int)) = true:=decide_eq_true (by omega)
   obtain ⟨y0,y1,y2,y3,y4,y5⟩:=HYW.out.below rfl HB.out
   clear y0 y1 y2 y3 y4 y5 hx
   go_wp2_with (fail)
   have HB2:=Aside0.mk (below_step HB.out (below_drew (Below.refl wr.heap.size wr)))
   clear HB
   refine start_ (n:=20) (S:=fun w'=>w'.cell? (ad.add (i * 6)) = some (.slice B0 x.f0.length e0) ∧ w'.cell? ⟨(ad.add (i * 6)).block,(ad.add (i * 6)).off + 1,none⟩ = some (.bool x.f1.f0) ∧ w'.cell? ⟨(ad.add (i * 6)).block,(ad.add (i * 6)).off + 2,none⟩ = some (.int .i64 x.f1.f1) ∧ w'.cell? ⟨(ad.add (i * 6)).block,(ad.add (i * 6)).off + 3,none⟩ = some (.int .i64 x.f2) ∧ w'.cell? ⟨(ad.add (i * 6)).block,(ad.add (i * 6)).off + 4,none⟩ = some (.bool x.f3) ∧ w'.cell? ⟨(ad.add (i * 6)).block,(ad.add (i * 6)).off + 5,none⟩ = some (.int .i64 x.f4)) (ds:=[]) #[false,false,false,false,false,false,false,false,false,false,false,false,false,false,false,false,false,false,false,false] (by kernel_rfl) rfl rfl (⟨(HYW.out.below rfl HB2.out).c0,(HYW.out.below rfl HB2.out).c1,(HYW.out.below rfl HB2.out).c2,(HYW.out.below rfl HB2.out).c3,(HYW.out.below rfl HB2.out).c4,(HYW.out.below rfl HB2.out).c5⟩) (fun hHeld=>?_)
   generalize wr.drew = w2 at HB2 hHeld ⊢
   refine pure_ (i:=0) (N:=some 19) (v:=?_) (a':=?_) #[true,false,false,false,false,false,false,false,false,false,false,false,false,false,false,false,false,false,false,false] rfl rfl (by kernel_rfl) (fun _ _ _ h=>h) (Or.inl ⟨by first|rfl|exact wanted_on rfl rfl rfl (by rfl),?_⟩) ?_ ?_
   rotate_left
   ·intro w'
    go_simp
    with_reducible rfl
   rotate_left
   ·simp only [Act.put,List.setIfInBounds_toArray,List.set_cons_zero,List.set_cons_succ,i64_w,i32_w]
    rfl
   refine pure_ (i:=1) (N:=some 20) (v:=?_) (a':=?_) #[true,true,false,false,false,false,false,false,false,false,false,false,false,false,false,false,false,false,false,false] rfl rfl (by kernel_rfl) (fun _ _ _ h=>h) (Or.inl ⟨by first|rfl|exact wanted_on rfl rfl rfl (by rfl),?_⟩) ?_ ?_
   rotate_left
   ·intro w'
    go_simp
    with_reducible rfl
   rotate_left
   ·simp only [Act.put,List.setIfInBounds_toArray,List.set_cons_zero,List.set_cons_succ,i64_w,i32_w]
    rfl
   refine pure_ (i:=2) (N:=some 21) (v:=?_) (a':=?_) #[true,true,true,false,false,false,false,false,false,false,false,false,false,false,false,false,false,false,false,false] rfl rfl (by kernel_rfl) (fun _ _ _ h=>h) (Or.inl ⟨by first|rfl|exact wanted_on rfl rfl rfl (by rfl),?_⟩) ?_ ?_
   rotate_left
   ·intro w'
    go_simp
    with_reducible rfl
   rotate_left
   ·simp only [Act.put,List.setIfInBounds_toArray,List.set_cons_zero,List.set_cons_succ,i64_w,i32_w]
    rfl
   refine pure_ (i:=3) (N:=some 22) (v:=?_) (a':=?_) #[true,true,true,true,false,false,false,false,false,false,false,false,false,false,false,false,false,false,false,false] rfl rfl (by kernel_rfl) (fun _ _ _ h=>h) (Or.inl ⟨by first|rfl|exact wanted_on rfl rfl rfl (by rfl),?_⟩) ?_ ?_
   rotate_left
   ·intro w'
    go_simp
    with_reducible rfl
   rotate_left
   ·simp only [Act.put,List.setIfInBounds_toArray,List.set_cons_zero,List.set_cons_succ,i64_w,i32_w]
    rfl
   refine take_ (i:=4) (N:=some 23) (v:=?_) (a':=?_) #[true,true,true,true,true,false,false,false,false,false,false,false,false,false,false,false,false,false,false,false] rfl rfl (by kernel_rfl) (fun _ _ _ h=>h) (Or.inl ⟨by first|rfl|exact wanted_on rfl rfl rfl (by rfl),?_⟩) hHeld ?_ ?_
   rotate_left
   ·rintro w' ⟨s0,s1,s2,s3,s4,s5⟩
    go_simp
    with_reducible rfl
   rotate_left
   ·simp only [Act.put,List.setIfInBounds_toArray,List.set_cons_zero,List.set_cons_succ,i64_w,i32_w]
    rfl
   refine pure_ (i:=5) (N:=some 24) (v:=?_) (a':=?_) #[true,true,true,true,true,true,false,false,false,false,false,false,false,false,false,false,false,false,false,false] rfl rfl (by kernel_rfl) (fun _ _ _ h=>h) (Or.inl ⟨by first|rfl|exact wanted_on rfl rfl rfl (by rfl),?_⟩) ?_ ?_
   rotate_left
   ·intro w'
    go_simp
    with_reducible rfl
   rotate_left
   ·simp only [Act.put,List.setIfInBounds_toArray,List.set_cons_zero,List.set_cons_succ,i64_w,i32_w]
    rfl
   refine pure_ (i:=6) (N:=some 25) (v:=?_) (a':=?_) #[true,true,true,true,true,true,true,false,false,false,false,false,false,false,false,false,false,false,false,false] rfl rfl (by kernel_rfl) (fun _ _ _ h=>h) (Or.inl ⟨by first|rfl|exact wanted_on rfl rfl rfl (by rfl),?_⟩) ?_ ?_
   rotate_left
   ·intro w'
    go_simp
    try rw [q]
    with_reducible rfl
   rotate_left
   ·simp only [Act.put,List.setIfInBounds_toArray,List.set_cons_zero,List.set_cons_succ,i64_w,i32_w]
    rfl
   refine pure_ (i:=7) (N:=some 26) (v:=?_) (a':=?_) #[true,true,true,true,true,true,true,true,false,false,false,false,false,false,false,false,false,false,false,false] rfl rfl (by kernel_rfl) (fun _ _ _ h=>h) (Or.inl ⟨by first|rfl|exact wanted_on rfl rfl rfl (by rfl),?_⟩) ?_ ?_
   rotate_left
   ·intro w'
    go_simp
    with_reducible rfl
   rotate_left
   ·simp only [Act.put,List.setIfInBounds_toArray,List.set_cons_zero,List.set_cons_succ,i64_w,i32_w]
    rfl
   refine pure_ (i:=8) (N:=some 27) (v:=undef) (a':=_) #[true,true,true,true,true,true,true,true,true,false,false,false,false,false,false,false,false,false,false,false] rfl rfl (by kernel_rfl) (fun _ _ _ h=>h) (Or.inr ⟨wanted_off rfl rfl rfl (by rfl),rfl⟩) rfl ?_
   refine norm_ (a':=?_) ?_ ?_
   rotate_left
   ·show Act.put _ (some 27) _ = _
    simp only [Act.put,List.setIfInBounds_toArray,List.set_cons_zero,List.set_cons_succ,i64_w,i32_w]
    rfl
   refine pure_ (i:=9) (N:=some 28) (v:=undef) (a':=_) #[true,true,true,true,true,true,true,true,true,true,false,false,false,false,false,false,false,false,false,false] rfl rfl (by kernel_rfl) (fun _ _ _ h=>h) (Or.inr ⟨wanted_off rfl rfl rfl (by rfl),rfl⟩) rfl ?_
   refine norm_ (a':=?_) ?_ ?_
   rotate_left
   ·show Act.put _ (some 28) _ = _
    simp only [Act.put,List.setIfInBounds_toArray,List.set_cons_zero,List.set_cons_succ,i64_w,i32_w]
    rfl
   refine pure_ (i:=10) (N:=some 29) (v:=undef) (a':=_) #[true,true,true,true,true,true,true,true,true,true,true,false,false,false,false,false,false,false,false,false] rfl rfl (by kernel_rfl) (fun _ _ _ h=>h) (Or.inr ⟨wanted_off rfl rfl rfl (by rfl),rfl⟩) rfl ?_
   refine norm_ (a':=?_) ?_ ?_
   rotate_left
   ·show Act.put _ (some 29) _ = _
    simp only [Act.put,List.setIfInBounds_toArray,List.set_cons_zero,List.set_cons_succ,i64_w,i32_w]
    rfl
   refine pure_ (i:=11) (N:=some 30) (v:=undef) (a':=_) #[true,true,true,true,true,true,true,true,true,true,true,true,false,false,false,false,false,false,false,false] rfl rfl (by kernel_rfl) (fun _ _ _ h=>h) (Or.inr ⟨wanted_off rfl rfl rfl (by rfl),rfl⟩) rfl ?_
   refine norm_ (a':=?_) ?_ ?_
   rotate_left
   ·show Act.put _ (some 30) _ = _
    simp only [Act.put,List.setIfInBounds_toArray,List.set_cons_zero,List.set_cons_succ,i64_w,i32_w]
    rfl
   refine pure_ (i:=12) (N:=some 31) (v:=undef) (a':=_) #[true,true,true,true,true,true,true,true,true,true,true,true,true,false,false,false,false,false,false,false] rfl rfl (by kernel_rfl) (fun _ _ _ h=>h) (Or.inr ⟨wanted_off rfl rfl rfl (by rfl),rfl⟩) rfl ?_
   refine norm_ (a':=?_) ?_ ?_
   rotate_left
   ·show Act.put _ (some 31) _ = _
    simp only [Act.put,List.setIfInBounds_toArray,List.set_cons_zero,List.set_cons_succ,i64_w,i32_w]
    rfl
   refine pure_ (i:=13) (N:=some 32) (v:=undef) (a':=_) #[true,true,true,true,true,true,true,true,true,true,true,true,true,true,false,false,false,false,false,false] rfl rfl (by kernel_rfl) (fun _ _ _ h=>h) (Or.inr ⟨wanted_off rfl rfl rfl (by rfl),rfl⟩) rfl ?_
   refine norm_ (a':=?_) ?_ ?_
   rotate_left
   ·show Act.put _ (some 32) _ = _
    simp only [Act.put,List.setIfInBounds_toArray,List.set_cons_zero,List.set_cons_succ,i64_w,i32_w]
    rfl
   refine pure_ (i:=14) (N:=some 33) (v:=undef) (a':=_) #[true,true,true,true,true,true,true,true,true,true,true,true,true,true,true,false,false,false,false,false] rfl rfl (by kernel_rfl) (fun _ _ _ h=>h) (Or.inr ⟨wanted_off rfl rfl rfl (by rfl),rfl⟩) rfl ?_
   refine norm_ (a':=?_) ?_ ?_
   rotate_left
   ·show Act.put _ (some 33) _ = _
    simp only [Act.put,List.setIfInBounds_toArray,List.set_cons_zero,List.set_cons_succ,i64_w,i32_w]
    rfl
   refine pure_ (i:=15) (N:=some 34) (v:=undef) (a':=_) #[true,true,true,true,true,true,true,true,true,true,true,true,true,true,true,true,false,false,false,false] rfl rfl (by kernel_rfl) (fun _ _ _ h=>h) (Or.inr ⟨wanted_off rfl rfl rfl (by rfl),rfl⟩) rfl ?_
   refine norm_ (a':=?_) ?_ ?_
   rotate_left
   ·show Act.put _ (some 34) _ = _
    simp only [Act.put,List.setIfInBounds_toArray,List.set_cons_zero,List.set_cons_succ,i64_w,i32_w]
    rfl
   refine pure_ (i:=16) (N:=some 35) (v:=undef) (a':=_) #[true,true,true,true,true,true,true,true,true,true,true,true,true,true,true,true,true,false,false,false] rfl rfl (by kernel_rfl) (fun _ _ _ h=>h) (Or.inr ⟨wanted_off rfl rfl rfl (by rfl),rfl⟩) rfl ?_
   refine norm_ (a':=?_) ?_ ?_
   rotate_left
   ·show Act.put _ (some 35) _ = _
    simp only [Act.put,List.setIfInBounds_toArray,List.set_cons_zero,List.set_cons_succ,i64_w,i32_w]
    rfl
   refine pure_ (i:=17) (N:=some 36) (v:=undef) (a':=_) #[true,true,true,true,true,true,true,true,true,true,true,true,true,true,true,true,true,true,false,false] rfl rfl (by kernel_rfl) (fun _ _ _ h=>h) (Or.inr ⟨wanted_off rfl rfl rfl (by rfl),rfl⟩) rfl ?_
   refine norm_ (a':=?_) ?_ ?_
   rotate_left
   ·show Act.put _ (some 36) _ = _
    simp only [Act.put,List.setIfInBounds_toArray,List.set_cons_zero,List.set_cons_succ,i64_w,i32_w]
    rfl
   refine pure_ (i:=18) (N:=some 37) (v:=undef) (a':=_) #[true,true,true,true,true,true,true,true,true,true,true,true,true,true,true,true,true,true,true,false] rfl rfl (by kernel_rfl) (fun _ _ _ h=>h) (Or.inr ⟨wanted_off rfl rfl rfl (by rfl),rfl⟩) rfl ?_
   refine norm_ (a':=?_) ?_ ?_
   rotate_left
   ·show Act.put _ (some 37) _ = _
    simp only [Act.put,List.setIfInBounds_toArray,List.set_cons_zero,List.set_cons_succ,i64_w,i32_w]
    rfl
   refine pure_ (i:=19) (N:=some 38) (v:=?_) (a':=?_) #[true,true,true,true,true,true,true,true,true,true,true,true,true,true,true,true,true,true,true,true] rfl rfl (by kernel_rfl) (fun _ _ _ h=>h) (Or.inl ⟨by first|rfl|exact wanted_on rfl rfl rfl (by rfl),?_⟩) ?_ ?_
   rotate_left
   ·intro w'
    go_simp
    with_reducible rfl
   rotate_left
   ·simp only [Act.put,List.setIfInBounds_toArray,List.set_cons_zero,List.set_cons_succ,i64_w,i32_w]
    rfl
   refine done_ (by kernel_rfl) ?_
   clear hHeld
   obtain ⟨y0,y1,y2,y3,y4,y5⟩:=HYW.out.below rfl HB2.out
   go_wp2_with (fail)
   go_ret
   exact ⟨rfl,HB2.out⟩
  have q : decide ((12 : Int) < (x.f0.length : Int)) = false:=decide_eq_false (by omega)
  have HPS : Aside0 (okPs x.f0):=⟨⟨by omega,HX.out.1⟩⟩
  have hic:=fun W_ h=>expoIs_calls B0 e0 x.f0 x.f1.f0 x.f1.f1 x.f2 x.f3 x.f4 W_ (Kd.C_below HPW.out h) HCP.out HPS.out
  have hrc:=fun W_ h=>refIs_calls B0 e0 x.f0 x.f1.f0 x.f1.f1 x.f2 x.f3 x.f4 W_ (Kd.C_below HPW.out h) HCP.out HPS.out
  rw [show (⟨x.f0,⟨x.f1.f0,x.f1.f1⟩,x.f2,x.f3,x.f4⟩ : S34) = x from rfl] at hic hrc
  have HTL : Aside0 (∀ z ∈ l.take (i + 1),z.f0.length ≤ 12):=⟨fun z hz=>by
   rw [HTK.out] at hz
   rcases List.mem_append.1 hz with hz|hz
   ·exact HQ.out z hz
   rw [List.mem_singleton.1 hz];omega⟩
  have HTA : Aside0 ((l.take (i + 1)).all isScr = ((l.take i).all isScr && isScr x)):=⟨by rw [HTK.out,List.all_append];simp⟩
  clear hx HTK HQ HX
  generalize (l.take i).all isScr = al at HTA ⊢
  generalize isScr x = bx at hic hrc HTA
  obtain ⟨y0,y1,y2,y3,y4,y5⟩:=HYW.out.below rfl HB.out
  clear y0 y1 y2 y3 y4 y5
  cases bx with
  | true =>
   go_wp2_with (fail)
   have HB2:=Aside0.mk (below_step HB.out (below_drew (Below.refl wr.heap.size wr)))
   clear HB
   refine start_ (n:=20) (S:=fun w'=>w'.cell? (ad.add (i * 6)) = some (.slice B0 x.f0.length e0) ∧ w'.cell? ⟨(ad.add (i * 6)).block,(ad.add (i * 6)).off + 1,none⟩ = some (.bool x.f1.f0) ∧ w'.cell? ⟨(ad.add (i * 6)).block,(ad.add (i * 6)).off + 2,none⟩ = some (.int .i64 x.f1.f1) ∧ w'.cell? ⟨(ad.add (i * 6)).block,(ad.add (i * 6)).off + 3,none⟩ = some (.int .i64 x.f2) ∧ w'.cell? ⟨(ad.add (i * 6)).block,(ad.add (i * 6)).off + 4,none⟩ = some (.bool x.f3) ∧ w'.cell? ⟨(ad.add (i * 6)).block,(ad.add (i * 6)).off + 5,none⟩ = some (.int .i64 x.f4)) (ds:=[]) #[false,false,false,false,false,false,false,false,false,false,false,false,false,false,false,false,false,false,false,false] (by kernel_rfl) rfl rfl (⟨(HYW.out.below rfl HB2.out).c0,(HYW.out.below rfl HB2.out).c1,(HYW.out.below rfl HB2.out).c2,(HYW.out.below rfl HB2.out).c3,(HYW.out.below rfl HB2.out).c4,(HYW.out.below rfl HB2.out).c5⟩) (fun hHeld=>?_)
   generalize wr.drew = w2 at HB2 hHeld ⊢
   refine pure_ (i:=0) (N:=some 19) (v:=?_) (a':=?_) #[true,false,false,false,false,false,false,false,false,false,false,false,false,false,false,false,false,false,false,false] rfl rfl (by kernel_rfl) (fun _ _ _ h=>h) (Or.inl ⟨by first|rfl|exact wanted_on rfl rfl rfl (by rfl),?_⟩) ?_ ?_
   rotate_left
   ·intro w'
    go_simp
    with_reducible rfl
   rotate_left
   ·simp only [Act.put,List.setIfInBounds_toArray,List.set_cons_zero,List.set_cons_succ,i64_w,i32_w]
    rfl
   refine pure_ (i:=1) (N:=some 20) (v:=?_) (a':=?_) #[true,true,false,false,false,false,false,false,false,false,false,false,false,false,false,false,false,false,false,false] rfl rfl (by kernel_rfl) (fun _ _ _ h=>h) (Or.inl ⟨by first|rfl|exact wanted_on rfl rfl rfl (by rfl),?_⟩) ?_ ?_
   rotate_left
   ·intro w'
    go_simp
    with_reducible rfl
   rotate_left
   ·simp only [Act.put,List.setIfInBounds_toArray,List.set_cons_zero,List.set_cons_succ,i64_w,i32_w]
    rfl
   refine pure_ (i:=2) (N:=some 21) (v:=?_) (a':=?_) #[true,true,true,false,false,false,false,false,false,false,false,false,false,false,false,false,false,false,false,false] rfl rfl (by kernel_rfl) (fun _ _ _ h=>h) (Or.inl ⟨by first|rfl|exact wanted_on rfl rfl rfl (by rfl),?_⟩) ?_ ?_
   rotate_left
   ·intro w'
    go_simp
    with_reducible rfl
   rotate_left
   ·simp only [Act.put,List.setIfInBounds_toArray,List.set_cons_zero,List.set_cons_succ,i64_w,i32_w]
    rfl
   refine pure_ (i:=3) (N:=some 22) (v:=?_) (a':=?_) #[true,true,true,true,false,false,false,false,false,false,false,false,false,false,false,false,false,false,false,false] rfl rfl (by kernel_rfl) (fun _ _ _ h=>h) (Or.inl ⟨by first|rfl|exact wanted_on rfl rfl rfl (by rfl),?_⟩) ?_ ?_
   rotate_left
   ·intro w'
    go_simp
    with_reducible rfl
   rotate_left
   ·simp only [Act.put,List.setIfInBounds_toArray,List.set_cons_zero,List.set_cons_succ,i64_w,i32_w]
    rfl
   refine take_ (i:=4) (N:=some 23) (v:=?_) (a':=?_) #[true,true,true,true,true,false,false,false,false,false,false,false,false,false,false,false,false,false,false,false] rfl rfl (by kernel_rfl) (fun _ _ _ h=>h) (Or.inl ⟨by first|rfl|exact wanted_on rfl rfl rfl (by rfl),?_⟩) hHeld ?_ ?_
   rotate_left
   ·rintro w' ⟨s0,s1,s2,s3,s4,s5⟩
    go_simp
    with_reducible rfl
   rotate_left
   ·simp only [Act.put,List.setIfInBounds_toArray,List.set_cons_zero,List.set_cons_succ,i64_w,i32_w]
    rfl
   refine pure_ (i:=5) (N:=some 24) (v:=?_) (a':=?_) #[true,true,true,true,true,true,false,false,false,false,false,false,false,false,false,false,false,false,false,false] rfl rfl (by kernel_rfl) (fun _ _ _ h=>h) (Or.inl ⟨by first|rfl|exact wanted_on rfl rfl rfl (by rfl),?_⟩) ?_ ?_
   rotate_left
   ·intro w'
    go_simp
    with_reducible rfl
   rotate_left
   ·simp only [Act.put,List.setIfInBounds_toArray,List.set_cons_zero,List.set_cons_succ,i64_w,i32_w]
    rfl
   refine pure_ (i:=6) (N:=some 25) (v:=?_) (a':=?_) #[true,true,true,true,true,true,true,false,false,false,false,false,false,false,false,false,false,false,false,false] rfl rfl (by kernel_rfl) (fun _ _ _ h=>h) (Or.inl ⟨by first|rfl|exact wanted_on rfl rfl rfl (by rfl),?_⟩) ?_ ?_
   rotate_left
   ·intro w'
    go_simp
    try rw [q]
    with_reducible rfl
   rotate_left
   ·simp only [Act.put,List.setIfInBounds_toArray,List.set_cons_zero,List.set_cons_succ,i64_w,i32_w]
    rfl
   refine pure_ (i:=7) (N:=some 26) (v:=?_) (a':=?_) #[true,true,true,true,true,true,true,true,false,false,false,false,false,false,false,false,false,false,false,false] rfl rfl (by kernel_rfl) (fun _ _ _ h=>h) (Or.inl ⟨by first|rfl|exact wanted_on rfl rfl rfl (by rfl),?_⟩) ?_ ?_
   rotate_left
   ·intro w'
    go_simp
    with_reducible rfl
   rotate_left
   ·simp only [Act.put,List.setIfInBounds_toArray,List.set_cons_zero,List.set_cons_succ,i64_w,i32_w]
    rfl
   refine pure_ (i:=8) (N:=some 27) (v:=?_) (a':=?_) #[true,true,true,true,true,true,true,true,true,false,false,false,false,false,false,false,false,false,false,false] rfl rfl (by kernel_rfl) (fun _ _ _ h=>h) (Or.inl ⟨by first|rfl|exact wanted_on rfl rfl rfl (by rfl),?_⟩) ?_ ?_
   rotate_left
   ·intro w'
    go_simp
    with_reducible rfl
   rotate_left
   ·simp only [Act.put,List.setIfInBounds_toArray,List.set_cons_zero,List.set_cons_succ,i64_w,i32_w]
    rfl
   refine pure_ (i:=9) (N:=some 28) (v:=?_) (a':=?_) #[true,true,true,true,true,true,true,true,true,true,false,false,false,false,false,false,false,false,false,false] rfl rfl (by kernel_rfl) (fun _ _ _ h=>h) (Or.inl ⟨by first|rfl|exact wanted_on rfl rfl rfl (by rfl),?_⟩) ?_ ?_
   rotate_left
   ·intro w'
    go_simp
    with_reducible rfl
   rotate_left
   ·simp only [Act.put,List.setIfInBounds_toArray,List.set_cons_zero,List.set_cons_succ,i64_w,i32_w]
    rfl
   refine pure_ (i:=10) (N:=some 29) (v:=?_) (a':=?_) #[true,true,true,true,true,true,true,true,true,true,true,false,false,false,false,false,false,false,false,false] rfl rfl (by kernel_rfl) (fun _ _ _ h=>h) (Or.inl ⟨by first|rfl|exact wanted_on rfl rfl rfl (by rfl),?_⟩) ?_ ?_
   rotate_left
   ·intro w'
    go_simp
    with_reducible rfl
   rotate_left
   ·simp only [Act.put,List.setIfInBounds_toArray,List.set_cons_zero,List.set_cons_succ,i64_w,i32_w]
    rfl
   refine take_ (i:=11) (N:=some 30) (v:=?_) (a':=?_) #[true,true,true,true,true,true,true,true,true,true,true,true,false,false,false,false,false,false,false,false] rfl rfl (by kernel_rfl) (fun _ _ _ h=>h) (Or.inl ⟨by first|rfl|exact wanted_on rfl rfl rfl (by rfl),?_⟩) hHeld ?_ ?_
   rotate_left
   ·rintro w' ⟨s0,s1,s2,s3,s4,s5⟩
    go_simp
    with_reducible rfl
   rotate_left
   ·simp only [Act.put,List.setIfInBounds_toArray,List.set_cons_zero,List.set_cons_succ,i64_w,i32_w]
    rfl
   refine pure_ (i:=13) (N:=some 32) (v:=?_) (a':=?_) #[true,true,true,true,true,true,true,true,true,true,true,true,false,true,false,false,false,false,false,false] rfl rfl (by kernel_rfl) (fun _ _ _ h=>h) (Or.inl ⟨by first|rfl|exact wanted_on rfl rfl rfl (by rfl),?_⟩) ?_ ?_
   rotate_left
   ·intro w'
    go_simp
    with_reducible rfl
   rotate_left
   ·simp only [Act.put,List.setIfInBounds_toArray,List.set_cons_zero,List.set_cons_succ,i64_w,i32_w]
    rfl
   refine pure_ (i:=14) (N:=some 33) (v:=?_) (a':=?_) #[true,true,true,true,true,true,true,true,true,true,true,true,false,true,true,false,false,false,false,false] rfl rfl (by kernel_rfl) (fun _ _ _ h=>h) (Or.inl ⟨by first|rfl|exact wanted_on rfl rfl rfl (by rfl),?_⟩) ?_ ?_
   rotate_left
   ·intro w'
    go_simp
    with_reducible rfl
   rotate_left
   ·simp only [Act.put,List.setIfInBounds_toArray,List.set_cons_zero,List.set_cons_succ,i64_w,i32_w]
    rfl
   refine pure_ (i:=15) (N:=some 34) (v:=?_) (a':=?_) #[true,true,true,true,true,true,true,true,true,true,true,true,false,true,true,true,false,false,false,false] rfl rfl (by kernel_rfl) (fun _ _ _ h=>h) (Or.inl ⟨by first|rfl|exact wanted_on rfl rfl rfl (by rfl),?_⟩) ?_ ?_
   rotate_left
   ·intro w'
    go_simp
    with_reducible rfl
   rotate_left
   ·simp only [Act.put,List.setIfInBounds_toArray,List.set_cons_zero,List.set_cons_succ,i64_w,i32_w]
    rfl
   refine take_ (i:=16) (N:=some 35) (v:=?_) (a':=?_) #[true,true,true,true,true,true,true,true,true,true,true,true,false,true,true,true,true,false,false,false] rfl rfl (by kernel_rfl) (fun _ _ _ h=>h) (Or.inl ⟨by first|rfl|exact wanted_on rfl rfl rfl (by rfl),?_⟩) hHeld ?_ ?_
   rotate_left
   ·rintro w' ⟨s0,s1,s2,s3,s4,s5⟩
    go_simp
    with_reducible rfl
   rotate_left
   ·simp only [Act.put,List.setIfInBounds_toArray,List.set_cons_zero,List.set_cons_succ,i64_w,i32_w]
    rfl
   refine one_ (i:=12) (N:=some 31) #[true,true,true,true,true,true,true,true,true,true,true,true,true,true,true,true,true,false,false,false] rfl rfl (by kernel_rfl) (by decide) (fun K_ hK=>?_)
   refine goes_ Tryz.func21 (by kernel_rfl) rfl #[.agg #[.slice B0 x.f0.length e0,.bool x.f1.f0,.int .i64 x.f1.f1,.int .i64 x.f2,.bool x.f3,.int .i64 x.f4]] (by rfl) rfl rfl (by (try simp only [List.map_toArray,List.map_cons,List.map_nil]);first|done|rfl) ?_
   refine (hic w2 HB2.out).mono ?_
   rintro e w3 ⟨rfl,hb3⟩
   refine ⟨_,rfl,?_⟩
   have HB3:=Aside0.mk (below_step HB2.out hb3)
   clear hb3 HB2
   refine hK.out _ _ ⟨(HYW.out.below rfl HB3.out).c0,(HYW.out.below rfl HB3.out).c1,(HYW.out.below rfl HB3.out).c2,(HYW.out.below rfl HB3.out).c3,(HYW.out.below rfl HB3.out).c4,(HYW.out.below rfl HB3.out).c5⟩ (fun hHeld=>?_)
   clear hK
   refine norm_ (a':=?_) ?_ ?_
   rotate_left
   ·show Act.put _ (some 31) _ = _
    simp only [Act.put,List.setIfInBounds_toArray,List.set_cons_zero,List.set_cons_succ,i64_w,i32_w]
    rfl
   refine one_ (i:=17) (N:=some 36) #[true,true,true,true,true,true,true,true,true,true,true,true,true,true,true,true,true,true,false,false] rfl rfl (by kernel_rfl) (by decide) (fun K_ hK=>?_)
   refine goes_ Tryz.func22 (by kernel_rfl) rfl #[.agg #[.slice B0 x.f0.length e0,.bool x.f1.f0,.int .i64 x.f1.f1,.int .i64 x.f2,.bool x.f3,.int .i64 x.f4]] (by rfl) rfl rfl (by (try simp only [List.map_toArray,List.map_cons,List.map_nil]);first|done|rfl) ?_
   refine (hrc w3 HB3.out).mono ?_
   rintro e w4 ⟨rfl,hb4⟩
   refine ⟨_,rfl,?_⟩
   have HB4:=Aside0.mk (below_step HB3.out hb4)
   clear hb4 HB3
   refine hK.out _ _ ⟨(HYW.out.below rfl HB4.out).c0,(HYW.out.below rfl HB4.out).c1,(HYW.out.below rfl HB4.out).c2,(HYW.out.below rfl HB4.out).c3,(HYW.out.below rfl HB4.out).c4,(HYW.out.below rfl HB4.out).c5⟩ (fun hHeld=>?_)
   clear hK
   refine norm_ (a':=?_) ?_ ?_
   rotate_left
   ·show Act.put _ (some 36) _ = _
    simp only [Act.put,List.setIfInBounds_toArray,List.set_cons_zero,List.set_cons_succ,i64_w,i32_w]
    rfl
   refine pure_ (i:=18) (N:=some 37) (v:=?_) (a':=?_) #[true,true,true,true,true,true,true,true,true,true,true,true,true,true,true,true,true,true,true,false] rfl rfl (by kernel_rfl) (fun _ _ _ h=>h) (Or.inl ⟨by first|rfl|exact wanted_on rfl rfl rfl (by rfl),?_⟩) ?_ ?_
   rotate_left
   ·intro w'
    go_simp
    with_reducible rfl
   rotate_left
   ·simp only [Act.put,List.setIfInBounds_toArray,List.set_cons_zero,List.set_cons_succ,i64_w,i32_w]
    rfl
   refine pure_ (i:=19) (N:=some 38) (v:=?_) (a':=?_) #[true,true,true,true,true,true,true,true,true,true,true,true,true,true,true,true,true,true,true,true] rfl rfl (by kernel_rfl) (fun _ _ _ h=>h) (Or.inl ⟨by first|rfl|exact wanted_on rfl rfl rfl (by rfl),?_⟩) ?_ ?_
   rotate_left
   ·intro w'
    go_simp
    with_reducible rfl
   rotate_left
   ·simp only [Act.put,List.setIfInBounds_toArray,List.set_cons_zero,List.set_cons_succ,i64_w,i32_w]
    rfl
   refine done_ (by kernel_rfl) ?_
   clear hHeld
   obtain ⟨y0,y1,y2,y3,y4,y5⟩:=HYW.out.below rfl HB4.out
   cases al with
   | true =>
    go_wp2_with (fail)
    refine (hic w4 HB4.out).mono ?_
    rintro e w5 ⟨rfl,hb5⟩
    have HB5:=Aside0.mk (below_step HB4.out hb5)
    clear hb5
    go_wp2_with (fail)
    go_roundg (l.length - (i + 1))
    case measure=>omega
    case rel=>exact ⟨i + 1,by rw [HTA.out];rfl,by rw [hw],by omega,⟨by omega⟩,HTL,HB5⟩
   | false =>
    go_wp2_with (fail)
    go_roundg (l.length - (i + 1))
    case measure=>omega
    case rel=>exact ⟨i + 1,by rw [HTA.out];rfl,by rw [hw],by omega,⟨by omega⟩,HTL,HB4⟩
  | false =>
   go_wp2_with (fail)
   have HB2:=Aside0.mk (below_step HB.out (below_drew (Below.refl wr.heap.size wr)))
   clear HB
   refine start_ (n:=20) (S:=fun w'=>w'.cell? (ad.add (i * 6)) = some (.slice B0 x.f0.length e0) ∧ w'.cell? ⟨(ad.add (i * 6)).block,(ad.add (i * 6)).off + 1,none⟩ = some (.bool x.f1.f0) ∧ w'.cell? ⟨(ad.add (i * 6)).block,(ad.add (i * 6)).off + 2,none⟩ = some (.int .i64 x.f1.f1) ∧ w'.cell? ⟨(ad.add (i * 6)).block,(ad.add (i * 6)).off + 3,none⟩ = some (.int .i64 x.f2) ∧ w'.cell? ⟨(ad.add (i * 6)).block,(ad.add (i * 6)).off + 4,none⟩ = some (.bool x.f3) ∧ w'.cell? ⟨(ad.add (i * 6)).block,(ad.add (i * 6)).off + 5,none⟩ = some (.int .i64 x.f4)) (ds:=[]) #[false,false,false,false,false,false,false,false,false,false,false,false,false,false,false,false,false,false,false,false] (by kernel_rfl) rfl rfl (⟨(HYW.out.below rfl HB2.out).c0,(HYW.out.below rfl HB2.out).c1,(HYW.out.below rfl HB2.out).c2,(HYW.out.below rfl HB2.out).c3,(HYW.out.below rfl HB2.out).c4,(HYW.out.below rfl HB2.out).c5⟩) (fun hHeld=>?_)
   generalize wr.drew = w2 at HB2 hHeld ⊢
   refine pure_ (i:=0) (N:=some 19) (v:=?_) (a':=?_) #[true,false,false,false,false,false,false,false,false,false,false,false,false,false,false,false,false,false,false,false] rfl rfl (by kernel_rfl) (fun _ _ _ h=>h) (Or.inl ⟨by first|rfl|exact wanted_on rfl rfl rfl (by rfl),?_⟩) ?_ ?_
   rotate_left
   ·intro w'
    go_simp
    with_reducible rfl
   rotate_left
   ·simp only [Act.put,List.setIfInBounds_toArray,List.set_cons_zero,List.set_cons_succ,i64_w,i32_w]
    rfl
   refine pure_ (i:=1) (N:=some 20) (v:=?_) (a':=?_) #[true,true,false,false,false,false,false,false,false,false,false,false,false,false,false,false,false,false,false,false] rfl rfl (by kernel_rfl) (fun _ _ _ h=>h) (Or.inl ⟨by first|rfl|exact wanted_on rfl rfl rfl (by rfl),?_⟩) ?_ ?_
   rotate_left
   ·intro w'
    go_simp
    with_reducible rfl
   rotate_left
   ·simp only [Act.put,List.setIfInBounds_toArray,List.set_cons_zero,List.set_cons_succ,i64_w,i32_w]
    rfl
   refine pure_ (i:=2) (N:=some 21) (v:=?_) (a':=?_) #[true,true,true,false,false,false,false,false,false,false,false,false,false,false,false,false,false,false,false,false] rfl rfl (by kernel_rfl) (fun _ _ _ h=>h) (Or.inl ⟨by first|rfl|exact wanted_on rfl rfl rfl (by rfl),?_⟩) ?_ ?_
   rotate_left
   ·intro w'
    go_simp
    with_reducible rfl
   rotate_left
   ·simp only [Act.put,List.setIfInBounds_toArray,List.set_cons_zero,List.set_cons_succ,i64_w,i32_w]
    rfl
   refine pure_ (i:=3) (N:=some 22) (v:=?_) (a':=?_) #[true,true,true,true,false,false,false,false,false,false,false,false,false,false,false,false,false,false,false,false] rfl rfl (by kernel_rfl) (fun _ _ _ h=>h) (Or.inl ⟨by first|rfl|exact wanted_on rfl rfl rfl (by rfl),?_⟩) ?_ ?_
   rotate_left
   ·intro w'
    go_simp
    with_reducible rfl
   rotate_left
   ·simp only [Act.put,List.setIfInBounds_toArray,List.set_cons_zero,List.set_cons_succ,i64_w,i32_w]
    rfl
   refine take_ (i:=4) (N:=some 23) (v:=?_) (a':=?_) #[true,true,true,true,true,false,false,false,false,false,false,false,false,false,false,false,false,false,false,false] rfl rfl (by kernel_rfl) (fun _ _ _ h=>h) (Or.inl ⟨by first|rfl|exact wanted_on rfl rfl rfl (by rfl),?_⟩) hHeld ?_ ?_
   rotate_left
   ·rintro w' ⟨s0,s1,s2,s3,s4,s5⟩
    go_simp
    with_reducible rfl
   rotate_left
   ·simp only [Act.put,List.setIfInBounds_toArray,List.set_cons_zero,List.set_cons_succ,i64_w,i32_w]
    rfl
   refine pure_ (i:=5) (N:=some 24) (v:=?_) (a':=?_) #[true,true,true,true,true,true,false,false,false,false,false,false,false,false,false,false,false,false,false,false] rfl rfl (by kernel_rfl) (fun _ _ _ h=>h) (Or.inl ⟨by first|rfl|exact wanted_on rfl rfl rfl (by rfl),?_⟩) ?_ ?_
   rotate_left
   ·intro w'
    go_simp
    with_reducible rfl
   rotate_left
   ·simp only [Act.put,List.setIfInBounds_toArray,List.set_cons_zero,List.set_cons_succ,i64_w,i32_w]
    rfl
   refine pure_ (i:=6) (N:=some 25) (v:=?_) (a':=?_) #[true,true,true,true,true,true,true,false,false,false,false,false,false,false,false,false,false,false,false,false] rfl rfl (by kernel_rfl) (fun _ _ _ h=>h) (Or.inl ⟨by first|rfl|exact wanted_on rfl rfl rfl (by rfl),?_⟩) ?_ ?_
   rotate_left
   ·intro w'
    go_simp
    try rw [q]
    with_reducible rfl
   rotate_left
   ·simp only [Act.put,List.setIfInBounds_toArray,List.set_cons_zero,List.set_cons_succ,i64_w,i32_w]
    rfl
   refine pure_ (i:=7) (N:=some 26) (v:=?_) (a':=?_) #[true,true,true,true,true,true,true,true,false,false,false,false,false,false,false,false,false,false,false,false] rfl rfl (by kernel_rfl) (fun _ _ _ h=>h) (Or.inl ⟨by first|rfl|exact wanted_on rfl rfl rfl (by rfl),?_⟩) ?_ ?_
   rotate_left
   ·intro w'
    go_simp
    with_reducible rfl
   rotate_left
   ·simp only [Act.put,List.setIfInBounds_toArray,List.set_cons_zero,List.set_cons_succ,i64_w,i32_w]
    rfl
   refine pure_ (i:=8) (N:=some 27) (v:=?_) (a':=?_) #[true,true,true,true,true,true,true,true,true,false,false,false,false,false,false,false,false,false,false,false] rfl rfl (by kernel_rfl) (fun _ _ _ h=>h) (Or.inl ⟨by first|rfl|exact wanted_on rfl rfl rfl (by rfl),?_⟩) ?_ ?_
   rotate_left
   ·intro w'
    go_simp
    with_reducible rfl
   rotate_left
   ·simp only [Act.put,List.setIfInBounds_toArray,List.set_cons_zero,List.set_cons_succ,i64_w,i32_w]
    rfl
   refine pure_ (i:=9) (N:=some 28) (v:=?_) (a':=?_) #[true,true,true,true,true,true,true,true,true,true,false,false,false,false,false,false,false,false,false,false] rfl rfl (by kernel_rfl) (fun _ _ _ h=>h) (Or.inl ⟨by first|rfl|exact wanted_on rfl rfl rfl (by rfl),?_⟩) ?_ ?_
   rotate_left
   ·intro w'
    go_simp
    with_reducible rfl
   rotate_left
   ·simp only [Act.put,List.setIfInBounds_toArray,List.set_cons_zero,List.set_cons_succ,i64_w,i32_w]
    rfl
   refine pure_ (i:=10) (N:=some 29) (v:=?_) (a':=?_) #[true,true,true,true,true,true,true,true,true,true,true,false,false,false,false,false,false,false,false,false] rfl rfl (by kernel_rfl) (fun _ _ _ h=>h) (Or.inl ⟨by first|rfl|exact wanted_on rfl rfl rfl (by rfl),?_⟩) ?_ ?_
   rotate_left
   ·intro w'
    go_simp
    with_reducible rfl
   rotate_left
   ·simp only [Act.put,List.setIfInBounds_toArray,List.set_cons_zero,List.set_cons_succ,i64_w,i32_w]
    rfl
   refine take_ (i:=11) (N:=some 30) (v:=?_) (a':=?_) #[true,true,true,true,true,true,true,true,true,true,true,true,false,false,false,false,false,false,false,false] rfl rfl (by kernel_rfl) (fun _ _ _ h=>h) (Or.inl ⟨by first|rfl|exact wanted_on rfl rfl rfl (by rfl),?_⟩) hHeld ?_ ?_
   rotate_left
   ·rintro w' ⟨s0,s1,s2,s3,s4,s5⟩
    go_simp
    with_reducible rfl
   rotate_left
   ·simp only [Act.put,List.setIfInBounds_toArray,List.set_cons_zero,List.set_cons_succ,i64_w,i32_w]
    rfl
   refine pure_ (i:=13) (N:=some 32) (v:=?_) (a':=?_) #[true,true,true,true,true,true,true,true,true,true,true,true,false,true,false,false,false,false,false,false] rfl rfl (by kernel_rfl) (fun _ _ _ h=>h) (Or.inl ⟨by first|rfl|exact wanted_on rfl rfl rfl (by rfl),?_⟩) ?_ ?_
   rotate_left
   ·intro w'
    go_simp
    with_reducible rfl
   rotate_left
   ·simp only [Act.put,List.setIfInBounds_toArray,List.set_cons_zero,List.set_cons_succ,i64_w,i32_w]
    rfl
   refine pure_ (i:=14) (N:=some 33) (v:=?_) (a':=?_) #[true,true,true,true,true,true,true,true,true,true,true,true,false,true,true,false,false,false,false,false] rfl rfl (by kernel_rfl) (fun _ _ _ h=>h) (Or.inl ⟨by first|rfl|exact wanted_on rfl rfl rfl (by rfl),?_⟩) ?_ ?_
   rotate_left
   ·intro w'
    go_simp
    with_reducible rfl
   rotate_left
   ·simp only [Act.put,List.setIfInBounds_toArray,List.set_cons_zero,List.set_cons_succ,i64_w,i32_w]
    rfl
   refine pure_ (i:=15) (N:=some 34) (v:=?_) (a':=?_) #[true,true,true,true,true,true,true,true,true,true,true,true,false,true,true,true,false,false,false,false] rfl rfl (by kernel_rfl) (fun _ _ _ h=>h) (Or.inl ⟨by first|rfl|exact wanted_on rfl rfl rfl (by rfl),?_⟩) ?_ ?_
   rotate_left
   ·intro w'
    go_simp
    with_reducible rfl
   rotate_left
   ·simp only [Act.put,List.setIfInBounds_toArray,List.set_cons_zero,List.set_cons_succ,i64_w,i32_w]
    rfl
   refine take_ (i:=16) (N:=some 35) (v:=?_) (a':=?_) #[true,true,true,true,true,true,true,true,true,true,true,true,false,true,true,true,true,false,false,false] rfl rfl (by kernel_rfl) (fun _ _ _ h=>h) (Or.inl ⟨by first|rfl|exact wanted_on rfl rfl rfl (by rfl),?_⟩) hHeld ?_ ?_
   rotate_left
   ·rintro w' ⟨s0,s1,s2,s3,s4,s5⟩
    go_simp
    with_reducible rfl
   rotate_left
   ·simp only [Act.put,List.setIfInBounds_toArray,List.set_cons_zero,List.set_cons_succ,i64_w,i32_w]
    rfl
   refine one_ (i:=12) (N:=some 31) #[true,true,true,true,true,true,true,true,true,true,true,true,true,true,true,true,true,false,false,false] rfl rfl (by kernel_rfl) (by decide) (fun K_ hK=>?_)
   refine goes_ Tryz.func21 (by kernel_rfl) rfl #[.agg #[.slice B0 x.f0.length e0,.bool x.f1.f0,.int .i64 x.f1.f1,.int .i64 x.f2,.bool x.f3,.int .i64 x.f4]] (by rfl) rfl rfl (by (try simp only [List.map_toArray,List.map_cons,List.map_nil]);first|done|rfl) ?_
   refine (hic w2 HB2.out).mono ?_
   rintro e w3 ⟨rfl,hb3⟩
   refine ⟨_,rfl,?_⟩
   have HB3:=Aside0.mk (below_step HB2.out hb3)
   clear hb3 HB2
   refine hK.out _ _ ⟨(HYW.out.below rfl HB3.out).c0,(HYW.out.below rfl HB3.out).c1,(HYW.out.below rfl HB3.out).c2,(HYW.out.below rfl HB3.out).c3,(HYW.out.below rfl HB3.out).c4,(HYW.out.below rfl HB3.out).c5⟩ (fun hHeld=>?_)
   clear hK
   refine norm_ (a':=?_) ?_ ?_
   rotate_left
   ·show Act.put _ (some 31) _ = _
    simp only [Act.put,List.setIfInBounds_toArray,List.set_cons_zero,List.set_cons_succ,i64_w,i32_w]
    rfl
   refine one_ (i:=17) (N:=some 36) #[true,true,true,true,true,true,true,true,true,true,true,true,true,true,true,true,true,true,false,false] rfl rfl (by kernel_rfl) (by decide) (fun K_ hK=>?_)
   refine goes_ Tryz.func22 (by kernel_rfl) rfl #[.agg #[.slice B0 x.f0.length e0,.bool x.f1.f0,.int .i64 x.f1.f1,.int .i64 x.f2,.bool x.f3,.int .i64 x.f4]] (by rfl) rfl rfl (by (try simp only [List.map_toArray,List.map_cons,List.map_nil]);first|done|rfl) ?_
   refine (hrc w3 HB3.out).mono ?_
   rintro e w4 ⟨rfl,hb4⟩
   refine ⟨_,rfl,?_⟩
   have HB4:=Aside0.mk (below_step HB3.out hb4)
   clear hb4 HB3
   refine hK.out _ _ ⟨(HYW.out.below rfl HB4.out).c0,(HYW.out.below rfl HB4.out).c1,(HYW.out.below rfl HB4.out).c2,(HYW.out.below rfl HB4.out).c3,(HYW.out.below rfl HB4.out).c4,(HYW.out.below rfl HB4.out).c5⟩ (fun hHeld=>?_)
   clear hK
   refine norm_ (a':=?_) ?_ ?_
   rotate_left
   ·show Act.put _ (some 36) _ = _
    simp only [Act.put,List.setIfInBounds_toArray,List.set_cons_zero,List.set_cons_succ,i64_w,i32_w]
    rfl
   refine pure_ (i:=18) (N:=some 37) (v:=?_) (a':=?_) #[true,true,true,true,true,true,true,true,true,true,true,true,true,true,true,true,true,true,true,false] rfl rfl (by kernel_rfl) (fun _ _ _ h=>h) (Or.inl ⟨by first|rfl|exact wanted_on rfl rfl rfl (by rfl),?_⟩) ?_ ?_
   rotate_left
   ·intro w'
    go_simp
    with_reducible rfl
   rotate_left
   ·simp only [Act.put,List.setIfInBounds_toArray,List.set_cons_zero,List.set_cons_succ,i64_w,i32_w]
    rfl
   refine pure_ (i:=19) (N:=some 38) (v:=?_) (a':=?_) #[true,true,true,true,true,true,true,true,true,true,true,true,true,true,true,true,true,true,true,true] rfl rfl (by kernel_rfl) (fun _ _ _ h=>h) (Or.inl ⟨by first|rfl|exact wanted_on rfl rfl rfl (by rfl),?_⟩) ?_ ?_
   rotate_left
   ·intro w'
    go_simp
    with_reducible rfl
   rotate_left
   ·simp only [Act.put,List.setIfInBounds_toArray,List.set_cons_zero,List.set_cons_succ,i64_w,i32_w]
    rfl
   refine done_ (by kernel_rfl) ?_
   clear hHeld
   obtain ⟨y0,y1,y2,y3,y4,y5⟩:=HYW.out.below rfl HB4.out
   cases al with
   | true =>
    go_wp2_with (fail)
    refine (hic w4 HB4.out).mono ?_
    rintro e w5 ⟨rfl,hb5⟩
    have HB5:=Aside0.mk (below_step HB4.out hb5)
    clear hb5
    go_wp2_with (fail)
    go_roundg (l.length - (i + 1))
    case measure=>omega
    case rel=>exact ⟨i + 1,by rw [HTA.out];rfl,by rw [hw],by omega,⟨by omega⟩,HTL,HB5⟩
   | false =>
    go_wp2_with (fail)
    go_roundg (l.length - (i + 1))
    case measure=>omega
    case rel=>exact ⟨i + 1,by rw [HTA.out];rfl,by rw [hw],by omega,⟨by omega⟩,HTL,HB4⟩
 obtain rfl : i = l.length:=by have:=HI.out;omega
 have hltz : ¬ ((l.length : Int) < (l.length : Int)):=by omega
 rw [List.take_length]
 have hq:=HQ.out
 rw [List.take_length] at hq
 have HOL : Aside0 (okL l):=⟨⟨HS.out,fun x hx=>⟨⟨by have:=hq x hx;omega,(HOK.out x hx).1⟩,(HOK.out x hx).2⟩⟩⟩
 have hpc:=fun W_ h=>expoPrint_calls A0 c0 l W_ (LaidW.below HG.out h) (Kd.C_below HL.out h) HC.out HOL.out
 have hrc:=fun W_ h=>refPrint_calls A0 c0 l W_ (Kd.C_below HL.out h) HC.out HOL.out
 rw [runE_runP] at hpc
 have hpb:=parse_back l (fun x hx=>(HOK.out x hx).2)
 have hal : l.all isScr = false → runP [] [] l = []:=fun h=>runP_bad l [] [] (fun h2=>by
  rw [List.all_eq_false] at h
  obtain ⟨x,hx,hx2⟩:=h
  exact hx2 (h2 x hx).1)
 have hsr:=sames_refl l 12 (by omega) (by have:=HS.out;omega) hq 4000 (by have:=HS.out;omega)
 have HSR:=Aside0.mk hsr
 have hdt : (ofL (runP [] [] l)).data.toList = runP [] [] l:=rfl
 have hsz : (ofL (runP [] [] l)).size = (runP [] [] l).length:=ofL_size _
 generalize l.all isScr = al at hal ⊢
 generalize runP [] [] l = T at *
 clear hq HQ hlt hgg hsr HI
 go_wp2_with (fail)
 refine (hpc wr HB.out).mono ?_
 rintro e2 w2 ⟨rfl,hb2⟩
 have HB2:=Aside0.mk (below_step HB.out hb2)
 clear hpc hb2 HB hdt
 go_wp2_with (fail)
 refine (hrc w2 HB2.out).mono ?_
 rintro e3 w3 ⟨rfl,hb3⟩
 have HB3:=Aside0.mk (below_step HB2.out hb3)
 clear hrc hb3 HB2
 cases al with
 | false =>
  clear hal hpb hsz
  go_wp2_with (fail)
  go_ret
  exact ⟨rfl,HB3.out⟩
 | true =>
  clear hal
  by_cases h0 : T = []
  ·subst h0
   clear hpb hsz
   have z0 : ((ofL []).toList == []) = true:=by rw [ByteArray.toList_eq];rfl
   generalize ofL [] = t at z0 ⊢
   go_wp2_with (fail)
   go_ret
   exact ⟨rfl,HB3.out⟩
  have z0 : ((ofL T).toList == []) = false:=by
   rw [beq_eq_false_iff_ne,ByteArray.toList_eq]
   exact h0
  by_cases h1 : T.length ≤ 3000
  ·have z1 : decide ((3000 : Int) < ((ofL T).size : Int)) = false:=decide_eq_false (by omega)
   have z2 : decide (3000 < (ofL T).size) = false:=decide_eq_false (by omega)
   have hp:=expo_Parse.calls (ofL T) l [] w3 (LaidW.below HG.out HB3.out) (hpb h0 h1)
   clear hpb hsz h0 h1
   generalize ofL T = t at z0 z1 z2 hp ⊢
   go_wp2_with (fail)
   refine hp.mono ?_
   rintro e4 w4 ⟨v0,v1,rfl,hS0,hR1,hb4⟩
   obtain ⟨A2,c2,rfl⟩:=Kd.S_slice hS0
   obtain ⟨A1,c1,rfl⟩:=Kd.R_slice hR1
   have HB4:=Aside0.mk (below_step HB3.out hb4)
   have HC0:=Aside0.mk (Kd.S_reads' hS0).2
   have hsc:=spillwaylaw6_sames.calls 4000 A0 c0 l A2 c2 l true w4 (Kd.C_below HL.out HB4.out) HC.out HC0.out.2 HC0.out.1 HSR.out
   clear hp hS0 hR1 hb4 HB3
   simp only [List.length_nil]
   go_wp2_with (fail)
   refine hsc.mono ?_
   rintro e5 w5 ⟨rfl,hb5⟩
   have HB5:=Aside0.mk (below_step HB4.out hb5)
   clear hsc hb5
   go_wp2_with (fail)
   go_ret
   exact ⟨rfl,HB5.out⟩
  have z1 : decide ((3000 : Int) < ((ofL T).size : Int)) = true:=decide_eq_true (by omega)
  have z2 : decide (3000 < (ofL T).size) = true:=decide_eq_true (by omega)
  clear hpb hsz h0 h1
  generalize ofL T = t at z0 z1 z2 ⊢
  go_wp2_with (fail)
  go_ret
  exact ⟨rfl,HB3.out⟩
end Go.Proofs.YtfgffjchphignaaGreatDoor.Print
end
section
namespace Go.Proofs.YtfgffjchphignaaGreatDoor.Opn
open Go.ChangeShapes Go.WideShapes Go.RowKit
open Go.Proofs.YtfgffjchphignaaGreatDoorW.PrintWords Go.Proofs.YtfgffjchphignaaGreatDoor.Print
/-- What can be read as type e is a value of the kind d of which ok holds. -/
def Opens {α : Type} (d : Kd α) (e : TypeId) (ok : α → Prop) (W : World) : Prop :=
 Tryz.prog.cellsOf e = d.sz ∧ ∀ {H : Type} {enc : TypeId × Value → H} {sp : Nat → Bool} {held : Bool} {n : Nat} {cs : List Value} {y : DataW H × List MemPlace},DataW.trod enc Tryz.prog W 0 sp held n e cs = some y → cs.length = d.sz → ∃ x,d.K W x cs ∧ ok x
theorem opens_row {α : Type} [Inhabited α] {d : Kd α} {t e : TypeId} {ok : α → Prop} {W : World} (ht : Tryz.prog.underlying t = some (.slice e)) (ho : Opens d e ok W) {H : Type} {enc : TypeId × Value → H} {sp : Nat → Bool} {held : Bool} {n : Nat} {cs : List Value} {y : DataW H × List MemPlace} (h : DataW.trod enc Tryz.prog W 0 sp held n t cs = some y) :
  ∃ (A : Option Addr) (c : Nat) (xs : List α),cs = [.slice A xs.length c] ∧ xs.length ≤ c ∧ Kd.C d W A xs.length xs ∧ ∀ x ∈ xs,ok x:=by
 rcases Go.Deep.open_slice ht h with ⟨rfl,_⟩|⟨a,len,cap,m,k,D,Pl,rfl,hb,hl,hm,hmm,rfl,hx⟩
 ·exact ⟨none,0,[],rfl,Nat.le_refl _,⟨rfl,by simp,fun h=>absurd h (by simp)⟩,by simp⟩
 have hlm : len ≤ m:=by rw [hmm];split <;> omega
 have each : ∀ i,i < len → ∃ x : α,ok x ∧ ∃ c : List Value,c.length = d.sz ∧ d.K W x c ∧ ∀ j u,c[j]? = some u → W.cell? (a.add (i * d.sz + j)) = some u:=by
  intro i hi
  obtain ⟨cs',h1,h2⟩:=hx i (by omega)
  obtain ⟨_,hlen,hcell⟩:=World.cells?_some h1
  obtain ⟨x,hk,hok⟩:=ho.2 h2 (by rw [hlen,ho.1])
  refine ⟨x,hok,cs',by rw [hlen,ho.1],hk,fun j u hu=>?_⟩
  have hj : j < Tryz.prog.cellsOf e:=by rw [← hlen];exact (List.getElem?_eq_some_iff.1 hu).1
  have:=hcell j hj
  rw [hu,ho.1,add_add] at this
  exact this
 obtain ⟨f,hf⟩:=Go.Deep.choose_lt each
 refine ⟨some a,cap,(List.range len).map f,by simp,by simp [hl],⟨rfl,by simp;unfold maxLen at hm;omega,fun _=>⟨a,rfl,fun j p hj=>?_⟩⟩,fun x hx=>?_⟩
 ·have hj1 : j < len:=by simpa using (List.getElem?_eq_some_iff.1 hj).1
  obtain rfl : f j = p:=by simpa [hj1] using hj
  obtain ⟨_,c,h1,h2,h3⟩:=hf j hj1
  exact ⟨c,h1,h2,h3⟩
 obtain ⟨i,hi,rfl⟩:=List.mem_map.1 hx
 exact (hf i (List.mem_range.1 hi)).1
theorem c9 : Tryz.prog.cellsOf 9 = 1:=by kernel_rfl
theorem c4 : Tryz.prog.cellsOf 4 = 1:=by kernel_rfl
theorem c3 : Tryz.prog.cellsOf 3 = 1:=by kernel_rfl
theorem c2 : Tryz.prog.cellsOf 2 = 1:=by kernel_rfl
theorem c30 : Tryz.prog.cellsOf 30 = 1:=by kernel_rfl
theorem c32 : Tryz.prog.cellsOf 32 = 2:=by kernel_rfl
set_option maxRecDepth 100000 in
theorem opens60 (W : World) : Opens k60 60 (fun x=>x.f0.size ≤ 9223372036854775807 ∧ x.f1.size ≤ 9223372036854775807) W:=by
 refine ⟨by kernel_rfl,?_⟩
 intro H enc sp held n cs y h hl
 obtain ⟨ys,k,rfl,hxy,hlen,hxl,hg⟩:=DataW.trod_struct Tryz.underlying60 h
 match cs,hl,ys,hxl with
 | [v0,v1],_,[y0,y1],_ =>
  have g0:=hg 0 _ rfl
  have g1:=hg 1 _ rfl
  simp [c9] at g0 g1
  obtain ⟨s0,e0,_,w0⟩:=DataW.trod_string Tryz.underlying9 g0
  obtain ⟨s1,e1,_,w1⟩:=DataW.trod_string Tryz.underlying9 g1
  simp at e0 e1
  subst e0 e1
  exact ⟨⟨s0,s1⟩,⟨[.string s0],[.string s1],rfl,rfl,rfl⟩,by unfold maxLen at w0;omega,by unfold maxLen at w1;omega⟩
instance : Inhabited S60:=⟨z60⟩
instance : Inhabited S34:=⟨z34⟩
set_option maxRecDepth 100000 in
theorem opens34 (W : World) : Opens k34 34 (fun x=>(∀ z ∈ x.f0,z.f0.size ≤ 9223372036854775807 ∧ z.f1.size ≤ 9223372036854775807) ∧ -9223372036854775808 ≤ x.f1.f1 ∧ x.f1.f1 ≤ 9223372036854775807) W:=by
 refine ⟨by kernel_rfl,?_⟩
 intro H enc sp held n cs y h hl
 obtain ⟨ys,k,rfl,hxy,hlen,hxl,hg⟩:=DataW.trod_struct Tryz.underlying34 h
 match cs,hl,ys,hxl with
 | [v0,v1,v2,v3,v4,v5],_,[y0,y1,y2,y3,y4],_ =>
  have g0:=hg 0 _ rfl
  have g1:=hg 1 _ rfl
  have g2:=hg 2 _ rfl
  have g3:=hg 3 _ rfl
  have g4:=hg 4 _ rfl
  simp [c30,c32,c3,c4] at g0 g1 g2 g3 g4
  obtain ⟨A,c,xs,e0,hlc,hC,hall⟩:=opens_row Tryz.underlying30 (opens60 W) g0
  simp at e0
  subst e0
  obtain ⟨ys1,k1,_,_,_,hxl1,hg1⟩:=DataW.trod_struct Tryz.underlying32 g1
  match ys1,hxl1 with
  | [z0,z1],_ =>
   have m0:=hg1 0 _ rfl
   have m1:=hg1 1 _ rfl
   simp [c4,c2] at m0 m1
   obtain ⟨b,e1,_⟩:=DataW.trod_bool Tryz.underlying4 m0
   obtain ⟨m,e2,_,wm⟩:=DataW.trod_int Tryz.underlying2 m1
   obtain ⟨t,e3,_,wt⟩:=DataW.trod_int Tryz.underlying3 g2
   obtain ⟨hh,e4,_⟩:=DataW.trod_bool Tryz.underlying4 g3
   obtain ⟨kd,e5,_,wk⟩:=DataW.trod_int Tryz.underlying3 g4
   simp at e1 e2 e3 e4 e5
   subst e1 e2 e3 e4 e5
   refine ⟨⟨xs,⟨b,m⟩,t,hh,kd⟩,⟨[.slice A xs.length c],[.bool b,.int .i64 m,.int .i64 t,.bool hh,.int .i64 kd],rfl,⟨A,c,rfl,hlc,hC⟩,⟨[.bool b,.int .i64 m],[.int .i64 t,.bool hh,.int .i64 kd],rfl,⟨[.bool b],[.int .i64 m],rfl,rfl,rfl⟩,⟨[.int .i64 t],[.bool hh,.int .i64 kd],rfl,rfl,⟨[.bool hh],[.int .i64 kd],rfl,rfl,rfl⟩⟩⟩⟩,hall,?_⟩
   simpa [Lit.wf,IntKind.min,IntKind.max,IntKind.signed,IntKind.bits] using wm
/-- A row of samples that came in. -/
theorem open_scraped {H : Type} {enc : TypeId × Value → H} {W : World} {sp : Nat → Bool} {held : Bool} {A : Option Addr} {len cap : Nat} {d : DataW H} {ps : List MemPlace} (h : DataW.Trod enc Tryz.prog W 0 sp held 23 (.slice A len cap) d ps) :
  ∃ xs : List S34,xs.length = len ∧ len ≤ cap ∧ Kd.C k34 W A xs.length xs ∧ ∀ x ∈ xs,(∀ z ∈ x.f0,z.f0.size ≤ 9223372036854775807 ∧ z.f1.size ≤ 9223372036854775807) ∧ -9223372036854775808 ≤ x.f1.f1 ∧ x.f1.f1 ≤ 9223372036854775807:=by
 obtain ⟨fuel,hf⟩:=h
 obtain ⟨A1,c1,xs,e,hlc,hC,hall⟩:=opens_row Tryz.underlying23 (opens34 W) hf
 simp only [Value.cells,List.cons.injEq,Value.slice.injEq,and_true] at e
 obtain ⟨rfl,rfl,rfl⟩:=e
 exact ⟨xs,rfl,hlc,hC,hall⟩
end Go.Proofs.YtfgffjchphignaaGreatDoor.Opn
end
