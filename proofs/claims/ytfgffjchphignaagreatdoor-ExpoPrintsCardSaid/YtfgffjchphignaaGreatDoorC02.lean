/- A part of the proof of ExpoPrints: what the functions that the law reaches come to. -/
import Derived.Test.YtfgffjchphignaaGreatDoorC01
set_option linter.unusedVariables false
set_option linter.unusedSimpArgs false
section
namespace Go.Proofs.YtfgffjchphignaaGreatDoor.Print
open Go.Sort Go.Shelf PureN
open Go.RowKit Go.Proofs.YtfgffjchphignaaGreatDoorX Go.Proofs.YtfgffjchphignaaGreatDoorW.PrintWords Go.Proofs.YtfgffjchphignaaGreatDoorW.PrintLast Go.Proofs.YtfgffjchphignaaGreatDoorW.PrintMore
/-! label.Make, at no pair; the contract. -/
theorem idx_none (p : Option Addr) (c : Nat) (fv : Value) (w : World) :
  Calls Tryz.prog 131 #[.slice p 0 c,fv] w fun e w'=>e = .returned (.int .i64 (-1)) ∧ w' = w:=by
 go_enter Tryz.func131,Tryz.ntmps131
 go_wp2
 refine wp_loop_rounds 1 ?_
 rw [rounds_succ]
 go_wp2
 go_ret
 exact ⟨rfl,rfl⟩
theorem del_none (p : Option Addr) (c : Nat) (fv : Value) (w : World) :
  Calls Tryz.prog 97 #[.slice p 0 c,fv] w fun e w'=>e = .returned (.slice p 0 c) ∧ w' = w:=by
 have hcon:=fun fv W=>idx_none p c fv W
 go_enter Tryz.func97,Tryz.ntmps97
 go_wp2_with (go_at_call 131;refine (hcon _ _).mono ?_;rintro e w' ⟨rfl,rfl⟩)
 go_ret
 exact ⟨rfl,rfl⟩
theorem readsNil (w : World) (A : Option Addr) : Kd.C k60 w A ([] : List S60).length []:=⟨rfl,by simp,fun h=>absurd h (by simp)⟩
theorem make_empty (p : Option Addr) (c : Nat) (w : World) :
  Calls Tryz.prog 60 #[.slice p 0 c] w fun e w'=>∃ v,e = .returned (.tuple #[v,.int .i64 0]) ∧ Kd.R k60 60 w' w.heap.size (fun _=>True) v [] ∧ Below w.heap.size w w':=by
 have hcl:=clone_empty p c w
 have h1:=fun q fv W=>sst_none q 0 fv W
 have h2:=fun q fv W=>del_none q 0 fv W
 have h3:=fun q W=>label_Is.calls q 0 [] true W (readsNil W q) (Nat.le_refl _) rfl
 go_enter Tryz.func60,Tryz.ntmps60
 go_wp2_with (fail)
 refine hcl.mono ?_
 rintro e w1 ⟨hb,hcase⟩
 rcases hcase with ⟨rfl,rfl⟩|⟨g,rfl,hg,hh⟩
 ·go_wp2_with (go_at_call 95;refine (h1 _ _ _).mono ?_;rintro e w' ⟨rfl,rfl⟩)
  refine wp_loop_rounds 1 ?_
  rw [rounds_succ]
  go_wp2_with (first|(go_at_call 97;refine (h2 _ _ _).mono ?_;rintro e w' ⟨rfl,rfl⟩)|(go_at_call 48;refine (h3 _ _).mono ?_;rintro e w' ⟨rfl,hb2⟩))
  go_ret2
  exact ⟨_,rfl,Kd.R_nil _ _ _ _ _,below_step hb hb2⟩
 have HH:=Aside0.mk hh
 clear hh
 go_wp2_with (go_at_call 95;refine (h1 _ _ _).mono ?_;rintro e w' ⟨rfl,rfl⟩)
 refine wp_loop_rounds 1 ?_
 rw [rounds_succ]
 go_wp2_with (first|(go_at_call 97;refine (h2 _ _ _).mono ?_;rintro e w' ⟨rfl,rfl⟩)|(go_at_call 48;refine (h3 _ _).mono ?_;rintro e w' ⟨rfl,hb2⟩))
 go_ret2
 have hR:=RowP.mk (w:=_) (blk:=g) (cap:=0) (xs:=[]) ⟨#[],HH.out,rfl,rfl,Nat.le_refl _⟩
 exact ⟨_,rfl,Kd.R_below (hR.toR hg (by unfold maxLen;omega)) hb2,below_step hb hb2⟩
theorem names_uniq : ∀ (a b : List Pr),a.Perm b → a.Pairwise LeP → b.Pairwise LeP → a.map (·.1) = b.map (·.1)
 | [],b,h,_,_=>by rw [List.nil_perm.1 h]
 | x :: a,[],h,_,_=>by simpa using h.length_eq
 | x :: a,y :: b,h,g,k=>by
  have g':=List.pairwise_cons.1 g
  have k':=List.pairwise_cons.1 k
  have hxy : ltL y.1 x.1 = false:=by
   rcases List.mem_cons.1 (h.mem_iff.2 (List.mem_cons_self (a:=y) (l:=b))) with e|e
   ·rw [e];exact ltL_irr _
   exact g'.1 y e
  have hyx : ltL x.1 y.1 = false:=by
   rcases List.mem_cons.1 (h.mem_iff.1 (List.mem_cons_self (a:=x) (l:=a))) with e|e
   ·rw [e];exact ltL_irr _
   exact k'.1 x e
  have e1 : x.1 = y.1:=by
   rcases ltL_total x.1 y.1 with e|e|e
   ·rw [e] at hyx;exact absurd hyx (by simp)
   ·exact e
   rw [e] at hxy;exact absurd hxy (by simp)
  by_cases hx : x = y
  ·subst hx
   rw [List.map_cons,List.map_cons,names_uniq a b (List.Perm.cons_inv h) g'.2 k'.2]
  have hxb : x ∈ b:=by
   rcases List.mem_cons.1 (h.mem_iff.1 (List.mem_cons_self (a:=x) (l:=a))) with e|e
   ·exact absurd e hx
   exact e
  obtain ⟨b1,b2,rfl⟩:=List.append_of_mem hxb
  -- all names up to there are alike
  have hall : ∀ z ∈ y :: b1,z.1 = x.1:=fun z hz=>by
   rcases List.mem_cons.1 hz with rfl|hz
   ·exact e1.symm
   have h1:=k'.1 z (List.mem_append_left _ hz)
   have h2:=(List.pairwise_append.1 k'.2).2.2 z hz x List.mem_cons_self
   unfold LeP at h1 h2
   rcases ltL_total z.1 x.1 with e|e|e
   ·rw [← e1] at h1
    rw [e] at h1
    exact absurd h1 (by simp)
   ·exact e
   rw [e] at h2;exact absurd h2 (by simp)
  have hp : (x :: a).Perm (x :: (y :: (b1 ++ b2))):=h.trans (by
   have : (y :: (b1 ++ x :: b2)) = (y :: b1) ++ x :: b2:=rfl
   rw [this]
   exact List.perm_middle)
  have hs : (y :: (b1 ++ b2)).Pairwise LeP:=by
   have : (y :: (b1 ++ x :: b2)) = (y :: b1) ++ x :: b2:=rfl
   rw [this] at k
   have hsub : ((y :: b1) ++ b2).Sublist ((y :: b1) ++ x :: b2):=List.Sublist.append (List.Sublist.refl _) (List.sublist_cons_self _ _)
   exact k.sublist hsub
  have ih:=names_uniq a (y :: (b1 ++ b2)) (List.Perm.cons_inv hp) g'.2 hs
  rw [List.map_cons,ih]
  have hrep : ∀ l : List Pr,(∀ z ∈ l,z.1 = x.1) → l.map (·.1) = List.replicate l.length x.1:=fun l hl=>by
   rw [List.eq_replicate_iff]
   exact ⟨by simp,fun u hu=>by obtain ⟨z,hz,rfl⟩:=List.mem_map.1 hu;exact hl z hz⟩
  have h1:=hrep (y :: b1) hall
  have e3 : (y :: (b1 ++ b2)).map (·.1) = List.replicate (b1.length + 1) x.1 ++ b2.map (·.1):=by
   have : (y :: (b1 ++ b2)) = (y :: b1) ++ b2:=rfl
   rw [this,List.map_append,h1]
   rfl
  have e4 : (y :: (b1 ++ x :: b2)).map (·.1) = List.replicate (b1.length + 1) x.1 ++ x.1 :: b2.map (·.1):=by
   have : (y :: (b1 ++ x :: b2)) = (y :: b1) ++ x :: b2:=rfl
   rw [this,List.map_append,h1]
   rfl
  rw [e3,e4]
  rw [← List.singleton_append (l:=b2.map (·.1)),← List.append_assoc,← List.replicate_succ',List.replicate_succ]
  rfl
theorem dup_names : ∀ (a b : List Pr),a.map (·.1) = b.map (·.1) → dupP a = dupP b
 | [],[],_=>rfl
 | [],_ :: _,h=>by simp at h
 | _ :: _,[],h=>by simp at h
 | [x],[y],_=>rfl
 | [x],_ :: _ :: _,h=>by simp at h
 | _ :: _ :: _,[y],h=>by simp at h
 | x :: x2 :: a,y :: y2 :: b,h=>by
  simp only [List.map_cons,List.cons.injEq] at h
  rw [dupP,dupP,h.1,h.2.1,dup_names (x2 :: a) (y2 :: b) (by simp only [List.map_cons,h.2.1,h.2.2])]
theorem nodup_lt : ∀ (a : List Pr),a.Pairwise LeP → dupP a = false → a.Pairwise LtP
 | [],_,_=>List.Pairwise.nil
 | [x],_,_=>by simp
 | x :: y :: a,h,hd=>by
  rw [dupP,Bool.or_eq_false_iff,beq_eq_false_iff_ne] at hd
  have h':=List.pairwise_cons.1 h
  have ih:=nodup_lt (y :: a) h'.2 hd.2
  have hxy : LtP x y:=by
   have:=h'.1 y List.mem_cons_self
   unfold LeP at this
   rcases ltL_total x.1 y.1 with e|e|e
   ·exact e
   ·exact absurd e hd.1
   rw [e] at this;exact absurd this (by simp)
  refine List.pairwise_cons.2 ⟨fun z hz=>?_,ih⟩
  rcases List.mem_cons.1 hz with rfl|hz
  ·exact hxy
  exact ltL_trans _ _ _ hxy ((List.pairwise_cons.1 ih).1 z hz)
/-- What Make tells. -/
def mkP (l : List Pr) : List S60 × Int :=
 if dupP (sortP l) then ([],31) else if isS ((sortP l).filter fun p=>!(p.2 == [])) then (((sortP l).filter fun p=>!(p.2 == [])).map ofPr,0) else ([],30)
theorem mkT_mkP (xs : List S60) : mkT (insP0 xs) = mkP (xs.map pr):=by
 have hp : ((insP0 xs).map pr).Perm (sortP (xs.map pr)):=((insP0_perm xs).map pr).trans (sortP_perm _).symm
 have hs:=insP0_sorted xs
 have hd:=dup_names _ _ (names_uniq _ _ hp hs (sortP_sorted _))
 unfold mkT mkP
 rw [← hd]
 cases h : dupP ((insP0 xs).map pr) with
 | true=>rfl
 | false =>
  have e : sortP (xs.map pr) = (insP0 xs).map pr:=sortP_eq _ _ (((insP0_perm xs).map pr).symm) (nodup_lt _ hs h)
  have e2 : ((insP0 xs).filter fun x=>!pE x).map pr = ((insP0 xs).map pr).filter fun p=>!(p.2 == []):=by
   rw [List.filter_map]
   rfl
  have e3 : ∀ l : List S60,(l.map pr).map ofPr = l:=fun l=>by rw [List.map_map];exact List.map_id _
  rw [e,← e2,e3]
theorem mk_err (l : List Pr) : (makeL l = none ∧ ((mkP l).2 = 31 ∨ (mkP l).2 = 30) ∧ (mkP l).1 = []) ∨ ∃ out,makeL l = some out ∧ mkP l = (out.map ofPr,0):=by
 unfold makeL mkP
 split
 ·exact .inl ⟨rfl,.inl rfl,rfl⟩
 split
 ·exact .inr ⟨_,rfl,rfl⟩
 exact .inl ⟨rfl,.inr rfl,rfl⟩
def label_Make.f (l : List S60) : Option (List S60 × Int):=if l.length ≤ 19 ∧ (∀ x ∈ l,x.f0.size ≤ 9223372036854775807) then some (mkP (l.map pr)) else none
theorem label_Make.calls (A : Option Addr) (c : Nat) (l : List S60) (r1 : List S60) (r2 : Int) (w : World) (hr : Kd.C k60 w A l.length l) (hc : l.length ≤ c) (h : label_Make.f l = some (r1,r2)) :
  Calls Tryz.prog 60 #[.slice A l.length c] w fun e w'=>∃ v0_ : Value,e = .returned (.tuple #[v0_,.int .i64 r2]) ∧ Kd.R k60 60 w' w.heap.size (fun _=>True) v0_ r1 ∧ Below w.heap.size w w':=by
 unfold label_Make.f at h
 by_cases g : l.length ≤ 19 ∧ (∀ x ∈ l,x.f0.size ≤ 9223372036854775807)
 ·rw [if_pos g] at h
  have h:=Option.some.inj h
  rcases Nat.eq_zero_or_pos l.length with h0|h0
  ·have hl : l = []:=List.length_eq_zero_iff.1 h0
   subst hl
   have e : mkP (([] : List S60).map pr) = ([],0):=rfl
   rw [e] at h
   cases h
   exact make_empty A c w
  rw [← mkT_mkP] at h
  obtain ⟨ad,rfl,_⟩:=hr.2.2 h0
  have:=make_some ad c l w hr h0 g.1 g.2
  rw [h] at this
  exact this
 rw [if_neg g] at h
 exact absurd h (by simp)
/-! label.Without with no names. -/
def isN (x : S60) : Bool:=x.f0.data.toList == NL
theorem so_calls (nm : ByteArray) (bn : Nat) (W : World) (h : W.cell? ⟨bn,0,none⟩ = some (.slice none 0 0)) :
  Calls Tryz.prog 133 #[.string nm,.pointer (some ⟨bn,0,none⟩)] W fun e w'=>e = .returned (.bool (!(nm.data.toList == NL))) ∧ w' = W:=by
 have hc:=fun W=>Tryz.slices_Contains_string_empty none 0 nm W
 have he : (nm.data.toList == NL) = decide (nm.toList = [95,95,110,97,109,101,95,95]):=by rw [ByteArray.toList_eq,Bool.eq_iff_iff,beq_iff_eq,decide_eq_true_eq];rfl
 rw [he]
 clear he
 by_cases hb : nm.toList = [95,95,110,97,109,101,95,95]
 ·rw [decide_eq_true hb]
  have hb1:=eq_true hb
  have hb2 : (nm.toList != [95,95,110,97,109,101,95,95]) = false:=by rw [hb];rfl
  clear hb
  go_enter Tryz.func133,Tryz.ntmps133
  go_wp2_with (go_at_call 134;refine (hc _).mono ?_;rintro e w' ⟨rfl,rfl⟩)
  go_ret
  exact ⟨rfl,rfl⟩
 rw [decide_eq_false hb]
 have hb1:=eq_false hb
 have hb2 : (nm.toList == [95,95,110,97,109,101,95,95]) = false:=beq_eq_false_iff_ne.2 hb
 have hc : ∀ W,Calls Tryz.prog 134 #[.slice none 0 0,.string nm] W fun e w'=>e = .returned (.bool false) ∧ w' = W:=hc
 clear hb
 go_enter Tryz.func133,Tryz.ntmps133
 go_wp2_with (go_at_call 134;refine (hc _).mono ?_;rintro e w' ⟨rfl,rfl⟩)
 go_ret
 exact ⟨rfl,rfl⟩
theorem pred162 (blk bs bn : Nat) (w : World) (h1 : bs ≠ blk) (h2 : bn ≠ blk) (hs : w.cell? ⟨bs,0,none⟩ = some (.func (.func 133) #[] #[.pointer (some ⟨bn,0,none⟩)])) (hn : w.cell? ⟨bn,0,none⟩ = some (.slice none 0 0)) :
  PredG 162 #[.pointer (some ⟨bs,0,none⟩)] isN blk w:=fun W x hg=>by
 obtain ⟨a,b⟩:=x
 show Calls Tryz.prog 162 #[.agg #[.string a,.string b],.pointer (some ⟨bs,0,none⟩)] W fun e w'=>e = .returned (.bool (a.data.toList == NL)) ∧ Below W.heap.size W w'
 have kept : ∀ (q : Nat) (v : Value),q ≠ blk → w.cell? ⟨q,0,none⟩ = some v → W.cell? ⟨q,0,none⟩ = some v:=fun q v hq hc=>by
  have hlt:=World.block_lt_of_cell? w _ hc
  have hb:=hg.block q hlt (by simpa using hq)
  simpa [World.cell?,hb] using hc
 have c1:=Lib.cell?_alloc_some (.cells #[.string a,.string b] 60) (kept bs _ h1 hs)
 have c2:=Lib.cell?_alloc_some (.cells #[.string a,.string b] 60) (kept bn _ h2 hn)
 have hso:=so_calls a bn _ c2
 have eg : ∀ args w,(callFunc 133 args).run Tryz.prog w = .ok (.enter 133 args) w:=enters_of Tryz.func133 (by kernel_rfl) rfl
 generalize hq : (a.data.toList == NL) = q at hso ⊢
 have hne:=World.block_lt_of_cell? _ _ (kept bs _ h1 hs)
 have hq2 : (!(!q)) = q:=by cases q <;> rfl
 clear kept hs hn hg hq
 go_enter Tryz.func162,Tryz.ntmps162
 go_wp2_with fail
 refine hso.mono ?_
 rintro e w' ⟨rfl,rfl⟩
 go_wp2
 go_ret
 exact ⟨by rw [← hq2];first|rfl|simp,below_alloc (Below.refl _ _) _⟩
set_option maxHeartbeats 1000000 in
theorem those_some (ad : Addr) (c : Nat) (l : List S60) (bn : Nat) (w : World) (hr : Kd.C k60 w (some ad) l.length l) (hn : w.cell? ⟨bn,0,none⟩ = some (.slice none 0 0)) (h0 : 0 < l.length) (hl : l.length ≤ 1000) :
  Calls Tryz.prog 132 #[.slice (some ad) l.length c,.func (.func 133) #[] #[.pointer (some ⟨bn,0,none⟩)]] w fun e w'=>∃ v,e = .returned v ∧ Kd.R k60 60 w' w.heap.size (fun _=>True) v (l.filter fun x=>!isN x) ∧ Below w.heap.size w w':=by
 have hlt:=World.block_lt_of_cell? w _ hn
 have hcl:=clone_some ad l c (w.alloc (.cells #[.func (.func 133) #[] #[.pointer (some ⟨bn,0,none⟩)]] 54)) (Kd.C_below hr (below_alloc (Below.refl _ _) _)) h0 hl
 have hB : (w.alloc (.cells #[.func (.func 133) #[] #[.pointer (some ⟨bn,0,none⟩)]] 54)).cell? ⟨w.heap.size,0,none⟩ = some (.func (.func 133) #[] #[.pointer (some ⟨bn,0,none⟩)]):=(blk_cell (heap_alloc_new w _) 0).trans rfl
 have hN:=Lib.cell?_alloc_some (.cells #[.func (.func 133) #[] #[.pointer (some ⟨bn,0,none⟩)]] 54) hn
 have HB:=Aside0.mk hB
 have HN:=Aside0.mk hN
 have eg : ∀ args w,(callFunc 162 args).run Tryz.prog w = .ok (.enter 162 args) w:=enters_of Tryz.func162 (by kernel_rfl) rfl
 clear hr hn hB hN
 go_enter Tryz.func132,Tryz.ntmps132
 go_wp2_with (go_at_call 94;refine hcl.mono ?_;rintro e w1 ⟨g,cap,rfl,hg,hcap,hR,hb⟩)
 have hsz : (w.alloc (.cells #[.func (.func 133) #[] #[.pointer (some ⟨bn,0,none⟩)]] 54)).heap.size = w.heap.size + 1:=by simp
 rw [hsz] at hg
 have hdel:=del_calls isN 162 #[.pointer (some ⟨w.heap.size,0,none⟩)] g cap l w1 eg (pred162 g w.heap.size bn w1 (by omega) (by omega) ((hb.cell (World.block_lt_of_cell? _ _ HB.out)).trans HB.out) ((hb.cell (World.block_lt_of_cell? _ _ HN.out)).trans HN.out)) hR hl
 have HB1:=Aside0.mk (below_step (below_alloc (Below.refl w.heap.size w) (.cells #[.func (.func 133) #[] #[.pointer (some ⟨bn,0,none⟩)]] 54)) hb)
 clear hcl hb hR HB HN hsz
 go_wp2_with (go_at_call 97;refine hdel.mono ?_;rintro e w2 ⟨rfl,hR,hgr⟩)
 go_ret
 exact ⟨_,rfl,hR.toR (by omega) hcap,pw_below_grown HB1.out (some g) HB1.out.size hgr (fun k hk=>by cases hk;omega)⟩
set_option maxHeartbeats 1000000 in
theorem those_none (p : Option Addr) (c : Nat) (lb : Array Value) (w : World) :
  Calls Tryz.prog 132 #[.slice p 0 c,.func (.func 133) #[] lb] w fun e w'=>∃ v,e = .returned v ∧ Kd.R k60 60 w' w.heap.size (fun _=>True) v [] ∧ Below w.heap.size w w':=by
 have hcl:=fun W=>clone_empty p c W
 have h2:=fun q fv W=>del_none q 0 fv W
 go_enter Tryz.func132,Tryz.ntmps132
 go_wp2_with (fail)
 refine (hcl _).mono ?_
 rintro e w1 ⟨hb,hcase⟩
 have HB1:=Aside0.mk (below_step (below_alloc (Below.refl w.heap.size w) _) hb)
 rcases hcase with ⟨rfl,rfl⟩|⟨g,rfl,hg,hh⟩
 ·go_wp2_with (go_at_call 97;refine (h2 _ _ _).mono ?_;rintro e w' ⟨rfl,rfl⟩)
  go_ret
  exact ⟨_,rfl,Kd.R_nil _ _ _ _ _,HB1.out⟩
 have HH:=Aside0.mk hh
 clear hh
 go_wp2_with (go_at_call 97;refine (h2 _ _ _).mono ?_;rintro e w' ⟨rfl,rfl⟩)
 go_ret
 have hR:=RowP.mk (w:=_) (blk:=g) (cap:=0) (xs:=[]) ⟨#[],HH.out,rfl,rfl,Nat.le_refl _⟩
 have hsz : (w.alloc (.cells #[.func (.func 133) #[] lb] 54)).heap.size = w.heap.size + 1:=by simp
 exact ⟨_,rfl,hR.toR (by omega) (by unfold maxLen;omega),HB1.out⟩
theorem without_calls (A : Option Addr) (c : Nat) (l : List S60) (w : World) (hr : Kd.C k60 w A l.length l) (hl : l.length ≤ 1000) :
  Calls Tryz.prog 99 #[.slice A l.length c,.slice none 0 0] w fun e w'=>∃ v,e = .returned v ∧ Kd.R k60 60 w' w.heap.size (fun _=>True) v (l.filter fun x=>!isN x) ∧ Below w.heap.size w w':=by
 have hN : (w.alloc (.cells #[.slice none 0 0] 45)).cell? ⟨w.heap.size,0,none⟩ = some (.slice none 0 0):=(blk_cell (heap_alloc_new w _) 0).trans rfl
 have hsz : (w.alloc (.cells #[.slice none 0 0] 45)).heap.size = w.heap.size + 1:=by simp
 have hcall : Calls Tryz.prog 132 #[.slice A l.length c,.func (.func 133) #[] #[.pointer (some ⟨w.heap.size,0,none⟩)]] (w.alloc (.cells #[.slice none 0 0] 45)) fun e w'=>∃ v,e = .returned v ∧ Kd.R k60 60 w' (w.alloc (.cells #[.slice none 0 0] 45)).heap.size (fun _=>True) v (l.filter fun x=>!isN x) ∧ Below (w.alloc (.cells #[.slice none 0 0] 45)).heap.size (w.alloc (.cells #[.slice none 0 0] 45)) w':=by
  rcases Nat.eq_zero_or_pos l.length with h0|h0
  ·have hl : l = []:=List.length_eq_zero_iff.1 h0
   subst hl
   exact those_none A c _ _
  obtain ⟨ad,rfl,_⟩:=hr.2.2 h0
  exact those_some ad c l w.heap.size _ (Kd.C_below hr (below_alloc (Below.refl _ _) _)) hN h0 hl
 generalize l.filter (fun x=>!isN x) = F at hcall ⊢
 clear hr hN
 go_enter Tryz.func99,Tryz.ntmps99
 go_wp2_with (go_at_call 132;refine hcall.mono ?_;rintro e w' ⟨v,rfl,hR,hb⟩)
 go_ret
 exact ⟨_,rfl,Kd.R_lower hR (by omega),below_step (below_alloc (Below.refl w.heap.size w) _) hb⟩
/-- What Without leaves, the metric's name apart. -/
def label_Without.f (l : List S60) (names : List ByteArray) : Option (List S60):=match names with|[]=>if l.length ≤ 1000 then some (l.filter fun x=>!isN x) else none|_ :: _=>none
theorem label_Without.calls (A0 : Option Addr) (c0 : Nat) (l : List S60) (A1 : Option Addr) (c1 : Nat) (names : List ByteArray) (r : List S60) (w : World) (hr0 : Kd.C k60 w A0 l.length l) (hc0 : l.length ≤ c0) (hr1 : Kd.C Kd.string w A1 names.length names) (hc1 : names.length ≤ c1) (hnil : A1 = none ∧ c1 = 0) (h : label_Without.f l names = some r) :
  Calls Tryz.prog 99 #[.slice A0 l.length c0,.slice A1 names.length c1] w fun e w'=>∃ v0_ : Value,e = .returned v0_ ∧ Kd.R k60 60 w' w.heap.size (fun _=>True) v0_ r ∧ Below w.heap.size w w':=by
 obtain ⟨rfl,rfl⟩:=hnil
 cases names with
 | cons _ _=>exact absurd h (by simp [label_Without.f])
 | nil =>
  have h : (if l.length ≤ 1000 then some (l.filter fun x=>!isN x) else none) = some r:=h
  by_cases g : l.length ≤ 1000
  ·rw [if_pos g] at h
   rw [← Option.some.inj h]
   exact without_calls A0 c0 l w hr0 g
  rw [if_neg g] at h
  exact absurd h (by simp)
end Go.Proofs.YtfgffjchphignaaGreatDoor.Print
end
section
namespace Go.Proofs.YtfgffjchphignaaGreatDoor.Print
open Go.RowKit Go.Proofs.YtfgffjchphignaaGreatDoorX Go.Proofs.YtfgffjchphignaaGreatDoorW.PrintWords Go.Proofs.YtfgffjchphignaaGreatDoorW.PrintLast Go.Proofs.YtfgffjchphignaaGreatDoorW.PrintMore
/-! ### label_Get: function 62 -/
def label_Get.l0 : Nat → ByteArray → List (S60) → Int → Int → Option (ByteArray)
 | 0,_,_,_,_=>none
 | k + 1,x1,x7,x8,x9=>if x9 < x8 then (if 0 ≤ x9 then (if x9 < (x7.length : Int) then (if ((rd_T60 x7 x9).f0).toList = x1.toList then (some ((rd_T60 x7 x9).f1)) else (label_Get.l0 k x1 x7 x8 (wrap64 (x9 + 1)))) else (none)) else (none)) else (some (⟨#[]⟩ : ByteArray))
def label_Get.f (k : Nat) (l0 : List (S60)) (a1 : ByteArray) : Option (ByteArray):=label_Get.l0 k a1 l0 (l0.length : Int) 0
set_option maxHeartbeats 8000000 in
set_option maxRecDepth 100000 in
theorem label_Get.calls (k : Nat) (A0 : Option Addr) (c0 : Nat) (l0 : List (S60)) (a1 : ByteArray) (r : ByteArray) (w : World) (hr0 : Kd.C k60 w A0 l0.length l0) (hc0 : l0.length ≤ c0) (h : label_Get.f k l0 a1 = some r) :
  Calls Tryz.prog 62 #[.slice A0 l0.length c0,.string a1] w fun e w'=>e = .returned (.string r) ∧ Below w.heap.size w w':=by
 have hu60:=Tryz.underlying60
 have HR0:=Aside0.mk hr0
 have HC0:=Aside0.mk hc0
 clear hr0 hc0
 have HB:=Aside0.mk (Below.refl w.heap.size w)
 have H : (label_Get.l0 k a1 l0 (l0.length : Int) 0) = some r:=h
 clear h
 have H':=Aside0.mk H
 clear H
 go_enter Tryz.func62,Tryz.ntmps62
 go_wp2
 go_loopg [9] k (fun kq v9 w'=>∃ (x9_1 : Int),v9 = .int .i64 x9_1 ∧ Aside0 (label_Get.l0 kq a1 l0 (l0.length : Int) x9_1 = some r) ∧ Aside0 (kq ≤ k) ∧ Aside0 (Below w.heap.size w w'))
 case atStart=>exact ⟨(0),(by first|rfl|(simp;done)|(simp [*];done)),H',⟨Nat.le_refl _⟩,⟨by repeat (first|(with_reducible first|exact HB.out|apply below_alloc|apply pw_below_drewN|apply below_drew1)|exact HB.out)⟩⟩
 clear H'
 try clear p2
 obtain ⟨x9_1,rfl,HA,HK1,HB⟩:=hrel
 cases gk with
 | zero=>exact absurd HA.out (by simp [label_Get.l0])
 | succ k1 =>
  have H:=HA.out
  clear HA
  simp only [label_Get.l0] at H
  by_cases c3 : x9_1 < (l0.length : Int)
  ·rw [if_pos c3] at H
   have c3b0 : decide (x9_1 < (l0.length : Int)) = true:=decide_eq_true c3
   clear c3
   by_cases c4 : 0 ≤ x9_1
   ·rw [if_pos c4] at H
    have c4b0 : decide (0 ≤ x9_1) = true:=decide_eq_true c4
    clear c4
    by_cases c5 : x9_1 < (l0.length : Int)
    ·rw [if_pos c5] at H
     have c5b0 : decide (x9_1 < (l0.length : Int)) = true:=decide_eq_true c5
     clear c5
     by_cases c6 : ((rd_T60 l0 x9_1).f0).toList = a1.toList
     ·rw [if_pos c6] at H
      have c6b0 : (((rd_T60 l0 x9_1).f0).toList == a1.toList) = true:=beq_iff_eq.mpr c6
      have c6b1 : (((rd_T60 l0 x9_1).f0).toList != a1.toList) = false:=bne_eq_false_iff_eq.mpr c6
      clear c6
      obtain rfl:=Option.some.inj H
      have p107 : 0 ≤ (x9_1 : Int):=of_decide_eq_true (by first|(with_reducible assumption)|assumption)
      have q107 : x9_1 < (l0.length : Int):=of_decide_eq_true (by first|(with_reducible assumption)|assumption)
      obtain ⟨ad107,e107,hx107_0,hx107_1⟩:=at_T60 HR0.out x9_1 p107 q107
      cases e107
      replace hx107_0:=(HB.out.cell (World.block_lt_of_cell? w _ hx107_0)).trans hx107_0
      replace hx107_1:=(HB.out.cell (World.block_lt_of_cell? w _ hx107_1)).trans hx107_1
      replace p107:=eq_true p107
      replace q107:=eq_true q107
      go_wp2_with (first|((with_reducible refine gate_dst (N:=6) rfl ?_);refine box_event ?hg (N:=6) ?hd (cs:=#[.string (⟨#[]⟩ : ByteArray),.string (⟨#[]⟩ : ByteArray)]) (t:=60) ?hr ?_;(case hd=>rfl);(case hg=>rfl);(case hr=>first|(go_simp;done)|(go_simp;rfl));intro gb108 hg w7 hbox hb;have n0_:=Aside0.mk (below_step (by repeat (first|(with_reducible first|exact HB.out|apply below_alloc|apply pw_below_drewN|apply below_drew1)|exact HB.out)) hb);have n1_:=Aside0.mk (hbox);have n2_:=Aside0.mk ((by rw [hg];exact (below_size (by repeat (first|(with_reducible first|exact HB.out|apply below_alloc|apply pw_below_drewN|apply below_drew1)|exact HB.out))) : w.heap.size ≤ gb108));have n3_:=Aside0.mk ((by rw [hg];exact (below_size (by repeat (first|(with_reducible first|exact HB.out|apply below_alloc|apply pw_below_drewN|apply below_drew1)|exact HB.out))) : w.heap.size ≤ gb108));clear HB;have HB:=n0_;have BK108:=n1_;have GW108:=n2_;have GE108:=n3_;clear n0_ n1_ n2_ n3_;clear hb hbox hg;have hcz8_0 : w7.cell? ⟨gb108,0,none⟩ = some (.string (⟨#[]⟩ : ByteArray)):=(blk_cell BK108.out 0).trans rfl;have hcz8_1 : w7.cell? ⟨gb108,1,none⟩ = some (.string (⟨#[]⟩ : ByteArray)):=(blk_cell BK108.out 1).trans rfl;have hfz8_0:=blk_frozen BK108.out 0;have hfz8_1:=blk_frozen BK108.out 1))
      go_ret
      exact ⟨by first|rfl|(simp [errW_none,errW_some] <;> rfl)|(simp [*,errW_none,errW_some] <;> rfl),by repeat (first|(with_reducible first|exact HB.out|apply below_alloc|apply pw_below_drewN|apply below_drew1|refine below_set ?_ GE108.out)|exact HB.out)⟩
     rw [if_neg c6] at H
     have c6b0 : (((rd_T60 l0 x9_1).f0).toList == a1.toList) = false:=beq_eq_false_iff_ne.mpr c6
     have c6b1 : (((rd_T60 l0 x9_1).f0).toList != a1.toList) = true:=bne_iff_ne.mpr c6
     have H':=Aside0.mk H
     clear H
     have p107 : 0 ≤ (x9_1 : Int):=of_decide_eq_true (by first|(with_reducible assumption)|assumption)
     have q107 : x9_1 < (l0.length : Int):=of_decide_eq_true (by first|(with_reducible assumption)|assumption)
     obtain ⟨ad107,e107,hx107_0,hx107_1⟩:=at_T60 HR0.out x9_1 p107 q107
     cases e107
     replace hx107_0:=(HB.out.cell (World.block_lt_of_cell? w _ hx107_0)).trans hx107_0
     replace hx107_1:=(HB.out.cell (World.block_lt_of_cell? w _ hx107_1)).trans hx107_1
     replace p107:=eq_true p107
     replace q107:=eq_true q107
     go_wp2_with (first|((with_reducible refine gate_dst (N:=6) rfl ?_);refine box_event ?hg (N:=6) ?hd (cs:=#[.string (⟨#[]⟩ : ByteArray),.string (⟨#[]⟩ : ByteArray)]) (t:=60) ?hr ?_;(case hd=>rfl);(case hg=>rfl);(case hr=>first|(go_simp;done)|(go_simp;rfl));intro gb108 hg w9 hbox hb;have n0_:=Aside0.mk (below_step (by repeat (first|(with_reducible first|exact HB.out|apply below_alloc|apply pw_below_drewN|apply below_drew1)|exact HB.out)) hb);have n1_:=Aside0.mk (hbox);have n2_:=Aside0.mk ((by rw [hg];exact (below_size (by repeat (first|(with_reducible first|exact HB.out|apply below_alloc|apply pw_below_drewN|apply below_drew1)|exact HB.out))) : w.heap.size ≤ gb108));have n3_:=Aside0.mk ((by rw [hg];exact (below_size (by repeat (first|(with_reducible first|exact HB.out|apply below_alloc|apply pw_below_drewN|apply below_drew1)|exact HB.out))) : w.heap.size ≤ gb108));clear HB;have HB:=n0_;have BK108:=n1_;have GW108:=n2_;have GE108:=n3_;clear n0_ n1_ n2_ n3_;clear hb hbox hg;have hcz10_0 : w9.cell? ⟨gb108,0,none⟩ = some (.string (⟨#[]⟩ : ByteArray)):=(blk_cell BK108.out 0).trans rfl;have hcz10_1 : w9.cell? ⟨gb108,1,none⟩ = some (.string (⟨#[]⟩ : ByteArray)):=(blk_cell BK108.out 1).trans rfl;have hfz10_0:=blk_frozen BK108.out 0;have hfz10_1:=blk_frozen BK108.out 1))
     go_roundg k1
     case measure=>have:=HK1.out;omega
     case rel=>exact ⟨(wrap64 (x9_1 + 1)),(by first|rfl|(simp;done)|(simp [*];done)),H',⟨by have:=HK1.out;omega⟩,⟨by repeat (first|(with_reducible first|exact HB.out|apply below_alloc|apply pw_below_drewN|apply below_drew1|refine below_set ?_ GE108.out)|exact HB.out)⟩⟩
    rw [if_neg c5] at H
    exact absurd H (by simp)
   rw [if_neg c4] at H
   exact absurd H (by simp)
  rw [if_neg c3] at H
  have c3b0 : decide (x9_1 < (l0.length : Int)) = false:=decide_eq_false c3
  clear c3
  obtain rfl:=Option.some.inj H
  go_wp2
  go_ret
  exact ⟨by first|rfl|(simp [errW_none,errW_some] <;> rfl)|(simp [*,errW_none,errW_some] <;> rfl),by repeat (first|(with_reducible first|exact HB.out|apply below_alloc|apply pw_below_drewN|apply below_drew1)|exact HB.out)⟩
/-! ### label_PrintA: function 61 -/
mutual
def label_PrintA.j0 : Nat → ByteArray → List (S60) → Bool → Option (ByteArray)
 | 0,_,_,_=>none
 | k + 1,x3,x4,x25=>if x25 = true then (some x3) else (label_PrintA.l0 k x3 ([] : List ByteArray) x4 (x4.length : Int) 0)
def label_PrintA.l0 : Nat → ByteArray → List ByteArray → List (S60) → Int → Int → Option (ByteArray)
 | 0,_,_,_,_,_=>none
 | k + 1,x3,x5,x27,x28,x29=>if x29 < x28 then (if 0 ≤ x29 then (if x29 < (x27.length : Int) then (if ((rd_T60 x27 x29).f0).size + 1 ≤ 9223372036854775807 then ((label_Quote.f ((rd_T60 x27 x29).f1)).bind fun t117=>(if (((rd_T60 x27 x29).f0) ++ (⟨#[61]⟩ : ByteArray)).size + t117.size ≤ 9223372036854775807 then (if x5.length < 8796093022208 then (label_PrintA.l0 k x3 (x5 ++ [(((rd_T60 x27 x29).f0) ++ (⟨#[61]⟩ : ByteArray)) ++ t117]) x27 x28 (wrap64 (x29 + 1))) else (none)) else (none))) else (none)) else (none)) else (none)) else (if x3.size + 1 ≤ 9223372036854775807 then ((strings_Join.f x5 (⟨#[44]⟩ : ByteArray)).bind fun t121=>(if (x3 ++ (⟨#[123]⟩ : ByteArray)).size + t121.size ≤ 9223372036854775807 then (if ((x3 ++ (⟨#[123]⟩ : ByteArray)) ++ t121).size + 1 ≤ 9223372036854775807 then (some (((x3 ++ (⟨#[123]⟩ : ByteArray)) ++ t121) ++ (⟨#[125]⟩ : ByteArray))) else (none)) else (none))) else (none))
end
def label_PrintA.f (k : Nat) (l0 : List (S60)) : Option (ByteArray):=(label_Is.f l0).bind fun t109=>(if t109 = true then ((label_Get.f k l0 (⟨#[95,95,110,97,109,101,95,95]⟩ : ByteArray)).bind fun t110=>((label_Without.f l0 ([] : List ByteArray)).bind fun t111=>((label_Name.f k t110).bind fun t114=>(if t114 = true then (if (t111.length : Int) = 0 then (label_PrintA.j0 k t110 t111 (t110.toList != ([] : List UInt8))) else (label_PrintA.j0 k t110 t111 false)) else (none))))) else (some (⟨#[]⟩ : ByteArray)))
def label_PrintA.T13 : Bool × List (List Nat × List Nat):=(true,[([],[]),([],[]),([1],[1]),([2],[2]),([],[]),([4],[4]),([5],[5]),([3,6],[3,6]),([7],[7]),([0,8,6],[0,8]),([9,9,0,1,2,3,4,5,6,7,8,9],[0,9])])
def label_PrintA.B13 : List Nat:=[0,0,2,6,0,16,48,126,254,511,1023]
theorem label_PrintA.tab13 : rtab .any (opsOf Tryz.f61 13) = label_PrintA.T13:=by kernel_rfl
theorem label_PrintA.bits13 : waitsOk label_PrintA.T13.2 label_PrintA.B13 = true:=by kernel_rfl
set_option maxHeartbeats 8000000 in
set_option maxRecDepth 100000 in
theorem label_PrintA.calls (k : Nat) (A0 : Option Addr) (c0 : Nat) (l0 : List (S60)) (r : ByteArray) (w : World) (hr0 : Kd.C k60 w A0 l0.length l0) (hc0 : l0.length ≤ c0) (h : label_PrintA.f k l0 = some r) :
  Calls Tryz.prog 61 #[.slice A0 l0.length c0] w fun e w'=>e = .returned (.string r) ∧ Below w.heap.size w w':=by
 have hu60:=Tryz.underlying60
 have HR0:=Aside0.mk hr0
 have HC0:=Aside0.mk hc0
 clear hr0 hc0
 have HB:=Aside0.mk (Below.refl w.heap.size w)
 have H : ((label_Is.f l0).bind fun t109=>(if t109 = true then ((label_Get.f k l0 (⟨#[95,95,110,97,109,101,95,95]⟩ : ByteArray)).bind fun t110=>((label_Without.f l0 ([] : List ByteArray)).bind fun t111=>((label_Name.f k t110).bind fun t114=>(if t114 = true then (if (t111.length : Int) = 0 then (label_PrintA.j0 k t110 t111 (t110.toList != ([] : List UInt8))) else (label_PrintA.j0 k t110 t111 false)) else (none))))) else (some (⟨#[]⟩ : ByteArray)))) = some r:=h
 clear h
 replace H:=Option.bind_eq_some_iff.mp H
 obtain ⟨t109,A20,H⟩:=H
 replace H : (if t109 = true then ((label_Get.f k l0 (⟨#[95,95,110,97,109,101,95,95]⟩ : ByteArray)).bind fun t110=>((label_Without.f l0 ([] : List ByteArray)).bind fun t111=>((label_Name.f k t110).bind fun t114=>(if t114 = true then (if (t111.length : Int) = 0 then (label_PrintA.j0 k t110 t111 (t110.toList != ([] : List UInt8))) else (label_PrintA.j0 k t110 t111 false)) else (none))))) else (some (⟨#[]⟩ : ByteArray))) = some r:=H
 have A2:=Aside0.mk A20
 clear A20
 by_cases c3 : t109 = true
 ·subst c3
  have H1 : ((label_Get.f k l0 (⟨#[95,95,110,97,109,101,95,95]⟩ : ByteArray)).bind fun t110=>((label_Without.f l0 ([] : List ByteArray)).bind fun t111=>((label_Name.f k t110).bind fun t114=>(if t114 = true then (if (t111.length : Int) = 0 then (label_PrintA.j0 k t110 t111 (t110.toList != ([] : List UInt8))) else (label_PrintA.j0 k t110 t111 false)) else (none))))) = some r:=by rw [if_pos rfl] at H;exact H
  clear H
  have H:=H1
  clear H1
  replace H:=Option.bind_eq_some_iff.mp H
  obtain ⟨t110,A40,H⟩:=H
  replace H : ((label_Without.f l0 ([] : List ByteArray)).bind fun t111=>((label_Name.f k t110).bind fun t114=>(if t114 = true then (if (t111.length : Int) = 0 then (label_PrintA.j0 k t110 t111 (t110.toList != ([] : List UInt8))) else (label_PrintA.j0 k t110 t111 false)) else (none)))) = some r:=H
  have A4:=Aside0.mk A40
  clear A40
  replace H:=Option.bind_eq_some_iff.mp H
  obtain ⟨t111,A50,H⟩:=H
  replace H : ((label_Name.f k t110).bind fun t114=>(if t114 = true then (if (t111.length : Int) = 0 then (label_PrintA.j0 k t110 t111 (t110.toList != ([] : List UInt8))) else (label_PrintA.j0 k t110 t111 false)) else (none))) = some r:=H
  have A5:=Aside0.mk A50
  clear A50
  replace H:=Option.bind_eq_some_iff.mp H
  obtain ⟨t114,A60,H⟩:=H
  replace H : (if t114 = true then (if (t111.length : Int) = 0 then (label_PrintA.j0 k t110 t111 (t110.toList != ([] : List UInt8))) else (label_PrintA.j0 k t110 t111 false)) else (none)) = some r:=H
  have A6:=Aside0.mk A60
  clear A60
  by_cases c7 : t114 = true
  ·subst c7
   have H1 : (if (t111.length : Int) = 0 then (label_PrintA.j0 k t110 t111 (t110.toList != ([] : List UInt8))) else (label_PrintA.j0 k t110 t111 false)) = some r:=by rw [if_pos rfl] at H;exact H
   clear H
   have H:=H1
   clear H1
   have HC8:=Aside0.mk H
   clear H
   go_enter Tryz.func61,Tryz.ntmps61
   go_upto_region 7 with (first|((with_reducible refine gate_callee (f:=48) rfl ?_);refine goesL_ (some 9) rfl rfl Tryz.func48 (by kernel_rfl) rfl #[.slice A0 l0.length c0] rfl (by (try simp only [List.map_toArray,List.map_cons,List.map_nil]);first|done|rfl|(simp only [List.length_drop,List.length_take];rfl)) ?_;(with_reducible refine (label_Is.calls _ _ l0 true _ ?side1 ?side2 A2.out).mono ?_);(case side1=>repeat (first|exact HR0.out|(with_reducible refine Kd.C_alloc ?_ _)|(with_reducible refine Kd.C_drewN ?_ _)|(with_reducible refine Kd.C_drew ?_)));(case side2=>exact HC0.out);rintro e w9 ⟨rfl,hb⟩;refine ⟨_,rfl,?_⟩;have n0_:=Aside0.mk (below_step (by repeat (first|(with_reducible first|exact HB.out|apply below_alloc|apply pw_below_drewN|apply below_drew1)|exact HB.out)) hb);clear HB;have HB:=n0_;clear n0_;(try clear hb);(try clear hb2);(try clear hk);(try clear hi))|((with_reducible refine gate_callee (f:=62) rfl ?_);refine goesL_ (some 12) rfl rfl Tryz.func62 (by kernel_rfl) rfl #[.slice A0 l0.length c0,.string (⟨#[95,95,110,97,109,101,95,95]⟩ : ByteArray)] rfl (by (try simp only [List.map_toArray,List.map_cons,List.map_nil]);first|done|rfl|(simp only [List.length_drop,List.length_take];rfl)) ?_;(with_reducible refine (label_Get.calls k _ _ l0 (⟨#[95,95,110,97,109,101,95,95]⟩ : ByteArray) t110 _ ?side1 ?side2 A4.out).mono ?_);(case side1=>repeat (first|exact (Kd.C_below HR0.out HB.out)|(with_reducible refine Kd.C_alloc ?_ _)|(with_reducible refine Kd.C_drewN ?_ _)|(with_reducible refine Kd.C_drew ?_)));(case side2=>exact HC0.out);rintro e w10 ⟨rfl,hb⟩;refine ⟨_,rfl,?_⟩;have n0_:=Aside0.mk (below_step (by repeat (first|(with_reducible first|exact HB.out|apply below_alloc|apply pw_below_drewN|apply below_drew1)|exact HB.out)) hb);clear HB;have HB:=n0_;clear n0_;(try clear hb);(try clear hb2);(try clear hk);(try clear hi))|((with_reducible refine gate_callee (f:=99) rfl ?_);refine goesL_ (some 14) rfl rfl Tryz.func99 (by kernel_rfl) rfl #[.slice A0 l0.length c0,.slice none 0 0] rfl (by (try simp only [List.map_toArray,List.map_cons,List.map_nil]);first|done|rfl|(simp only [List.length_drop,List.length_take];rfl)) ?_;(refine (label_Without.calls _ _ l0 _ _ ([] : List ByteArray) t111 _ ?side1 ?side2 ?side3 ?side4 ⟨rfl,rfl⟩ A5.out).mono ?_);(case side1=>repeat (first|exact (Kd.C_below HR0.out HB.out)|(with_reducible refine Kd.C_alloc ?_ _)|(with_reducible refine Kd.C_drewN ?_ _)|(with_reducible refine Kd.C_drew ?_)));(case side2=>exact HC0.out);(case side3=>exact Kd.C_nil _ _);(case side4=>exact Nat.le_refl _);rintro e w11 ⟨v112,rfl,ho0,hb⟩;refine ⟨_,rfl,?_⟩;have n0_:=Aside0.mk (Kd.R_lower ho0 (below_size (by repeat (first|(with_reducible first|exact HB.out|apply below_alloc|apply pw_below_drewN|apply below_drew1)|exact HB.out))));have n1_:=Aside0.mk (below_step (by repeat (first|(with_reducible first|exact HB.out|apply below_alloc|apply pw_below_drewN|apply below_drew1)|exact HB.out)) hb);clear HB;have HO113:=n0_;have HB:=n1_;clear n0_ n1_;(try clear hb);(try clear hb2);(try clear hk);(try clear hi);(try clear ho0))|((with_reducible refine gate_callee (f:=63) rfl ?_);refine goesL_ (some 16) rfl rfl Tryz.func63 (by kernel_rfl) rfl #[.string t110] rfl (by (try simp only [List.map_toArray,List.map_cons,List.map_nil]);first|done|rfl|(simp only [List.length_drop,List.length_take];rfl)) ?_;(with_reducible refine (label_Name.calls k t110 true _ A6.out).mono ?_);rintro e w' ⟨rfl,⟨nd,rfl⟩⟩;refine ⟨_,rfl,?_⟩))
   (try simp only [Act.put,List.setIfInBounds_toArray,List.set_cons_zero,List.set_cons_succ])
   go_cut [25] (fun v25 wc=>∃ (kq : Nat) (x25_7 : Bool),v25 = .bool x25_7 ∧ Aside0 (label_PrintA.j0 kq t110 t111 x25_7 = some r) ∧ Aside0 (kq ≤ k) ∧ Aside0 (Kd.R k60 60 wc w.heap.size (fun _=>True) v112 t111) ∧ Aside0 (Below w.heap.size w wc))
   case first =>
    have H:=HC8.out
    clear HC8
    by_cases c12 : (t111.length : Int) = 0
    ·rw [if_pos c12] at H
     have c12b0 : ((t111.length : Int) == 0) = true:=beq_iff_eq.mpr c12
     have c12b1 : ((t111.length : Int) != 0) = false:=bne_eq_false_iff_eq.mpr c12
     clear c12
     (first|rw [c12b0]|(simp only [i64_w,i32_w];rw [c12b0])|skip)
     have H':=Aside0.mk H
     clear H
     obtain ⟨Ao13,co13,eo13⟩:=Kd.R_slice HO113.out
     subst eo13
     go_wp2
     go_meet
     case rel=>exact ⟨_,((t110.toList != ([] : List UInt8))),(by first|rfl|(cases t110.toList <;> rfl)|(simp;done)|(simp [*];done)),H',⟨by first|omega|exact Nat.le_refl _⟩,⟨by (with_reducible repeat (first|apply Kd.R_alloc|apply Kd.R_drewN|apply Kd.R_drew));exact HO113.out⟩,⟨by repeat (first|(with_reducible first|exact HB.out|apply below_alloc|apply pw_below_drewN|apply below_drew1)|exact HB.out)⟩⟩
    rw [if_neg c12] at H
    have c12b0 : ((t111.length : Int) == 0) = false:=beq_eq_false_iff_ne.mpr c12
    have c12b1 : ((t111.length : Int) != 0) = true:=bne_iff_ne.mpr c12
    have c12b2 : ¬ (t111 = []):=fun h_=>c12 (by rw [h_];rfl)
    (first|rw [c12b0]|(simp only [i64_w,i32_w];rw [c12b0])|skip)
    have H':=Aside0.mk H
    clear H
    obtain ⟨Ao14,co14,eo14⟩:=Kd.R_slice HO113.out
    subst eo14
    go_wp2
    go_meet
    case rel=>exact ⟨_,(false),(by first|rfl|(simp;done)|(simp [*];done)),H',⟨by first|omega|exact Nat.le_refl _⟩,⟨by (with_reducible repeat (first|apply Kd.R_alloc|apply Kd.R_drewN|apply Kd.R_drew));exact HO113.out⟩,⟨by repeat (first|(with_reducible first|exact HB.out|apply below_alloc|apply pw_below_drewN|apply below_drew1)|exact HB.out)⟩⟩
   clear HC8
   try clear c1
   try clear p2
   try clear c3
   try clear c4
   try clear c6
   try clear c7
   try clear c9
   try clear c12
   try clear c12b0
   try clear c12b1
   try clear c12b2
   obtain ⟨kq,x25_7,rfl,HA,HJ7,HO_4,HB⟩:=hcut
   cases kq with
   | zero=>exact absurd HA.out (by simp [label_PrintA.j0])
   | succ kj7 =>
    have H:=HA.out
    clear HA
    simp only [label_PrintA.j0] at H
    by_cases c15 : x25_7 = true
    ·subst c15
     have H1 : (some t110) = some r:=by rw [if_pos rfl] at H;exact H
     clear H
     have H:=H1
     clear H1
     obtain rfl:=Option.some.inj H
     go_wp2
     go_ret
     exact ⟨by first|rfl|(simp [errW_none,errW_some] <;> rfl)|(simp [*,errW_none,errW_some] <;> rfl),by repeat (first|(with_reducible first|exact HB.out|apply below_alloc|apply pw_below_drewN|apply below_drew1)|exact HB.out)⟩
    replace c15:=Bool.eq_false_iff.mpr c15
    subst c15
    have H1 : (label_PrintA.l0 kj7 t110 ([] : List ByteArray) t111 (t111.length : Int) 0) = some r:=by rw [if_neg (show ¬ (false = true) by decide)] at H;exact H
    clear H
    have H:=H1
    clear H1
    have H':=Aside0.mk H
    clear H
    obtain ⟨Ao16,co16,eo16⟩:=Kd.R_slice HO_4.out
    subst eo16
    go_wp2
    go_loopg [5,29] kj7 (fun kq v5 v29 w'=>∃ (x5_2 : List ByteArray) (x29_2 : Int),v29 = .int .i64 x29_2 ∧ Aside0 (label_PrintA.l0 kq t110 x5_2 t111 (t111.length : Int) x29_2 = some r) ∧ Aside0 (kq ≤ kj7) ∧ Aside0 (Kd.R Kd.string 9 w' w.heap.size (fun _=>True) v5 x5_2) ∧ Aside0 (Kd.R k60 60 w' w.heap.size (fun _=>True) (.slice Ao16 t111.length co16) t111) ∧ Aside0 (Below w.heap.size w w'))
    case atStart=>exact ⟨(([] : List ByteArray)),(0),(by first|rfl|(simp;done)|(simp [*];done)),H',⟨Nat.le_refl _⟩,⟨by first|exact Kd.R_nil _ _ _ _ _|exact Kd.N_nil _ _ _ _ _|exact Kd.V_nil _ _ _ _ _|exact Kd.Q_nil _ _ _ _ _|exact Kd.S_nil _ _ _ _ _⟩,⟨by (with_reducible repeat (first|apply Kd.R_alloc|apply Kd.R_drewN|apply Kd.R_drew));exact HO_4.out⟩,⟨by repeat (first|(with_reducible first|exact HB.out|apply below_alloc|apply pw_below_drewN|apply below_drew1)|exact HB.out)⟩⟩
    clear H'
    try clear c1
    try clear p2
    try clear c3
    try clear c4
    try clear c6
    try clear c7
    try clear c9
    try clear c12
    try clear c12b0
    try clear c12b1
    try clear c12b2
    try clear c15
    try clear p2
    obtain ⟨x5_2,x29_2,rfl,HA,HK2,HO_5,HO_27,HB⟩:=hrel
    cases gk with
    | zero=>exact absurd HA.out (by simp [label_PrintA.l0])
    | succ k2 =>
     have H:=HA.out
     clear HA
     simp only [label_PrintA.l0] at H
     by_cases c17 : x29_2 < (t111.length : Int)
     ·rw [if_pos c17] at H
      have c17b0 : decide (x29_2 < (t111.length : Int)) = true:=decide_eq_true c17
      clear c17
      by_cases c18 : 0 ≤ x29_2
      ·rw [if_pos c18] at H
       have c18b0 : decide (0 ≤ x29_2) = true:=decide_eq_true c18
       clear c18
       by_cases c19 : x29_2 < (t111.length : Int)
       ·rw [if_pos c19] at H
        have c19b0 : decide (x29_2 < (t111.length : Int)) = true:=decide_eq_true c19
        clear c19
        by_cases c20 : ((rd_T60 t111 x29_2).f0).size + 1 ≤ 9223372036854775807
        ·rw [if_pos c20] at H
         have c20b0:=eq_true c20
         have c20b1 : decide (((rd_T60 t111 x29_2).f0).size + 1 ≤ 9223372036854775807) = true:=decide_eq_true c20
         try have c20b2 : (9223372036854775807 < ((rd_T60 t111 x29_2).f0).size + 1) = False:=eq_false (Nat.not_lt.2 c20)
         replace H:=Option.bind_eq_some_iff.mp H
         obtain ⟨t117,A210,H⟩:=H
         replace H : (if (((rd_T60 t111 x29_2).f0) ++ (⟨#[61]⟩ : ByteArray)).size + t117.size ≤ 9223372036854775807 then (if x5_2.length < 8796093022208 then (label_PrintA.l0 k2 t110 (x5_2 ++ [(((rd_T60 t111 x29_2).f0) ++ (⟨#[61]⟩ : ByteArray)) ++ t117]) t111 (t111.length : Int) (wrap64 (x29_2 + 1))) else (none)) else (none)) = some r:=H
         have A21:=Aside0.mk A210
         clear A210
         by_cases c22 : (((rd_T60 t111 x29_2).f0) ++ (⟨#[61]⟩ : ByteArray)).size + t117.size ≤ 9223372036854775807
         ·rw [if_pos c22] at H
          have c22b0:=eq_true c22
          have c22b1 : decide ((((rd_T60 t111 x29_2).f0) ++ (⟨#[61]⟩ : ByteArray)).size + t117.size ≤ 9223372036854775807) = true:=decide_eq_true c22
          try have c22b2 : (9223372036854775807 < (((rd_T60 t111 x29_2).f0) ++ (⟨#[61]⟩ : ByteArray)).size + t117.size) = False:=eq_false (Nat.not_lt.2 c22)
          try (have c22b3:=c22;simp only [ByteArray.size_append,sz_one] at c22b3;have c22b4:=eq_false (Nat.not_lt.2 c22b3);clear c22b3)
          by_cases c23 : x5_2.length < 8796093022208
          ·rw [if_pos c23] at H
           have LMc23:=Aside0.mk c23
           clear c23
           obtain ⟨y118,hy118⟩ : ∃ y_ : List ByteArray,y_ = (x5_2 ++ [(((rd_T60 t111 x29_2).f0) ++ (⟨#[61]⟩ : ByteArray)) ++ t117]):=⟨_,rfl⟩
           replace H : (label_PrintA.l0 k2 t110 y118 t111 (t111.length : Int) (wrap64 (x29_2 + 1))) = some r:=by first|(rw [hy118];with_reducible exact H)|(have H2_:=(Option.bind_some _ _).symm.trans H;rw [hy118];with_reducible exact H2_)|(have H2_:=(Option.bind_some _ _).symm.trans H;with_reducible exact H2_)|with_reducible exact H|(rw [hy118];exact H)|exact H
           have Ny118:=Aside0.mk hy118
           clear hy118
           have H':=Aside0.mk H
           clear H
           have p115 : 0 ≤ (x29_2 : Int):=of_decide_eq_true (by first|(with_reducible assumption)|assumption)
           have q115 : x29_2 < (t111.length : Int):=of_decide_eq_true (by first|(with_reducible assumption)|assumption)
           obtain ⟨ad115,e115,hx115_0,hx115_1⟩:=at_T60 (Kd.R_reads' HO_27.out).2.2 x29_2 p115 q115
           cases e115
           replace p115:=eq_true p115
           replace q115:=eq_true q115
           try go_wp2_with (first|((with_reducible refine gate_dst (N:=7) rfl ?_);refine box_event ?hg (N:=7) ?hd (cs:=#[.string (⟨#[]⟩ : ByteArray),.string (⟨#[]⟩ : ByteArray)]) (t:=60) ?hr ?_;(case hd=>rfl);(case hg=>rfl);(case hr=>first|(go_simp;done)|(go_simp;rfl));intro gb116 hg w24 hbox hb;have n0_:=Aside0.mk (Kd.R_below (by (with_reducible repeat (first|apply Kd.R_alloc|apply Kd.R_drewN|apply Kd.R_drew));exact HO_5.out) hb);have n1_:=Aside0.mk (Kd.R_below (Kd.R_elderB (by (with_reducible repeat (first|apply Kd.R_alloc|apply Kd.R_drewN|apply Kd.R_drew));exact HO_27.out) gb116 (Nat.le_of_eq hg.symm)) hb);have n2_:=Aside0.mk (below_step (by repeat (first|(with_reducible first|exact HB.out|apply below_alloc|apply pw_below_drewN|apply below_drew1)|exact HB.out)) hb);have n3_:=Aside0.mk (hbox);have n4_:=Aside0.mk ((by rw [hg];exact (below_size (by repeat (first|(with_reducible first|exact HB.out|apply below_alloc|apply pw_below_drewN|apply below_drew1)|exact HB.out))) : w.heap.size ≤ gb116));have n5_:=Aside0.mk ((by rw [hg];exact (below_size (by repeat (first|(with_reducible first|exact HB.out|apply below_alloc|apply pw_below_drewN|apply below_drew1)|exact HB.out))) : w.heap.size ≤ gb116));clear HO_5;clear HO_27;clear HB;have HO_5:=n0_;have HO_27:=n1_;have HB:=n2_;have BK116:=n3_;have GW116:=n4_;have GE116:=n5_;clear n0_ n1_ n2_ n3_ n4_ n5_;clear hb hbox hg;have hcz25_0 : w24.cell? ⟨gb116,0,none⟩ = some (.string (⟨#[]⟩ : ByteArray)):=(blk_cell BK116.out 0).trans rfl;have hcz25_1 : w24.cell? ⟨gb116,1,none⟩ = some (.string (⟨#[]⟩ : ByteArray)):=(blk_cell BK116.out 1).trans rfl;have hfz25_0:=blk_frozen BK116.out 0;have hfz25_1:=blk_frozen BK116.out 1))
           have n0_ : Aside0 (Kd.R Kd.string 9 ((w24.setCell ⟨gb116,0,none⟩ (.string ((rd_T60 t111 x29_2).f0))).setCell ⟨gb116,1,none⟩ (.string ((rd_T60 t111 x29_2).f1))) w.heap.size (fun _=>True) u5 x5_2):=⟨by (with_reducible repeat (first|apply Kd.R_alloc|apply Kd.R_drewN|apply Kd.R_drew));exact Kd.R_mono (Kd.R_far (p:=⟨gb116,1,none⟩) (Kd.R_far (p:=⟨gb116,0,none⟩) (Kd.R_types HO_5.out BK116.out (by decide)) (fun _ hk=>hk.2) (.string ((rd_T60 t111 x29_2).f0))) (fun _ hk=>hk.2) (.string ((rd_T60 t111 x29_2).f1))) (fun _ hk=>trivial)⟩
           have n1_ : Aside0 (Kd.R k60 60 ((w24.setCell ⟨gb116,0,none⟩ (.string ((rd_T60 t111 x29_2).f0))).setCell ⟨gb116,1,none⟩ (.string ((rd_T60 t111 x29_2).f1))) w.heap.size (fun k_=>k_ ≠ gb116) (.slice (some ad115) t111.length co16) t111):=⟨by (with_reducible repeat (first|apply Kd.R_alloc|apply Kd.R_drewN|apply Kd.R_drew));exact Kd.R_mono (Kd.R_far (p:=⟨gb116,1,none⟩) (Kd.R_far (p:=⟨gb116,0,none⟩) (Kd.R_mono HO_27.out (fun k_ hk=>(⟨hk,hk.2⟩ : _ ∧ k_ ≠ gb116))) (fun _ hk=>hk.2) (.string ((rd_T60 t111 x29_2).f0))) (fun _ hk=>hk.2) (.string ((rd_T60 t111 x29_2).f1))) (fun _ hk=>hk.1.2)⟩
           have n2_ : Aside0 (((w24.setCell ⟨gb116,0,none⟩ (.string ((rd_T60 t111 x29_2).f0))).setCell ⟨gb116,1,none⟩ (.string ((rd_T60 t111 x29_2).f1))).heap[gb116]? = some (.cells #[.string ((rd_T60 t111 x29_2).f0),.string ((rd_T60 t111 x29_2).f1)] 60 (0,0))):=⟨by (with_reducible repeat (first|refine blk_drewN ?_ _|refine blk_drew ?_|refine blk_alloc ?_ _));refine blk_put (cs:=#[.string ((rd_T60 t111 x29_2).f0),.string (⟨#[]⟩ : ByteArray)]) ?_ 1 _ rfl;(with_reducible repeat (first|refine blk_drewN ?_ _|refine blk_drew ?_|refine blk_alloc ?_ _));refine blk_put (cs:=#[.string (⟨#[]⟩ : ByteArray),.string (⟨#[]⟩ : ByteArray)]) ?_ 0 _ rfl;(with_reducible repeat (first|refine blk_drewN ?_ _|refine blk_drew ?_|refine blk_alloc ?_ _));exact BK116.out⟩
           have n3_ : Aside0 (Below w.heap.size w ((w24.setCell ⟨gb116,0,none⟩ (.string ((rd_T60 t111 x29_2).f0))).setCell ⟨gb116,1,none⟩ (.string ((rd_T60 t111 x29_2).f1)))):=⟨by repeat (first|(with_reducible first|exact HB.out|apply below_alloc|apply pw_below_drewN|apply below_drew1|refine below_set ?_ GE116.out)|exact HB.out)⟩
           (try clear HO_5)
           (try clear HO_27)
           (try clear BK116)
           (try clear HB)
           generalize ((w24.setCell ⟨gb116,0,none⟩ (.string ((rd_T60 t111 x29_2).f0))).setCell ⟨gb116,1,none⟩ (.string ((rd_T60 t111 x29_2).f1))) = w26 at n0_ n1_ n2_ n3_ ⊢
           have HO_5:=n0_
           have HO_27:=n1_
           have BK116:=n2_
           have HB:=n3_
           clear n0_ n1_ n2_ n3_
           have n0_:=Aside0.mk (Kd.R_drew HO_5.out)
           have n1_:=Aside0.mk (Kd.R_drew HO_27.out)
           have n2_:=Aside0.mk (blk_drew BK116.out)
           have n3_:=Aside0.mk (below_drew1 HB.out)
           clear HO_5
           clear HO_27
           clear BK116
           clear HB
           have HO_5:=n0_
           have HO_27:=n1_
           have BK116:=n2_
           have HB:=n3_
           clear n0_ n1_ n2_ n3_
           refine start_ (n:=11) (S:=fun w'=>w'.cell? ⟨gb116,0,none⟩ = some (.string ((rd_T60 t111 x29_2).f0)) ∧ w'.cell? ⟨gb116,1,none⟩ = some (.string ((rd_T60 t111 x29_2).f1))) (ds:=[]) #[false,false,false,false,false,false,false,false,false,false,false] (by kernel_rfl) rfl rfl ⟨(blk_cell BK116.out 0).trans rfl,(blk_cell BK116.out 1).trans rfl⟩ (fun hHeld=>?_);refine with_tabW label_PrintA.tab13 label_PrintA.bits13 (fun HT_ HW_=>?_)
           generalize w26.drew = w27 at HO_5 HO_27 BK116 HB hHeld ⊢
           refine pure_ (i:=0) (N:=some 33) (v:=?_) (a':=?_) #[true,false,false,false,false,false,false,false,false,false,false] rfl rfl (any_of HT_.out (by kernel_rfl)) (fun _ _ _ h=>h) (Or.inl ⟨by rfl,?_⟩) ?_ ?_
           rotate_left
           ·intro w'
            go_simp
            with_reducible rfl
           rotate_left
           ·simp only [Act.put,List.setIfInBounds_toArray,List.set_cons_zero,List.set_cons_succ,i64_w,i32_w]
            rfl
           refine pure_ (i:=1) (N:=some 34) (v:=?_) (a':=?_) #[true,true,false,false,false,false,false,false,false,false,false] rfl rfl (any_of HT_.out (by kernel_rfl)) (fun _ _ _ h=>h) (Or.inl ⟨by rfl,?_⟩) ?_ ?_
           rotate_left
           ·intro w'
            go_simp
            with_reducible rfl
           rotate_left
           ·simp only [Act.put,List.setIfInBounds_toArray,List.set_cons_zero,List.set_cons_succ,i64_w,i32_w]
            rfl
           refine pure_ (i:=4) (N:=some 37) (v:=?_) (a':=?_) #[true,true,false,false,true,false,false,false,false,false,false] rfl rfl (any_of HT_.out (by kernel_rfl)) (fun _ _ _ h=>h) (Or.inl ⟨by rfl,?_⟩) ?_ ?_
           rotate_left
           ·intro w'
            go_simp
            with_reducible rfl
           rotate_left
           ·simp only [Act.put,List.setIfInBounds_toArray,List.set_cons_zero,List.set_cons_succ,i64_w,i32_w]
            rfl
           refine take_ (i:=2) (N:=some 35) (v:=?_) (a':=?_) #[true,true,true,false,true,false,false,false,false,false,false] rfl rfl (take_ofW HT_.out HW_.out (by kernel_rfl)) (fun _ _ _ h=>h) (Or.inl ⟨by rfl,?_⟩) hHeld ?_ ?_
           rotate_left
           ·rintro w' ⟨s0,s1⟩
            go_simp
            with_reducible rfl
           rotate_left
           ·simp only [Act.put,List.setIfInBounds_toArray,List.set_cons_zero,List.set_cons_succ,i64_w,i32_w]
            rfl
           refine pure_ (i:=3) (N:=some 36) (v:=?_) (a':=?_) #[true,true,true,true,true,false,false,false,false,false,false] rfl rfl (any_of HT_.out (by kernel_rfl)) (fun _ _ _ h=>h) (Or.inl ⟨by rfl,?_⟩) ?_ ?_
           rotate_left
           ·intro w'
            go_simp
            with_reducible rfl
           rotate_left
           ·simp only [Act.put,List.setIfInBounds_toArray,List.set_cons_zero,List.set_cons_succ,i64_w,i32_w]
            rfl
           refine take_ (i:=5) (N:=some 38) (v:=?_) (a':=?_) #[true,true,true,true,true,true,false,false,false,false,false] rfl rfl (take_ofW HT_.out HW_.out (by kernel_rfl)) (fun _ _ _ h=>h) (Or.inl ⟨by rfl,?_⟩) hHeld ?_ ?_
           rotate_left
           ·rintro w' ⟨s0,s1⟩
            go_simp
            with_reducible rfl
           rotate_left
           ·simp only [Act.put,List.setIfInBounds_toArray,List.set_cons_zero,List.set_cons_succ,i64_w,i32_w]
            rfl
           refine one_ (i:=6) (N:=some 39) #[true,true,true,true,true,true,true,false,false,false,false] rfl rfl (one_of HT_.out (by kernel_rfl)) (by decide) (fun K hK=>?_)
           refine goes_ Tryz.func100 (by kernel_rfl) rfl #[.string ((rd_T60 t111 x29_2).f1)] (by rfl) rfl rfl (by (try simp only [List.map_toArray,List.map_cons,List.map_nil]);first|done|rfl|(simp only [List.length_drop,List.length_take];rfl)) ?_
           with_reducible refine (label_Quote.calls ((rd_T60 t111 x29_2).f1) t117 _ A21.out).mono ?_
           rintro e w28 ⟨rfl,hb⟩
           refine ⟨_,rfl,?_⟩
           have n0_:=Aside0.mk (Kd.R_below (by (with_reducible repeat (first|apply Kd.R_alloc|apply Kd.R_drewN|apply Kd.R_drew));exact HO_5.out) hb)
           have n1_:=Aside0.mk (Kd.R_below (by (with_reducible repeat (first|apply Kd.R_alloc|apply Kd.R_drewN|apply Kd.R_drew));exact HO_27.out) hb)
           have n2_:=Aside0.mk (blk_below (g:=gb116) (o:=.cells #[.string ((rd_T60 t111 x29_2).f0),.string ((rd_T60 t111 x29_2).f1)] 60 (0,0)) (by (with_reducible repeat (first|refine blk_drewN ?_ _|refine blk_drew ?_|refine blk_alloc ?_ _));exact BK116.out) hb)
           have n3_:=Aside0.mk (below_step (by repeat (first|(with_reducible first|exact HB.out|apply below_alloc|apply pw_below_drewN|apply below_drew1|refine below_set ?_ GE116.out)|exact HB.out)) hb)
           clear HO_5
           clear HO_27
           clear BK116
           clear HB
           have HO_5:=n0_
           have HO_27:=n1_
           have BK116:=n2_
           have HB:=n3_
           clear n0_ n1_ n2_ n3_
           (try clear hb)
           (try clear hb2)
           (try clear hk)
           (try clear hi)
           refine hK.out _ _ ⟨(blk_cell BK116.out 0).trans rfl,(blk_cell BK116.out 1).trans rfl⟩ (fun hHeld=>?_)
           clear hK K
           refine norm_ (a':=?_) ?_ ?_
           rotate_left
           ·show Act.put _ (some 39) _ = _
            simp only [Act.put,List.setIfInBounds_toArray,List.set_cons_zero,List.set_cons_succ,i64_w,i32_w]
            rfl
           refine pure_ (i:=7) (N:=some 40) (v:=?_) (a':=?_) #[true,true,true,true,true,true,true,true,false,false,false] rfl rfl (any_of HT_.out (by kernel_rfl)) (fun _ _ _ h=>h) (Or.inl ⟨by rfl,?_⟩) ?_ ?_
           rotate_left
           ·intro w'
            go_simp
            with_reducible rfl
           rotate_left
           ·simp only [Act.put,List.setIfInBounds_toArray,List.set_cons_zero,List.set_cons_succ,i64_w,i32_w]
            rfl
           refine one_ (i:=8) (N:=some 41) #[true,true,true,true,true,true,true,true,true,false,false] rfl rfl (one_of HT_.out (by kernel_rfl)) (by decide) (fun K hK=>?_)
           refine value_ (w1:=?_) (v:=?_) (by rfl) rfl ?_ ?_
           rotate_left 2
           ·go_simp
            constructor
            ·rfl
            rfl
           refine hK.out _ _ ⟨(blk_cell (blk_alloc BK116.out _) 0).trans rfl,(blk_cell (blk_alloc BK116.out _) 1).trans rfl⟩ (fun hHeld=>?_)
           clear hK K
           refine norm_ (a':=?_) ?_ ?_
           rotate_left
           ·show Act.put _ (some 41) _ = _
            simp only [Act.put,List.setIfInBounds_toArray,List.set_cons_zero,List.set_cons_succ,i64_w,i32_w]
            rfl
           refine one_ (i:=9) (N:=some 42) #[true,true,true,true,true,true,true,true,true,true,false] rfl rfl (one_of HT_.out (by kernel_rfl)) (by decide) (fun K hK=>?_)
           refine Kd.R_append_step Kd.string (w0:=w) w.heap.size (by rfl) (.tmp 33) (.tmp 41) 45 9 (.string ⟨#[]⟩) 16 rfl Tryz.underlying45 info9 rfl (by decide) (by omega) u5 x5_2 ((((rd_T60 t111 x29_2).f0) ++ (⟨#[61]⟩ : ByteArray)) ++ t117) [.string ((((rd_T60 t111 x29_2).f0) ++ (⟨#[61]⟩ : ByteArray)) ++ t117)] (fun _=>True) (fun _=>False) rfl rfl ?aP (fun _ hk=>hk.elim) ?aF ?aO ?aB ?aS ?aL ?_
           (case aP=>exact rfl)
           (case aB=>exact (by repeat (first|(with_reducible first|exact HB.out|apply below_alloc|apply pw_below_drewN|apply below_drew1|refine below_set ?_ GE116.out)|exact HB.out)))
           (case aF=>exact (fun _ _=>trivial))
           (case aO=>exact (by (with_reducible repeat (first|apply Kd.R_alloc|apply Kd.R_drewN|apply Kd.R_drew));exact HO_5.out))
           (case aS=>exact (below_size (by repeat (first|(with_reducible first|exact HB.out|apply below_alloc|apply pw_below_drewN|apply below_drew1|refine below_set ?_ GE116.out)|exact HB.out))))
           (case aL=>have:=LMc23.out;omega)
           intro v119 w29 ho hb hg hat
           rw [← Ny118.out] at ho
           have n0_:=Aside0.mk (Kd.R_over' (by (with_reducible repeat (first|apply Kd.R_alloc|apply Kd.R_drewN|apply Kd.R_drew));exact HO_27.out) (Kd.R_typed (by (with_reducible repeat (first|apply Kd.R_alloc|apply Kd.R_drewN|apply Kd.R_drew));exact HO_5.out)) (by decide) hg)
           have n1_:=Aside0.mk (blk_grown (g:=gb116) (o:=.cells #[.string ((rd_T60 t111 x29_2).f0),.string ((rd_T60 t111 x29_2).f1)] 60 (0,0)) (by (with_reducible repeat (first|refine blk_drewN ?_ _|refine blk_drew ?_|refine blk_alloc ?_ _));exact BK116.out) hg (Kd.R_ne HO_5.out BK116.out (by decide)))
           have n2_:=Aside0.mk (hb)
           have n3_:=Aside0.mk (ho)
           clear HO_27
           clear BK116
           clear HB
           clear HO_5
           have HO_27:=n0_
           have BK116:=n1_
           have HB:=n2_
           have HO120:=n3_
           clear n0_ n1_ n2_ n3_
           clear ho hb hg hat
           refine hK.out _ _ ⟨(blk_cell BK116.out 0).trans rfl,(blk_cell BK116.out 1).trans rfl⟩ (fun hHeld=>?_)
           clear hK K
           refine norm_ (a':=?_) ?_ ?_
           rotate_left
           ·show Act.put _ (some 42) _ = _
            simp only [Act.put,List.setIfInBounds_toArray,List.set_cons_zero,List.set_cons_succ,i64_w,i32_w]
            rfl
           refine pure_ (i:=10) (N:=some 5) (v:=?_) (a':=?_) #[true,true,true,true,true,true,true,true,true,true,true] rfl rfl (any_of HT_.out (by kernel_rfl)) (fun _ _ _ h=>h) (Or.inl ⟨by rfl,?_⟩) ?_ ?_
           rotate_left
           ·intro w'
            go_simp
            with_reducible rfl
           rotate_left
           ·simp only [Act.put,List.setIfInBounds_toArray,List.set_cons_zero,List.set_cons_succ,i64_w,i32_w]
            rfl
           refine done_ (done_of HT_.out (by kernel_rfl)) ?_
           try go_wp2
           go_roundg k2
           case measure=>have:=HJ7.out;have:=HK2.out;omega
           case rel=>exact ⟨(y118),(wrap64 (x29_2 + 1)),(by first|rfl|(simp;done)|(simp [*];done)),H',⟨by have:=HJ7.out;have:=HK2.out;omega⟩,⟨by (with_reducible repeat (first|apply Kd.R_alloc|apply Kd.R_drewN|apply Kd.R_drew));exact HO120.out⟩,⟨by (with_reducible repeat (first|apply Kd.R_alloc|apply Kd.R_drewN|apply Kd.R_drew));exact Kd.R_mono HO_27.out (fun _ hk=>trivial)⟩,⟨by repeat (first|(with_reducible first|exact HB.out|apply below_alloc|apply pw_below_drewN|apply below_drew1|refine below_set ?_ GE116.out)|exact HB.out)⟩⟩
          rw [if_neg c23] at H
          exact absurd H (by simp)
         rw [if_neg c22] at H
         exact absurd H (by simp)
        rw [if_neg c20] at H
        exact absurd H (by simp)
       rw [if_neg c19] at H
       exact absurd H (by simp)
      rw [if_neg c18] at H
      exact absurd H (by simp)
     rw [if_neg c17] at H
     have c17b0 : decide (x29_2 < (t111.length : Int)) = false:=decide_eq_false c17
     clear c17
     by_cases c30 : t110.size + 1 ≤ 9223372036854775807
     ·rw [if_pos c30] at H
      have c30b0:=eq_true c30
      have c30b1 : decide (t110.size + 1 ≤ 9223372036854775807) = true:=decide_eq_true c30
      try have c30b2 : (9223372036854775807 < t110.size + 1) = False:=eq_false (Nat.not_lt.2 c30)
      replace H:=Option.bind_eq_some_iff.mp H
      obtain ⟨t121,A310,H⟩:=H
      replace H : (if (t110 ++ (⟨#[123]⟩ : ByteArray)).size + t121.size ≤ 9223372036854775807 then (if ((t110 ++ (⟨#[123]⟩ : ByteArray)) ++ t121).size + 1 ≤ 9223372036854775807 then (some (((t110 ++ (⟨#[123]⟩ : ByteArray)) ++ t121) ++ (⟨#[125]⟩ : ByteArray))) else (none)) else (none)) = some r:=H
      have A31:=Aside0.mk A310
      clear A310
      by_cases c32 : (t110 ++ (⟨#[123]⟩ : ByteArray)).size + t121.size ≤ 9223372036854775807
      ·rw [if_pos c32] at H
       have c32b0:=eq_true c32
       have c32b1 : decide ((t110 ++ (⟨#[123]⟩ : ByteArray)).size + t121.size ≤ 9223372036854775807) = true:=decide_eq_true c32
       try have c32b2 : (9223372036854775807 < (t110 ++ (⟨#[123]⟩ : ByteArray)).size + t121.size) = False:=eq_false (Nat.not_lt.2 c32)
       try (have c32b3:=c32;simp only [ByteArray.size_append,sz_one] at c32b3;have c32b4:=eq_false (Nat.not_lt.2 c32b3);clear c32b3)
       by_cases c33 : ((t110 ++ (⟨#[123]⟩ : ByteArray)) ++ t121).size + 1 ≤ 9223372036854775807
       ·rw [if_pos c33] at H
        have c33b0:=eq_true c33
        have c33b1 : decide (((t110 ++ (⟨#[123]⟩ : ByteArray)) ++ t121).size + 1 ≤ 9223372036854775807) = true:=decide_eq_true c33
        try have c33b2 : (9223372036854775807 < ((t110 ++ (⟨#[123]⟩ : ByteArray)) ++ t121).size + 1) = False:=eq_false (Nat.not_lt.2 c33)
        try (have c33b3:=c33;simp only [ByteArray.size_append,sz_one] at c33b3;have c33b4:=eq_false (Nat.not_lt.2 c33b3);clear c33b3)
        obtain rfl:=Option.some.inj H
        obtain ⟨Ao34,co34,eo34⟩:=Kd.R_slice HO_5.out
        subst eo34
        go_wp2_with (first|((with_reducible refine gate_callee (f:=101) rfl ?_);refine goesL_ (some 47) rfl rfl Tryz.func101 (by kernel_rfl) rfl #[.slice Ao34 x5_2.length co34,.string (⟨#[44]⟩ : ByteArray)] rfl (by (try simp only [List.map_toArray,List.map_cons,List.map_nil]);first|done|rfl|(simp only [List.length_drop,List.length_take];rfl)) ?_;(with_reducible refine (strings_Join.calls _ _ x5_2 (⟨#[44]⟩ : ByteArray) t121 _ ?side1 ?side2 A31.out).mono ?_);(case side1=>repeat (first|exact (Kd.R_reads' HO_5.out).2.2|(with_reducible refine Kd.C_alloc ?_ _)|(with_reducible refine Kd.C_drewN ?_ _)|(with_reducible refine Kd.C_drew ?_)));(case side2=>exact (Kd.R_reads' HO_5.out).2.1);rintro e w35 ⟨rfl,hb⟩;refine ⟨_,rfl,?_⟩;have n0_:=Aside0.mk (Kd.R_below (by (with_reducible repeat (first|apply Kd.R_alloc|apply Kd.R_drewN|apply Kd.R_drew));exact HO_5.out) hb);have n1_:=Aside0.mk (Kd.R_below (by (with_reducible repeat (first|apply Kd.R_alloc|apply Kd.R_drewN|apply Kd.R_drew));exact HO_27.out) hb);have n2_:=Aside0.mk (below_step (by repeat (first|(with_reducible first|exact HB.out|apply below_alloc|apply pw_below_drewN|apply below_drew1)|exact HB.out)) hb);clear HO_5;clear HO_27;clear HB;have HO_5:=n0_;have HO_27:=n1_;have HB:=n2_;clear n0_ n1_ n2_;(try clear hb);(try clear hb2);(try clear hk);(try clear hi)))
        go_ret
        exact ⟨by first|rfl|(simp [errW_none,errW_some] <;> rfl)|(simp [*,errW_none,errW_some] <;> rfl),by repeat (first|(with_reducible first|exact HB.out|apply below_alloc|apply pw_below_drewN|apply below_drew1)|exact HB.out)⟩
       rw [if_neg c33] at H
       exact absurd H (by simp)
      rw [if_neg c32] at H
      exact absurd H (by simp)
     rw [if_neg c30] at H
     exact absurd H (by simp)
  replace c7:=Bool.eq_false_iff.mpr c7
  subst c7
  have H1 : (none) = some r:=by rw [if_neg (show ¬ (false = true) by decide)] at H;exact H
  clear H
  have H:=H1
  clear H1
  exact absurd H (by simp)
 replace c3:=Bool.eq_false_iff.mpr c3
 subst c3
 have H1 : (some (⟨#[]⟩ : ByteArray)) = some r:=by rw [if_neg (show ¬ (false = true) by decide)] at H;exact H
 clear H
 have H:=H1
 clear H1
 obtain rfl:=Option.some.inj H
 go_enter Tryz.func61,Tryz.ntmps61
 go_wp2_with (first|((with_reducible refine gate_callee (f:=48) rfl ?_);refine goesL_ (some 9) rfl rfl Tryz.func48 (by kernel_rfl) rfl #[.slice A0 l0.length c0] rfl (by (try simp only [List.map_toArray,List.map_cons,List.map_nil]);first|done|rfl|(simp only [List.length_drop,List.length_take];rfl)) ?_;(with_reducible refine (label_Is.calls _ _ l0 false _ ?side1 ?side2 A2.out).mono ?_);(case side1=>repeat (first|exact HR0.out|(with_reducible refine Kd.C_alloc ?_ _)|(with_reducible refine Kd.C_drewN ?_ _)|(with_reducible refine Kd.C_drew ?_)));(case side2=>exact HC0.out);rintro e w36 ⟨rfl,hb⟩;refine ⟨_,rfl,?_⟩;have n0_:=Aside0.mk (below_step (by repeat (first|(with_reducible first|exact HB.out|apply below_alloc|apply pw_below_drewN|apply below_drew1)|exact HB.out)) hb);clear HB;have HB:=n0_;clear n0_;(try clear hb);(try clear hb2);(try clear hk);(try clear hi)))
 go_ret
 exact ⟨by first|rfl|(simp [errW_none,errW_some] <;> rfl)|(simp [*,errW_none,errW_some] <;> rfl),by repeat (first|(with_reducible first|exact HB.out|apply below_alloc|apply pw_below_drewN|apply below_drew1)|exact HB.out)⟩
/-! ### label_PrintB: function 61 -/
mutual
def label_PrintB.j0 : Nat → ByteArray → List (S60) → Bool → Option (ByteArray)
 | 0,_,_,_=>none
 | k + 1,x3,x4,x25=>if x25 = true then (some x3) else (label_PrintB.l0 k x3 ([] : List ByteArray) x4 (x4.length : Int) 0)
def label_PrintB.l0 : Nat → ByteArray → List ByteArray → List (S60) → Int → Int → Option (ByteArray)
 | 0,_,_,_,_,_=>none
 | k + 1,x3,x5,x27,x28,x29=>if x29 < x28 then (if 0 ≤ x29 then (if x29 < (x27.length : Int) then (if ((rd_T60 x27 x29).f0).size + 1 ≤ 9223372036854775807 then ((label_Quote.f ((rd_T60 x27 x29).f1)).bind fun t117=>(if (((rd_T60 x27 x29).f0) ++ (⟨#[61]⟩ : ByteArray)).size + t117.size ≤ 9223372036854775807 then (if x5.length < 8796093022208 then (label_PrintB.l0 k x3 (x5 ++ [(((rd_T60 x27 x29).f0) ++ (⟨#[61]⟩ : ByteArray)) ++ t117]) x27 x28 (wrap64 (x29 + 1))) else (none)) else (none))) else (none)) else (none)) else (none)) else (if x3.size + 1 ≤ 9223372036854775807 then ((strings_Join.f x5 (⟨#[44]⟩ : ByteArray)).bind fun t121=>(if (x3 ++ (⟨#[123]⟩ : ByteArray)).size + t121.size ≤ 9223372036854775807 then (if ((x3 ++ (⟨#[123]⟩ : ByteArray)) ++ t121).size + 1 ≤ 9223372036854775807 then (some (((x3 ++ (⟨#[123]⟩ : ByteArray)) ++ t121) ++ (⟨#[125]⟩ : ByteArray))) else (none)) else (none))) else (none))
end
def label_PrintB.f (k : Nat) (l0 : List (S60)) : Option (ByteArray):=(label_Is.f l0).bind fun t109=>(if t109 = true then ((label_Get.f k l0 (⟨#[95,95,110,97,109,101,95,95]⟩ : ByteArray)).bind fun t110=>((label_Without.f l0 ([] : List ByteArray)).bind fun t111=>((label_Name.f k t110).bind fun t114=>(if t114 = true then (none) else (if (l0.length : Int) = 0 then (label_PrintB.j0 k (⟨#[]⟩ : ByteArray) l0 (([] : List UInt8) != ([] : List UInt8))) else (label_PrintB.j0 k (⟨#[]⟩ : ByteArray) l0 false)))))) else (some (⟨#[]⟩ : ByteArray)))
def label_PrintB.T13 : Bool × List (List Nat × List Nat):=(true,[([],[]),([],[]),([1],[1]),([2],[2]),([],[]),([4],[4]),([5],[5]),([3,6],[3,6]),([7],[7]),([0,8,6],[0,8]),([9,9,0,1,2,3,4,5,6,7,8,9],[0,9])])
def label_PrintB.B13 : List Nat:=[0,0,2,6,0,16,48,126,254,511,1023]
theorem label_PrintB.tab13 : rtab .any (opsOf Tryz.f61 13) = label_PrintB.T13:=by kernel_rfl
theorem label_PrintB.bits13 : waitsOk label_PrintB.T13.2 label_PrintB.B13 = true:=by kernel_rfl
set_option maxHeartbeats 8000000 in
set_option maxRecDepth 100000 in
theorem label_PrintB.calls (k : Nat) (A0 : Option Addr) (c0 : Nat) (l0 : List (S60)) (r : ByteArray) (w : World) (hr0 : Kd.C k60 w A0 l0.length l0) (hc0 : l0.length ≤ c0) (h : label_PrintB.f k l0 = some r) :
  Calls Tryz.prog 61 #[.slice A0 l0.length c0] w fun e w'=>e = .returned (.string r) ∧ Below w.heap.size w w':=by
 have hu60:=Tryz.underlying60
 have HR0:=Aside0.mk hr0
 have HC0:=Aside0.mk hc0
 clear hr0 hc0
 have HB:=Aside0.mk (Below.refl w.heap.size w)
 have H : ((label_Is.f l0).bind fun t109=>(if t109 = true then ((label_Get.f k l0 (⟨#[95,95,110,97,109,101,95,95]⟩ : ByteArray)).bind fun t110=>((label_Without.f l0 ([] : List ByteArray)).bind fun t111=>((label_Name.f k t110).bind fun t114=>(if t114 = true then (none) else (if (l0.length : Int) = 0 then (label_PrintB.j0 k (⟨#[]⟩ : ByteArray) l0 (([] : List UInt8) != ([] : List UInt8))) else (label_PrintB.j0 k (⟨#[]⟩ : ByteArray) l0 false)))))) else (some (⟨#[]⟩ : ByteArray)))) = some r:=h
 clear h
 replace H:=Option.bind_eq_some_iff.mp H
 obtain ⟨t109,A20,H⟩:=H
 replace H : (if t109 = true then ((label_Get.f k l0 (⟨#[95,95,110,97,109,101,95,95]⟩ : ByteArray)).bind fun t110=>((label_Without.f l0 ([] : List ByteArray)).bind fun t111=>((label_Name.f k t110).bind fun t114=>(if t114 = true then (none) else (if (l0.length : Int) = 0 then (label_PrintB.j0 k (⟨#[]⟩ : ByteArray) l0 (([] : List UInt8) != ([] : List UInt8))) else (label_PrintB.j0 k (⟨#[]⟩ : ByteArray) l0 false)))))) else (some (⟨#[]⟩ : ByteArray))) = some r:=H
 have A2:=Aside0.mk A20
 clear A20
 by_cases c3 : t109 = true
 ·subst c3
  have H1 : ((label_Get.f k l0 (⟨#[95,95,110,97,109,101,95,95]⟩ : ByteArray)).bind fun t110=>((label_Without.f l0 ([] : List ByteArray)).bind fun t111=>((label_Name.f k t110).bind fun t114=>(if t114 = true then (none) else (if (l0.length : Int) = 0 then (label_PrintB.j0 k (⟨#[]⟩ : ByteArray) l0 (([] : List UInt8) != ([] : List UInt8))) else (label_PrintB.j0 k (⟨#[]⟩ : ByteArray) l0 false)))))) = some r:=by rw [if_pos rfl] at H;exact H
  clear H
  have H:=H1
  clear H1
  replace H:=Option.bind_eq_some_iff.mp H
  obtain ⟨t110,A40,H⟩:=H
  replace H : ((label_Without.f l0 ([] : List ByteArray)).bind fun t111=>((label_Name.f k t110).bind fun t114=>(if t114 = true then (none) else (if (l0.length : Int) = 0 then (label_PrintB.j0 k (⟨#[]⟩ : ByteArray) l0 (([] : List UInt8) != ([] : List UInt8))) else (label_PrintB.j0 k (⟨#[]⟩ : ByteArray) l0 false))))) = some r:=H
  have A4:=Aside0.mk A40
  clear A40
  replace H:=Option.bind_eq_some_iff.mp H
  obtain ⟨t111,A50,H⟩:=H
  replace H : ((label_Name.f k t110).bind fun t114=>(if t114 = true then (none) else (if (l0.length : Int) = 0 then (label_PrintB.j0 k (⟨#[]⟩ : ByteArray) l0 (([] : List UInt8) != ([] : List UInt8))) else (label_PrintB.j0 k (⟨#[]⟩ : ByteArray) l0 false)))) = some r:=H
  have A5:=Aside0.mk A50
  clear A50
  replace H:=Option.bind_eq_some_iff.mp H
  obtain ⟨t114,A60,H⟩:=H
  replace H : (if t114 = true then (none) else (if (l0.length : Int) = 0 then (label_PrintB.j0 k (⟨#[]⟩ : ByteArray) l0 (([] : List UInt8) != ([] : List UInt8))) else (label_PrintB.j0 k (⟨#[]⟩ : ByteArray) l0 false))) = some r:=H
  have A6:=Aside0.mk A60
  clear A60
  by_cases c7 : t114 = true
  ·subst c7
   have H1 : (none) = some r:=by rw [if_pos rfl] at H;exact H
   clear H
   have H:=H1
   clear H1
   exact absurd H (by simp)
  replace c7:=Bool.eq_false_iff.mpr c7
  subst c7
  have H1 : (if (l0.length : Int) = 0 then (label_PrintB.j0 k (⟨#[]⟩ : ByteArray) l0 (([] : List UInt8) != ([] : List UInt8))) else (label_PrintB.j0 k (⟨#[]⟩ : ByteArray) l0 false)) = some r:=by rw [if_neg (show ¬ (false = true) by decide)] at H;exact H
  clear H
  have H:=H1
  clear H1
  have HC8:=Aside0.mk H
  clear H
  go_enter Tryz.func61,Tryz.ntmps61
  go_upto_region 7 with (first|((with_reducible refine gate_callee (f:=48) rfl ?_);refine goesL_ (some 9) rfl rfl Tryz.func48 (by kernel_rfl) rfl #[.slice A0 l0.length c0] rfl (by (try simp only [List.map_toArray,List.map_cons,List.map_nil]);first|done|rfl|(simp only [List.length_drop,List.length_take];rfl)) ?_;(with_reducible refine (label_Is.calls _ _ l0 true _ ?side1 ?side2 A2.out).mono ?_);(case side1=>repeat (first|exact HR0.out|(with_reducible refine Kd.C_alloc ?_ _)|(with_reducible refine Kd.C_drewN ?_ _)|(with_reducible refine Kd.C_drew ?_)));(case side2=>exact HC0.out);rintro e w9 ⟨rfl,hb⟩;refine ⟨_,rfl,?_⟩;have n0_:=Aside0.mk (below_step (by repeat (first|(with_reducible first|exact HB.out|apply below_alloc|apply pw_below_drewN|apply below_drew1)|exact HB.out)) hb);clear HB;have HB:=n0_;clear n0_;(try clear hb);(try clear hb2);(try clear hk);(try clear hi))|((with_reducible refine gate_callee (f:=62) rfl ?_);refine goesL_ (some 12) rfl rfl Tryz.func62 (by kernel_rfl) rfl #[.slice A0 l0.length c0,.string (⟨#[95,95,110,97,109,101,95,95]⟩ : ByteArray)] rfl (by (try simp only [List.map_toArray,List.map_cons,List.map_nil]);first|done|rfl|(simp only [List.length_drop,List.length_take];rfl)) ?_;(with_reducible refine (label_Get.calls k _ _ l0 (⟨#[95,95,110,97,109,101,95,95]⟩ : ByteArray) t110 _ ?side1 ?side2 A4.out).mono ?_);(case side1=>repeat (first|exact (Kd.C_below HR0.out HB.out)|(with_reducible refine Kd.C_alloc ?_ _)|(with_reducible refine Kd.C_drewN ?_ _)|(with_reducible refine Kd.C_drew ?_)));(case side2=>exact HC0.out);rintro e w10 ⟨rfl,hb⟩;refine ⟨_,rfl,?_⟩;have n0_:=Aside0.mk (below_step (by repeat (first|(with_reducible first|exact HB.out|apply below_alloc|apply pw_below_drewN|apply below_drew1)|exact HB.out)) hb);clear HB;have HB:=n0_;clear n0_;(try clear hb);(try clear hb2);(try clear hk);(try clear hi))|((with_reducible refine gate_callee (f:=99) rfl ?_);refine goesL_ (some 14) rfl rfl Tryz.func99 (by kernel_rfl) rfl #[.slice A0 l0.length c0,.slice none 0 0] rfl (by (try simp only [List.map_toArray,List.map_cons,List.map_nil]);first|done|rfl|(simp only [List.length_drop,List.length_take];rfl)) ?_;(refine (label_Without.calls _ _ l0 _ _ ([] : List ByteArray) t111 _ ?side1 ?side2 ?side3 ?side4 ⟨rfl,rfl⟩ A5.out).mono ?_);(case side1=>repeat (first|exact (Kd.C_below HR0.out HB.out)|(with_reducible refine Kd.C_alloc ?_ _)|(with_reducible refine Kd.C_drewN ?_ _)|(with_reducible refine Kd.C_drew ?_)));(case side2=>exact HC0.out);(case side3=>exact Kd.C_nil _ _);(case side4=>exact Nat.le_refl _);rintro e w11 ⟨v112,rfl,ho0,hb⟩;refine ⟨_,rfl,?_⟩;have n0_:=Aside0.mk (Kd.R_lower ho0 (below_size (by repeat (first|(with_reducible first|exact HB.out|apply below_alloc|apply pw_below_drewN|apply below_drew1)|exact HB.out))));have n1_:=Aside0.mk (below_step (by repeat (first|(with_reducible first|exact HB.out|apply below_alloc|apply pw_below_drewN|apply below_drew1)|exact HB.out)) hb);clear HB;have HO113:=n0_;have HB:=n1_;clear n0_ n1_;(try clear hb);(try clear hb2);(try clear hk);(try clear hi);(try clear ho0))|((with_reducible refine gate_callee (f:=63) rfl ?_);refine goesL_ (some 16) rfl rfl Tryz.func63 (by kernel_rfl) rfl #[.string t110] rfl (by (try simp only [List.map_toArray,List.map_cons,List.map_nil]);first|done|rfl|(simp only [List.length_drop,List.length_take];rfl)) ?_;(with_reducible refine (label_Name.calls k t110 false _ A6.out).mono ?_);rintro e w' ⟨rfl,⟨nd,rfl⟩⟩;refine ⟨_,rfl,?_⟩))
  (try simp only [Act.put,List.setIfInBounds_toArray,List.set_cons_zero,List.set_cons_succ])
  go_cut [25] (fun v25 wc=>∃ (kq : Nat) (x25_7 : Bool),v25 = .bool x25_7 ∧ Aside0 (label_PrintB.j0 kq (⟨#[]⟩ : ByteArray) l0 x25_7 = some r) ∧ Aside0 (kq ≤ k) ∧ Aside0 (Below w.heap.size w wc))
  case first =>
   have H:=HC8.out
   clear HC8
   by_cases c12 : (l0.length : Int) = 0
   ·rw [if_pos c12] at H
    have c12b0 : ((l0.length : Int) == 0) = true:=beq_iff_eq.mpr c12
    have c12b1 : ((l0.length : Int) != 0) = false:=bne_eq_false_iff_eq.mpr c12
    clear c12
    (first|rw [c12b0]|(simp only [i64_w,i32_w];rw [c12b0])|skip)
    have H':=Aside0.mk H
    clear H
    go_wp2
    go_meet
    case rel=>exact ⟨_,((([] : List UInt8) != ([] : List UInt8))),(by first|rfl|(simp;done)|(simp [*];done)),H',⟨by first|omega|exact Nat.le_refl _⟩,⟨by repeat (first|(with_reducible first|exact HB.out|apply below_alloc|apply pw_below_drewN|apply below_drew1)|exact HB.out)⟩⟩
   rw [if_neg c12] at H
   have c12b0 : ((l0.length : Int) == 0) = false:=beq_eq_false_iff_ne.mpr c12
   have c12b1 : ((l0.length : Int) != 0) = true:=bne_iff_ne.mpr c12
   have c12b2 : ¬ (l0 = []):=fun h_=>c12 (by rw [h_];rfl)
   (first|rw [c12b0]|(simp only [i64_w,i32_w];rw [c12b0])|skip)
   have H':=Aside0.mk H
   clear H
   go_wp2
   go_meet
   case rel=>exact ⟨_,(false),(by first|rfl|(simp;done)|(simp [*];done)),H',⟨by first|omega|exact Nat.le_refl _⟩,⟨by repeat (first|(with_reducible first|exact HB.out|apply below_alloc|apply pw_below_drewN|apply below_drew1)|exact HB.out)⟩⟩
  clear HC8
  try clear c1
  try clear p2
  try clear c3
  try clear c4
  try clear c6
  try clear c7
  try clear c9
  try clear c12
  try clear c12b0
  try clear c12b1
  try clear c12b2
  obtain ⟨kq,x25_7,rfl,HA,HJ7,HB⟩:=hcut
  cases kq with
  | zero=>exact absurd HA.out (by simp [label_PrintB.j0])
  | succ kj7 =>
   have H:=HA.out
   clear HA
   simp only [label_PrintB.j0] at H
   by_cases c13 : x25_7 = true
   ·subst c13
    have H1 : (some (⟨#[]⟩ : ByteArray)) = some r:=by rw [if_pos rfl] at H;exact H
    clear H
    have H:=H1
    clear H1
    obtain rfl:=Option.some.inj H
    go_wp2
    go_ret
    exact ⟨by first|rfl|(simp [errW_none,errW_some] <;> rfl)|(simp [*,errW_none,errW_some] <;> rfl),by repeat (first|(with_reducible first|exact HB.out|apply below_alloc|apply pw_below_drewN|apply below_drew1)|exact HB.out)⟩
   replace c13:=Bool.eq_false_iff.mpr c13
   subst c13
   have H1 : (label_PrintB.l0 kj7 (⟨#[]⟩ : ByteArray) ([] : List ByteArray) l0 (l0.length : Int) 0) = some r:=by rw [if_neg (show ¬ (false = true) by decide)] at H;exact H
   clear H
   have H:=H1
   clear H1
   have H':=Aside0.mk H
   clear H
   go_wp2
   go_loopg [5,29] kj7 (fun kq v5 v29 w'=>∃ (x5_2 : List ByteArray) (x29_2 : Int),v29 = .int .i64 x29_2 ∧ Aside0 (label_PrintB.l0 kq (⟨#[]⟩ : ByteArray) x5_2 l0 (l0.length : Int) x29_2 = some r) ∧ Aside0 (kq ≤ kj7) ∧ Aside0 (Kd.R Kd.string 9 w' w.heap.size (fun _=>True) v5 x5_2) ∧ Aside0 (Below w.heap.size w w'))
   case atStart=>exact ⟨(([] : List ByteArray)),(0),(by first|rfl|(simp;done)|(simp [*];done)),H',⟨Nat.le_refl _⟩,⟨by first|exact Kd.R_nil _ _ _ _ _|exact Kd.N_nil _ _ _ _ _|exact Kd.V_nil _ _ _ _ _|exact Kd.Q_nil _ _ _ _ _|exact Kd.S_nil _ _ _ _ _⟩,⟨by repeat (first|(with_reducible first|exact HB.out|apply below_alloc|apply pw_below_drewN|apply below_drew1)|exact HB.out)⟩⟩
   clear H'
   try clear c1
   try clear p2
   try clear c3
   try clear c4
   try clear c6
   try clear c7
   try clear c9
   try clear c12
   try clear c12b0
   try clear c12b1
   try clear c12b2
   try clear c13
   try clear p2
   obtain ⟨x5_2,x29_2,rfl,HA,HK2,HO_5,HB⟩:=hrel
   cases gk with
   | zero=>exact absurd HA.out (by simp [label_PrintB.l0])
   | succ k2 =>
    have H:=HA.out
    clear HA
    simp only [label_PrintB.l0] at H
    by_cases c14 : x29_2 < (l0.length : Int)
    ·rw [if_pos c14] at H
     have c14b0 : decide (x29_2 < (l0.length : Int)) = true:=decide_eq_true c14
     clear c14
     by_cases c15 : 0 ≤ x29_2
     ·rw [if_pos c15] at H
      have c15b0 : decide (0 ≤ x29_2) = true:=decide_eq_true c15
      clear c15
      by_cases c16 : x29_2 < (l0.length : Int)
      ·rw [if_pos c16] at H
       have c16b0 : decide (x29_2 < (l0.length : Int)) = true:=decide_eq_true c16
       clear c16
       by_cases c17 : ((rd_T60 l0 x29_2).f0).size + 1 ≤ 9223372036854775807
       ·rw [if_pos c17] at H
        have c17b0:=eq_true c17
        have c17b1 : decide (((rd_T60 l0 x29_2).f0).size + 1 ≤ 9223372036854775807) = true:=decide_eq_true c17
        try have c17b2 : (9223372036854775807 < ((rd_T60 l0 x29_2).f0).size + 1) = False:=eq_false (Nat.not_lt.2 c17)
        replace H:=Option.bind_eq_some_iff.mp H
        obtain ⟨t117,A180,H⟩:=H
        replace H : (if (((rd_T60 l0 x29_2).f0) ++ (⟨#[61]⟩ : ByteArray)).size + t117.size ≤ 9223372036854775807 then (if x5_2.length < 8796093022208 then (label_PrintB.l0 k2 (⟨#[]⟩ : ByteArray) (x5_2 ++ [(((rd_T60 l0 x29_2).f0) ++ (⟨#[61]⟩ : ByteArray)) ++ t117]) l0 (l0.length : Int) (wrap64 (x29_2 + 1))) else (none)) else (none)) = some r:=H
        have A18:=Aside0.mk A180
        clear A180
        by_cases c19 : (((rd_T60 l0 x29_2).f0) ++ (⟨#[61]⟩ : ByteArray)).size + t117.size ≤ 9223372036854775807
        ·rw [if_pos c19] at H
         have c19b0:=eq_true c19
         have c19b1 : decide ((((rd_T60 l0 x29_2).f0) ++ (⟨#[61]⟩ : ByteArray)).size + t117.size ≤ 9223372036854775807) = true:=decide_eq_true c19
         try have c19b2 : (9223372036854775807 < (((rd_T60 l0 x29_2).f0) ++ (⟨#[61]⟩ : ByteArray)).size + t117.size) = False:=eq_false (Nat.not_lt.2 c19)
         try (have c19b3:=c19;simp only [ByteArray.size_append,sz_one] at c19b3;have c19b4:=eq_false (Nat.not_lt.2 c19b3);clear c19b3)
         by_cases c20 : x5_2.length < 8796093022208
         ·rw [if_pos c20] at H
          have LMc20:=Aside0.mk c20
          clear c20
          obtain ⟨y118,hy118⟩ : ∃ y_ : List ByteArray,y_ = (x5_2 ++ [(((rd_T60 l0 x29_2).f0) ++ (⟨#[61]⟩ : ByteArray)) ++ t117]):=⟨_,rfl⟩
          replace H : (label_PrintB.l0 k2 (⟨#[]⟩ : ByteArray) y118 l0 (l0.length : Int) (wrap64 (x29_2 + 1))) = some r:=by first|(rw [hy118];with_reducible exact H)|(have H2_:=(Option.bind_some _ _).symm.trans H;rw [hy118];with_reducible exact H2_)|(have H2_:=(Option.bind_some _ _).symm.trans H;with_reducible exact H2_)|with_reducible exact H|(rw [hy118];exact H)|exact H
          have Ny118:=Aside0.mk hy118
          clear hy118
          have H':=Aside0.mk H
          clear H
          have p115 : 0 ≤ (x29_2 : Int):=of_decide_eq_true (by first|(with_reducible assumption)|assumption)
          have q115 : x29_2 < (l0.length : Int):=of_decide_eq_true (by first|(with_reducible assumption)|assumption)
          obtain ⟨ad115,e115,hx115_0,hx115_1⟩:=at_T60 HR0.out x29_2 p115 q115
          cases e115
          replace hx115_0:=(HB.out.cell (World.block_lt_of_cell? w _ hx115_0)).trans hx115_0
          replace hx115_1:=(HB.out.cell (World.block_lt_of_cell? w _ hx115_1)).trans hx115_1
          replace p115:=eq_true p115
          replace q115:=eq_true q115
          try go_wp2_with (first|((with_reducible refine gate_dst (N:=7) rfl ?_);refine box_event ?hg (N:=7) ?hd (cs:=#[.string (⟨#[]⟩ : ByteArray),.string (⟨#[]⟩ : ByteArray)]) (t:=60) ?hr ?_;(case hd=>rfl);(case hg=>rfl);(case hr=>first|(go_simp;done)|(go_simp;rfl));intro gb116 hg w21 hbox hb;have n0_:=Aside0.mk (Kd.R_below (by (with_reducible repeat (first|apply Kd.R_alloc|apply Kd.R_drewN|apply Kd.R_drew));exact HO_5.out) hb);have n1_:=Aside0.mk (below_step (by repeat (first|(with_reducible first|exact HB.out|apply below_alloc|apply pw_below_drewN|apply below_drew1)|exact HB.out)) hb);have n2_:=Aside0.mk (hbox);have n3_:=Aside0.mk ((by rw [hg];exact (below_size (by repeat (first|(with_reducible first|exact HB.out|apply below_alloc|apply pw_below_drewN|apply below_drew1)|exact HB.out))) : w.heap.size ≤ gb116));have n4_:=Aside0.mk ((by rw [hg];exact (below_size (by repeat (first|(with_reducible first|exact HB.out|apply below_alloc|apply pw_below_drewN|apply below_drew1)|exact HB.out))) : w.heap.size ≤ gb116));clear HO_5;clear HB;have HO_5:=n0_;have HB:=n1_;have BK116:=n2_;have GW116:=n3_;have GE116:=n4_;clear n0_ n1_ n2_ n3_ n4_;clear hb hbox hg;have hcz22_0 : w21.cell? ⟨gb116,0,none⟩ = some (.string (⟨#[]⟩ : ByteArray)):=(blk_cell BK116.out 0).trans rfl;have hcz22_1 : w21.cell? ⟨gb116,1,none⟩ = some (.string (⟨#[]⟩ : ByteArray)):=(blk_cell BK116.out 1).trans rfl;have hfz22_0:=blk_frozen BK116.out 0;have hfz22_1:=blk_frozen BK116.out 1))
          have n0_ : Aside0 (Kd.R Kd.string 9 ((w21.setCell ⟨gb116,0,none⟩ (.string ((rd_T60 l0 x29_2).f0))).setCell ⟨gb116,1,none⟩ (.string ((rd_T60 l0 x29_2).f1))) w.heap.size (fun _=>True) u5 x5_2):=⟨by (with_reducible repeat (first|apply Kd.R_alloc|apply Kd.R_drewN|apply Kd.R_drew));exact Kd.R_mono (Kd.R_far (p:=⟨gb116,1,none⟩) (Kd.R_far (p:=⟨gb116,0,none⟩) (Kd.R_types HO_5.out BK116.out (by decide)) (fun _ hk=>hk.2) (.string ((rd_T60 l0 x29_2).f0))) (fun _ hk=>hk.2) (.string ((rd_T60 l0 x29_2).f1))) (fun _ hk=>trivial)⟩
          have n1_ : Aside0 (((w21.setCell ⟨gb116,0,none⟩ (.string ((rd_T60 l0 x29_2).f0))).setCell ⟨gb116,1,none⟩ (.string ((rd_T60 l0 x29_2).f1))).heap[gb116]? = some (.cells #[.string ((rd_T60 l0 x29_2).f0),.string ((rd_T60 l0 x29_2).f1)] 60 (0,0))):=⟨by (with_reducible repeat (first|refine blk_drewN ?_ _|refine blk_drew ?_|refine blk_alloc ?_ _));refine blk_put (cs:=#[.string ((rd_T60 l0 x29_2).f0),.string (⟨#[]⟩ : ByteArray)]) ?_ 1 _ rfl;(with_reducible repeat (first|refine blk_drewN ?_ _|refine blk_drew ?_|refine blk_alloc ?_ _));refine blk_put (cs:=#[.string (⟨#[]⟩ : ByteArray),.string (⟨#[]⟩ : ByteArray)]) ?_ 0 _ rfl;(with_reducible repeat (first|refine blk_drewN ?_ _|refine blk_drew ?_|refine blk_alloc ?_ _));exact BK116.out⟩
          have n2_ : Aside0 (Below w.heap.size w ((w21.setCell ⟨gb116,0,none⟩ (.string ((rd_T60 l0 x29_2).f0))).setCell ⟨gb116,1,none⟩ (.string ((rd_T60 l0 x29_2).f1)))):=⟨by repeat (first|(with_reducible first|exact HB.out|apply below_alloc|apply pw_below_drewN|apply below_drew1|refine below_set ?_ GE116.out)|exact HB.out)⟩
          (try clear HO_5)
          (try clear BK116)
          (try clear HB)
          generalize ((w21.setCell ⟨gb116,0,none⟩ (.string ((rd_T60 l0 x29_2).f0))).setCell ⟨gb116,1,none⟩ (.string ((rd_T60 l0 x29_2).f1))) = w23 at n0_ n1_ n2_ ⊢
          have HO_5:=n0_
          have BK116:=n1_
          have HB:=n2_
          clear n0_ n1_ n2_
          have n0_:=Aside0.mk (Kd.R_drew HO_5.out)
          have n1_:=Aside0.mk (blk_drew BK116.out)
          have n2_:=Aside0.mk (below_drew1 HB.out)
          clear HO_5
          clear BK116
          clear HB
          have HO_5:=n0_
          have BK116:=n1_
          have HB:=n2_
          clear n0_ n1_ n2_
          refine start_ (n:=11) (S:=fun w'=>w'.cell? ⟨gb116,0,none⟩ = some (.string ((rd_T60 l0 x29_2).f0)) ∧ w'.cell? ⟨gb116,1,none⟩ = some (.string ((rd_T60 l0 x29_2).f1))) (ds:=[]) #[false,false,false,false,false,false,false,false,false,false,false] (by kernel_rfl) rfl rfl ⟨(blk_cell BK116.out 0).trans rfl,(blk_cell BK116.out 1).trans rfl⟩ (fun hHeld=>?_);refine with_tabW label_PrintB.tab13 label_PrintB.bits13 (fun HT_ HW_=>?_)
          generalize w23.drew = w24 at HO_5 BK116 HB hHeld ⊢
          refine pure_ (i:=0) (N:=some 33) (v:=?_) (a':=?_) #[true,false,false,false,false,false,false,false,false,false,false] rfl rfl (any_of HT_.out (by kernel_rfl)) (fun _ _ _ h=>h) (Or.inl ⟨by rfl,?_⟩) ?_ ?_
          rotate_left
          ·intro w'
           go_simp
           with_reducible rfl
          rotate_left
          ·simp only [Act.put,List.setIfInBounds_toArray,List.set_cons_zero,List.set_cons_succ,i64_w,i32_w]
           rfl
          refine pure_ (i:=1) (N:=some 34) (v:=?_) (a':=?_) #[true,true,false,false,false,false,false,false,false,false,false] rfl rfl (any_of HT_.out (by kernel_rfl)) (fun _ _ _ h=>h) (Or.inl ⟨by rfl,?_⟩) ?_ ?_
          rotate_left
          ·intro w'
           go_simp
           with_reducible rfl
          rotate_left
          ·simp only [Act.put,List.setIfInBounds_toArray,List.set_cons_zero,List.set_cons_succ,i64_w,i32_w]
           rfl
          refine pure_ (i:=4) (N:=some 37) (v:=?_) (a':=?_) #[true,true,false,false,true,false,false,false,false,false,false] rfl rfl (any_of HT_.out (by kernel_rfl)) (fun _ _ _ h=>h) (Or.inl ⟨by rfl,?_⟩) ?_ ?_
          rotate_left
          ·intro w'
           go_simp
           with_reducible rfl
          rotate_left
          ·simp only [Act.put,List.setIfInBounds_toArray,List.set_cons_zero,List.set_cons_succ,i64_w,i32_w]
           rfl
          refine take_ (i:=2) (N:=some 35) (v:=?_) (a':=?_) #[true,true,true,false,true,false,false,false,false,false,false] rfl rfl (take_ofW HT_.out HW_.out (by kernel_rfl)) (fun _ _ _ h=>h) (Or.inl ⟨by rfl,?_⟩) hHeld ?_ ?_
          rotate_left
          ·rintro w' ⟨s0,s1⟩
           go_simp
           with_reducible rfl
          rotate_left
          ·simp only [Act.put,List.setIfInBounds_toArray,List.set_cons_zero,List.set_cons_succ,i64_w,i32_w]
           rfl
          refine pure_ (i:=3) (N:=some 36) (v:=?_) (a':=?_) #[true,true,true,true,true,false,false,false,false,false,false] rfl rfl (any_of HT_.out (by kernel_rfl)) (fun _ _ _ h=>h) (Or.inl ⟨by rfl,?_⟩) ?_ ?_
          rotate_left
          ·intro w'
           go_simp
           with_reducible rfl
          rotate_left
          ·simp only [Act.put,List.setIfInBounds_toArray,List.set_cons_zero,List.set_cons_succ,i64_w,i32_w]
           rfl
          refine take_ (i:=5) (N:=some 38) (v:=?_) (a':=?_) #[true,true,true,true,true,true,false,false,false,false,false] rfl rfl (take_ofW HT_.out HW_.out (by kernel_rfl)) (fun _ _ _ h=>h) (Or.inl ⟨by rfl,?_⟩) hHeld ?_ ?_
          rotate_left
          ·rintro w' ⟨s0,s1⟩
           go_simp
           with_reducible rfl
          rotate_left
          ·simp only [Act.put,List.setIfInBounds_toArray,List.set_cons_zero,List.set_cons_succ,i64_w,i32_w]
           rfl
          refine one_ (i:=6) (N:=some 39) #[true,true,true,true,true,true,true,false,false,false,false] rfl rfl (one_of HT_.out (by kernel_rfl)) (by decide) (fun K hK=>?_)
          refine goes_ Tryz.func100 (by kernel_rfl) rfl #[.string ((rd_T60 l0 x29_2).f1)] (by rfl) rfl rfl (by (try simp only [List.map_toArray,List.map_cons,List.map_nil]);first|done|rfl|(simp only [List.length_drop,List.length_take];rfl)) ?_
          with_reducible refine (label_Quote.calls ((rd_T60 l0 x29_2).f1) t117 _ A18.out).mono ?_
          rintro e w25 ⟨rfl,hb⟩
          refine ⟨_,rfl,?_⟩
          have n0_:=Aside0.mk (Kd.R_below (by (with_reducible repeat (first|apply Kd.R_alloc|apply Kd.R_drewN|apply Kd.R_drew));exact HO_5.out) hb)
          have n1_:=Aside0.mk (blk_below (g:=gb116) (o:=.cells #[.string ((rd_T60 l0 x29_2).f0),.string ((rd_T60 l0 x29_2).f1)] 60 (0,0)) (by (with_reducible repeat (first|refine blk_drewN ?_ _|refine blk_drew ?_|refine blk_alloc ?_ _));exact BK116.out) hb)
          have n2_:=Aside0.mk (below_step (by repeat (first|(with_reducible first|exact HB.out|apply below_alloc|apply pw_below_drewN|apply below_drew1|refine below_set ?_ GE116.out)|exact HB.out)) hb)
          clear HO_5
          clear BK116
          clear HB
          have HO_5:=n0_
          have BK116:=n1_
          have HB:=n2_
          clear n0_ n1_ n2_
          (try clear hb)
          (try clear hb2)
          (try clear hk)
          (try clear hi)
          refine hK.out _ _ ⟨(blk_cell BK116.out 0).trans rfl,(blk_cell BK116.out 1).trans rfl⟩ (fun hHeld=>?_)
          clear hK K
          refine norm_ (a':=?_) ?_ ?_
          rotate_left
          ·show Act.put _ (some 39) _ = _
           simp only [Act.put,List.setIfInBounds_toArray,List.set_cons_zero,List.set_cons_succ,i64_w,i32_w]
           rfl
          refine pure_ (i:=7) (N:=some 40) (v:=?_) (a':=?_) #[true,true,true,true,true,true,true,true,false,false,false] rfl rfl (any_of HT_.out (by kernel_rfl)) (fun _ _ _ h=>h) (Or.inl ⟨by rfl,?_⟩) ?_ ?_
          rotate_left
          ·intro w'
           go_simp
           with_reducible rfl
          rotate_left
          ·simp only [Act.put,List.setIfInBounds_toArray,List.set_cons_zero,List.set_cons_succ,i64_w,i32_w]
           rfl
          refine one_ (i:=8) (N:=some 41) #[true,true,true,true,true,true,true,true,true,false,false] rfl rfl (one_of HT_.out (by kernel_rfl)) (by decide) (fun K hK=>?_)
          refine value_ (w1:=?_) (v:=?_) (by rfl) rfl ?_ ?_
          rotate_left 2
          ·go_simp
           constructor
           ·rfl
           rfl
          refine hK.out _ _ ⟨(blk_cell (blk_alloc BK116.out _) 0).trans rfl,(blk_cell (blk_alloc BK116.out _) 1).trans rfl⟩ (fun hHeld=>?_)
          clear hK K
          refine norm_ (a':=?_) ?_ ?_
          rotate_left
          ·show Act.put _ (some 41) _ = _
           simp only [Act.put,List.setIfInBounds_toArray,List.set_cons_zero,List.set_cons_succ,i64_w,i32_w]
           rfl
          refine one_ (i:=9) (N:=some 42) #[true,true,true,true,true,true,true,true,true,true,false] rfl rfl (one_of HT_.out (by kernel_rfl)) (by decide) (fun K hK=>?_)
          refine Kd.R_append_step Kd.string (w0:=w) w.heap.size (by rfl) (.tmp 33) (.tmp 41) 45 9 (.string ⟨#[]⟩) 16 rfl Tryz.underlying45 info9 rfl (by decide) (by omega) u5 x5_2 ((((rd_T60 l0 x29_2).f0) ++ (⟨#[61]⟩ : ByteArray)) ++ t117) [.string ((((rd_T60 l0 x29_2).f0) ++ (⟨#[61]⟩ : ByteArray)) ++ t117)] (fun _=>True) (fun _=>False) rfl rfl ?aP (fun _ hk=>hk.elim) ?aF ?aO ?aB ?aS ?aL ?_
          (case aP=>exact rfl)
          (case aB=>exact (by repeat (first|(with_reducible first|exact HB.out|apply below_alloc|apply pw_below_drewN|apply below_drew1|refine below_set ?_ GE116.out)|exact HB.out)))
          (case aF=>exact (fun _ _=>trivial))
          (case aO=>exact (by (with_reducible repeat (first|apply Kd.R_alloc|apply Kd.R_drewN|apply Kd.R_drew));exact HO_5.out))
          (case aS=>exact (below_size (by repeat (first|(with_reducible first|exact HB.out|apply below_alloc|apply pw_below_drewN|apply below_drew1|refine below_set ?_ GE116.out)|exact HB.out))))
          (case aL=>have:=LMc20.out;omega)
          intro v119 w26 ho hb hg hat
          rw [← Ny118.out] at ho
          have n0_:=Aside0.mk (blk_grown (g:=gb116) (o:=.cells #[.string ((rd_T60 l0 x29_2).f0),.string ((rd_T60 l0 x29_2).f1)] 60 (0,0)) (by (with_reducible repeat (first|refine blk_drewN ?_ _|refine blk_drew ?_|refine blk_alloc ?_ _));exact BK116.out) hg (Kd.R_ne HO_5.out BK116.out (by decide)))
          have n1_:=Aside0.mk (hb)
          have n2_:=Aside0.mk (ho)
          clear BK116
          clear HB
          clear HO_5
          have BK116:=n0_
          have HB:=n1_
          have HO120:=n2_
          clear n0_ n1_ n2_
          clear ho hb hg hat
          refine hK.out _ _ ⟨(blk_cell BK116.out 0).trans rfl,(blk_cell BK116.out 1).trans rfl⟩ (fun hHeld=>?_)
          clear hK K
          refine norm_ (a':=?_) ?_ ?_
          rotate_left
          ·show Act.put _ (some 42) _ = _
           simp only [Act.put,List.setIfInBounds_toArray,List.set_cons_zero,List.set_cons_succ,i64_w,i32_w]
           rfl
          refine pure_ (i:=10) (N:=some 5) (v:=?_) (a':=?_) #[true,true,true,true,true,true,true,true,true,true,true] rfl rfl (any_of HT_.out (by kernel_rfl)) (fun _ _ _ h=>h) (Or.inl ⟨by rfl,?_⟩) ?_ ?_
          rotate_left
          ·intro w'
           go_simp
           with_reducible rfl
          rotate_left
          ·simp only [Act.put,List.setIfInBounds_toArray,List.set_cons_zero,List.set_cons_succ,i64_w,i32_w]
           rfl
          refine done_ (done_of HT_.out (by kernel_rfl)) ?_
          try go_wp2
          go_roundg k2
          case measure=>have:=HJ7.out;have:=HK2.out;omega
          case rel=>exact ⟨(y118),(wrap64 (x29_2 + 1)),(by first|rfl|(simp;done)|(simp [*];done)),H',⟨by have:=HJ7.out;have:=HK2.out;omega⟩,⟨by (with_reducible repeat (first|apply Kd.R_alloc|apply Kd.R_drewN|apply Kd.R_drew));exact HO120.out⟩,⟨by repeat (first|(with_reducible first|exact HB.out|apply below_alloc|apply pw_below_drewN|apply below_drew1|refine below_set ?_ GE116.out)|exact HB.out)⟩⟩
         rw [if_neg c20] at H
         exact absurd H (by simp)
        rw [if_neg c19] at H
        exact absurd H (by simp)
       rw [if_neg c17] at H
       exact absurd H (by simp)
      rw [if_neg c16] at H
      exact absurd H (by simp)
     rw [if_neg c15] at H
     exact absurd H (by simp)
    rw [if_neg c14] at H
    have c14b0 : decide (x29_2 < (l0.length : Int)) = false:=decide_eq_false c14
    clear c14
    by_cases c27 : (⟨#[]⟩ : ByteArray).size + 1 ≤ 9223372036854775807
    ·rw [if_pos c27] at H
     have c27b0:=eq_true c27
     have c27b1 : decide ((⟨#[]⟩ : ByteArray).size + 1 ≤ 9223372036854775807) = true:=decide_eq_true c27
     try have c27b2 : (9223372036854775807 < (⟨#[]⟩ : ByteArray).size + 1) = False:=eq_false (Nat.not_lt.2 c27)
     replace H:=Option.bind_eq_some_iff.mp H
     obtain ⟨t121,A280,H⟩:=H
     replace H : (if ((⟨#[]⟩ : ByteArray) ++ (⟨#[123]⟩ : ByteArray)).size + t121.size ≤ 9223372036854775807 then (if (((⟨#[]⟩ : ByteArray) ++ (⟨#[123]⟩ : ByteArray)) ++ t121).size + 1 ≤ 9223372036854775807 then (some ((((⟨#[]⟩ : ByteArray) ++ (⟨#[123]⟩ : ByteArray)) ++ t121) ++ (⟨#[125]⟩ : ByteArray))) else (none)) else (none)) = some r:=H
     have A28:=Aside0.mk A280
     clear A280
     by_cases c29 : ((⟨#[]⟩ : ByteArray) ++ (⟨#[123]⟩ : ByteArray)).size + t121.size ≤ 9223372036854775807
     ·rw [if_pos c29] at H
      have c29b0:=eq_true c29
      have c29b1 : decide (((⟨#[]⟩ : ByteArray) ++ (⟨#[123]⟩ : ByteArray)).size + t121.size ≤ 9223372036854775807) = true:=decide_eq_true c29
      try have c29b2 : (9223372036854775807 < ((⟨#[]⟩ : ByteArray) ++ (⟨#[123]⟩ : ByteArray)).size + t121.size) = False:=eq_false (Nat.not_lt.2 c29)
      try (have c29b3:=c29;simp only [ByteArray.size_append,sz_one] at c29b3;have c29b4:=eq_false (Nat.not_lt.2 c29b3);clear c29b3)
      by_cases c30 : (((⟨#[]⟩ : ByteArray) ++ (⟨#[123]⟩ : ByteArray)) ++ t121).size + 1 ≤ 9223372036854775807
      ·rw [if_pos c30] at H
       have c30b0:=eq_true c30
       have c30b1 : decide ((((⟨#[]⟩ : ByteArray) ++ (⟨#[123]⟩ : ByteArray)) ++ t121).size + 1 ≤ 9223372036854775807) = true:=decide_eq_true c30
       try have c30b2 : (9223372036854775807 < (((⟨#[]⟩ : ByteArray) ++ (⟨#[123]⟩ : ByteArray)) ++ t121).size + 1) = False:=eq_false (Nat.not_lt.2 c30)
       try (have c30b3:=c30;simp only [ByteArray.size_append,sz_one] at c30b3;have c30b4:=eq_false (Nat.not_lt.2 c30b3);clear c30b3)
       have z1_ : (9223372036854775807 < 1 + t121.size) = False:=eq_false (Nat.not_lt.2 (by have h_:=c29;simp only [ByteArray.size_append,sz_one,show (⟨#[]⟩ : ByteArray).size = 0 from rfl,Nat.zero_add] at h_;exact h_))
       have z2_ : (9223372036854775807 < 1 + t121.size + 1) = False:=eq_false (Nat.not_lt.2 (by have h_:=c30;simp only [ByteArray.size_append,sz_one,show (⟨#[]⟩ : ByteArray).size = 0 from rfl,Nat.zero_add] at h_;exact h_))
       obtain rfl:=Option.some.inj H
       obtain ⟨Ao31,co31,eo31⟩:=Kd.R_slice HO_5.out
       subst eo31
       go_wp2_with (first|((with_reducible refine gate_callee (f:=101) rfl ?_);refine goesL_ (some 47) rfl rfl Tryz.func101 (by kernel_rfl) rfl #[.slice Ao31 x5_2.length co31,.string (⟨#[44]⟩ : ByteArray)] rfl (by (try simp only [List.map_toArray,List.map_cons,List.map_nil]);first|done|rfl|(simp only [List.length_drop,List.length_take];rfl)) ?_;(with_reducible refine (strings_Join.calls _ _ x5_2 (⟨#[44]⟩ : ByteArray) t121 _ ?side1 ?side2 A28.out).mono ?_);(case side1=>repeat (first|exact (Kd.R_reads' HO_5.out).2.2|(with_reducible refine Kd.C_alloc ?_ _)|(with_reducible refine Kd.C_drewN ?_ _)|(with_reducible refine Kd.C_drew ?_)));(case side2=>exact (Kd.R_reads' HO_5.out).2.1);rintro e w32 ⟨rfl,hb⟩;refine ⟨_,rfl,?_⟩;have n0_:=Aside0.mk (Kd.R_below (by (with_reducible repeat (first|apply Kd.R_alloc|apply Kd.R_drewN|apply Kd.R_drew));exact HO_5.out) hb);have n1_:=Aside0.mk (below_step (by repeat (first|(with_reducible first|exact HB.out|apply below_alloc|apply pw_below_drewN|apply below_drew1)|exact HB.out)) hb);clear HO_5;clear HB;have HO_5:=n0_;have HB:=n1_;clear n0_ n1_;(try clear hb);(try clear hb2);(try clear hk);(try clear hi)))
       go_ret
       exact ⟨by first|rfl|(simp [errW_none,errW_some] <;> rfl)|(simp [*,errW_none,errW_some] <;> rfl),by repeat (first|(with_reducible first|exact HB.out|apply below_alloc|apply pw_below_drewN|apply below_drew1)|exact HB.out)⟩
      rw [if_neg c30] at H
      exact absurd H (by simp)
     rw [if_neg c29] at H
     exact absurd H (by simp)
    rw [if_neg c27] at H
    exact absurd H (by simp)
 replace c3:=Bool.eq_false_iff.mpr c3
 subst c3
 have H1 : (some (⟨#[]⟩ : ByteArray)) = some r:=by rw [if_neg (show ¬ (false = true) by decide)] at H;exact H
 clear H
 have H:=H1
 clear H1
 obtain rfl:=Option.some.inj H
 go_enter Tryz.func61,Tryz.ntmps61
 go_wp2_with (first|((with_reducible refine gate_callee (f:=48) rfl ?_);refine goesL_ (some 9) rfl rfl Tryz.func48 (by kernel_rfl) rfl #[.slice A0 l0.length c0] rfl (by (try simp only [List.map_toArray,List.map_cons,List.map_nil]);first|done|rfl|(simp only [List.length_drop,List.length_take];rfl)) ?_;(with_reducible refine (label_Is.calls _ _ l0 false _ ?side1 ?side2 A2.out).mono ?_);(case side1=>repeat (first|exact HR0.out|(with_reducible refine Kd.C_alloc ?_ _)|(with_reducible refine Kd.C_drewN ?_ _)|(with_reducible refine Kd.C_drew ?_)));(case side2=>exact HC0.out);rintro e w33 ⟨rfl,hb⟩;refine ⟨_,rfl,?_⟩;have n0_:=Aside0.mk (below_step (by repeat (first|(with_reducible first|exact HB.out|apply below_alloc|apply pw_below_drewN|apply below_drew1)|exact HB.out)) hb);clear HB;have HB:=n0_;clear n0_;(try clear hb);(try clear hb2);(try clear hk);(try clear hi)))
 go_ret
 exact ⟨by first|rfl|(simp [errW_none,errW_some] <;> rfl)|(simp [*,errW_none,errW_some] <;> rfl),by repeat (first|(with_reducible first|exact HB.out|apply below_alloc|apply pw_below_drewN|apply below_drew1)|exact HB.out)⟩
end Go.Proofs.YtfgffjchphignaaGreatDoor.Print
end
section
namespace Go.Proofs.YtfgffjchphignaaGreatDoor.PureN
open Go.RowKit Go.Proofs.YtfgffjchphignaaGreatDoor.Print
open Go.Proofs.YtfgffjchphignaaGreatDoorX Go.Proofs.YtfgffjchphignaaGreatDoorW.PrintWords Go.Proofs.YtfgffjchphignaaGreatDoorW.PrintLast Go.Proofs.YtfgffjchphignaaGreatDoorW.PrintMore
/-! label.Get, label.Print: what they come to. -/
abbrev ofL (l : List UInt8) : ByteArray:=⟨l.toArray⟩
theorem ofL_data (s : ByteArray) : ofL s.data.toList = s:=rfl
theorem ofL_app (a b : List UInt8) : ofL a ++ ofL b = ofL (a ++ b):=by
 apply ByteArray.ext
 apply Array.ext'
 simp [ByteArray.data_append]
theorem ofL_size (a : List UInt8) : (ofL a).size = a.length:=by show a.toArray.size = _;simp
theorem get_loop (nm : ByteArray) (l : List S60) (hn : l.length ≤ 9223372036854775807) (d : Nat) : ∀ (x k : Nat),x + d = l.length → d < k →
  label_Get.l0 k nm l (l.length : Int) (x : Int) = some (ofL (getL ((l.drop x).map pr) nm.data.toList)):=by
 induction d with
 | zero =>
  intro x k h hk
  obtain ⟨k,rfl⟩ : ∃ m,k = m + 1:=⟨k - 1,by omega⟩
  rw [label_Get.l0,if_neg (by omega),List.drop_eq_nil_of_le (by omega)]
  rfl
 | succ d ih =>
  intro x k h hk
  obtain ⟨k,rfl⟩ : ∃ m,k = m + 1:=⟨k - 1,by omega⟩
  have hw : wrap64 ((x : Int) + 1) = ((x + 1 : Nat) : Int):=by unfold wrap64;omega
  have hd : l.drop x = rd_T60 l (x : Int) :: l.drop (x + 1):=by
   rw [List.drop_eq_getElem_cons (show x < l.length by omega)]
   unfold rd_T60
   rw [Int.toNat_natCast,List.getD_eq_getElem?_getD,List.getElem?_eq_getElem (show x < l.length by omega)]
   rfl
  rw [label_Get.l0,if_pos (by omega),if_pos (by omega),if_pos (by omega),hw,ih (x + 1) k (by omega) (by omega),hd,List.map_cons]
  unfold getL
  by_cases e : (rd_T60 l (x : Int)).f0.toList = nm.toList
  ·rw [if_pos e,List.find?_cons_of_pos (by rw [ByteArray.toList_eq,ByteArray.toList_eq] at e;simp [pr,e])]
   rfl
  rw [if_neg e,List.find?_cons_of_neg (by rw [ByteArray.toList_eq,ByteArray.toList_eq] at e;simpa [pr] using e)]
theorem get_eq (nm : ByteArray) (l : List S60) (hn : l.length ≤ 9223372036854775807) (k : Nat) (hk : l.length < k) : label_Get.f k l nm = some (ofL (getL (l.map pr) nm.data.toList)):=by
 have:=get_loop nm l hn l.length 0 k (by omega) hk
 rwa [List.drop_zero] at this
def partOf (x : S60) : ByteArray:=ofL (oneP (pr x))
theorem join_parts : ∀ r : List S60,Lib.join ((r.map partOf).map fun x=>x.data.toList) [44] = joinP (r.map pr)
 | []=>rfl
 | [x]=>by simp [Lib.join,List.intercalate,joinP,partOf]
 | x :: y :: r=>by
  have ih:=join_parts (y :: r)
  simp only [List.map_cons,joinP] at ih ⊢
  rw [← ih]
  simp [Lib.join,List.intercalate,partOf]
theorem quoteB_len : ∀ v : List UInt8,(quoteB v).length ≤ 2 * v.length
 | []=>Nat.le_refl _
 | c :: v=>by
  have ih:=quoteB_len v
  rw [quoteB,List.length_append,List.length_cons]
  split <;> simp <;> omega
theorem one_len (p : Pr) (h : pairOk p = true) : (oneP p).length ≤ 90:=by
 unfold pairOk at h
 rw [Bool.and_eq_true] at h
 have hv:=h.2
 unfold valB at hv
 rw [Bool.and_eq_true,Bool.and_eq_true,decide_eq_true_eq,decide_eq_true_eq] at hv
 have hn : p.1.length ≤ 20:=by
  have:=h.1
  cases e : p.1 with
  | nil=>simp
  | cons c r=>rw [e,nameB,Bool.and_eq_true,Bool.and_eq_true,decide_eq_true_eq] at this;simpa using this.2
 have hq:=quoteB_len p.2
 unfold oneP quote
 simp only [List.length_append,List.length_cons,List.length_nil]
 omega
theorem joinP_le : ∀ r : List Pr,(∀ p ∈ r,pairOk p = true) → (joinP r).length ≤ 91 * r.length
 | [],_=>Nat.le_refl _
 | [p],h=>by have:=one_len p (h p (by simp));simp only [joinP,List.length_cons,List.length_nil];omega
 | p :: q :: r,h=>by
  have ih:=joinP_le (q :: r) (fun x hx=>h x (List.mem_cons_of_mem _ hx))
  have h1:=one_len p (h p (by simp))
  simp only [joinP,List.length_append,List.length_cons] at ih ⊢
  omega
theorem part_round (x : S60) (h : pairOk (pr x) = true) : x.f0.size + 1 ≤ 9223372036854775807 ∧ label_Quote.f x.f1 = some (ofL (quote x.f1.data.toList)) ∧ (x.f0 ++ (⟨#[61]⟩ : ByteArray)).size + (ofL (quote x.f1.data.toList)).size ≤ 9223372036854775807 ∧ (x.f0 ++ (⟨#[61]⟩ : ByteArray)) ++ ofL (quote x.f1.data.toList) = partOf x:=by
 have hl:=one_len (pr x) h
 have e : (x.f0 ++ (⟨#[61]⟩ : ByteArray)) ++ ofL (quote x.f1.data.toList) = partOf x:=by
  rw [← ofL_data x.f0,show (⟨#[61]⟩ : ByteArray) = ofL [61] from rfl,ofL_app,ofL_app]
  unfold partOf oneP
  simp [pr]
 have hs : ((x.f0 ++ (⟨#[61]⟩ : ByteArray)) ++ ofL (quote x.f1.data.toList)).size = (oneP (pr x)).length:=by rw [e];exact ofL_size _
 have hs2 : ((x.f0 ++ (⟨#[61]⟩ : ByteArray)) ++ ofL (quote x.f1.data.toList)).size = x.f0.size + 1 + (ofL (quote x.f1.data.toList)).size:=by rw [ByteArray.size_append,ByteArray.size_append];rfl
 have hv : x.f1.size ≤ 1000000000:=by
  unfold pairOk at h
  rw [Bool.and_eq_true] at h
  have:=h.2
  unfold valB at this
  rw [Bool.and_eq_true,Bool.and_eq_true,decide_eq_true_eq,decide_eq_true_eq] at this
  have h3 : (pr x).2.length = x.f1.size:=Array.length_toList
  omega
 refine ⟨by omega,by unfold label_Quote.f;rw [if_pos hv],?_,e⟩
 have h4 : (x.f0 ++ (⟨#[61]⟩ : ByteArray)).size = x.f0.size + 1:=by rw [ByteArray.size_append];rfl
 omega
theorem loopA (s : List UInt8) (hs : s.length ≤ 1000) (r : List S60) (hr : r.length ≤ 8) (hok : ∀ x ∈ r,pairOk (pr x) = true) (d : Nat) : ∀ (x k : Nat) (parts : List ByteArray),x + d = r.length → d < k → parts = (r.take x).map partOf →
  label_PrintA.l0 k (ofL s) parts r (r.length : Int) (x : Int) = some (ofL (s ++ 123 :: (joinP (r.map pr) ++ [125]))):=by
 induction d with
 | zero =>
  intro x k parts h hk hp
  obtain ⟨k,rfl⟩ : ∃ m,k = m + 1:=⟨k - 1,by omega⟩
  have hj:=joinP_le (r.map pr) (fun p hp=>by obtain ⟨x,hx,rfl⟩:=List.mem_map.1 hp;exact hok x hx)
  rw [List.length_map] at hj
  rw [List.take_of_length_le (by omega)] at hp
  subst hp
  have hJ : strings_Join.f (r.map partOf) (⟨#[44]⟩ : ByteArray) = some (ofL (joinP (r.map pr))):=by
   unfold strings_Join.f
   have e : Lib.join ((r.map partOf).map fun x=>x.data.toList) (⟨#[44]⟩ : ByteArray).data.toList = joinP (r.map pr):=join_parts r
   rw [e,if_pos ⟨by rw [List.length_map];omega,by omega⟩]
  have hz:=ofL_size s
  have hz2:=ofL_size (joinP (r.map pr))
  rw [label_PrintA.l0,if_neg (by omega),if_pos (by rw [hz];omega),hJ,Option.bind_some]
  have h1 : (ofL s ++ (⟨#[123]⟩ : ByteArray)).size = s.length + 1:=by rw [ByteArray.size_append,hz];rfl
  rw [if_pos (by rw [h1,hz2];omega),if_pos (by rw [ByteArray.size_append,h1,hz2];omega)]
  rw [show (⟨#[123]⟩ : ByteArray) = ofL [123] from rfl,show (⟨#[125]⟩ : ByteArray) = ofL [125] from rfl,ofL_app,ofL_app,ofL_app]
  simp
 | succ d ih =>
  intro x k parts h hk hp
  obtain ⟨k,rfl⟩ : ∃ m,k = m + 1:=⟨k - 1,by omega⟩
  have hw : wrap64 ((x : Int) + 1) = ((x + 1 : Nat) : Int):=by unfold wrap64;omega
  have hx : x < r.length:=by omega
  have hrd : rd_T60 r (x : Int) = r[x]:=by
   unfold rd_T60
   rw [Int.toNat_natCast,List.getD_eq_getElem?_getD,List.getElem?_eq_getElem hx]
   rfl
  obtain ⟨q1,q2,q3,q4⟩:=part_round r[x] (hok _ (List.getElem_mem hx))
  rw [label_PrintA.l0,if_pos (by omega),if_pos (by omega),if_pos (by omega),hrd,if_pos q1,q2,Option.bind_some,if_pos q3,if_pos (by rw [hp,List.length_map,List.length_take];omega),q4,hw]
  exact ih (x + 1) k _ (by omega) (by omega) (by rw [hp,List.take_succ_eq_append_getElem hx,List.map_append];rfl)
theorem loopB (s : List UInt8) (hs : s.length ≤ 1000) (r : List S60) (hr : r.length ≤ 8) (hok : ∀ x ∈ r,pairOk (pr x) = true) (d : Nat) : ∀ (x k : Nat) (parts : List ByteArray),x + d = r.length → d < k → parts = (r.take x).map partOf →
  label_PrintB.l0 k (ofL s) parts r (r.length : Int) (x : Int) = some (ofL (s ++ 123 :: (joinP (r.map pr) ++ [125]))):=by
 induction d with
 | zero =>
  intro x k parts h hk hp
  obtain ⟨k,rfl⟩ : ∃ m,k = m + 1:=⟨k - 1,by omega⟩
  have hj:=joinP_le (r.map pr) (fun p hp=>by obtain ⟨x,hx,rfl⟩:=List.mem_map.1 hp;exact hok x hx)
  rw [List.length_map] at hj
  rw [List.take_of_length_le (by omega)] at hp
  subst hp
  have hJ : strings_Join.f (r.map partOf) (⟨#[44]⟩ : ByteArray) = some (ofL (joinP (r.map pr))):=by
   unfold strings_Join.f
   have e : Lib.join ((r.map partOf).map fun x=>x.data.toList) (⟨#[44]⟩ : ByteArray).data.toList = joinP (r.map pr):=join_parts r
   rw [e,if_pos ⟨by rw [List.length_map];omega,by omega⟩]
  have hz:=ofL_size s
  have hz2:=ofL_size (joinP (r.map pr))
  rw [label_PrintB.l0,if_neg (by omega),if_pos (by rw [hz];omega),hJ,Option.bind_some]
  have h1 : (ofL s ++ (⟨#[123]⟩ : ByteArray)).size = s.length + 1:=by rw [ByteArray.size_append,hz];rfl
  rw [if_pos (by rw [h1,hz2];omega),if_pos (by rw [ByteArray.size_append,h1,hz2];omega)]
  rw [show (⟨#[123]⟩ : ByteArray) = ofL [123] from rfl,show (⟨#[125]⟩ : ByteArray) = ofL [125] from rfl,ofL_app,ofL_app,ofL_app]
  simp
 | succ d ih =>
  intro x k parts h hk hp
  obtain ⟨k,rfl⟩ : ∃ m,k = m + 1:=⟨k - 1,by omega⟩
  have hw : wrap64 ((x : Int) + 1) = ((x + 1 : Nat) : Int):=by unfold wrap64;omega
  have hx : x < r.length:=by omega
  have hrd : rd_T60 r (x : Int) = r[x]:=by
   unfold rd_T60
   rw [Int.toNat_natCast,List.getD_eq_getElem?_getD,List.getElem?_eq_getElem hx]
   rfl
  obtain ⟨q1,q2,q3,q4⟩:=part_round r[x] (hok _ (List.getElem_mem hx))
  rw [label_PrintB.l0,if_pos (by omega),if_pos (by omega),if_pos (by omega),hrd,if_pos q1,q2,Option.bind_some,if_pos q3,if_pos (by rw [hp,List.length_map,List.length_take];omega),q4,hw]
  exact ih (x + 1) k _ (by omega) (by omega) (by rw [hp,List.take_succ_eq_append_getElem hx,List.map_append];rfl)
theorem rest_map (l : List S60) : (l.filter fun x=>!isN x).map pr = restP (l.map pr):=by
 unfold restP
 rw [List.filter_map]
 rfl
theorem isS_ok (l : List S60) (h : isS (l.map pr) = true) : (∀ x ∈ l,pairOk (pr x) = true) ∧ l.length ≤ 8:=by
 have hi:=isS_is _ h
 refine ⟨fun x hx=>?_,by have:=hi.len;rwa [List.length_map] at this⟩
 have:=hi.each (pr x) (List.mem_map_of_mem hx)
 unfold pairOk
 rw [this.1,this.2]
 rfl
def label_Print.f (l : List S60) : Option ByteArray:=if l.length ≤ 1000 ∧ (∀ x ∈ l,x.f0.size ≤ 9223372036854775807) then some (ofL (printL (l.map pr))) else none
theorem name_len {n : List UInt8} (h : nameB n = true) : n.length ≤ 20 ∧ n ≠ []:=by
 cases n with
 | nil=>simp [nameB] at h
 | cons c r=>rw [nameB,Bool.and_eq_true,Bool.and_eq_true,decide_eq_true_eq] at h;exact ⟨by simpa using h.2,by simp⟩
theorem print_ways (l : List S60) (h : l.length ≤ 1000 ∧ (∀ x ∈ l,x.f0.size ≤ 9223372036854775807)) : ∃ k,label_PrintA.f k l = some (ofL (printL (l.map pr))) ∨ label_PrintB.f k l = some (ofL (printL (l.map pr))):=by
 have hIs : label_Is.f l = some (isS (l.map pr)):=if_pos h
 have hW : label_Without.f l [] = some (l.filter fun x=>!isN x):=if_pos h.1
 obtain ⟨m,hm⟩ : ∃ m : Nat,m = 100:=⟨_,rfl⟩
 refine ⟨m + 1,?_⟩
 have hNL : (⟨#[95,95,110,97,109,101,95,95]⟩ : ByteArray).data.toList = NL:=rfl
 cases hS : isS (l.map pr) with
 | false =>
  left
  rw [hS] at hIs
  unfold label_PrintA.f printL
  rw [hIs,Option.bind_some,hS]
  rfl
 | true =>
  rw [hS] at hIs
  obtain ⟨hok,hlen⟩:=isS_ok l hS
  have hG:=get_eq (⟨#[95,95,110,97,109,101,95,95]⟩ : ByteArray) l (by omega) (m + 1) (by omega)
  rw [hNL] at hG
  have hgl : (getL (l.map pr) NL).length ≤ 30:=by
   unfold getL
   cases e : (l.map pr).find? (fun p=>p.1 == NL) with
   | none=>simp
   | some p =>
    have hp:=List.mem_of_find?_eq_some e
    obtain ⟨x,hx,rfl⟩:=List.mem_map.1 hp
    have:=hok x hx
    unfold pairOk valB at this
    rw [Bool.and_eq_true,Bool.and_eq_true,Bool.and_eq_true,decide_eq_true_eq,decide_eq_true_eq] at this
    exact this.2.1.2
  have hN:=name_eq (ofL (getL (l.map pr) NL)) (by rw [ofL_size];omega) (m + 1) (by rw [ofL_size];omega)
  have hNd : (ofL (getL (l.map pr) NL)).data.toList = getL (l.map pr) NL:=rfl
  rw [hNd] at hN
  unfold printL
  rw [hS,if_pos rfl]
  cases hn : nameB (getL (l.map pr) NL) with
  | true =>
   left
   rw [hn] at hN
   have hln:=name_len hn
   have hF : ∀ x ∈ l.filter (fun x=>!isN x),pairOk (pr x) = true:=fun x hx=>hok x (List.mem_filter.1 hx).1
   have hFl : (l.filter fun x=>!isN x).length ≤ 8:=Nat.le_trans (List.length_filter_le _ _) hlen
   unfold label_PrintA.f
   rw [hIs,Option.bind_some,if_pos rfl,hG,Option.bind_some,hW,Option.bind_some,hN,Option.bind_some,if_pos rfl,if_pos rfl,← rest_map]
   generalize l.filter (fun x=>!isN x) = F at hF hFl
   by_cases h0 : F = []
   ·subst h0
    rw [show (if (([] : List S60).length : Int) = 0 then label_PrintA.j0 (m + 1) (ofL (getL (l.map pr) NL)) [] ((ofL (getL (l.map pr) NL)).toList != []) else label_PrintA.j0 (m + 1) (ofL (getL (l.map pr) NL)) [] false) = label_PrintA.j0 (m + 1) (ofL (getL (l.map pr) NL)) [] ((ofL (getL (l.map pr) NL)).toList != []) from if_pos rfl,List.map_nil,if_pos rfl]
    have hne : ((ofL (getL (l.map pr) NL)).toList != ([] : List UInt8)) = true:=by rw [bne_iff_ne,ByteArray.toList_eq];exact hln.2
    rw [hne,label_PrintA.j0,if_pos rfl]
   have h1 : ¬ (F.length : Int) = 0:=fun e=>h0 (List.length_eq_zero_iff.1 (by omega))
   have h2 : ¬ F.map pr = []:=fun e=>h0 (by simpa using e)
   rw [if_neg h1,if_neg h2]
   have hj : label_PrintA.j0 (m + 1) (ofL (getL (l.map pr) NL)) F false = label_PrintA.l0 m (ofL (getL (l.map pr) NL)) [] F (F.length : Int) 0:=by rw [label_PrintA.j0,if_neg (by simp)]
   rw [hj]
   exact loopA _ (by omega) F hFl hF F.length 0 m [] (by omega) (by omega) rfl
  | false =>
   right
   rw [hn] at hN
   unfold label_PrintB.f
   rw [hIs,Option.bind_some,if_pos rfl,hG,Option.bind_some,hW,Option.bind_some,hN,Option.bind_some,if_neg (show ¬ (false = true) by simp)]
   have hb : ((([] : List UInt8) != ([] : List UInt8))) = false:=rfl
   simp only [hb,ite_self]
   have hj : label_PrintB.j0 (m + 1) (⟨#[]⟩ : ByteArray) l false = label_PrintB.l0 m (ofL []) [] l (l.length : Int) 0:=by rw [label_PrintB.j0,if_neg (by simp)]
   have:=loopB [] (by simp) l hlen hok l.length 0 m [] (by omega) (by omega) rfl
   simp only [Bool.false_eq_true,if_false]
   exact hj.trans this
theorem label_Print.calls (A0 : Option Addr) (c0 : Nat) (l0 : List S60) (r : ByteArray) (w : World) (hr0 : Kd.C k60 w A0 l0.length l0) (hc0 : l0.length ≤ c0) (h : label_Print.f l0 = some r) :
  Calls Tryz.prog 61 #[.slice A0 l0.length c0] w fun e w'=>e = .returned (.string r) ∧ Below w.heap.size w w':=by
 unfold label_Print.f at h
 by_cases g : l0.length ≤ 1000 ∧ (∀ x ∈ l0,x.f0.size ≤ 9223372036854775807)
 ·rw [if_pos g] at h
  rw [← Option.some.inj h]
  obtain ⟨k,hA|hB⟩:=print_ways l0 g
  ·exact label_PrintA.calls k A0 c0 l0 _ w hr0 hc0 hA
  exact label_PrintB.calls k A0 c0 l0 _ w hr0 hc0 hB
 rw [if_neg g] at h
 exact absurd h (by simp)
end Go.Proofs.YtfgffjchphignaaGreatDoor.PureN
end
section
namespace Go.Proofs.YtfgffjchphignaaGreatDoor.Print
open Go.RowKit Go.Proofs.YtfgffjchphignaaGreatDoorX Go.Proofs.YtfgffjchphignaaGreatDoorW.PrintWords Go.Proofs.YtfgffjchphignaaGreatDoorW.PrintLast Go.Proofs.YtfgffjchphignaaGreatDoorW.PrintMore
def label_Print.f (l : List S60) : Option ByteArray:=PureN.label_Print.f l
theorem label_Print.calls (A0 : Option Addr) (c0 : Nat) (l0 : List S60) (r : ByteArray) (w : World) (hr0 : Kd.C k60 w A0 l0.length l0) (hc0 : l0.length ≤ c0) (h : label_Print.f l0 = some r) :
  Calls Tryz.prog 61 #[.slice A0 l0.length c0] w fun e w'=>e = .returned (.string r) ∧ Below w.heap.size w w':=PureN.label_Print.calls A0 c0 l0 r w hr0 hc0 h
/-! ### label_Parse: function 35 -/
mutual
def label_Parse.j0 : Nat → ByteArray → ByteArray → Bool → List (S60) → Option ((List (S60)) × Int)
 | 0,_,_,_,_=>none
 | k + 1,x0,x5,x6,x7=>label_Parse.l0 k x0 x5 x6 x7
def label_Parse.l0 : Nat → ByteArray → ByteArray → Bool → List (S60) → Option ((List (S60)) × Int)
 | 0,_,_,_,_=>none
 | k + 1,x0,x5,x6,x7=>if x6 = true then (label_Parse.j2 k x0 x5 x6 x7 (x5.toList != ([125] : List UInt8))) else (label_Parse.j2 k x0 x5 x6 x7 false)
def label_Parse.j2 : Nat → ByteArray → ByteArray → Bool → List (S60) → Bool → Option ((List (S60)) × Int)
 | 0,_,_,_,_,_=>none
 | k + 1,x0,x5,x6,x7,x33=>if x33 = true then ((strings_Cut.f x5 (⟨#[61]⟩ : ByteArray)).bind fun bt113=>((label_Unquote.f bt113.2.1).bind fun bt116=>(if bt113.2.2 = true then (if bt116.2.2 = true then (if (x7.length : Int) > 8 then (some (([] : List (S60)),30)) else (if x7.length < 4398046511104 then ((strings_TrimPrefix.f bt116.2.1 (⟨#[44]⟩ : ByteArray)).bind fun t122=>(label_Parse.l0 k x0 t122 x6 (x7 ++ [(⟨bt113.1,bt116.1⟩ : S60)]))) else (none))) else (some (([] : List (S60)),30))) else (some (([] : List (S60)),30))))) else ((label_Make.f x7).bind fun bt123=>(if bt123.2 = 0 then ((label_Print.f bt123.1).bind fun t127=>(if t127.toList = x0.toList then (some (bt123.1,0)) else (some (([] : List (S60)),30)))) else (some (([] : List (S60)),30))))
end
def label_Parse.f (k : Nat) (a0 : ByteArray) : Option ((List (S60)) × Int):=(strings_Cut.f a0 (⟨#[123]⟩ : ByteArray)).bind fun bt107=>(if bt107.1.toList = ([] : List UInt8) then (label_Parse.j0 k a0 bt107.2.1 bt107.2.2 ([] : List (S60))) else (if ([] : List (S60)).length < 4398046511104 then (label_Parse.j0 k a0 bt107.2.1 bt107.2.2 (([] : List (S60)) ++ [(⟨(⟨#[95,95,110,97,109,101,95,95]⟩ : ByteArray),bt107.1⟩ : S60)])) else (none)))
set_option maxHeartbeats 8000000 in
set_option maxRecDepth 100000 in
theorem label_Parse.calls (k : Nat) (a0 : ByteArray) (r1 : List (S60)) (r2 : Int) (w : World) (hg_ : LaidW w) (h : label_Parse.f k a0 = some (r1,r2)) :
  Calls Tryz.prog 35 #[.string a0] w fun e w'=>∃ v0_ : Value,e = .returned (.tuple #[v0_,.int .i64 r2]) ∧ Kd.R k60 60 w' w.heap.size (fun _=>True) v0_ r1 ∧ Below w.heap.size w w':=by
 have HLW:=Aside0.mk hg_
 clear hg_
 have hu60:=Tryz.underlying60
 have HB:=Aside0.mk (Below.refl w.heap.size w)
 have H : ((strings_Cut.f a0 (⟨#[123]⟩ : ByteArray)).bind fun bt107=>(if bt107.1.toList = ([] : List UInt8) then (label_Parse.j0 k a0 bt107.2.1 bt107.2.2 ([] : List (S60))) else (if ([] : List (S60)).length < 4398046511104 then (label_Parse.j0 k a0 bt107.2.1 bt107.2.2 (([] : List (S60)) ++ [(⟨(⟨#[95,95,110,97,109,101,95,95]⟩ : ByteArray),bt107.1⟩ : S60)])) else (none)))) = some (r1,r2):=h
 clear h
 replace H:=Option.bind_eq_some_iff.mp H
 obtain ⟨⟨t107,t108,t109⟩,A20,H⟩:=H
 replace H : (if t107.toList = ([] : List UInt8) then (label_Parse.j0 k a0 t108 t109 ([] : List (S60))) else (if ([] : List (S60)).length < 4398046511104 then (label_Parse.j0 k a0 t108 t109 (([] : List (S60)) ++ [(⟨(⟨#[95,95,110,97,109,101,95,95]⟩ : ByteArray),t107⟩ : S60)])) else (none))) = some (r1,r2):=H
 have A2:=Aside0.mk A20
 clear A20
 have HC3:=Aside0.mk H
 clear H
 go_enter Tryz.func35,Tryz.ntmps35
 go_upto_if 23 with (first|((with_reducible refine gate_callee (f:=57) rfl ?_);refine goesL_ (some 18) rfl rfl Tryz.func57 (by kernel_rfl) rfl #[.string a0,.string (⟨#[123]⟩ : ByteArray)] rfl (by (try simp only [List.map_toArray,List.map_cons,List.map_nil]);first|done|rfl|(simp only [List.length_drop,List.length_take];rfl)) ?_;(with_reducible refine (strings_Cut.calls a0 (⟨#[123]⟩ : ByteArray) t107 t108 t109 _ ?side1 A2.out).mono ?_);(case side1=>exact LaidW.below HLW.out (by repeat (first|(with_reducible first|exact HB.out|apply below_alloc|apply pw_below_drewN|apply below_drew1)|exact HB.out|(refine below_set ?_ (Aside0.out ?hge);(case hge=>assumption)))));rintro e w4 ⟨rfl,hb⟩;refine ⟨_,rfl,?_⟩;have n0_:=Aside0.mk (below_step (by repeat (first|(with_reducible first|exact HB.out|apply below_alloc|apply pw_below_drewN|apply below_drew1)|exact HB.out)) hb);clear HB;have HB:=n0_;clear n0_;(try clear hb);(try clear hb2);(try clear hk);(try clear hi)))
 (try simp only [Act.put,List.setIfInBounds_toArray,List.set_cons_zero,List.set_cons_succ])
 go_cut [7] (fun v7 wc=>∃ (kq : Nat) (x7_2 : List (S60)),Aside0 (label_Parse.j0 kq a0 t108 t109 x7_2 = some (r1,r2)) ∧ Aside0 (kq ≤ k) ∧ Aside0 (Kd.R k60 60 wc w.heap.size (fun _=>True) v7 x7_2) ∧ Aside0 (Below w.heap.size w wc))
 case first =>
  have H:=HC3.out
  clear HC3
  by_cases c5 : t107.toList = ([] : List UInt8)
  ·rw [if_pos c5] at H
   have c5b0 : (t107.toList == ([] : List UInt8)) = true:=beq_iff_eq.mpr c5
   have c5b9 : t107.toList.isEmpty = true:=by rw [c5];rfl
   have c5b1 : (t107.toList != ([] : List UInt8)) = false:=bne_eq_false_iff_eq.mpr c5
   clear c5
   (first|rw [c5b0]|rw [c5b9]|(simp only [i64_w,i32_w];rw [c5b0])|skip)
   have H':=Aside0.mk H
   clear H
   go_wp2
   go_meet
   case rel=>exact ⟨_,(([] : List (S60))),H',⟨by first|omega|exact Nat.le_refl _⟩,⟨by first|exact Kd.R_nil _ _ _ _ _|exact Kd.N_nil _ _ _ _ _|exact Kd.V_nil _ _ _ _ _|exact Kd.Q_nil _ _ _ _ _|exact Kd.S_nil _ _ _ _ _⟩,⟨by repeat (first|(with_reducible first|exact HB.out|apply below_alloc|apply pw_below_drewN|apply below_drew1)|exact HB.out)⟩⟩
  rw [if_neg c5] at H
  have c5b0 : (t107.toList == ([] : List UInt8)) = false:=beq_eq_false_iff_ne.mpr c5
  have c5b9 : t107.toList.isEmpty = false:=by (cases h_ : t107.toList with|nil=>exact absurd h_ c5|cons _ _=>rfl)
  have c5b1 : (t107.toList != ([] : List UInt8)) = true:=bne_iff_ne.mpr c5
  (first|rw [c5b0]|rw [c5b9]|(simp only [i64_w,i32_w];rw [c5b0])|skip)
  by_cases c6 : ([] : List (S60)).length < 4398046511104
  ·rw [if_pos c6] at H
   have LMc6:=Aside0.mk c6
   clear c6
   obtain ⟨y110,hy110⟩ : ∃ y_ : List (S60),y_ = (([] : List (S60)) ++ [(⟨(⟨#[95,95,110,97,109,101,95,95]⟩ : ByteArray),t107⟩ : S60)]):=⟨_,rfl⟩
   replace H : (label_Parse.j0 k a0 t108 t109 y110) = some (r1,r2):=by first|(rw [hy110];with_reducible exact H)|(have H2_:=(Option.bind_some _ _).symm.trans H;rw [hy110];with_reducible exact H2_)|(have H2_:=(Option.bind_some _ _).symm.trans H;with_reducible exact H2_)|with_reducible exact H|(rw [hy110];exact H)|exact H
   have Ny110:=Aside0.mk hy110
   clear hy110
   have H':=Aside0.mk H
   clear H
   go_wp2_with (first|((with_reducible refine gate_builtin (b:=.append) (xs:=#[.tmp 24,.tmp 27]) rfl ?_);(try (refine gate_guard (by rfl) ?_;dsimp only));at_builtin;refine Kd.R_append k60 (w0:=w) w.heap.size rfl (.tmp 24) (.tmp 27) 30 60 (.agg #[(.string ⟨#[]⟩),(.string ⟨#[]⟩)]) 32 rfl Tryz.underlying30 info60 rfl (by decide) (by omega) (.slice none 0 0) ([] : List (S60)) (⟨(⟨#[95,95,110,97,109,101,95,95]⟩ : ByteArray),t107⟩ : S60) [.string (⟨#[95,95,110,97,109,101,95,95]⟩ : ByteArray),.string t107] (fun _=>True) (fun _=>False) rfl rfl ?aP (fun _ hk=>hk.elim) ?aF ?aO ?aB ?aS ?aL ?_;(case aP=>exact k60_mkM _ _ _ (⟨(⟨#[95,95,110,97,109,101,95,95]⟩ : ByteArray),t107⟩ : S60));(case aB=>exact (by repeat (first|(with_reducible first|exact HB.out|apply below_alloc|apply pw_below_drewN|apply below_drew1)|exact HB.out)));(case aF=>exact (fun _ _=>trivial));(case aO=>exact ((Kd.R_nil _ _ _ _ (fun _=>True))));(case aS=>exact (below_size (by repeat (first|(with_reducible first|exact HB.out|apply below_alloc|apply pw_below_drewN|apply below_drew1)|exact HB.out))));(case aL=>have:=LMc6.out;omega);intro v111 w7 ho hb hg hat;rw [← Ny110.out] at ho;have n0_:=Aside0.mk (hb);have n1_:=Aside0.mk (ho);clear HB;have HB:=n0_;have HO112:=n1_;clear n0_ n1_;clear ho hb hg hat))
   go_meet
   case rel=>exact ⟨_,(y110),H',⟨by first|omega|exact Nat.le_refl _⟩,⟨by (with_reducible repeat (first|apply Kd.R_alloc|apply Kd.R_drewN|apply Kd.R_drew));exact HO112.out⟩,⟨by repeat (first|(with_reducible first|exact HB.out|apply below_alloc|apply pw_below_drewN|apply below_drew1)|exact HB.out)⟩⟩
  rw [if_neg c6] at H
  exact absurd H (by simp)
 clear HC3
 try clear p2
 try clear c3
 try clear c5
 try clear c5b0
 try clear c5b1
 try clear c6
 obtain ⟨kq,x7_2,HA,HJ2,HO_7,HB⟩:=hcut
 cases kq with
 | zero=>exact absurd HA.out (by simp [label_Parse.j0])
 | succ kj2 =>
  have H:=HA.out
  clear HA
  simp only [label_Parse.j0] at H
  have H':=Aside0.mk H
  clear H
  go_wp2
  go_loopg [5,7] kj2 (fun kq v5 v7 w'=>∃ (x5_2 : ByteArray) (x7_2 : List (S60)),v5 = .string x5_2 ∧ Aside0 (label_Parse.l0 kq a0 x5_2 t109 x7_2 = some (r1,r2)) ∧ Aside0 (kq ≤ kj2) ∧ Aside0 (Kd.R k60 60 w' w.heap.size (fun _=>True) v7 x7_2) ∧ Aside0 (Below w.heap.size w w'))
  case atStart=>exact ⟨(t108),(x7_2),(by first|rfl|(simp;done)|(simp [*];done)),H',⟨Nat.le_refl _⟩,⟨by (with_reducible repeat (first|apply Kd.R_alloc|apply Kd.R_drewN|apply Kd.R_drew));exact HO_7.out⟩,⟨by repeat (first|(with_reducible first|exact HB.out|apply below_alloc|apply pw_below_drewN|apply below_drew1)|exact HB.out)⟩⟩
  clear H'
  try clear p2
  try clear c3
  try clear c5
  try clear c5b0
  try clear c5b1
  try clear c6
  try clear p2
  obtain ⟨x5_2,x7_2,rfl,HA,HK2,HO_7,HB⟩:=hrel
  cases gk with
  | zero=>exact absurd HA.out (by simp [label_Parse.l0])
  | succ k2 =>
   have H:=HA.out
   clear HA
   simp only [label_Parse.l0] at H
   have HC8:=Aside0.mk H
   clear H
   go_upto_region 5 with (fail)
   go_cut [33] (fun v33 wc=>∃ (kq : Nat) (x33_7 : Bool),v33 = .bool x33_7 ∧ Aside0 (label_Parse.j2 kq a0 x5_2 t109 x7_2 x33_7 = some (r1,r2)) ∧ Aside0 (kq ≤ k2) ∧ Aside0 (Kd.R k60 60 wc w.heap.size (fun _=>True) u7 x7_2) ∧ Aside0 (Below w.heap.size w wc))
   case first =>
    have H:=HC8.out
    clear HC8
    by_cases c9 : t109 = true
    ·subst c9
     have H1 : (label_Parse.j2 k2 a0 x5_2 true x7_2 (x5_2.toList != ([125] : List UInt8))) = some (r1,r2):=by rw [if_pos rfl] at H;exact H
     clear H
     have H:=H1
     clear H1
     have H':=Aside0.mk H
     clear H
     go_wp2
     go_meet
     case rel=>exact ⟨_,((x5_2.toList != ([125] : List UInt8))),(by first|rfl|(simp;done)|(simp [*];done)),H',⟨by have:=HJ2.out;have:=HK2.out;first|omega|exact Nat.le_refl _⟩,⟨by (with_reducible repeat (first|apply Kd.R_alloc|apply Kd.R_drewN|apply Kd.R_drew));exact HO_7.out⟩,⟨by repeat (first|(with_reducible first|exact HB.out|apply below_alloc|apply pw_below_drewN|apply below_drew1)|exact HB.out)⟩⟩
    replace c9:=Bool.eq_false_iff.mpr c9
    subst c9
    have H1 : (label_Parse.j2 k2 a0 x5_2 false x7_2 false) = some (r1,r2):=by rw [if_neg (show ¬ (false = true) by decide)] at H;exact H
    clear H
    have H:=H1
    clear H1
    have H':=Aside0.mk H
    clear H
    go_wp2
    go_meet
    case rel=>exact ⟨_,(false),(by first|rfl|(simp;done)|(simp [*];done)),H',⟨by have:=HJ2.out;have:=HK2.out;first|omega|exact Nat.le_refl _⟩,⟨by (with_reducible repeat (first|apply Kd.R_alloc|apply Kd.R_drewN|apply Kd.R_drew));exact HO_7.out⟩,⟨by repeat (first|(with_reducible first|exact HB.out|apply below_alloc|apply pw_below_drewN|apply below_drew1)|exact HB.out)⟩⟩
   clear HC8
   try clear p2
   try clear c3
   try clear c5
   try clear c5b0
   try clear c5b1
   try clear c6
   try clear c9
   try clear p2
   obtain ⟨kq,x33_7,rfl,HA,HJ7,HO_7,HB⟩:=hcut
   cases kq with
   | zero=>exact absurd HA.out (by simp [label_Parse.j2])
   | succ kj7 =>
    have H:=HA.out
    clear HA
    simp only [label_Parse.j2] at H
    by_cases c10 : x33_7 = true
    ·subst c10
     have H1 : ((strings_Cut.f x5_2 (⟨#[61]⟩ : ByteArray)).bind fun bt113=>((label_Unquote.f bt113.2.1).bind fun bt116=>(if bt113.2.2 = true then (if bt116.2.2 = true then (if (x7_2.length : Int) > 8 then (some (([] : List (S60)),30)) else (if x7_2.length < 4398046511104 then ((strings_TrimPrefix.f bt116.2.1 (⟨#[44]⟩ : ByteArray)).bind fun t122=>(label_Parse.l0 kj7 a0 t122 t109 (x7_2 ++ [(⟨bt113.1,bt116.1⟩ : S60)]))) else (none))) else (some (([] : List (S60)),30))) else (some (([] : List (S60)),30))))) = some (r1,r2):=by rw [if_pos rfl] at H;exact H
     clear H
     have H:=H1
     clear H1
     replace H:=Option.bind_eq_some_iff.mp H
     obtain ⟨⟨t113,t114,t115⟩,A110,H⟩:=H
     replace H : ((label_Unquote.f t114).bind fun bt116=>(if t115 = true then (if bt116.2.2 = true then (if (x7_2.length : Int) > 8 then (some (([] : List (S60)),30)) else (if x7_2.length < 4398046511104 then ((strings_TrimPrefix.f bt116.2.1 (⟨#[44]⟩ : ByteArray)).bind fun t122=>(label_Parse.l0 kj7 a0 t122 t109 (x7_2 ++ [(⟨t113,bt116.1⟩ : S60)]))) else (none))) else (some (([] : List (S60)),30))) else (some (([] : List (S60)),30)))) = some (r1,r2):=H
     have A11:=Aside0.mk A110
     clear A110
     replace H:=Option.bind_eq_some_iff.mp H
     obtain ⟨⟨t116,t117,t118⟩,A120,H⟩:=H
     replace H : (if t115 = true then (if t118 = true then (if (x7_2.length : Int) > 8 then (some (([] : List (S60)),30)) else (if x7_2.length < 4398046511104 then ((strings_TrimPrefix.f t117 (⟨#[44]⟩ : ByteArray)).bind fun t122=>(label_Parse.l0 kj7 a0 t122 t109 (x7_2 ++ [(⟨t113,t116⟩ : S60)]))) else (none))) else (some (([] : List (S60)),30))) else (some (([] : List (S60)),30))) = some (r1,r2):=H
     have A12:=Aside0.mk A120
     clear A120
     by_cases c13 : t115 = true
     ·subst c13
      have H1 : (if t118 = true then (if (x7_2.length : Int) > 8 then (some (([] : List (S60)),30)) else (if x7_2.length < 4398046511104 then ((strings_TrimPrefix.f t117 (⟨#[44]⟩ : ByteArray)).bind fun t122=>(label_Parse.l0 kj7 a0 t122 t109 (x7_2 ++ [(⟨t113,t116⟩ : S60)]))) else (none))) else (some (([] : List (S60)),30))) = some (r1,r2):=by rw [if_pos rfl] at H;exact H
      clear H
      have H:=H1
      clear H1
      by_cases c14 : t118 = true
      ·subst c14
       have H1 : (if (x7_2.length : Int) > 8 then (some (([] : List (S60)),30)) else (if x7_2.length < 4398046511104 then ((strings_TrimPrefix.f t117 (⟨#[44]⟩ : ByteArray)).bind fun t122=>(label_Parse.l0 kj7 a0 t122 t109 (x7_2 ++ [(⟨t113,t116⟩ : S60)]))) else (none))) = some (r1,r2):=by rw [if_pos rfl] at H;exact H
       clear H
       have H:=H1
       clear H1
       by_cases c15 : (x7_2.length : Int) > 8
       ·rw [if_pos c15] at H
        have c15b0 : decide (8 < (x7_2.length : Int)) = true:=decide_eq_true c15
        have c15b1 : decide (8 < x7_2.length) = true:=decide_eq_true (by omega)
        clear c15
        simp only [Option.some.injEq,Prod.mk.injEq] at H
        obtain ⟨rfl,rfl⟩:=H
        go_wp2_with (first|((with_reducible refine gate_callee (f:=57) rfl ?_);refine goesL_ (some 36) rfl rfl Tryz.func57 (by kernel_rfl) rfl #[.string x5_2,.string (⟨#[61]⟩ : ByteArray)] rfl (by (try simp only [List.map_toArray,List.map_cons,List.map_nil]);first|done|rfl|(simp only [List.length_drop,List.length_take];rfl)) ?_;(with_reducible refine (strings_Cut.calls x5_2 (⟨#[61]⟩ : ByteArray) t113 t114 true _ ?side1 A11.out).mono ?_);(case side1=>exact LaidW.below HLW.out (by repeat (first|(with_reducible first|exact HB.out|apply below_alloc|apply pw_below_drewN|apply below_drew1)|exact HB.out|(refine below_set ?_ (Aside0.out ?hge);(case hge=>assumption)))));rintro e w16 ⟨rfl,hb⟩;refine ⟨_,rfl,?_⟩;have n0_:=Aside0.mk (Kd.R_below (by (with_reducible repeat (first|apply Kd.R_alloc|apply Kd.R_drewN|apply Kd.R_drew));exact HO_7.out) hb);have n1_:=Aside0.mk (below_step (by repeat (first|(with_reducible first|exact HB.out|apply below_alloc|apply pw_below_drewN|apply below_drew1)|exact HB.out)) hb);clear HO_7;clear HB;have HO_7:=n0_;have HB:=n1_;clear n0_ n1_;(try clear hb);(try clear hb2);(try clear hk);(try clear hi))|((with_reducible refine gate_callee (f:=58) rfl ?_);refine goesL_ (some 42) rfl rfl Tryz.func58 (by kernel_rfl) rfl #[.string t114] rfl (by (try simp only [List.map_toArray,List.map_cons,List.map_nil]);first|done|rfl|(simp only [List.length_drop,List.length_take];rfl)) ?_;(with_reducible refine (label_Unquote.calls t114 t116 t117 true _ A12.out).mono ?_);rintro e w17 ⟨rfl,hb⟩;refine ⟨_,rfl,?_⟩;have n0_:=Aside0.mk (Kd.R_below (by (with_reducible repeat (first|apply Kd.R_alloc|apply Kd.R_drewN|apply Kd.R_drew));exact HO_7.out) hb);have n1_:=Aside0.mk (below_step (by repeat (first|(with_reducible first|exact HB.out|apply below_alloc|apply pw_below_drewN|apply below_drew1)|exact HB.out)) hb);clear HO_7;clear HB;have HO_7:=n0_;have HB:=n1_;clear n0_ n1_;(try clear hb);(try clear hb2);(try clear hk);(try clear hi);obtain ⟨Ao18,co18,eo18⟩:=Kd.R_slice HO_7.out;subst eo18))
        go_ret2
        exact ⟨_,by first|rfl|(simp [errW_none,errW_some] <;> rfl)|(simp [*,errW_none,errW_some] <;> rfl),by first|exact Kd.R_nil _ _ _ _ _|exact Kd.N_nil _ _ _ _ _|exact Kd.V_nil _ _ _ _ _|exact Kd.Q_nil _ _ _ _ _|exact Kd.S_nil _ _ _ _ _,by repeat (first|(with_reducible first|exact HB.out|apply below_alloc|apply pw_below_drewN|apply below_drew1)|exact HB.out)⟩
       rw [if_neg c15] at H
       have c15b0 : decide (8 < (x7_2.length : Int)) = false:=decide_eq_false c15
       have c15b1 : decide (8 < x7_2.length) = false:=decide_eq_false (by omega)
       clear c15
       by_cases c19 : x7_2.length < 4398046511104
       ·rw [if_pos c19] at H
        have LMc19:=Aside0.mk c19
        clear c19
        obtain ⟨y119,hy119⟩ : ∃ y_ : List (S60),y_ = (x7_2 ++ [(⟨t113,t116⟩ : S60)]):=⟨_,rfl⟩
        replace H : ((strings_TrimPrefix.f t117 (⟨#[44]⟩ : ByteArray)).bind fun t122=>(label_Parse.l0 kj7 a0 t122 t109 y119)) = some (r1,r2):=by first|(rw [hy119];with_reducible exact H)|(have H2_:=(Option.bind_some _ _).symm.trans H;rw [hy119];with_reducible exact H2_)|(have H2_:=(Option.bind_some _ _).symm.trans H;with_reducible exact H2_)|with_reducible exact H|(rw [hy119];exact H)|exact H
        have Ny119:=Aside0.mk hy119
        clear hy119
        replace H:=Option.bind_eq_some_iff.mp H
        obtain ⟨t122,A200,H⟩:=H
        replace H : (label_Parse.l0 kj7 a0 t122 t109 y119) = some (r1,r2):=H
        have A20:=Aside0.mk A200
        clear A200
        have H':=Aside0.mk H
        clear H
        go_wp2_with (first|((with_reducible refine gate_callee (f:=57) rfl ?_);refine goesL_ (some 36) rfl rfl Tryz.func57 (by kernel_rfl) rfl #[.string x5_2,.string (⟨#[61]⟩ : ByteArray)] rfl (by (try simp only [List.map_toArray,List.map_cons,List.map_nil]);first|done|rfl|(simp only [List.length_drop,List.length_take];rfl)) ?_;(with_reducible refine (strings_Cut.calls x5_2 (⟨#[61]⟩ : ByteArray) t113 t114 true _ ?side1 A11.out).mono ?_);(case side1=>exact LaidW.below HLW.out (by repeat (first|(with_reducible first|exact HB.out|apply below_alloc|apply pw_below_drewN|apply below_drew1)|exact HB.out|(refine below_set ?_ (Aside0.out ?hge);(case hge=>assumption)))));rintro e w21 ⟨rfl,hb⟩;refine ⟨_,rfl,?_⟩;have n0_:=Aside0.mk (Kd.R_below (by (with_reducible repeat (first|apply Kd.R_alloc|apply Kd.R_drewN|apply Kd.R_drew));exact HO_7.out) hb);have n1_:=Aside0.mk (below_step (by repeat (first|(with_reducible first|exact HB.out|apply below_alloc|apply pw_below_drewN|apply below_drew1)|exact HB.out)) hb);clear HO_7;clear HB;have HO_7:=n0_;have HB:=n1_;clear n0_ n1_;(try clear hb);(try clear hb2);(try clear hk);(try clear hi))|((with_reducible refine gate_callee (f:=58) rfl ?_);refine goesL_ (some 42) rfl rfl Tryz.func58 (by kernel_rfl) rfl #[.string t114] rfl (by (try simp only [List.map_toArray,List.map_cons,List.map_nil]);first|done|rfl|(simp only [List.length_drop,List.length_take];rfl)) ?_;(with_reducible refine (label_Unquote.calls t114 t116 t117 true _ A12.out).mono ?_);rintro e w22 ⟨rfl,hb⟩;refine ⟨_,rfl,?_⟩;have n0_:=Aside0.mk (Kd.R_below (by (with_reducible repeat (first|apply Kd.R_alloc|apply Kd.R_drewN|apply Kd.R_drew));exact HO_7.out) hb);have n1_:=Aside0.mk (below_step (by repeat (first|(with_reducible first|exact HB.out|apply below_alloc|apply pw_below_drewN|apply below_drew1)|exact HB.out)) hb);clear HO_7;clear HB;have HO_7:=n0_;have HB:=n1_;clear n0_ n1_;(try clear hb);(try clear hb2);(try clear hk);(try clear hi);obtain ⟨Ao23,co23,eo23⟩:=Kd.R_slice HO_7.out;subst eo23)|((with_reducible refine gate_builtin (b:=.append) (xs:=#[.tmp 57,.tmp 61]) rfl ?_);(try (refine gate_guard (by rfl) ?_;dsimp only));at_builtin;refine Kd.R_append k60 (w0:=w) w.heap.size rfl (.tmp 57) (.tmp 61) 30 60 (.agg #[(.string ⟨#[]⟩),(.string ⟨#[]⟩)]) 32 rfl Tryz.underlying30 info60 rfl (by decide) (by omega) (.slice Ao23 x7_2.length co23) x7_2 (⟨t113,t116⟩ : S60) [.string t113,.string t116] (fun _=>True) (fun _=>False) rfl rfl ?aP (fun _ hk=>hk.elim) ?aF ?aO ?aB ?aS ?aL ?_;(case aP=>exact k60_mkM _ _ _ (⟨t113,t116⟩ : S60));(case aB=>exact (by repeat (first|(with_reducible first|exact HB.out|apply below_alloc|apply pw_below_drewN|apply below_drew1)|exact HB.out)));(case aF=>exact (fun _ _=>trivial));(case aO=>exact (by (with_reducible repeat (first|apply Kd.R_alloc|apply Kd.R_drewN|apply Kd.R_drew));exact HO_7.out));(case aS=>exact (below_size (by repeat (first|(with_reducible first|exact HB.out|apply below_alloc|apply pw_below_drewN|apply below_drew1)|exact HB.out))));(case aL=>have:=LMc19.out;omega);intro v120 w24 ho hb hg hat;rw [← Ny119.out] at ho;have n0_:=Aside0.mk (hb);have n1_:=Aside0.mk (ho);clear HB;clear HO_7;have HB:=n0_;have HO121:=n1_;clear n0_ n1_;clear ho hb hg hat)|((with_reducible refine gate_callee (f:=59) rfl ?_);refine goesL_ (some 64) rfl rfl Tryz.func59 (by kernel_rfl) rfl #[.string t117,.string (⟨#[44]⟩ : ByteArray)] rfl (by (try simp only [List.map_toArray,List.map_cons,List.map_nil]);first|done|rfl|(simp only [List.length_drop,List.length_take];rfl)) ?_;(with_reducible refine (strings_TrimPrefix.calls t117 (⟨#[44]⟩ : ByteArray) t122 _ A20.out).mono ?_);rintro e w' ⟨rfl,⟨nd,rfl⟩⟩;refine ⟨_,rfl,?_⟩))
        go_roundg kj7
        case measure=>have:=HJ2.out;have:=HK2.out;have:=HJ7.out;omega
        case rel=>exact ⟨(t122),(y119),(by first|rfl|(simp;done)|(simp [*];done)),H',⟨by have:=HJ2.out;have:=HK2.out;have:=HJ7.out;omega⟩,⟨by (with_reducible repeat (first|apply Kd.R_alloc|apply Kd.R_drewN|apply Kd.R_drew));exact HO121.out⟩,⟨by repeat (first|(with_reducible first|exact HB.out|apply below_alloc|apply pw_below_drewN|apply below_drew1)|exact HB.out)⟩⟩
       rw [if_neg c19] at H
       exact absurd H (by simp)
      replace c14:=Bool.eq_false_iff.mpr c14
      subst c14
      have H1 : (some (([] : List (S60)),30)) = some (r1,r2):=by rw [if_neg (show ¬ (false = true) by decide)] at H;exact H
      clear H
      have H:=H1
      clear H1
      simp only [Option.some.injEq,Prod.mk.injEq] at H
      obtain ⟨rfl,rfl⟩:=H
      go_wp2_with (first|((with_reducible refine gate_callee (f:=57) rfl ?_);refine goesL_ (some 36) rfl rfl Tryz.func57 (by kernel_rfl) rfl #[.string x5_2,.string (⟨#[61]⟩ : ByteArray)] rfl (by (try simp only [List.map_toArray,List.map_cons,List.map_nil]);first|done|rfl|(simp only [List.length_drop,List.length_take];rfl)) ?_;(with_reducible refine (strings_Cut.calls x5_2 (⟨#[61]⟩ : ByteArray) t113 t114 true _ ?side1 A11.out).mono ?_);(case side1=>exact LaidW.below HLW.out (by repeat (first|(with_reducible first|exact HB.out|apply below_alloc|apply pw_below_drewN|apply below_drew1)|exact HB.out|(refine below_set ?_ (Aside0.out ?hge);(case hge=>assumption)))));rintro e w25 ⟨rfl,hb⟩;refine ⟨_,rfl,?_⟩;have n0_:=Aside0.mk (Kd.R_below (by (with_reducible repeat (first|apply Kd.R_alloc|apply Kd.R_drewN|apply Kd.R_drew));exact HO_7.out) hb);have n1_:=Aside0.mk (below_step (by repeat (first|(with_reducible first|exact HB.out|apply below_alloc|apply pw_below_drewN|apply below_drew1)|exact HB.out)) hb);clear HO_7;clear HB;have HO_7:=n0_;have HB:=n1_;clear n0_ n1_;(try clear hb);(try clear hb2);(try clear hk);(try clear hi))|((with_reducible refine gate_callee (f:=58) rfl ?_);refine goesL_ (some 42) rfl rfl Tryz.func58 (by kernel_rfl) rfl #[.string t114] rfl (by (try simp only [List.map_toArray,List.map_cons,List.map_nil]);first|done|rfl|(simp only [List.length_drop,List.length_take];rfl)) ?_;(with_reducible refine (label_Unquote.calls t114 t116 t117 false _ A12.out).mono ?_);rintro e w26 ⟨rfl,hb⟩;refine ⟨_,rfl,?_⟩;have n0_:=Aside0.mk (Kd.R_below (by (with_reducible repeat (first|apply Kd.R_alloc|apply Kd.R_drewN|apply Kd.R_drew));exact HO_7.out) hb);have n1_:=Aside0.mk (below_step (by repeat (first|(with_reducible first|exact HB.out|apply below_alloc|apply pw_below_drewN|apply below_drew1)|exact HB.out)) hb);clear HO_7;clear HB;have HO_7:=n0_;have HB:=n1_;clear n0_ n1_;(try clear hb);(try clear hb2);(try clear hk);(try clear hi)))
      go_ret2
      exact ⟨_,by first|rfl|(simp [errW_none,errW_some] <;> rfl)|(simp [*,errW_none,errW_some] <;> rfl),by first|exact Kd.R_nil _ _ _ _ _|exact Kd.N_nil _ _ _ _ _|exact Kd.V_nil _ _ _ _ _|exact Kd.Q_nil _ _ _ _ _|exact Kd.S_nil _ _ _ _ _,by repeat (first|(with_reducible first|exact HB.out|apply below_alloc|apply pw_below_drewN|apply below_drew1)|exact HB.out)⟩
     replace c13:=Bool.eq_false_iff.mpr c13
     subst c13
     have H1 : (some (([] : List (S60)),30)) = some (r1,r2):=by rw [if_neg (show ¬ (false = true) by decide)] at H;exact H
     clear H
     have H:=H1
     clear H1
     simp only [Option.some.injEq,Prod.mk.injEq] at H
     obtain ⟨rfl,rfl⟩:=H
     go_wp2_with (first|((with_reducible refine gate_callee (f:=57) rfl ?_);refine goesL_ (some 36) rfl rfl Tryz.func57 (by kernel_rfl) rfl #[.string x5_2,.string (⟨#[61]⟩ : ByteArray)] rfl (by (try simp only [List.map_toArray,List.map_cons,List.map_nil]);first|done|rfl|(simp only [List.length_drop,List.length_take];rfl)) ?_;(with_reducible refine (strings_Cut.calls x5_2 (⟨#[61]⟩ : ByteArray) t113 t114 false _ ?side1 A11.out).mono ?_);(case side1=>exact LaidW.below HLW.out (by repeat (first|(with_reducible first|exact HB.out|apply below_alloc|apply pw_below_drewN|apply below_drew1)|exact HB.out|(refine below_set ?_ (Aside0.out ?hge);(case hge=>assumption)))));rintro e w27 ⟨rfl,hb⟩;refine ⟨_,rfl,?_⟩;have n0_:=Aside0.mk (Kd.R_below (by (with_reducible repeat (first|apply Kd.R_alloc|apply Kd.R_drewN|apply Kd.R_drew));exact HO_7.out) hb);have n1_:=Aside0.mk (below_step (by repeat (first|(with_reducible first|exact HB.out|apply below_alloc|apply pw_below_drewN|apply below_drew1)|exact HB.out)) hb);clear HO_7;clear HB;have HO_7:=n0_;have HB:=n1_;clear n0_ n1_;(try clear hb);(try clear hb2);(try clear hk);(try clear hi))|((with_reducible refine gate_callee (f:=58) rfl ?_);refine goesL_ (some 42) rfl rfl Tryz.func58 (by kernel_rfl) rfl #[.string t114] rfl (by (try simp only [List.map_toArray,List.map_cons,List.map_nil]);first|done|rfl|(simp only [List.length_drop,List.length_take];rfl)) ?_;(with_reducible refine (label_Unquote.calls t114 t116 t117 t118 _ A12.out).mono ?_);rintro e w28 ⟨rfl,hb⟩;refine ⟨_,rfl,?_⟩;have n0_:=Aside0.mk (Kd.R_below (by (with_reducible repeat (first|apply Kd.R_alloc|apply Kd.R_drewN|apply Kd.R_drew));exact HO_7.out) hb);have n1_:=Aside0.mk (below_step (by repeat (first|(with_reducible first|exact HB.out|apply below_alloc|apply pw_below_drewN|apply below_drew1)|exact HB.out)) hb);clear HO_7;clear HB;have HO_7:=n0_;have HB:=n1_;clear n0_ n1_;(try clear hb);(try clear hb2);(try clear hk);(try clear hi)))
     go_ret2
     exact ⟨_,by first|rfl|(simp [errW_none,errW_some] <;> rfl)|(simp [*,errW_none,errW_some] <;> rfl),by first|exact Kd.R_nil _ _ _ _ _|exact Kd.N_nil _ _ _ _ _|exact Kd.V_nil _ _ _ _ _|exact Kd.Q_nil _ _ _ _ _|exact Kd.S_nil _ _ _ _ _,by repeat (first|(with_reducible first|exact HB.out|apply below_alloc|apply pw_below_drewN|apply below_drew1)|exact HB.out)⟩
    replace c10:=Bool.eq_false_iff.mpr c10
    subst c10
    have H1 : ((label_Make.f x7_2).bind fun bt123=>(if bt123.2 = 0 then ((label_Print.f bt123.1).bind fun t127=>(if t127.toList = a0.toList then (some (bt123.1,0)) else (some (([] : List (S60)),30)))) else (some (([] : List (S60)),30)))) = some (r1,r2):=by rw [if_neg (show ¬ (false = true) by decide)] at H;exact H
    clear H
    have H:=H1
    clear H1
    replace H:=Option.bind_eq_some_iff.mp H
    obtain ⟨⟨t123,t124⟩,A290,H⟩:=H
    replace H : (if t124 = 0 then ((label_Print.f t123).bind fun t127=>(if t127.toList = a0.toList then (some (t123,0)) else (some (([] : List (S60)),30)))) else (some (([] : List (S60)),30))) = some (r1,r2):=H
    have A29:=Aside0.mk A290
    clear A290
    by_cases c30 : t124 = 0
    ·rw [if_pos c30] at H
     have c30b0 : (t124 == 0) = true:=beq_iff_eq.mpr c30
     have c30b1 : (t124 != 0) = false:=bne_eq_false_iff_eq.mpr c30
     clear c30
     replace H:=Option.bind_eq_some_iff.mp H
     obtain ⟨t127,A310,H⟩:=H
     replace H : (if t127.toList = a0.toList then (some (t123,0)) else (some (([] : List (S60)),30))) = some (r1,r2):=H
     have A31:=Aside0.mk A310
     clear A310
     by_cases c32 : t127.toList = a0.toList
     ·rw [if_pos c32] at H
      have c32b0 : (t127.toList == a0.toList) = true:=beq_iff_eq.mpr c32
      have c32b1 : (t127.toList != a0.toList) = false:=bne_eq_false_iff_eq.mpr c32
      clear c32
      simp only [Option.some.injEq,Prod.mk.injEq] at H
      obtain ⟨rfl,rfl⟩:=H
      obtain ⟨Ao33,co33,eo33⟩:=Kd.R_slice HO_7.out
      subst eo33
      go_wp2_with (first|((with_reducible refine gate_callee (f:=60) rfl ?_);refine goesL_ (some 67) rfl rfl Tryz.func60 (by kernel_rfl) rfl #[.slice Ao33 x7_2.length co33] rfl (by (try simp only [List.map_toArray,List.map_cons,List.map_nil]);first|done|rfl|(simp only [List.length_drop,List.length_take];rfl)) ?_;(with_reducible refine (label_Make.calls _ _ x7_2 t123 t124 _ ?side1 ?side2 A29.out).mono ?_);(case side1=>repeat (first|exact (Kd.R_reads' HO_7.out).2.2|(with_reducible refine Kd.C_alloc ?_ _)|(with_reducible refine Kd.C_drewN ?_ _)|(with_reducible refine Kd.C_drew ?_)));(case side2=>exact (Kd.R_reads' HO_7.out).2.1);rintro e w34 ⟨v125,rfl,ho0,hb⟩;refine ⟨_,rfl,?_⟩;have n0_:=Aside0.mk (Kd.R_elder' (by (with_reducible repeat (first|apply Kd.R_alloc|apply Kd.R_drewN|apply Kd.R_drew));exact HO_7.out) (Kd.R_base ho0) hb);have n1_:=Aside0.mk (Kd.R_lower (Kd.R_new' ho0 (Kd.R_lt (by (with_reducible repeat (first|apply Kd.R_alloc|apply Kd.R_drewN|apply Kd.R_drew));exact HO_7.out))) (below_size (by repeat (first|(with_reducible first|exact HB.out|apply below_alloc|apply pw_below_drewN|apply below_drew1)|exact HB.out))));have n2_:=Aside0.mk (below_step (by repeat (first|(with_reducible first|exact HB.out|apply below_alloc|apply pw_below_drewN|apply below_drew1)|exact HB.out)) hb);clear HO_7;clear HB;have HO_7:=n0_;have HO126:=n1_;have HB:=n2_;clear n0_ n1_ n2_;(try clear hb);(try clear hb2);(try clear hk);(try clear hi);(try clear ho0);obtain ⟨Ao35,co35,eo35⟩:=Kd.R_slice HO126.out;subst eo35)|(go_at_call 61;(with_reducible refine (label_Print.calls _ _ t123 t127 _ ?side1 ?side2 A31.out).mono ?_);(case side1=>repeat (first|exact (Kd.R_reads' HO126.out).2.2|(with_reducible refine Kd.C_alloc ?_ _)|(with_reducible refine Kd.C_drewN ?_ _)|(with_reducible refine Kd.C_drew ?_)));(case side2=>exact (Kd.R_reads' HO126.out).2.1);rintro e w36 ⟨rfl,hb⟩;have n0_:=Aside0.mk (Kd.R_below (by (with_reducible repeat (first|apply Kd.R_alloc|apply Kd.R_drewN|apply Kd.R_drew));exact HO_7.out) hb);have n1_:=Aside0.mk (Kd.R_below (by (with_reducible repeat (first|apply Kd.R_alloc|apply Kd.R_drewN|apply Kd.R_drew));exact HO126.out) hb);have n2_:=Aside0.mk (below_step (by repeat (first|(with_reducible first|exact HB.out|apply below_alloc|apply pw_below_drewN|apply below_drew1)|exact HB.out)) hb);clear HO_7;clear HO126;clear HB;have HO_7:=n0_;have HO126:=n1_;have HB:=n2_;clear n0_ n1_ n2_;(try clear hb);(try clear hb2);(try clear hk);(try clear hi)))
      go_ret2
      exact ⟨_,by first|rfl|(simp [errW_none,errW_some] <;> rfl)|(simp [*,errW_none,errW_some] <;> rfl),by (with_reducible repeat (first|apply Kd.R_alloc|apply Kd.R_drewN|apply Kd.R_drew));exact Kd.R_mono HO126.out (fun _ hk=>trivial),by repeat (first|(with_reducible first|exact HB.out|apply below_alloc|apply pw_below_drewN|apply below_drew1)|exact HB.out)⟩
     rw [if_neg c32] at H
     have c32b0 : (t127.toList == a0.toList) = false:=beq_eq_false_iff_ne.mpr c32
     have c32b1 : (t127.toList != a0.toList) = true:=bne_iff_ne.mpr c32
     simp only [Option.some.injEq,Prod.mk.injEq] at H
     obtain ⟨rfl,rfl⟩:=H
     obtain ⟨Ao37,co37,eo37⟩:=Kd.R_slice HO_7.out
     subst eo37
     go_wp2_with (first|((with_reducible refine gate_callee (f:=60) rfl ?_);refine goesL_ (some 67) rfl rfl Tryz.func60 (by kernel_rfl) rfl #[.slice Ao37 x7_2.length co37] rfl (by (try simp only [List.map_toArray,List.map_cons,List.map_nil]);first|done|rfl|(simp only [List.length_drop,List.length_take];rfl)) ?_;(with_reducible refine (label_Make.calls _ _ x7_2 t123 t124 _ ?side1 ?side2 A29.out).mono ?_);(case side1=>repeat (first|exact (Kd.R_reads' HO_7.out).2.2|(with_reducible refine Kd.C_alloc ?_ _)|(with_reducible refine Kd.C_drewN ?_ _)|(with_reducible refine Kd.C_drew ?_)));(case side2=>exact (Kd.R_reads' HO_7.out).2.1);rintro e w38 ⟨v125,rfl,ho0,hb⟩;refine ⟨_,rfl,?_⟩;have n0_:=Aside0.mk (Kd.R_elder' (by (with_reducible repeat (first|apply Kd.R_alloc|apply Kd.R_drewN|apply Kd.R_drew));exact HO_7.out) (Kd.R_base ho0) hb);have n1_:=Aside0.mk (Kd.R_lower (Kd.R_new' ho0 (Kd.R_lt (by (with_reducible repeat (first|apply Kd.R_alloc|apply Kd.R_drewN|apply Kd.R_drew));exact HO_7.out))) (below_size (by repeat (first|(with_reducible first|exact HB.out|apply below_alloc|apply pw_below_drewN|apply below_drew1)|exact HB.out))));have n2_:=Aside0.mk (below_step (by repeat (first|(with_reducible first|exact HB.out|apply below_alloc|apply pw_below_drewN|apply below_drew1)|exact HB.out)) hb);clear HO_7;clear HB;have HO_7:=n0_;have HO126:=n1_;have HB:=n2_;clear n0_ n1_ n2_;(try clear hb);(try clear hb2);(try clear hk);(try clear hi);(try clear ho0);obtain ⟨Ao39,co39,eo39⟩:=Kd.R_slice HO126.out;subst eo39)|(go_at_call 61;(with_reducible refine (label_Print.calls _ _ t123 t127 _ ?side1 ?side2 A31.out).mono ?_);(case side1=>repeat (first|exact (Kd.R_reads' HO126.out).2.2|(with_reducible refine Kd.C_alloc ?_ _)|(with_reducible refine Kd.C_drewN ?_ _)|(with_reducible refine Kd.C_drew ?_)));(case side2=>exact (Kd.R_reads' HO126.out).2.1);rintro e w40 ⟨rfl,hb⟩;have n0_:=Aside0.mk (Kd.R_below (by (with_reducible repeat (first|apply Kd.R_alloc|apply Kd.R_drewN|apply Kd.R_drew));exact HO_7.out) hb);have n1_:=Aside0.mk (Kd.R_below (by (with_reducible repeat (first|apply Kd.R_alloc|apply Kd.R_drewN|apply Kd.R_drew));exact HO126.out) hb);have n2_:=Aside0.mk (below_step (by repeat (first|(with_reducible first|exact HB.out|apply below_alloc|apply pw_below_drewN|apply below_drew1)|exact HB.out)) hb);clear HO_7;clear HO126;clear HB;have HO_7:=n0_;have HO126:=n1_;have HB:=n2_;clear n0_ n1_ n2_;(try clear hb);(try clear hb2);(try clear hk);(try clear hi)))
     go_ret2
     exact ⟨_,by first|rfl|(simp [errW_none,errW_some] <;> rfl)|(simp [*,errW_none,errW_some] <;> rfl),by first|exact Kd.R_nil _ _ _ _ _|exact Kd.N_nil _ _ _ _ _|exact Kd.V_nil _ _ _ _ _|exact Kd.Q_nil _ _ _ _ _|exact Kd.S_nil _ _ _ _ _,by repeat (first|(with_reducible first|exact HB.out|apply below_alloc|apply pw_below_drewN|apply below_drew1)|exact HB.out)⟩
    rw [if_neg c30] at H
    have c30b0 : (t124 == 0) = false:=beq_eq_false_iff_ne.mpr c30
    have c30b1 : (t124 != 0) = true:=bne_iff_ne.mpr c30
    simp only [Option.some.injEq,Prod.mk.injEq] at H
    obtain ⟨rfl,rfl⟩:=H
    obtain ⟨Ao41,co41,eo41⟩:=Kd.R_slice HO_7.out
    subst eo41
    go_wp2_with (first|((with_reducible refine gate_callee (f:=60) rfl ?_);refine goesL_ (some 67) rfl rfl Tryz.func60 (by kernel_rfl) rfl #[.slice Ao41 x7_2.length co41] rfl (by (try simp only [List.map_toArray,List.map_cons,List.map_nil]);first|done|rfl|(simp only [List.length_drop,List.length_take];rfl)) ?_;(with_reducible refine (label_Make.calls _ _ x7_2 t123 t124 _ ?side1 ?side2 A29.out).mono ?_);(case side1=>repeat (first|exact (Kd.R_reads' HO_7.out).2.2|(with_reducible refine Kd.C_alloc ?_ _)|(with_reducible refine Kd.C_drewN ?_ _)|(with_reducible refine Kd.C_drew ?_)));(case side2=>exact (Kd.R_reads' HO_7.out).2.1);rintro e w42 ⟨v125,rfl,ho0,hb⟩;refine ⟨_,rfl,?_⟩;have n0_:=Aside0.mk (Kd.R_elder' (by (with_reducible repeat (first|apply Kd.R_alloc|apply Kd.R_drewN|apply Kd.R_drew));exact HO_7.out) (Kd.R_base ho0) hb);have n1_:=Aside0.mk (Kd.R_lower (Kd.R_new' ho0 (Kd.R_lt (by (with_reducible repeat (first|apply Kd.R_alloc|apply Kd.R_drewN|apply Kd.R_drew));exact HO_7.out))) (below_size (by repeat (first|(with_reducible first|exact HB.out|apply below_alloc|apply pw_below_drewN|apply below_drew1)|exact HB.out))));have n2_:=Aside0.mk (below_step (by repeat (first|(with_reducible first|exact HB.out|apply below_alloc|apply pw_below_drewN|apply below_drew1)|exact HB.out)) hb);clear HO_7;clear HB;have HO_7:=n0_;have HO126:=n1_;have HB:=n2_;clear n0_ n1_ n2_;(try clear hb);(try clear hb2);(try clear hk);(try clear hi);(try clear ho0)))
    go_ret2
    exact ⟨_,by first|rfl|(simp [errW_none,errW_some] <;> rfl)|(simp [*,errW_none,errW_some] <;> rfl),by first|exact Kd.R_nil _ _ _ _ _|exact Kd.N_nil _ _ _ _ _|exact Kd.V_nil _ _ _ _ _|exact Kd.Q_nil _ _ _ _ _|exact Kd.S_nil _ _ _ _ _,by repeat (first|(with_reducible first|exact HB.out|apply below_alloc|apply pw_below_drewN|apply below_drew1)|exact HB.out)⟩
/-! ### expo_metric: function 36 -/
def expo_metric.f (k : Nat) (l0 : List (S60)) : Option (ByteArray × Bool):=(label_Get.f k l0 (⟨#[95,95,110,97,109,101,95,95]⟩ : ByteArray)).bind fun t128=>((label_Name.f k t128).bind fun t129=>(some (t128,t129)))
set_option maxHeartbeats 8000000 in
set_option maxRecDepth 100000 in
theorem expo_metric.calls (k : Nat) (A0 : Option Addr) (c0 : Nat) (l0 : List (S60)) (r1 : ByteArray) (r2 : Bool) (w : World) (hr0 : Kd.C k60 w A0 l0.length l0) (hc0 : l0.length ≤ c0) (h : expo_metric.f k l0 = some (r1,r2)) :
  Calls Tryz.prog 36 #[.slice A0 l0.length c0] w fun e w'=>e = .returned (.tuple #[.string r1,.bool r2]) ∧ Below w.heap.size w w':=by
 have HR0:=Aside0.mk hr0
 have HC0:=Aside0.mk hc0
 clear hr0 hc0
 have HB:=Aside0.mk (Below.refl w.heap.size w)
 have H : ((label_Get.f k l0 (⟨#[95,95,110,97,109,101,95,95]⟩ : ByteArray)).bind fun t128=>((label_Name.f k t128).bind fun t129=>(some (t128,t129)))) = some (r1,r2):=h
 clear h
 replace H:=Option.bind_eq_some_iff.mp H
 obtain ⟨t128,A20,H⟩:=H
 replace H : ((label_Name.f k t128).bind fun t129=>(some (t128,t129))) = some (r1,r2):=H
 have A2:=Aside0.mk A20
 clear A20
 replace H:=Option.bind_eq_some_iff.mp H
 obtain ⟨t129,A30,H⟩:=H
 replace H : (some (t128,t129)) = some (r1,r2):=H
 have A3:=Aside0.mk A30
 clear A30
 simp only [Option.some.injEq,Prod.mk.injEq] at H
 obtain ⟨rfl,rfl⟩:=H
 go_enter Tryz.func36,Tryz.ntmps36
 go_wp2_with (first|((with_reducible refine gate_callee (f:=62) rfl ?_);refine goesL_ (some 6) rfl rfl Tryz.func62 (by kernel_rfl) rfl #[.slice A0 l0.length c0,.string (⟨#[95,95,110,97,109,101,95,95]⟩ : ByteArray)] rfl (by (try simp only [List.map_toArray,List.map_cons,List.map_nil]);first|done|rfl|(simp only [List.length_drop,List.length_take];rfl)) ?_;(with_reducible refine (label_Get.calls k _ _ l0 (⟨#[95,95,110,97,109,101,95,95]⟩ : ByteArray) t128 _ ?side1 ?side2 A2.out).mono ?_);(case side1=>repeat (first|exact HR0.out|(with_reducible refine Kd.C_alloc ?_ _)|(with_reducible refine Kd.C_drewN ?_ _)|(with_reducible refine Kd.C_drew ?_)));(case side2=>exact HC0.out);rintro e w4 ⟨rfl,hb⟩;refine ⟨_,rfl,?_⟩;have n0_:=Aside0.mk (below_step (by repeat (first|(with_reducible first|exact HB.out|apply below_alloc|apply pw_below_drewN|apply below_drew1)|exact HB.out)) hb);clear HB;have HB:=n0_;clear n0_;(try clear hb);(try clear hb2);(try clear hk);(try clear hi))|((with_reducible refine gate_callee (f:=63) rfl ?_);refine goesL_ (some 9) rfl rfl Tryz.func63 (by kernel_rfl) rfl #[.string t128] rfl (by (try simp only [List.map_toArray,List.map_cons,List.map_nil]);first|done|rfl|(simp only [List.length_drop,List.length_take];rfl)) ?_;(with_reducible refine (label_Name.calls k t128 t129 _ A3.out).mono ?_);rintro e w' ⟨rfl,⟨nd,rfl⟩⟩;refine ⟨_,rfl,?_⟩))
 go_ret2
 exact ⟨by first|rfl|(simp [errW_none,errW_some] <;> rfl)|(simp [*,errW_none,errW_some] <;> rfl),by repeat (first|(with_reducible first|exact HB.out|apply below_alloc|apply pw_below_drewN|apply below_drew1)|exact HB.out)⟩
/-! ### fix_ovf: function 43 -/
def fix_ovf.f  : Option (Bool × Int):=some (true,0)
set_option maxHeartbeats 8000000 in
set_option maxRecDepth 100000 in
theorem fix_ovf.calls  (r1 : Bool) (r2 : Int) (w : World) (h : fix_ovf.f  = some (r1,r2)) :
  Calls Tryz.prog 43 #[] w fun e w'=>e = .returned (.agg #[.bool r1,.int .i64 r2]) ∧ Below w.heap.size w w':=by
 have hu32:=Tryz.underlying32
 have HB:=Aside0.mk (Below.refl w.heap.size w)
 have H : (some (true,0)) = some (r1,r2):=h
 clear h
 simp only [Option.some.injEq,Prod.mk.injEq] at H
 obtain ⟨rfl,rfl⟩:=H
 go_enter Tryz.func43,Tryz.ntmps43
 go_wp2_with (first|((with_reducible refine gate_dst (N:=0) rfl ?_);refine box_event ?hg (N:=0) ?hd (cs:=#[.bool false,.int .i64 0]) (t:=32) ?hr ?_;(case hd=>rfl);(case hg=>rfl);(case hr=>first|(go_simp;done)|(go_simp;rfl));intro gb130 hg w1 hbox hb;have n0_:=Aside0.mk (below_step (by repeat (first|(with_reducible first|exact HB.out|apply below_alloc|apply pw_below_drewN|apply below_drew1)|exact HB.out)) hb);have n1_:=Aside0.mk (hbox);have n2_:=Aside0.mk ((by rw [hg];exact (below_size (by repeat (first|(with_reducible first|exact HB.out|apply below_alloc|apply pw_below_drewN|apply below_drew1)|exact HB.out))) : w.heap.size ≤ gb130));have n3_:=Aside0.mk ((by rw [hg];exact (below_size (by repeat (first|(with_reducible first|exact HB.out|apply below_alloc|apply pw_below_drewN|apply below_drew1)|exact HB.out))) : w.heap.size ≤ gb130));clear HB;have HB:=n0_;have BK130:=n1_;have GW130:=n2_;have GE130:=n3_;clear n0_ n1_ n2_ n3_;clear hb hbox hg;have hcz2_0 : w1.cell? ⟨gb130,0,none⟩ = some (.bool false):=(blk_cell BK130.out 0).trans rfl;have hcz2_1 : w1.cell? ⟨gb130,1,none⟩ = some (.int .i64 0):=(blk_cell BK130.out 1).trans rfl;have hfz2_0:=blk_frozen BK130.out 0;have hfz2_1:=blk_frozen BK130.out 1))
 refine bodyPost_ret (results_cell_row rfl _ _ gb130 32 #[.bool true,.int .i64 0] (0,0) _ rfl (by (with_reducible repeat (first|refine blk_drewN ?_ _|refine blk_drew ?_|refine blk_alloc ?_ _));refine blk_put (cs:=#[.bool true,.int .i64 0]) ?_ 1 _ rfl;(with_reducible repeat (first|refine blk_drewN ?_ _|refine blk_drew ?_|refine blk_alloc ?_ _));refine blk_put (cs:=#[.bool false,.int .i64 0]) ?_ 0 _ rfl;(with_reducible repeat (first|refine blk_drewN ?_ _|refine blk_drew ?_|refine blk_alloc ?_ _));exact BK130.out) Tryz.underlying32 rfl (by kernel_rfl)) rfl ?_
 exact ⟨by first|rfl|(simp [errW_none,errW_some] <;> rfl)|(simp [*,errW_none,errW_some] <;> rfl),by repeat (first|(with_reducible first|exact HB.out|apply below_alloc|apply pw_below_drewN|apply below_drew1|refine below_set ?_ GE130.out)|exact HB.out)⟩
/-! ### fix_digits: function 65 -/
def fix_digits.l0 : Nat → ByteArray → Int → Int → Int → Int → Option (Bool)
 | 0,_,_,_,_,_=>none
 | k + 1,x0,x1,x2,x9,x10=>if x10 < x9 then (if 0 ≤ x10 then (if x10 < (x0.size : Int) then (if (bt x0 x10) < 48 then (some false) else (if (bt x0 x10) > 57 then (some false) else (fix_digits.l0 k x0 x1 x2 x9 (wrap64 (x10 + 1))))) else (none)) else (none)) else (if (x0.size : Int) ≥ x1 then (some (decide ((x0.size : Int) ≤ x2))) else (some false))
def fix_digits.f (k : Nat) (a0 : ByteArray) (a1 : Int) (a2 : Int) : Option (Bool):=fix_digits.l0 k a0 a1 a2 (a0.size : Int) 0
set_option maxHeartbeats 8000000 in
set_option maxRecDepth 100000 in
theorem fix_digits.calls (k : Nat) (a0 : ByteArray) (a1 : Int) (a2 : Int) (r : Bool) (w : World) (h : fix_digits.f k a0 a1 a2 = some r) :
  Calls Tryz.prog 65 #[.string a0,.int .i64 a1,.int .i64 a2] w fun e w'=>e = .returned (.bool r) ∧ Drawn0 w w':=by
 have H : (fix_digits.l0 k a0 a1 a2 (a0.size : Int) 0) = some r:=h
 clear h
 have H':=Aside0.mk H
 clear H
 go_enter Tryz.func65,Tryz.ntmps65
 go_wp2
 go_loopg [10] k (fun kq v10 w'=>∃ (x10_1 : Int),v10 = .int .i64 x10_1 ∧ Aside0 (fix_digits.l0 kq a0 a1 a2 (a0.size : Int) x10_1 = some r) ∧ Aside0 (kq ≤ k) ∧ Drawn0 w w')
 case atStart=>exact ⟨(0),(by first|rfl|(simp;done)|(simp [*];done)),H',⟨Nat.le_refl _⟩,by repeat (first|exact Drawn0.refl _|apply Drawn0.step)⟩
 clear H'
 try clear p2
 obtain ⟨x10_1,rfl,HA,HK1,⟨m1,rfl⟩⟩:=hrel
 cases gk with
 | zero=>exact absurd HA.out (by simp [fix_digits.l0])
 | succ k1 =>
  have H:=HA.out
  clear HA
  simp only [fix_digits.l0] at H
  by_cases c4 : x10_1 < (a0.size : Int)
  ·rw [if_pos c4] at H
   have c4b0 : decide (x10_1 < (a0.size : Int)) = true:=decide_eq_true c4
   clear c4
   by_cases c5 : 0 ≤ x10_1
   ·rw [if_pos c5] at H
    have c5b0 : decide (0 ≤ x10_1) = true:=decide_eq_true c5
    clear c5
    by_cases c6 : x10_1 < (a0.size : Int)
    ·rw [if_pos c6] at H
     have c6b0 : decide (x10_1 < (a0.size : Int)) = true:=decide_eq_true c6
     clear c6
     by_cases c8 : (bt a0 x10_1) < 48
     ·rw [if_pos c8] at H
      have c8b0 : decide ((bt a0 x10_1) < 48) = true:=decide_eq_true c8
      clear c8
      obtain rfl:=Option.some.inj H
      have p7 : 0 ≤ (x10_1 : Int):=of_decide_eq_true (by first|(with_reducible assumption)|assumption)
      have q7 : x10_1 < (a0.size : Int):=of_decide_eq_true (by first|(with_reducible assumption)|assumption)
      have hx7:=bt_at a0 x10_1
      replace p7:=eq_true p7
      replace q7:=eq_true q7
      go_wp2
      go_ret
      exact ⟨by first|rfl|(simp;done)|(simp [*];done),by repeat (first|exact Drawn0.refl _|apply Drawn0.step)⟩
     rw [if_neg c8] at H
     have c8b0 : decide ((bt a0 x10_1) < 48) = false:=decide_eq_false c8
     clear c8
     by_cases c10 : (bt a0 x10_1) > 57
     ·rw [if_pos c10] at H
      have c10b0 : decide (57 < (bt a0 x10_1)) = true:=decide_eq_true c10
      clear c10
      obtain rfl:=Option.some.inj H
      have p7 : 0 ≤ (x10_1 : Int):=of_decide_eq_true (by first|(with_reducible assumption)|assumption)
      have q7 : x10_1 < (a0.size : Int):=of_decide_eq_true (by first|(with_reducible assumption)|assumption)
      have hx7:=bt_at a0 x10_1
      replace p7:=eq_true p7
      replace q7:=eq_true q7
      have p9 : 0 ≤ (x10_1 : Int):=of_decide_eq_true (by first|(with_reducible assumption)|assumption)
      have q9 : x10_1 < (a0.size : Int):=of_decide_eq_true (by first|(with_reducible assumption)|assumption)
      have hx9:=bt_at a0 x10_1
      replace p9:=eq_true p9
      replace q9:=eq_true q9
      go_wp2
      go_ret
      exact ⟨by first|rfl|(simp;done)|(simp [*];done),by repeat (first|exact Drawn0.refl _|apply Drawn0.step)⟩
     rw [if_neg c10] at H
     have c10b0 : decide (57 < (bt a0 x10_1)) = false:=decide_eq_false c10
     clear c10
     have H':=Aside0.mk H
     clear H
     have p7 : 0 ≤ (x10_1 : Int):=of_decide_eq_true (by first|(with_reducible assumption)|assumption)
     have q7 : x10_1 < (a0.size : Int):=of_decide_eq_true (by first|(with_reducible assumption)|assumption)
     have hx7:=bt_at a0 x10_1
     replace p7:=eq_true p7
     replace q7:=eq_true q7
     have p9 : 0 ≤ (x10_1 : Int):=of_decide_eq_true (by first|(with_reducible assumption)|assumption)
     have q9 : x10_1 < (a0.size : Int):=of_decide_eq_true (by first|(with_reducible assumption)|assumption)
     have hx9:=bt_at a0 x10_1
     replace p9:=eq_true p9
     replace q9:=eq_true q9
     go_wp2
     go_roundg k1
     case measure=>have:=HK1.out;omega
     case rel=>exact ⟨(wrap64 (x10_1 + 1)),(by first|rfl|(simp;done)|(simp [*];done)),H',⟨by have:=HK1.out;omega⟩,by repeat (first|exact Drawn0.refl _|apply Drawn0.step)⟩
    rw [if_neg c6] at H
    exact absurd H (by simp)
   rw [if_neg c5] at H
   exact absurd H (by simp)
  rw [if_neg c4] at H
  have c4b0 : decide (x10_1 < (a0.size : Int)) = false:=decide_eq_false c4
  clear c4
  by_cases c11 : (a0.size : Int) ≥ a1
  ·rw [if_pos c11] at H
   have c11b0 : decide (a1 ≤ (a0.size : Int)) = true:=decide_eq_true c11
   clear c11
   obtain rfl:=Option.some.inj H
   go_wp2
   go_ret
   exact ⟨by first|rfl|(simp;done)|(simp [*];done),by repeat (first|exact Drawn0.refl _|apply Drawn0.step)⟩
  rw [if_neg c11] at H
  have c11b0 : decide (a1 ≤ (a0.size : Int)) = false:=decide_eq_false c11
  clear c11
  obtain rfl:=Option.some.inj H
  go_wp2
  go_ret
  exact ⟨by first|rfl|(simp;done)|(simp [*];done),by repeat (first|exact Drawn0.refl _|apply Drawn0.step)⟩
/-! ### bits_Div64: function 111 -/
mutual
def bits_Div64.j2 : Nat → Int → Int → Int → Int → Int → Int → Int → Int → Option (Int × Int)
 | 0,_,_,_,_,_,_,_,_=>none
 | k + 1,x2,x8,x9,x10,x11,x13,x14,x15=>if x9 = 0 then (none) else (bits_Div64.l1 k x2 x8 x9 x10 x14 x15 (IntKind.u64.wrap ((IntKind.u64.wrap ((IntKind.u64.wrap ((IntKind.u64.wrap (x11 * 4294967296)) + x13)) - (IntKind.u64.wrap (x15 * x2)))) - (IntKind.u64.wrap ((IntKind.u64.wrap (Int.tdiv (IntKind.u64.wrap ((IntKind.u64.wrap ((IntKind.u64.wrap (x11 * 4294967296)) + x13)) - (IntKind.u64.wrap (x15 * x2)))) x9)) * x9)))) (IntKind.u64.wrap ((IntKind.u64.wrap ((IntKind.u64.wrap (x11 * 4294967296)) + x13)) - (IntKind.u64.wrap (x15 * x2)))) (IntKind.u64.wrap (Int.tdiv (IntKind.u64.wrap ((IntKind.u64.wrap ((IntKind.u64.wrap (x11 * 4294967296)) + x13)) - (IntKind.u64.wrap (x15 * x2)))) x9)))
def bits_Div64.l1 : Nat → Int → Int → Int → Int → Int → Int → Int → Int → Int → Option (Int × Int)
 | 0,_,_,_,_,_,_,_,_,_=>none
 | k + 1,x2,x8,x9,x10,x14,x15,x16,x17,x18=>if x18 ≥ 4294967296 then (bits_Div64.j4 k x2 x8 x9 x10 x14 x15 x16 x17 x18 true) else (bits_Div64.j4 k x2 x8 x9 x10 x14 x15 x16 x17 x18 (decide ((IntKind.u64.wrap (x18 * x10)) > (IntKind.u64.wrap ((IntKind.u64.wrap (4294967296 * x16)) + x14)))))
def bits_Div64.j4 : Nat → Int → Int → Int → Int → Int → Int → Int → Int → Int → Bool → Option (Int × Int)
 | 0,_,_,_,_,_,_,_,_,_,_=>none
 | k + 1,x2,x8,x9,x10,x14,x15,x16,x17,x18,x113=>if x113 = true then (if (IntKind.u64.wrap (x16 + x9)) ≥ 4294967296 then (if 0 ≤ x8 then (some (IntKind.u64.wrap ((IntKind.u64.wrap (x15 * 4294967296)) + (IntKind.u64.wrap (x18 - 1))),shr .u64 (IntKind.u64.wrap ((IntKind.u64.wrap ((IntKind.u64.wrap (x17 * 4294967296)) + x14)) - (IntKind.u64.wrap ((IntKind.u64.wrap (x18 - 1)) * x2)))) x8)) else (none)) else (bits_Div64.l1 k x2 x8 x9 x10 x14 x15 (IntKind.u64.wrap (x16 + x9)) x17 (IntKind.u64.wrap (x18 - 1)))) else (if 0 ≤ x8 then (some (IntKind.u64.wrap ((IntKind.u64.wrap (x15 * 4294967296)) + x18),shr .u64 (IntKind.u64.wrap ((IntKind.u64.wrap ((IntKind.u64.wrap (x17 * 4294967296)) + x14)) - (IntKind.u64.wrap (x18 * x2)))) x8)) else (none))
def bits_Div64.l0 : Nat → Int → Int → Int → Int → Int → Int → Int → Int → Int → Option (Int × Int)
 | 0,_,_,_,_,_,_,_,_,_=>none
 | k + 1,x2,x8,x9,x10,x11,x13,x14,x15,x16=>if x15 ≥ 4294967296 then (bits_Div64.j1 k x2 x8 x9 x10 x11 x13 x14 x15 x16 true) else (bits_Div64.j1 k x2 x8 x9 x10 x11 x13 x14 x15 x16 (decide ((IntKind.u64.wrap (x15 * x10)) > (IntKind.u64.wrap ((IntKind.u64.wrap (4294967296 * x16)) + x13)))))
def bits_Div64.j1 : Nat → Int → Int → Int → Int → Int → Int → Int → Int → Int → Bool → Option (Int × Int)
 | 0,_,_,_,_,_,_,_,_,_,_=>none
 | k + 1,x2,x8,x9,x10,x11,x13,x14,x15,x16,x78=>if x78 = true then (if (IntKind.u64.wrap (x16 + x9)) ≥ 4294967296 then (bits_Div64.j2 k x2 x8 x9 x10 x11 x13 x14 (IntKind.u64.wrap (x15 - 1))) else (bits_Div64.l0 k x2 x8 x9 x10 x11 x13 x14 (IntKind.u64.wrap (x15 - 1)) (IntKind.u64.wrap (x16 + x9)))) else (bits_Div64.j2 k x2 x8 x9 x10 x11 x13 x14 x15)
end
def bits_Div64.f (k : Nat) (a0 : Int) (a1 : Int) (a2 : Int) : Option (Int × Int):=if a2 = 0 then (none) else (if a2 ≤ a0 then (none) else (if a0 = 0 then (some (IntKind.u64.wrap (Int.tdiv a1 a2),Int.tmod a1 a2)) else ((bits_LeadingZeros64.f a2).bind fun t131=>(if 0 ≤ (IntKind.u64.wrap (t131)) then (if 0 ≤ (IntKind.u64.wrap (64 - (IntKind.u64.wrap (t131)))) then (if ((shl .u64 a2 (IntKind.u64.wrap (t131))) / 4294967296) = 0 then (none) else (bits_Div64.l0 k (shl .u64 a2 (IntKind.u64.wrap (t131))) (IntKind.u64.wrap (t131)) ((shl .u64 a2 (IntKind.u64.wrap (t131))) / 4294967296) (Go.bits .and .u64 (shl .u64 a2 (IntKind.u64.wrap (t131))) 4294967295) (Go.bits .or .u64 (shl .u64 a0 (IntKind.u64.wrap (t131))) (shr .u64 a1 (IntKind.u64.wrap (64 - (IntKind.u64.wrap (t131)))))) ((shl .u64 a1 (IntKind.u64.wrap (t131))) / 4294967296) (Go.bits .and .u64 (shl .u64 a1 (IntKind.u64.wrap (t131))) 4294967295) (IntKind.u64.wrap (Int.tdiv (Go.bits .or .u64 (shl .u64 a0 (IntKind.u64.wrap (t131))) (shr .u64 a1 (IntKind.u64.wrap (64 - (IntKind.u64.wrap (t131)))))) ((shl .u64 a2 (IntKind.u64.wrap (t131))) / 4294967296))) (IntKind.u64.wrap ((Go.bits .or .u64 (shl .u64 a0 (IntKind.u64.wrap (t131))) (shr .u64 a1 (IntKind.u64.wrap (64 - (IntKind.u64.wrap (t131)))))) - (IntKind.u64.wrap ((IntKind.u64.wrap (Int.tdiv (Go.bits .or .u64 (shl .u64 a0 (IntKind.u64.wrap (t131))) (shr .u64 a1 (IntKind.u64.wrap (64 - (IntKind.u64.wrap (t131)))))) ((shl .u64 a2 (IntKind.u64.wrap (t131))) / 4294967296))) * ((shl .u64 a2 (IntKind.u64.wrap (t131))) / 4294967296))))))) else (none)) else (none)))))
set_option maxHeartbeats 8000000 in
set_option maxRecDepth 100000 in
theorem bits_Div64.calls (k : Nat) (a0 : Int) (a1 : Int) (a2 : Int) (r1 : Int) (r2 : Int) (w : World) (h : bits_Div64.f k a0 a1 a2 = some (r1,r2)) :
  Calls Tryz.prog 111 #[.int .u64 a0,.int .u64 a1,.int .u64 a2] w fun e w'=>e = .returned (.tuple #[.int .u64 r1,.int .u64 r2]) ∧ Drawn0 w w':=by
 have H : (if a2 = 0 then (none) else (if a2 ≤ a0 then (none) else (if a0 = 0 then (some (IntKind.u64.wrap (Int.tdiv a1 a2),Int.tmod a1 a2)) else ((bits_LeadingZeros64.f a2).bind fun t131=>(if 0 ≤ (IntKind.u64.wrap (t131)) then (if 0 ≤ (IntKind.u64.wrap (64 - (IntKind.u64.wrap (t131)))) then (if ((shl .u64 a2 (IntKind.u64.wrap (t131))) / 4294967296) = 0 then (none) else (bits_Div64.l0 k (shl .u64 a2 (IntKind.u64.wrap (t131))) (IntKind.u64.wrap (t131)) ((shl .u64 a2 (IntKind.u64.wrap (t131))) / 4294967296) (Go.bits .and .u64 (shl .u64 a2 (IntKind.u64.wrap (t131))) 4294967295) (Go.bits .or .u64 (shl .u64 a0 (IntKind.u64.wrap (t131))) (shr .u64 a1 (IntKind.u64.wrap (64 - (IntKind.u64.wrap (t131)))))) ((shl .u64 a1 (IntKind.u64.wrap (t131))) / 4294967296) (Go.bits .and .u64 (shl .u64 a1 (IntKind.u64.wrap (t131))) 4294967295) (IntKind.u64.wrap (Int.tdiv (Go.bits .or .u64 (shl .u64 a0 (IntKind.u64.wrap (t131))) (shr .u64 a1 (IntKind.u64.wrap (64 - (IntKind.u64.wrap (t131)))))) ((shl .u64 a2 (IntKind.u64.wrap (t131))) / 4294967296))) (IntKind.u64.wrap ((Go.bits .or .u64 (shl .u64 a0 (IntKind.u64.wrap (t131))) (shr .u64 a1 (IntKind.u64.wrap (64 - (IntKind.u64.wrap (t131)))))) - (IntKind.u64.wrap ((IntKind.u64.wrap (Int.tdiv (Go.bits .or .u64 (shl .u64 a0 (IntKind.u64.wrap (t131))) (shr .u64 a1 (IntKind.u64.wrap (64 - (IntKind.u64.wrap (t131)))))) ((shl .u64 a2 (IntKind.u64.wrap (t131))) / 4294967296))) * ((shl .u64 a2 (IntKind.u64.wrap (t131))) / 4294967296))))))) else (none)) else (none)))))) = some (r1,r2):=h
 clear h
 by_cases c4 : a2 = 0
 ·rw [if_pos c4] at H
  exact absurd H (by simp)
 rw [if_neg c4] at H
 have c4b0 : (a2 == 0) = false:=beq_eq_false_iff_ne.mpr c4
 have c4b1 : (a2 != 0) = true:=bne_iff_ne.mpr c4
 by_cases c5 : a2 ≤ a0
 ·rw [if_pos c5] at H
  exact absurd H (by simp)
 rw [if_neg c5] at H
 have c5b0 : decide (a2 ≤ a0) = false:=decide_eq_false c5
 clear c5
 by_cases c6 : a0 = 0
 ·rw [if_pos c6] at H
  have c6b0 : (a0 == 0) = true:=beq_iff_eq.mpr c6
  have c6b1 : (a0 != 0) = false:=bne_eq_false_iff_eq.mpr c6
  clear c6
  simp only [Option.some.injEq,Prod.mk.injEq] at H
  obtain ⟨rfl,rfl⟩:=H
  go_enter Tryz.func111,Tryz.ntmps111
  go_wp2
  repeat (go_quiet (fail);try go_wp2)
  go_ret2
  exact ⟨by first|rfl|(simp;done)|(simp [*];done),by repeat (first|exact Drawn0.refl _|apply Drawn0.step)⟩
 rw [if_neg c6] at H
 have c6b0 : (a0 == 0) = false:=beq_eq_false_iff_ne.mpr c6
 have c6b1 : (a0 != 0) = true:=bne_iff_ne.mpr c6
 replace H:=Option.bind_eq_some_iff.mp H
 obtain ⟨t131,A70,H⟩:=H
 replace H : (if 0 ≤ (IntKind.u64.wrap (t131)) then (if 0 ≤ (IntKind.u64.wrap (64 - (IntKind.u64.wrap (t131)))) then (if ((shl .u64 a2 (IntKind.u64.wrap (t131))) / 4294967296) = 0 then (none) else (bits_Div64.l0 k (shl .u64 a2 (IntKind.u64.wrap (t131))) (IntKind.u64.wrap (t131)) ((shl .u64 a2 (IntKind.u64.wrap (t131))) / 4294967296) (Go.bits .and .u64 (shl .u64 a2 (IntKind.u64.wrap (t131))) 4294967295) (Go.bits .or .u64 (shl .u64 a0 (IntKind.u64.wrap (t131))) (shr .u64 a1 (IntKind.u64.wrap (64 - (IntKind.u64.wrap (t131)))))) ((shl .u64 a1 (IntKind.u64.wrap (t131))) / 4294967296) (Go.bits .and .u64 (shl .u64 a1 (IntKind.u64.wrap (t131))) 4294967295) (IntKind.u64.wrap (Int.tdiv (Go.bits .or .u64 (shl .u64 a0 (IntKind.u64.wrap (t131))) (shr .u64 a1 (IntKind.u64.wrap (64 - (IntKind.u64.wrap (t131)))))) ((shl .u64 a2 (IntKind.u64.wrap (t131))) / 4294967296))) (IntKind.u64.wrap ((Go.bits .or .u64 (shl .u64 a0 (IntKind.u64.wrap (t131))) (shr .u64 a1 (IntKind.u64.wrap (64 - (IntKind.u64.wrap (t131)))))) - (IntKind.u64.wrap ((IntKind.u64.wrap (Int.tdiv (Go.bits .or .u64 (shl .u64 a0 (IntKind.u64.wrap (t131))) (shr .u64 a1 (IntKind.u64.wrap (64 - (IntKind.u64.wrap (t131)))))) ((shl .u64 a2 (IntKind.u64.wrap (t131))) / 4294967296))) * ((shl .u64 a2 (IntKind.u64.wrap (t131))) / 4294967296))))))) else (none)) else (none)) = some (r1,r2):=H
 have A7:=Aside0.mk A70
 clear A70
 obtain ⟨ji8,hji8⟩ : ∃ j_ : Int,(IntKind.u64.wrap (t131)) = j_:=⟨_,rfl⟩
 replace H : (if 0 ≤ (ji8) then (if 0 ≤ (IntKind.u64.wrap (64 - (ji8))) then (if ((shl .u64 a2 (ji8)) / 4294967296) = 0 then (none) else (bits_Div64.l0 k (shl .u64 a2 (ji8)) ji8 ((shl .u64 a2 (ji8)) / 4294967296) (Go.bits .and .u64 (shl .u64 a2 (ji8)) 4294967295) (Go.bits .or .u64 (shl .u64 a0 (ji8)) (shr .u64 a1 (IntKind.u64.wrap (64 - (ji8))))) ((shl .u64 a1 (ji8)) / 4294967296) (Go.bits .and .u64 (shl .u64 a1 (ji8)) 4294967295) (IntKind.u64.wrap (Int.tdiv (Go.bits .or .u64 (shl .u64 a0 (ji8)) (shr .u64 a1 (IntKind.u64.wrap (64 - (ji8))))) ((shl .u64 a2 (ji8)) / 4294967296))) (IntKind.u64.wrap ((Go.bits .or .u64 (shl .u64 a0 (ji8)) (shr .u64 a1 (IntKind.u64.wrap (64 - (ji8))))) - (IntKind.u64.wrap ((IntKind.u64.wrap (Int.tdiv (Go.bits .or .u64 (shl .u64 a0 (ji8)) (shr .u64 a1 (IntKind.u64.wrap (64 - (ji8))))) ((shl .u64 a2 (ji8)) / 4294967296))) * ((shl .u64 a2 (ji8)) / 4294967296))))))) else (none)) else (none)) = some (r1,r2):=by first|(rw [hji8] at H;exact H)|(simp only [hji8] at H ⊢;exact H)
 (try rw [hji8] at A7)
 by_cases c9 : 0 ≤ (ji8)
 ·rw [if_pos c9] at H
  have c9b0:=eq_true c9
  have c9b1 : decide (0 ≤ (ji8)) = true:=decide_eq_true c9
  clear c9
  obtain ⟨ji10,hji10⟩ : ∃ j_ : Int,(shl .u64 a2 (ji8)) = j_:=⟨_,rfl⟩
  replace H : (if 0 ≤ (IntKind.u64.wrap (64 - (ji8))) then (if ((ji10) / 4294967296) = 0 then (none) else (bits_Div64.l0 k ji10 ji8 ((ji10) / 4294967296) (Go.bits .and .u64 (ji10) 4294967295) (Go.bits .or .u64 (shl .u64 a0 (ji8)) (shr .u64 a1 (IntKind.u64.wrap (64 - (ji8))))) ((shl .u64 a1 (ji8)) / 4294967296) (Go.bits .and .u64 (shl .u64 a1 (ji8)) 4294967295) (IntKind.u64.wrap (Int.tdiv (Go.bits .or .u64 (shl .u64 a0 (ji8)) (shr .u64 a1 (IntKind.u64.wrap (64 - (ji8))))) ((ji10) / 4294967296))) (IntKind.u64.wrap ((Go.bits .or .u64 (shl .u64 a0 (ji8)) (shr .u64 a1 (IntKind.u64.wrap (64 - (ji8))))) - (IntKind.u64.wrap ((IntKind.u64.wrap (Int.tdiv (Go.bits .or .u64 (shl .u64 a0 (ji8)) (shr .u64 a1 (IntKind.u64.wrap (64 - (ji8))))) ((ji10) / 4294967296))) * ((ji10) / 4294967296))))))) else (none)) = some (r1,r2):=by first|(rw [hji10] at H;exact H)|(simp only [hji10] at H ⊢;exact H)
  (try rw [hji10] at A7)
  have hji10_ : (IntKind.u64.wrap (a2 * 2 ^ min (ji8).toNat 64)) = ji10:=hji10
  have hji10z : (ji8) ≤ 64 → (IntKind.u64.wrap (a2 * 2 ^ (ji8).toNat)) = ji10:=shl_small hji10
  have c11b0:=eq_true (of_decide_eq_true (by first|(with_reducible assumption)|assumption) : 0 ≤ (ji8))
  obtain ⟨ji12,hji12⟩ : ∃ j_ : Int,(shl .u64 a0 (ji8)) = j_:=⟨_,rfl⟩
  replace H : (if 0 ≤ (IntKind.u64.wrap (64 - (ji8))) then (if ((ji10) / 4294967296) = 0 then (none) else (bits_Div64.l0 k ji10 ji8 ((ji10) / 4294967296) (Go.bits .and .u64 (ji10) 4294967295) (Go.bits .or .u64 (ji12) (shr .u64 a1 (IntKind.u64.wrap (64 - (ji8))))) ((shl .u64 a1 (ji8)) / 4294967296) (Go.bits .and .u64 (shl .u64 a1 (ji8)) 4294967295) (IntKind.u64.wrap (Int.tdiv (Go.bits .or .u64 (ji12) (shr .u64 a1 (IntKind.u64.wrap (64 - (ji8))))) ((ji10) / 4294967296))) (IntKind.u64.wrap ((Go.bits .or .u64 (ji12) (shr .u64 a1 (IntKind.u64.wrap (64 - (ji8))))) - (IntKind.u64.wrap ((IntKind.u64.wrap (Int.tdiv (Go.bits .or .u64 (ji12) (shr .u64 a1 (IntKind.u64.wrap (64 - (ji8))))) ((ji10) / 4294967296))) * ((ji10) / 4294967296))))))) else (none)) = some (r1,r2):=by first|(rw [hji12] at H;exact H)|(simp only [hji12] at H ⊢;exact H)
  (try rw [hji12] at A7)
  have hji12_ : (IntKind.u64.wrap (a0 * 2 ^ min (ji8).toNat 64)) = ji12:=hji12
  have hji12z : (ji8) ≤ 64 → (IntKind.u64.wrap (a0 * 2 ^ (ji8).toNat)) = ji12:=shl_small hji12
  obtain ⟨ji13,hji13⟩ : ∃ j_ : Int,(IntKind.u64.wrap (64 - (ji8))) = j_:=⟨_,rfl⟩
  replace H : (if 0 ≤ (ji13) then (if ((ji10) / 4294967296) = 0 then (none) else (bits_Div64.l0 k ji10 ji8 ((ji10) / 4294967296) (Go.bits .and .u64 (ji10) 4294967295) (Go.bits .or .u64 (ji12) (shr .u64 a1 (ji13))) ((shl .u64 a1 (ji8)) / 4294967296) (Go.bits .and .u64 (shl .u64 a1 (ji8)) 4294967295) (IntKind.u64.wrap (Int.tdiv (Go.bits .or .u64 (ji12) (shr .u64 a1 (ji13))) ((ji10) / 4294967296))) (IntKind.u64.wrap ((Go.bits .or .u64 (ji12) (shr .u64 a1 (ji13))) - (IntKind.u64.wrap ((IntKind.u64.wrap (Int.tdiv (Go.bits .or .u64 (ji12) (shr .u64 a1 (ji13))) ((ji10) / 4294967296))) * ((ji10) / 4294967296))))))) else (none)) = some (r1,r2):=by first|(rw [hji13] at H;exact H)|(simp only [hji13] at H ⊢;exact H)
  (try rw [hji13] at A7)
  by_cases c14 : 0 ≤ (ji13)
  ·rw [if_pos c14] at H
   have c14b0:=eq_true c14
   have c14b1 : decide (0 ≤ (ji13)) = true:=decide_eq_true c14
   clear c14
   obtain ⟨ji15,hji15⟩ : ∃ j_ : Int,(shr .u64 a1 (ji13)) = j_:=⟨_,rfl⟩
   replace H : (if ((ji10) / 4294967296) = 0 then (none) else (bits_Div64.l0 k ji10 ji8 ((ji10) / 4294967296) (Go.bits .and .u64 (ji10) 4294967295) (Go.bits .or .u64 (ji12) (ji15)) ((shl .u64 a1 (ji8)) / 4294967296) (Go.bits .and .u64 (shl .u64 a1 (ji8)) 4294967295) (IntKind.u64.wrap (Int.tdiv (Go.bits .or .u64 (ji12) (ji15)) ((ji10) / 4294967296))) (IntKind.u64.wrap ((Go.bits .or .u64 (ji12) (ji15)) - (IntKind.u64.wrap ((IntKind.u64.wrap (Int.tdiv (Go.bits .or .u64 (ji12) (ji15)) ((ji10) / 4294967296))) * ((ji10) / 4294967296))))))) = some (r1,r2):=by first|(rw [hji15] at H;exact H)|(simp only [hji15] at H ⊢;exact H)
   (try rw [hji15] at A7)
   have hji15_ : (a1 / 2 ^ min (ji13).toNat 64) = ji15:=hji15
   have hji15z : (ji13) ≤ 64 → (a1 / 2 ^ (ji13).toNat) = ji15:=shr_small hji15
   have c16b0:=eq_true (of_decide_eq_true (by first|(with_reducible assumption)|assumption) : 0 ≤ (ji8))
   obtain ⟨ji17,hji17⟩ : ∃ j_ : Int,(shl .u64 a1 (ji8)) = j_:=⟨_,rfl⟩
   replace H : (if ((ji10) / 4294967296) = 0 then (none) else (bits_Div64.l0 k ji10 ji8 ((ji10) / 4294967296) (Go.bits .and .u64 (ji10) 4294967295) (Go.bits .or .u64 (ji12) (ji15)) ((ji17) / 4294967296) (Go.bits .and .u64 (ji17) 4294967295) (IntKind.u64.wrap (Int.tdiv (Go.bits .or .u64 (ji12) (ji15)) ((ji10) / 4294967296))) (IntKind.u64.wrap ((Go.bits .or .u64 (ji12) (ji15)) - (IntKind.u64.wrap ((IntKind.u64.wrap (Int.tdiv (Go.bits .or .u64 (ji12) (ji15)) ((ji10) / 4294967296))) * ((ji10) / 4294967296))))))) = some (r1,r2):=by first|(rw [hji17] at H;exact H)|(simp only [hji17] at H ⊢;exact H)
   (try rw [hji17] at A7)
   have hji17_ : (IntKind.u64.wrap (a1 * 2 ^ min (ji8).toNat 64)) = ji17:=hji17
   have hji17z : (ji8) ≤ 64 → (IntKind.u64.wrap (a1 * 2 ^ (ji8).toNat)) = ji17:=shl_small hji17
   by_cases c18 : ((ji10) / 4294967296) = 0
   ·rw [if_pos c18] at H
    exact absurd H (by simp)
   rw [if_neg c18] at H
   have c18b0 : (((ji10) / 4294967296) == 0) = false:=beq_eq_false_iff_ne.mpr c18
   have c18b1 : (((ji10) / 4294967296) != 0) = true:=bne_iff_ne.mpr c18
   have HC19:=Aside0.mk H
   clear H
   go_enter Tryz.func111,Tryz.ntmps111
   go_upto_block 0 with (first|(go_at_call 143;(with_reducible refine (bits_LeadingZeros64.calls a2 t131 _ A7.out).mono ?_);rintro e w' ⟨rfl,⟨nd,rfl⟩⟩;(try first|exact ⟨rfl,_,World.drewN_drewN _ _ _⟩|exact ⟨rfl,_,Eq.trans (World.drewN_drewN _ _ _) (congrArg (World.drewN _) (Nat.add_assoc _ _ _))⟩)))
   repeat (go_quiet (first|(go_at_call 143;(with_reducible refine (bits_LeadingZeros64.calls a2 t131 _ A7.out).mono ?_);rintro e w' ⟨rfl,⟨nd,rfl⟩⟩;(try first|exact ⟨rfl,_,World.drewN_drewN _ _ _⟩|exact ⟨rfl,_,Eq.trans (World.drewN_drewN _ _ _) (congrArg (World.drewN _) (Nat.add_assoc _ _ _))⟩)));go_upto_block 0 with (first|(go_at_call 143;(with_reducible refine (bits_LeadingZeros64.calls a2 t131 _ A7.out).mono ?_);rintro e w' ⟨rfl,⟨nd,rfl⟩⟩;(try first|exact ⟨rfl,_,World.drewN_drewN _ _ _⟩|exact ⟨rfl,_,Eq.trans (World.drewN_drewN _ _ _) (congrArg (World.drewN _) (Nat.add_assoc _ _ _))⟩))))
   (try simp only [Act.put,List.setIfInBounds_toArray,List.set_cons_zero,List.set_cons_succ])
   go_cut [15] (fun v15 wc=>∃ (kq : Nat) (x15_18 : Int),v15 = .int .u64 x15_18 ∧ Aside0 (bits_Div64.j2 kq ji10 ji8 ((ji10) / 4294967296) (Go.bits .and .u64 (ji10) 4294967295) (Go.bits .or .u64 (ji12) (ji15)) ((ji17) / 4294967296) (Go.bits .and .u64 (ji17) 4294967295) x15_18 = some (r1,r2)) ∧ Aside0 (kq ≤ k) ∧ Drawn0 w wc)
   case first =>
    have H:=HC19.out
    clear HC19
    have H':=Aside0.mk H
    clear H
    go_wp2
    repeat (go_quiet (fail);try go_wp2)
    go_loopg [15,16] k (fun kq v15 v16 w'=>∃ (x15_1 : Int) (x16_1 : Int),v15 = .int .u64 x15_1 ∧ v16 = .int .u64 x16_1 ∧ Aside0 (bits_Div64.l0 kq ji10 ji8 ((ji10) / 4294967296) (Go.bits .and .u64 (ji10) 4294967295) (Go.bits .or .u64 (ji12) (ji15)) ((ji17) / 4294967296) (Go.bits .and .u64 (ji17) 4294967295) x15_1 x16_1 = some (r1,r2)) ∧ Aside0 (kq ≤ k) ∧ Drawn0 w w')
    case atStart=>exact ⟨(IntKind.u64.wrap (Int.tdiv (Go.bits .or .u64 (ji12) (ji15)) ((ji10) / 4294967296))),(IntKind.u64.wrap ((Go.bits .or .u64 (ji12) (ji15)) - (IntKind.u64.wrap ((IntKind.u64.wrap (Int.tdiv (Go.bits .or .u64 (ji12) (ji15)) ((ji10) / 4294967296))) * ((ji10) / 4294967296))))),(by first|rfl|(simp;done)|(simp only [← hji10,← hji12,← hji15] <;> (first|rfl|simp))|(simp [*];done)),(by first|rfl|(simp;done)|(simp only [← hji10,← hji12,← hji15] <;> (first|rfl|simp))|(simp [*];done)),H',⟨Nat.le_refl _⟩,by repeat (first|exact Drawn0.refl _|apply Drawn0.step)⟩
    clear H'
    try clear c1
    try clear p2
    try clear c4
    try clear c4b0
    try clear c4b1
    try clear c5
    try clear c5b0
    try clear c6
    try clear c6b0
    try clear c6b1
    try clear c9
    try clear c9b0
    try clear c9b1
    try clear c11
    try clear c11b0
    try clear c14
    try clear c14b0
    try clear c14b1
    try clear c16
    try clear c16b0
    try clear c18
    try clear c18b0
    try clear c18b1
    obtain ⟨x15_1,x16_1,rfl,rfl,HA,HK1,⟨m1,rfl⟩⟩:=hrel
    cases gk with
    | zero=>exact absurd HA.out (by simp [bits_Div64.l0])
    | succ k1 =>
     have H:=HA.out
     clear HA
     simp only [bits_Div64.l0] at H
     have HC20:=Aside0.mk H
     clear H
     go_upto_region 17 with (fail)
     repeat (go_quiet (fail);go_upto_region 17 with (fail))
     go_cut [78] (fun v78 wc=>∃ (kq : Nat) (x78_19 : Bool),v78 = .bool x78_19 ∧ Aside0 (bits_Div64.j1 kq ji10 ji8 ((ji10) / 4294967296) (Go.bits .and .u64 (ji10) 4294967295) (Go.bits .or .u64 (ji12) (ji15)) ((ji17) / 4294967296) (Go.bits .and .u64 (ji17) 4294967295) x15_1 x16_1 x78_19 = some (r1,r2)) ∧ Aside0 (kq ≤ k1) ∧ Drawn0 w wc)
     case first =>
      have H:=HC20.out
      clear HC20
      by_cases c21 : x15_1 ≥ 4294967296
      ·rw [if_pos c21] at H
       have c21b0 : decide (4294967296 ≤ x15_1) = true:=decide_eq_true c21
       clear c21
       (first|rw [c21b0]|(simp only [i64_w,i32_w];rw [c21b0])|skip)
       have H':=Aside0.mk H
       clear H
       go_wp2
       repeat (go_quiet (fail);try go_wp2)
       go_meet
       case rel=>exact ⟨_,(true),(by first|rfl|(simp;done)|(simp [*];done)),H',⟨by have:=HK1.out;first|omega|exact Nat.le_refl _⟩,by repeat (first|exact Drawn0.refl _|apply Drawn0.step)⟩
      rw [if_neg c21] at H
      have c21b0 : decide (4294967296 ≤ x15_1) = false:=decide_eq_false c21
      clear c21
      (first|rw [c21b0]|(simp only [i64_w,i32_w];rw [c21b0])|skip)
      have H':=Aside0.mk H
      clear H
      go_wp2
      repeat (go_quiet (fail);try go_wp2)
      go_meet
      case rel=>exact ⟨_,(decide ((IntKind.u64.wrap (x15_1 * (Go.bits .and .u64 (ji10) 4294967295))) > (IntKind.u64.wrap ((IntKind.u64.wrap (4294967296 * x16_1)) + ((ji17) / 4294967296))))),(by first|rfl|(simp;done)|(simp only [← hji10,← hji17] <;> (first|rfl|simp))|(simp [*];done)),H',⟨by have:=HK1.out;first|omega|exact Nat.le_refl _⟩,by repeat (first|exact Drawn0.refl _|apply Drawn0.step)⟩
     clear HC20
     try clear c1
     try clear c2
     try clear p2
     try clear c4
     try clear c4b0
     try clear c4b1
     try clear c5
     try clear c5b0
     try clear c6
     try clear c6b0
     try clear c6b1
     try clear c9
     try clear c9b0
     try clear c9b1
     try clear c11
     try clear c11b0
     try clear c14
     try clear c14b0
     try clear c14b1
     try clear c16
     try clear c16b0
     try clear c18
     try clear c18b0
     try clear c18b1
     try clear c21
     try clear c21b0
     try clear p2
     obtain ⟨kq,x78_19,rfl,HA,HJ19,⟨mc19,rfl⟩⟩:=hcut
     cases kq with
     | zero=>exact absurd HA.out (by simp [bits_Div64.j1])
     | succ kj19 =>
      have H:=HA.out
      clear HA
      simp only [bits_Div64.j1] at H
      by_cases c22 : x78_19 = true
      ·subst c22
       have H1 : (if (IntKind.u64.wrap (x16_1 + ((ji10) / 4294967296))) ≥ 4294967296 then (bits_Div64.j2 kj19 ji10 ji8 ((ji10) / 4294967296) (Go.bits .and .u64 (ji10) 4294967295) (Go.bits .or .u64 (ji12) (ji15)) ((ji17) / 4294967296) (Go.bits .and .u64 (ji17) 4294967295) (IntKind.u64.wrap (x15_1 - 1))) else (bits_Div64.l0 kj19 ji10 ji8 ((ji10) / 4294967296) (Go.bits .and .u64 (ji10) 4294967295) (Go.bits .or .u64 (ji12) (ji15)) ((ji17) / 4294967296) (Go.bits .and .u64 (ji17) 4294967295) (IntKind.u64.wrap (x15_1 - 1)) (IntKind.u64.wrap (x16_1 + ((ji10) / 4294967296))))) = some (r1,r2):=by rw [if_pos rfl] at H;exact H
       clear H
       have H:=H1
       clear H1
       by_cases c23 : (IntKind.u64.wrap (x16_1 + ((ji10) / 4294967296))) ≥ 4294967296
       ·rw [if_pos c23] at H
        have c23b0 : decide (4294967296 ≤ (IntKind.u64.wrap (x16_1 + ((ji10) / 4294967296)))) = true:=decide_eq_true c23
        clear c23
        have H':=Aside0.mk H
        clear H
        go_wp2
        repeat (go_quiet (fail);try go_wp2)
        go_meet
        case rel=>exact ⟨_,(IntKind.u64.wrap (x15_1 - 1)),(by first|rfl|(simp;done)|(simp [*];done)),H',⟨by have:=HK1.out;have:=HJ19.out;first|omega|exact Nat.le_refl _⟩,by repeat (first|exact Drawn0.refl _|apply Drawn0.step)⟩
       rw [if_neg c23] at H
       have c23b0 : decide (4294967296 ≤ (IntKind.u64.wrap (x16_1 + ((ji10) / 4294967296)))) = false:=decide_eq_false c23
       clear c23
       have H':=Aside0.mk H
       clear H
       go_wp2
       repeat (go_quiet (fail);try go_wp2)
       go_roundg kj19
       case measure=>have:=HK1.out;have:=HJ19.out;omega
       case rel=>exact ⟨(IntKind.u64.wrap (x15_1 - 1)),(IntKind.u64.wrap (x16_1 + ((ji10) / 4294967296))),(by first|rfl|(simp;done)|(simp [*];done)),(by first|rfl|(simp;done)|(simp only [← hji10] <;> (first|rfl|simp))|(simp [*];done)),H',⟨by have:=HK1.out;have:=HJ19.out;omega⟩,by repeat (first|exact Drawn0.refl _|apply Drawn0.step)⟩
      replace c22:=Bool.eq_false_iff.mpr c22
      subst c22
      have H1 : (bits_Div64.j2 kj19 ji10 ji8 ((ji10) / 4294967296) (Go.bits .and .u64 (ji10) 4294967295) (Go.bits .or .u64 (ji12) (ji15)) ((ji17) / 4294967296) (Go.bits .and .u64 (ji17) 4294967295) x15_1) = some (r1,r2):=by rw [if_neg (show ¬ (false = true) by decide)] at H;exact H
      clear H
      have H:=H1
      clear H1
      have H':=Aside0.mk H
      clear H
      go_wp2
      repeat (go_quiet (fail);try go_wp2)
      go_meet
      case rel=>exact ⟨_,(x15_1),(by first|rfl|(simp;done)|(simp [*];done)),H',⟨by have:=HK1.out;have:=HJ19.out;first|omega|exact Nat.le_refl _⟩,by repeat (first|exact Drawn0.refl _|apply Drawn0.step)⟩
   clear HC19
   try clear c1
   try clear c2
   try clear p2
   try clear c4
   try clear c4b0
   try clear c4b1
   try clear c5
   try clear c5b0
   try clear c6
   try clear c6b0
   try clear c6b1
   try clear c9
   try clear c9b0
   try clear c9b1
   try clear c11
   try clear c11b0
   try clear c14
   try clear c14b0
   try clear c14b1
   try clear c16
   try clear c16b0
   try clear c18
   try clear c18b0
   try clear c18b1
   try clear c19
   try clear c21
   try clear c21b0
   try clear c22
   try clear c23
   try clear c23b0
   try clear p2
   obtain ⟨kq,x15_18,rfl,HA,HJ18,⟨mc18,rfl⟩⟩:=hcut
   cases kq with
   | zero=>exact absurd HA.out (by simp [bits_Div64.j2])
   | succ kj18 =>
    have H:=HA.out
    clear HA
    simp only [bits_Div64.j2] at H
    by_cases c24 : ((ji10) / 4294967296) = 0
    ·rw [if_pos c24] at H
     exact absurd H (by simp)
    rw [if_neg c24] at H
    have c24b0 : (((ji10) / 4294967296) == 0) = false:=beq_eq_false_iff_ne.mpr c24
    have c24b1 : (((ji10) / 4294967296) != 0) = true:=bne_iff_ne.mpr c24
    have H':=Aside0.mk H
    clear H
    go_wp2
    repeat (go_quiet (fail);try go_wp2)
    go_loopg [16,18] kj18 (fun kq v16 v18 w'=>∃ (x16_2 : Int) (x18_2 : Int),v16 = .int .u64 x16_2 ∧ v18 = .int .u64 x18_2 ∧ Aside0 (bits_Div64.l1 kq ji10 ji8 ((ji10) / 4294967296) (Go.bits .and .u64 (ji10) 4294967295) (Go.bits .and .u64 (ji17) 4294967295) x15_18 x16_2 (IntKind.u64.wrap ((IntKind.u64.wrap ((IntKind.u64.wrap ((Go.bits .or .u64 (ji12) (ji15)) * 4294967296)) + ((ji17) / 4294967296))) - (IntKind.u64.wrap (x15_18 * ji10)))) x18_2 = some (r1,r2)) ∧ Aside0 (kq ≤ kj18) ∧ Drawn0 w w')
    case atStart=>exact ⟨(IntKind.u64.wrap ((IntKind.u64.wrap ((IntKind.u64.wrap ((IntKind.u64.wrap ((Go.bits .or .u64 (ji12) (ji15)) * 4294967296)) + ((ji17) / 4294967296))) - (IntKind.u64.wrap (x15_18 * ji10)))) - (IntKind.u64.wrap ((IntKind.u64.wrap (Int.tdiv (IntKind.u64.wrap ((IntKind.u64.wrap ((IntKind.u64.wrap ((Go.bits .or .u64 (ji12) (ji15)) * 4294967296)) + ((ji17) / 4294967296))) - (IntKind.u64.wrap (x15_18 * ji10)))) ((ji10) / 4294967296))) * ((ji10) / 4294967296))))),(IntKind.u64.wrap (Int.tdiv (IntKind.u64.wrap ((IntKind.u64.wrap ((IntKind.u64.wrap ((Go.bits .or .u64 (ji12) (ji15)) * 4294967296)) + ((ji17) / 4294967296))) - (IntKind.u64.wrap (x15_18 * ji10)))) ((ji10) / 4294967296))),(by first|rfl|(simp;done)|(simp only [← hji10,← hji12,← hji15,← hji17] <;> (first|rfl|simp))|(simp [*];done)),(by first|rfl|(simp;done)|(simp only [← hji10,← hji12,← hji15,← hji17] <;> (first|rfl|simp))|(simp [*];done)),H',⟨Nat.le_refl _⟩,by repeat (first|exact Drawn0.refl _|apply Drawn0.step)⟩
    clear H'
    try clear c1
    try clear c2
    try clear p2
    try clear c4
    try clear c4b0
    try clear c4b1
    try clear c5
    try clear c5b0
    try clear c6
    try clear c6b0
    try clear c6b1
    try clear c9
    try clear c9b0
    try clear c9b1
    try clear c11
    try clear c11b0
    try clear c14
    try clear c14b0
    try clear c14b1
    try clear c16
    try clear c16b0
    try clear c18
    try clear c18b0
    try clear c18b1
    try clear c19
    try clear c21
    try clear c21b0
    try clear c22
    try clear c23
    try clear c23b0
    try clear c24
    try clear c24b0
    try clear c24b1
    try clear p2
    obtain ⟨x16_2,x18_2,rfl,rfl,HA,HK2,⟨m2,rfl⟩⟩:=hrel
    cases gk with
    | zero=>exact absurd HA.out (by simp [bits_Div64.l1])
    | succ k2 =>
     have H:=HA.out
     clear HA
     simp only [bits_Div64.l1] at H
     have HC25:=Aside0.mk H
     clear H
     go_upto_region 24 with (fail)
     repeat (go_quiet (fail);go_upto_region 24 with (fail))
     go_cut [113] (fun v113 wc=>∃ (kq : Nat) (x113_24 : Bool),v113 = .bool x113_24 ∧ Aside0 (bits_Div64.j4 kq ji10 ji8 ((ji10) / 4294967296) (Go.bits .and .u64 (ji10) 4294967295) (Go.bits .and .u64 (ji17) 4294967295) x15_18 x16_2 (IntKind.u64.wrap ((IntKind.u64.wrap ((IntKind.u64.wrap ((Go.bits .or .u64 (ji12) (ji15)) * 4294967296)) + ((ji17) / 4294967296))) - (IntKind.u64.wrap (x15_18 * ji10)))) x18_2 x113_24 = some (r1,r2)) ∧ Aside0 (kq ≤ k2) ∧ Drawn0 w wc)
     case first =>
      have H:=HC25.out
      clear HC25
      by_cases c26 : x18_2 ≥ 4294967296
      ·rw [if_pos c26] at H
       have c26b0 : decide (4294967296 ≤ x18_2) = true:=decide_eq_true c26
       clear c26
       (first|rw [c26b0]|(simp only [i64_w,i32_w];rw [c26b0])|skip)
       have H':=Aside0.mk H
       clear H
       go_wp2
       repeat (go_quiet (fail);try go_wp2)
       go_meet
       case rel=>exact ⟨_,(true),(by first|rfl|(simp;done)|(simp [*];done)),H',⟨by have:=HJ18.out;have:=HK2.out;first|omega|exact Nat.le_refl _⟩,by repeat (first|exact Drawn0.refl _|apply Drawn0.step)⟩
      rw [if_neg c26] at H
      have c26b0 : decide (4294967296 ≤ x18_2) = false:=decide_eq_false c26
      clear c26
      (first|rw [c26b0]|(simp only [i64_w,i32_w];rw [c26b0])|skip)
      have H':=Aside0.mk H
      clear H
      go_wp2
      repeat (go_quiet (fail);try go_wp2)
      go_meet
      case rel=>exact ⟨_,(decide ((IntKind.u64.wrap (x18_2 * (Go.bits .and .u64 (ji10) 4294967295))) > (IntKind.u64.wrap ((IntKind.u64.wrap (4294967296 * x16_2)) + (Go.bits .and .u64 (ji17) 4294967295))))),(by first|rfl|(simp;done)|(simp only [← hji10,← hji17] <;> (first|rfl|simp))|(simp [*];done)),H',⟨by have:=HJ18.out;have:=HK2.out;first|omega|exact Nat.le_refl _⟩,by repeat (first|exact Drawn0.refl _|apply Drawn0.step)⟩
     clear HC25
     try clear c1
     try clear c2
     try clear p2
     try clear c4
     try clear c4b0
     try clear c4b1
     try clear c5
     try clear c5b0
     try clear c6
     try clear c6b0
     try clear c6b1
     try clear c9
     try clear c9b0
     try clear c9b1
     try clear c11
     try clear c11b0
     try clear c14
     try clear c14b0
     try clear c14b1
     try clear c16
     try clear c16b0
     try clear c18
     try clear c18b0
     try clear c18b1
     try clear c19
     try clear c21
     try clear c21b0
     try clear c22
     try clear c23
     try clear c23b0
     try clear c24
     try clear c24b0
     try clear c24b1
     try clear c26
     try clear c26b0
     try clear p2
     obtain ⟨kq,x113_24,rfl,HA,HJ24,⟨mc24,rfl⟩⟩:=hcut
     cases kq with
     | zero=>exact absurd HA.out (by simp [bits_Div64.j4])
     | succ kj24 =>
      have H:=HA.out
      clear HA
      simp only [bits_Div64.j4] at H
      by_cases c27 : x113_24 = true
      ·subst c27
       have H1 : (if (IntKind.u64.wrap (x16_2 + ((ji10) / 4294967296))) ≥ 4294967296 then (if 0 ≤ ji8 then (some (IntKind.u64.wrap ((IntKind.u64.wrap (x15_18 * 4294967296)) + (IntKind.u64.wrap (x18_2 - 1))),shr .u64 (IntKind.u64.wrap ((IntKind.u64.wrap ((IntKind.u64.wrap ((IntKind.u64.wrap ((IntKind.u64.wrap ((IntKind.u64.wrap ((Go.bits .or .u64 (ji12) (ji15)) * 4294967296)) + ((ji17) / 4294967296))) - (IntKind.u64.wrap (x15_18 * ji10)))) * 4294967296)) + (Go.bits .and .u64 (ji17) 4294967295))) - (IntKind.u64.wrap ((IntKind.u64.wrap (x18_2 - 1)) * ji10)))) ji8)) else (none)) else (bits_Div64.l1 kj24 ji10 ji8 ((ji10) / 4294967296) (Go.bits .and .u64 (ji10) 4294967295) (Go.bits .and .u64 (ji17) 4294967295) x15_18 (IntKind.u64.wrap (x16_2 + ((ji10) / 4294967296))) (IntKind.u64.wrap ((IntKind.u64.wrap ((IntKind.u64.wrap ((Go.bits .or .u64 (ji12) (ji15)) * 4294967296)) + ((ji17) / 4294967296))) - (IntKind.u64.wrap (x15_18 * ji10)))) (IntKind.u64.wrap (x18_2 - 1)))) = some (r1,r2):=by rw [if_pos rfl] at H;exact H
       clear H
       have H:=H1
       clear H1
       by_cases c28 : (IntKind.u64.wrap (x16_2 + ((ji10) / 4294967296))) ≥ 4294967296
       ·rw [if_pos c28] at H
        have c28b0 : decide (4294967296 ≤ (IntKind.u64.wrap (x16_2 + ((ji10) / 4294967296)))) = true:=decide_eq_true c28
        clear c28
        by_cases c29 : 0 ≤ ji8
        ·rw [if_pos c29] at H
         have c29b0:=eq_true c29
         have c29b1 : decide (0 ≤ ji8) = true:=decide_eq_true c29
         clear c29
         obtain ⟨ji30,hji30⟩ : ∃ j_ : Int,(shr .u64 (IntKind.u64.wrap ((IntKind.u64.wrap ((IntKind.u64.wrap ((IntKind.u64.wrap ((IntKind.u64.wrap ((IntKind.u64.wrap ((Go.bits .or .u64 (ji12) (ji15)) * 4294967296)) + ((ji17) / 4294967296))) - (IntKind.u64.wrap (x15_18 * ji10)))) * 4294967296)) + (Go.bits .and .u64 (ji17) 4294967295))) - (IntKind.u64.wrap ((IntKind.u64.wrap (x18_2 - 1)) * ji10)))) ji8) = j_:=⟨_,rfl⟩
         replace H : (some (IntKind.u64.wrap ((IntKind.u64.wrap (x15_18 * 4294967296)) + (IntKind.u64.wrap (x18_2 - 1))),ji30)) = some (r1,r2):=by first|(rw [hji30] at H;exact H)|(simp only [hji30] at H ⊢;exact H)
         have hji30_ : ((IntKind.u64.wrap ((IntKind.u64.wrap ((IntKind.u64.wrap ((IntKind.u64.wrap ((IntKind.u64.wrap ((IntKind.u64.wrap ((Go.bits .or .u64 (ji12) (ji15)) * 4294967296)) + ((ji17) / 4294967296))) - (IntKind.u64.wrap (x15_18 * ji10)))) * 4294967296)) + (Go.bits .and .u64 (ji17) 4294967295))) - (IntKind.u64.wrap ((IntKind.u64.wrap (x18_2 - 1)) * ji10)))) / 2 ^ min ji8.toNat 64) = ji30:=hji30
         have hji30z : ji8 ≤ 64 → ((IntKind.u64.wrap ((IntKind.u64.wrap ((IntKind.u64.wrap ((IntKind.u64.wrap ((IntKind.u64.wrap ((IntKind.u64.wrap ((Go.bits .or .u64 (ji12) (ji15)) * 4294967296)) + ((ji17) / 4294967296))) - (IntKind.u64.wrap (x15_18 * ji10)))) * 4294967296)) + (Go.bits .and .u64 (ji17) 4294967295))) - (IntKind.u64.wrap ((IntKind.u64.wrap (x18_2 - 1)) * ji10)))) / 2 ^ ji8.toNat) = ji30:=shr_small hji30
         simp only [Option.some.injEq,Prod.mk.injEq] at H
         obtain ⟨rfl,rfl⟩:=H
         go_wp2
         repeat (go_quiet (fail);try go_wp2)
         go_ret2
         exact ⟨by first|rfl|(simp;done)|(simp only [← hji8,← hji10,← hji12,← hji13,← hji15,← hji17,← hji30] <;> (first|rfl|simp))|(simp [*];done),by repeat (first|exact Drawn0.refl _|apply Drawn0.step)⟩
        rw [if_neg c29] at H
        exact absurd H (by simp)
       rw [if_neg c28] at H
       have c28b0 : decide (4294967296 ≤ (IntKind.u64.wrap (x16_2 + ((ji10) / 4294967296)))) = false:=decide_eq_false c28
       clear c28
       have H':=Aside0.mk H
       clear H
       go_wp2
       repeat (go_quiet (fail);try go_wp2)
       go_roundg kj24
       case measure=>have:=HJ18.out;have:=HK2.out;have:=HJ24.out;omega
       case rel=>exact ⟨(IntKind.u64.wrap (x16_2 + ((ji10) / 4294967296))),(IntKind.u64.wrap (x18_2 - 1)),(by first|rfl|(simp;done)|(simp only [← hji10] <;> (first|rfl|simp))|(simp [*];done)),(by first|rfl|(simp;done)|(simp [*];done)),H',⟨by have:=HJ18.out;have:=HK2.out;have:=HJ24.out;omega⟩,by repeat (first|exact Drawn0.refl _|apply Drawn0.step)⟩
      replace c27:=Bool.eq_false_iff.mpr c27
      subst c27
      have H1 : (if 0 ≤ ji8 then (some (IntKind.u64.wrap ((IntKind.u64.wrap (x15_18 * 4294967296)) + x18_2),shr .u64 (IntKind.u64.wrap ((IntKind.u64.wrap ((IntKind.u64.wrap ((IntKind.u64.wrap ((IntKind.u64.wrap ((IntKind.u64.wrap ((Go.bits .or .u64 (ji12) (ji15)) * 4294967296)) + ((ji17) / 4294967296))) - (IntKind.u64.wrap (x15_18 * ji10)))) * 4294967296)) + (Go.bits .and .u64 (ji17) 4294967295))) - (IntKind.u64.wrap (x18_2 * ji10)))) ji8)) else (none)) = some (r1,r2):=by rw [if_neg (show ¬ (false = true) by decide)] at H;exact H
      clear H
      have H:=H1
      clear H1
      by_cases c31 : 0 ≤ ji8
      ·rw [if_pos c31] at H
       have c31b0:=eq_true c31
       have c31b1 : decide (0 ≤ ji8) = true:=decide_eq_true c31
       clear c31
       obtain ⟨ji32,hji32⟩ : ∃ j_ : Int,(shr .u64 (IntKind.u64.wrap ((IntKind.u64.wrap ((IntKind.u64.wrap ((IntKind.u64.wrap ((IntKind.u64.wrap ((IntKind.u64.wrap ((Go.bits .or .u64 (ji12) (ji15)) * 4294967296)) + ((ji17) / 4294967296))) - (IntKind.u64.wrap (x15_18 * ji10)))) * 4294967296)) + (Go.bits .and .u64 (ji17) 4294967295))) - (IntKind.u64.wrap (x18_2 * ji10)))) ji8) = j_:=⟨_,rfl⟩
       replace H : (some (IntKind.u64.wrap ((IntKind.u64.wrap (x15_18 * 4294967296)) + x18_2),ji32)) = some (r1,r2):=by first|(rw [hji32] at H;exact H)|(simp only [hji32] at H ⊢;exact H)
       have hji32_ : ((IntKind.u64.wrap ((IntKind.u64.wrap ((IntKind.u64.wrap ((IntKind.u64.wrap ((IntKind.u64.wrap ((IntKind.u64.wrap ((Go.bits .or .u64 (ji12) (ji15)) * 4294967296)) + ((ji17) / 4294967296))) - (IntKind.u64.wrap (x15_18 * ji10)))) * 4294967296)) + (Go.bits .and .u64 (ji17) 4294967295))) - (IntKind.u64.wrap (x18_2 * ji10)))) / 2 ^ min ji8.toNat 64) = ji32:=hji32
       have hji32z : ji8 ≤ 64 → ((IntKind.u64.wrap ((IntKind.u64.wrap ((IntKind.u64.wrap ((IntKind.u64.wrap ((IntKind.u64.wrap ((IntKind.u64.wrap ((Go.bits .or .u64 (ji12) (ji15)) * 4294967296)) + ((ji17) / 4294967296))) - (IntKind.u64.wrap (x15_18 * ji10)))) * 4294967296)) + (Go.bits .and .u64 (ji17) 4294967295))) - (IntKind.u64.wrap (x18_2 * ji10)))) / 2 ^ ji8.toNat) = ji32:=shr_small hji32
       simp only [Option.some.injEq,Prod.mk.injEq] at H
       obtain ⟨rfl,rfl⟩:=H
       go_wp2
       repeat (go_quiet (fail);try go_wp2)
       go_ret2
       exact ⟨by first|rfl|(simp;done)|(simp only [← hji8,← hji10,← hji12,← hji13,← hji15,← hji17,← hji32] <;> (first|rfl|simp))|(simp [*];done),by repeat (first|exact Drawn0.refl _|apply Drawn0.step)⟩
      rw [if_neg c31] at H
      exact absurd H (by simp)
  rw [if_neg c14] at H
  exact absurd H (by simp)
 rw [if_neg c9] at H
 exact absurd H (by simp)
/-! ### fix_scaled: function 68 -/
def fix_scaled.f (k : Nat) (a0 : Bool) (a1 : Int) (a2 : Int) (a3 : Int) : Option (Bool × Int):=(bits_Mul64.f a1 a2).bind fun bt133=>(if bt133.1 ≥ a3 then ((fix_ovf.f).bind fun bt135=>(some (bt135.1,bt135.2))) else ((bits_Div64.f k bt133.1 bt133.2 a3).bind fun bt137=>(if bt137.1 > 9223372036854775807 then ((fix_ovf.f).bind fun bt139=>(some (bt139.1,bt139.2))) else (if a0 = true then (some (false,wrap64 (-(wrap64 (bt137.1))))) else (some (false,wrap64 (bt137.1)))))))
set_option maxHeartbeats 8000000 in
set_option maxRecDepth 100000 in
theorem fix_scaled.calls (k : Nat) (a0 : Bool) (a1 : Int) (a2 : Int) (a3 : Int) (r1 : Bool) (r2 : Int) (w : World) (h : fix_scaled.f k a0 a1 a2 a3 = some (r1,r2)) :
  Calls Tryz.prog 68 #[.bool a0,.int .u64 a1,.int .u64 a2,.int .u64 a3] w fun e w'=>e = .returned (.agg #[.bool r1,.int .i64 r2]) ∧ Below w.heap.size w w':=by
 have hu32:=Tryz.underlying32
 have HB:=Aside0.mk (Below.refl w.heap.size w)
 have H : ((bits_Mul64.f a1 a2).bind fun bt133=>(if bt133.1 ≥ a3 then ((fix_ovf.f).bind fun bt135=>(some (bt135.1,bt135.2))) else ((bits_Div64.f k bt133.1 bt133.2 a3).bind fun bt137=>(if bt137.1 > 9223372036854775807 then ((fix_ovf.f).bind fun bt139=>(some (bt139.1,bt139.2))) else (if a0 = true then (some (false,wrap64 (-(wrap64 (bt137.1))))) else (some (false,wrap64 (bt137.1)))))))) = some (r1,r2):=h
 clear h
 replace H:=Option.bind_eq_some_iff.mp H
 obtain ⟨⟨t133,t134⟩,A50,H⟩:=H
 replace H : (if t133 ≥ a3 then ((fix_ovf.f).bind fun bt135=>(some (bt135.1,bt135.2))) else ((bits_Div64.f k t133 t134 a3).bind fun bt137=>(if bt137.1 > 9223372036854775807 then ((fix_ovf.f).bind fun bt139=>(some (bt139.1,bt139.2))) else (if a0 = true then (some (false,wrap64 (-(wrap64 (bt137.1))))) else (some (false,wrap64 (bt137.1))))))) = some (r1,r2):=H
 have A5:=Aside0.mk A50
 clear A50
 by_cases c6 : t133 ≥ a3
 ·rw [if_pos c6] at H
  have c6b0 : decide (a3 ≤ t133) = true:=decide_eq_true c6
  clear c6
  replace H:=Option.bind_eq_some_iff.mp H
  obtain ⟨⟨t135,t136⟩,A70,H⟩:=H
  replace H : (some (t135,t136)) = some (r1,r2):=H
  have A7:=Aside0.mk A70
  clear A70
  simp only [Option.some.injEq,Prod.mk.injEq] at H
  obtain ⟨rfl,rfl⟩:=H
  go_enter Tryz.func68,Tryz.ntmps68
  go_wp2_with (first|((with_reducible refine gate_dst (N:=8) rfl ?_);refine box_event ?hg (N:=8) ?hd (cs:=#[.bool false,.int .i64 0]) (t:=32) ?hr ?_;(case hd=>rfl);(case hg=>rfl);(case hr=>first|(go_simp;done)|(go_simp;rfl));intro gb132 hg w8 hbox hb;have n0_:=Aside0.mk (below_step (by repeat (first|(with_reducible first|exact HB.out|apply below_alloc|apply pw_below_drewN|apply below_drew1)|exact HB.out)) hb);have n1_:=Aside0.mk (hbox);have n2_:=Aside0.mk ((by rw [hg];exact (below_size (by repeat (first|(with_reducible first|exact HB.out|apply below_alloc|apply pw_below_drewN|apply below_drew1)|exact HB.out))) : w.heap.size ≤ gb132));have n3_:=Aside0.mk ((by rw [hg];exact (below_size (by repeat (first|(with_reducible first|exact HB.out|apply below_alloc|apply pw_below_drewN|apply below_drew1)|exact HB.out))) : w.heap.size ≤ gb132));clear HB;have HB:=n0_;have BK132:=n1_;have GW132:=n2_;have GE132:=n3_;clear n0_ n1_ n2_ n3_;clear hb hbox hg)|((with_reducible refine gate_callee (f:=110) rfl ?_);refine goesL_ (some 16) rfl rfl Tryz.func110 (by kernel_rfl) rfl #[.int .u64 a1,.int .u64 a2] rfl (by (try simp only [List.map_toArray,List.map_cons,List.map_nil]);first|done|rfl|(simp only [List.length_drop,List.length_take];rfl)) ?_;(with_reducible refine (bits_Mul64.calls a1 a2 t133 t134 _ A5.out).mono ?_);rintro e w' ⟨rfl,⟨nd,rfl⟩⟩;refine ⟨_,rfl,?_⟩;(try (rw [drewN_self w8];generalize hq_ : World.drewN w8 _ = w8;have n0_ : Aside0 (w8.heap[gb132]? = some (.cells #[.bool false,.int .i64 0] 32 (0,0))):=⟨by rw [← hq_];exact (by (with_reducible repeat (first|refine blk_drewN ?_ _|refine blk_drew ?_|refine blk_alloc ?_ _));exact BK132.out)⟩;have n1_ : Aside0 (Below w.heap.size w w8):=⟨by rw [← hq_];exact (by repeat (first|(with_reducible first|exact HB.out|apply below_alloc|apply pw_below_drewN|apply below_drew1|refine below_set ?_ GE132.out)|exact HB.out))⟩;clear BK132 HB hq_;have BK132:=n0_;have HB:=n1_;clear n0_ n1_)))|((with_reducible refine gate_callee (f:=43) rfl ?_);refine goesL_ (some 22) rfl rfl Tryz.func43 (by kernel_rfl) rfl #[] rfl (by (try simp only [List.map_toArray,List.map_cons,List.map_nil]);first|done|rfl|(simp only [List.length_drop,List.length_take];rfl)) ?_;(with_reducible refine (fix_ovf.calls  t135 t136 _ A7.out).mono ?_);rintro e w9 ⟨rfl,hb⟩;refine ⟨_,rfl,?_⟩;have n0_:=Aside0.mk (blk_below (g:=gb132) (o:=.cells #[.bool false,.int .i64 0] 32 (0,0)) (by (with_reducible repeat (first|refine blk_drewN ?_ _|refine blk_drew ?_|refine blk_alloc ?_ _));exact BK132.out) hb);have n1_:=Aside0.mk (below_step (by repeat (first|(with_reducible first|exact HB.out|apply below_alloc|apply pw_below_drewN|apply below_drew1|refine below_set ?_ GE132.out)|exact HB.out)) hb);clear BK132;clear HB;have BK132:=n0_;have HB:=n1_;clear n0_ n1_;(try clear hb);(try clear hb2);(try clear hk);(try clear hi);have hcz10_0 : w9.cell? ⟨gb132,0,none⟩ = some (.bool false):=(blk_cell BK132.out 0).trans rfl;have hcz10_1 : w9.cell? ⟨gb132,1,none⟩ = some (.int .i64 0):=(blk_cell BK132.out 1).trans rfl;have hfz10_0:=blk_frozen BK132.out 0;have hfz10_1:=blk_frozen BK132.out 1))
  refine bodyPost_ret (results_cell_row rfl _ _ gb132 32 #[.bool t135,.int .i64 t136] (0,0) _ rfl (by (with_reducible repeat (first|refine blk_drewN ?_ _|refine blk_drew ?_|refine blk_alloc ?_ _));refine blk_put (cs:=#[.bool t135,.int .i64 0]) ?_ 1 _ rfl;(with_reducible repeat (first|refine blk_drewN ?_ _|refine blk_drew ?_|refine blk_alloc ?_ _));refine blk_put (cs:=#[.bool false,.int .i64 0]) ?_ 0 _ rfl;(with_reducible repeat (first|refine blk_drewN ?_ _|refine blk_drew ?_|refine blk_alloc ?_ _));exact BK132.out) Tryz.underlying32 rfl (by kernel_rfl)) rfl ?_
  exact ⟨by first|rfl|(simp [errW_none,errW_some] <;> rfl)|(simp [*,errW_none,errW_some] <;> rfl),by repeat (first|(with_reducible first|exact HB.out|apply below_alloc|apply pw_below_drewN|apply below_drew1|refine below_set ?_ GE132.out)|exact HB.out)⟩
 rw [if_neg c6] at H
 have c6b0 : decide (a3 ≤ t133) = false:=decide_eq_false c6
 clear c6
 replace H:=Option.bind_eq_some_iff.mp H
 obtain ⟨⟨t137,t138⟩,A110,H⟩:=H
 replace H : (if t137 > 9223372036854775807 then ((fix_ovf.f).bind fun bt139=>(some (bt139.1,bt139.2))) else (if a0 = true then (some (false,wrap64 (-(wrap64 (t137))))) else (some (false,wrap64 (t137))))) = some (r1,r2):=H
 have A11:=Aside0.mk A110
 clear A110
 by_cases c12 : t137 > 9223372036854775807
 ·rw [if_pos c12] at H
  have c12b0 : decide (9223372036854775807 < t137) = true:=decide_eq_true c12
  clear c12
  replace H:=Option.bind_eq_some_iff.mp H
  obtain ⟨⟨t139,t140⟩,A130,H⟩:=H
  replace H : (some (t139,t140)) = some (r1,r2):=H
  have A13:=Aside0.mk A130
  clear A130
  simp only [Option.some.injEq,Prod.mk.injEq] at H
  obtain ⟨rfl,rfl⟩:=H
  go_enter Tryz.func68,Tryz.ntmps68
  go_wp2_with (first|((with_reducible refine gate_dst (N:=8) rfl ?_);refine box_event ?hg (N:=8) ?hd (cs:=#[.bool false,.int .i64 0]) (t:=32) ?hr ?_;(case hd=>rfl);(case hg=>rfl);(case hr=>first|(go_simp;done)|(go_simp;rfl));intro gb132 hg w14 hbox hb;have n0_:=Aside0.mk (below_step (by repeat (first|(with_reducible first|exact HB.out|apply below_alloc|apply pw_below_drewN|apply below_drew1)|exact HB.out)) hb);have n1_:=Aside0.mk (hbox);have n2_:=Aside0.mk ((by rw [hg];exact (below_size (by repeat (first|(with_reducible first|exact HB.out|apply below_alloc|apply pw_below_drewN|apply below_drew1)|exact HB.out))) : w.heap.size ≤ gb132));have n3_:=Aside0.mk ((by rw [hg];exact (below_size (by repeat (first|(with_reducible first|exact HB.out|apply below_alloc|apply pw_below_drewN|apply below_drew1)|exact HB.out))) : w.heap.size ≤ gb132));clear HB;have HB:=n0_;have BK132:=n1_;have GW132:=n2_;have GE132:=n3_;clear n0_ n1_ n2_ n3_;clear hb hbox hg)|((with_reducible refine gate_callee (f:=110) rfl ?_);refine goesL_ (some 16) rfl rfl Tryz.func110 (by kernel_rfl) rfl #[.int .u64 a1,.int .u64 a2] rfl (by (try simp only [List.map_toArray,List.map_cons,List.map_nil]);first|done|rfl|(simp only [List.length_drop,List.length_take];rfl)) ?_;(with_reducible refine (bits_Mul64.calls a1 a2 t133 t134 _ A5.out).mono ?_);rintro e w' ⟨rfl,⟨nd,rfl⟩⟩;refine ⟨_,rfl,?_⟩;(try (rw [drewN_self w14];generalize hq_ : World.drewN w14 _ = w14;have n0_ : Aside0 (w14.heap[gb132]? = some (.cells #[.bool false,.int .i64 0] 32 (0,0))):=⟨by rw [← hq_];exact (by (with_reducible repeat (first|refine blk_drewN ?_ _|refine blk_drew ?_|refine blk_alloc ?_ _));exact BK132.out)⟩;have n1_ : Aside0 (Below w.heap.size w w14):=⟨by rw [← hq_];exact (by repeat (first|(with_reducible first|exact HB.out|apply below_alloc|apply pw_below_drewN|apply below_drew1|refine below_set ?_ GE132.out)|exact HB.out))⟩;clear BK132 HB hq_;have BK132:=n0_;have HB:=n1_;clear n0_ n1_)))|((with_reducible refine gate_callee (f:=111) rfl ?_);refine goesL_ (some 27) rfl rfl Tryz.func111 (by kernel_rfl) rfl #[.int .u64 t133,.int .u64 t134,.int .u64 a3] rfl (by (try simp only [List.map_toArray,List.map_cons,List.map_nil]);first|done|rfl|(simp only [List.length_drop,List.length_take];rfl)) ?_;(with_reducible refine (bits_Div64.calls k t133 t134 a3 t137 t138 _ A11.out).mono ?_);rintro e w' ⟨rfl,⟨nd,rfl⟩⟩;refine ⟨_,rfl,?_⟩;(try (rw [drewN_self w14];generalize hq_ : World.drewN w14 _ = w14;have n0_ : Aside0 (w14.heap[gb132]? = some (.cells #[.bool false,.int .i64 0] 32 (0,0))):=⟨by rw [← hq_];exact (by (with_reducible repeat (first|refine blk_drewN ?_ _|refine blk_drew ?_|refine blk_alloc ?_ _));exact BK132.out)⟩;have n1_ : Aside0 (Below w.heap.size w w14):=⟨by rw [← hq_];exact (by repeat (first|(with_reducible first|exact HB.out|apply below_alloc|apply pw_below_drewN|apply below_drew1|refine below_set ?_ GE132.out)|exact HB.out))⟩;clear BK132 HB hq_;have BK132:=n0_;have HB:=n1_;clear n0_ n1_)))|((with_reducible refine gate_callee (f:=43) rfl ?_);refine goesL_ (some 32) rfl rfl Tryz.func43 (by kernel_rfl) rfl #[] rfl (by (try simp only [List.map_toArray,List.map_cons,List.map_nil]);first|done|rfl|(simp only [List.length_drop,List.length_take];rfl)) ?_;(with_reducible refine (fix_ovf.calls  t139 t140 _ A13.out).mono ?_);rintro e w15 ⟨rfl,hb⟩;refine ⟨_,rfl,?_⟩;have n0_:=Aside0.mk (blk_below (g:=gb132) (o:=.cells #[.bool false,.int .i64 0] 32 (0,0)) (by (with_reducible repeat (first|refine blk_drewN ?_ _|refine blk_drew ?_|refine blk_alloc ?_ _));exact BK132.out) hb);have n1_:=Aside0.mk (below_step (by repeat (first|(with_reducible first|exact HB.out|apply below_alloc|apply pw_below_drewN|apply below_drew1|refine below_set ?_ GE132.out)|exact HB.out)) hb);clear BK132;clear HB;have BK132:=n0_;have HB:=n1_;clear n0_ n1_;(try clear hb);(try clear hb2);(try clear hk);(try clear hi);have hcz16_0 : w15.cell? ⟨gb132,0,none⟩ = some (.bool false):=(blk_cell BK132.out 0).trans rfl;have hcz16_1 : w15.cell? ⟨gb132,1,none⟩ = some (.int .i64 0):=(blk_cell BK132.out 1).trans rfl;have hfz16_0:=blk_frozen BK132.out 0;have hfz16_1:=blk_frozen BK132.out 1))
  refine bodyPost_ret (results_cell_row rfl _ _ gb132 32 #[.bool t139,.int .i64 t140] (0,0) _ rfl (by (with_reducible repeat (first|refine blk_drewN ?_ _|refine blk_drew ?_|refine blk_alloc ?_ _));refine blk_put (cs:=#[.bool t139,.int .i64 0]) ?_ 1 _ rfl;(with_reducible repeat (first|refine blk_drewN ?_ _|refine blk_drew ?_|refine blk_alloc ?_ _));refine blk_put (cs:=#[.bool false,.int .i64 0]) ?_ 0 _ rfl;(with_reducible repeat (first|refine blk_drewN ?_ _|refine blk_drew ?_|refine blk_alloc ?_ _));exact BK132.out) Tryz.underlying32 rfl (by kernel_rfl)) rfl ?_
  exact ⟨by first|rfl|(simp [errW_none,errW_some] <;> rfl)|(simp [*,errW_none,errW_some] <;> rfl),by repeat (first|(with_reducible first|exact HB.out|apply below_alloc|apply pw_below_drewN|apply below_drew1|refine below_set ?_ GE132.out)|exact HB.out)⟩
 rw [if_neg c12] at H
 have c12b0 : decide (9223372036854775807 < t137) = false:=decide_eq_false c12
 clear c12
 by_cases c17 : a0 = true
 ·subst c17
  have H1 : (some (false,wrap64 (-(wrap64 (t137))))) = some (r1,r2):=by rw [if_pos rfl] at H;exact H
  clear H
  have H:=H1
  clear H1
  simp only [Option.some.injEq,Prod.mk.injEq] at H
  obtain ⟨rfl,rfl⟩:=H
  go_enter Tryz.func68,Tryz.ntmps68
  go_wp2_with (first|((with_reducible refine gate_dst (N:=8) rfl ?_);refine box_event ?hg (N:=8) ?hd (cs:=#[.bool false,.int .i64 0]) (t:=32) ?hr ?_;(case hd=>rfl);(case hg=>rfl);(case hr=>first|(go_simp;done)|(go_simp;rfl));intro gb132 hg w18 hbox hb;have n0_:=Aside0.mk (below_step (by repeat (first|(with_reducible first|exact HB.out|apply below_alloc|apply pw_below_drewN|apply below_drew1)|exact HB.out)) hb);have n1_:=Aside0.mk (hbox);have n2_:=Aside0.mk ((by rw [hg];exact (below_size (by repeat (first|(with_reducible first|exact HB.out|apply below_alloc|apply pw_below_drewN|apply below_drew1)|exact HB.out))) : w.heap.size ≤ gb132));have n3_:=Aside0.mk ((by rw [hg];exact (below_size (by repeat (first|(with_reducible first|exact HB.out|apply below_alloc|apply pw_below_drewN|apply below_drew1)|exact HB.out))) : w.heap.size ≤ gb132));clear HB;have HB:=n0_;have BK132:=n1_;have GW132:=n2_;have GE132:=n3_;clear n0_ n1_ n2_ n3_;clear hb hbox hg)|((with_reducible refine gate_callee (f:=110) rfl ?_);refine goesL_ (some 16) rfl rfl Tryz.func110 (by kernel_rfl) rfl #[.int .u64 a1,.int .u64 a2] rfl (by (try simp only [List.map_toArray,List.map_cons,List.map_nil]);first|done|rfl|(simp only [List.length_drop,List.length_take];rfl)) ?_;(with_reducible refine (bits_Mul64.calls a1 a2 t133 t134 _ A5.out).mono ?_);rintro e w' ⟨rfl,⟨nd,rfl⟩⟩;refine ⟨_,rfl,?_⟩;(try (rw [drewN_self w18];generalize hq_ : World.drewN w18 _ = w18;have n0_ : Aside0 (w18.heap[gb132]? = some (.cells #[.bool false,.int .i64 0] 32 (0,0))):=⟨by rw [← hq_];exact (by (with_reducible repeat (first|refine blk_drewN ?_ _|refine blk_drew ?_|refine blk_alloc ?_ _));exact BK132.out)⟩;have n1_ : Aside0 (Below w.heap.size w w18):=⟨by rw [← hq_];exact (by repeat (first|(with_reducible first|exact HB.out|apply below_alloc|apply pw_below_drewN|apply below_drew1|refine below_set ?_ GE132.out)|exact HB.out))⟩;clear BK132 HB hq_;have BK132:=n0_;have HB:=n1_;clear n0_ n1_)))|((with_reducible refine gate_callee (f:=111) rfl ?_);refine goesL_ (some 27) rfl rfl Tryz.func111 (by kernel_rfl) rfl #[.int .u64 t133,.int .u64 t134,.int .u64 a3] rfl (by (try simp only [List.map_toArray,List.map_cons,List.map_nil]);first|done|rfl|(simp only [List.length_drop,List.length_take];rfl)) ?_;(with_reducible refine (bits_Div64.calls k t133 t134 a3 t137 t138 _ A11.out).mono ?_);rintro e w' ⟨rfl,⟨nd,rfl⟩⟩;refine ⟨_,rfl,?_⟩;(try (rw [drewN_self w18];generalize hq_ : World.drewN w18 _ = w18;have n0_ : Aside0 (w18.heap[gb132]? = some (.cells #[.bool false,.int .i64 0] 32 (0,0))):=⟨by rw [← hq_];exact (by (with_reducible repeat (first|refine blk_drewN ?_ _|refine blk_drew ?_|refine blk_alloc ?_ _));exact BK132.out)⟩;have n1_ : Aside0 (Below w.heap.size w w18):=⟨by rw [← hq_];exact (by repeat (first|(with_reducible first|exact HB.out|apply below_alloc|apply pw_below_drewN|apply below_drew1|refine below_set ?_ GE132.out)|exact HB.out))⟩;clear BK132 HB hq_;have BK132:=n0_;have HB:=n1_;clear n0_ n1_));have hcz19_0 : w18.cell? ⟨gb132,0,none⟩ = some (.bool false):=(blk_cell BK132.out 0).trans rfl;have hcz19_1 : w18.cell? ⟨gb132,1,none⟩ = some (.int .i64 0):=(blk_cell BK132.out 1).trans rfl;have hfz19_0:=blk_frozen BK132.out 0;have hfz19_1:=blk_frozen BK132.out 1))
  refine bodyPost_ret (results_cell_row rfl _ _ gb132 32 #[.bool false,.int .i64 (wrap64 (-(wrap64 (t137))))] (0,0) _ rfl (by (with_reducible repeat (first|refine blk_drewN ?_ _|refine blk_drew ?_|refine blk_alloc ?_ _));refine blk_put (cs:=#[.bool false,.int .i64 0]) ?_ 1 _ rfl;(with_reducible repeat (first|refine blk_drewN ?_ _|refine blk_drew ?_|refine blk_alloc ?_ _));refine blk_put (cs:=#[.bool false,.int .i64 0]) ?_ 0 _ rfl;(with_reducible repeat (first|refine blk_drewN ?_ _|refine blk_drew ?_|refine blk_alloc ?_ _));exact BK132.out) Tryz.underlying32 rfl (by kernel_rfl)) rfl ?_
  exact ⟨by first|rfl|(simp [errW_none,errW_some] <;> rfl)|(simp [*,errW_none,errW_some] <;> rfl),by repeat (first|(with_reducible first|exact HB.out|apply below_alloc|apply pw_below_drewN|apply below_drew1|refine below_set ?_ GE132.out)|exact HB.out)⟩
 replace c17:=Bool.eq_false_iff.mpr c17
 subst c17
 have H1 : (some (false,wrap64 (t137))) = some (r1,r2):=by rw [if_neg (show ¬ (false = true) by decide)] at H;exact H
 clear H
 have H:=H1
 clear H1
 simp only [Option.some.injEq,Prod.mk.injEq] at H
 obtain ⟨rfl,rfl⟩:=H
 go_enter Tryz.func68,Tryz.ntmps68
 go_wp2_with (first|((with_reducible refine gate_dst (N:=8) rfl ?_);refine box_event ?hg (N:=8) ?hd (cs:=#[.bool false,.int .i64 0]) (t:=32) ?hr ?_;(case hd=>rfl);(case hg=>rfl);(case hr=>first|(go_simp;done)|(go_simp;rfl));intro gb132 hg w20 hbox hb;have n0_:=Aside0.mk (below_step (by repeat (first|(with_reducible first|exact HB.out|apply below_alloc|apply pw_below_drewN|apply below_drew1)|exact HB.out)) hb);have n1_:=Aside0.mk (hbox);have n2_:=Aside0.mk ((by rw [hg];exact (below_size (by repeat (first|(with_reducible first|exact HB.out|apply below_alloc|apply pw_below_drewN|apply below_drew1)|exact HB.out))) : w.heap.size ≤ gb132));have n3_:=Aside0.mk ((by rw [hg];exact (below_size (by repeat (first|(with_reducible first|exact HB.out|apply below_alloc|apply pw_below_drewN|apply below_drew1)|exact HB.out))) : w.heap.size ≤ gb132));clear HB;have HB:=n0_;have BK132:=n1_;have GW132:=n2_;have GE132:=n3_;clear n0_ n1_ n2_ n3_;clear hb hbox hg)|((with_reducible refine gate_callee (f:=110) rfl ?_);refine goesL_ (some 16) rfl rfl Tryz.func110 (by kernel_rfl) rfl #[.int .u64 a1,.int .u64 a2] rfl (by (try simp only [List.map_toArray,List.map_cons,List.map_nil]);first|done|rfl|(simp only [List.length_drop,List.length_take];rfl)) ?_;(with_reducible refine (bits_Mul64.calls a1 a2 t133 t134 _ A5.out).mono ?_);rintro e w' ⟨rfl,⟨nd,rfl⟩⟩;refine ⟨_,rfl,?_⟩;(try (rw [drewN_self w20];generalize hq_ : World.drewN w20 _ = w20;have n0_ : Aside0 (w20.heap[gb132]? = some (.cells #[.bool false,.int .i64 0] 32 (0,0))):=⟨by rw [← hq_];exact (by (with_reducible repeat (first|refine blk_drewN ?_ _|refine blk_drew ?_|refine blk_alloc ?_ _));exact BK132.out)⟩;have n1_ : Aside0 (Below w.heap.size w w20):=⟨by rw [← hq_];exact (by repeat (first|(with_reducible first|exact HB.out|apply below_alloc|apply pw_below_drewN|apply below_drew1|refine below_set ?_ GE132.out)|exact HB.out))⟩;clear BK132 HB hq_;have BK132:=n0_;have HB:=n1_;clear n0_ n1_)))|((with_reducible refine gate_callee (f:=111) rfl ?_);refine goesL_ (some 27) rfl rfl Tryz.func111 (by kernel_rfl) rfl #[.int .u64 t133,.int .u64 t134,.int .u64 a3] rfl (by (try simp only [List.map_toArray,List.map_cons,List.map_nil]);first|done|rfl|(simp only [List.length_drop,List.length_take];rfl)) ?_;(with_reducible refine (bits_Div64.calls k t133 t134 a3 t137 t138 _ A11.out).mono ?_);rintro e w' ⟨rfl,⟨nd,rfl⟩⟩;refine ⟨_,rfl,?_⟩;(try (rw [drewN_self w20];generalize hq_ : World.drewN w20 _ = w20;have n0_ : Aside0 (w20.heap[gb132]? = some (.cells #[.bool false,.int .i64 0] 32 (0,0))):=⟨by rw [← hq_];exact (by (with_reducible repeat (first|refine blk_drewN ?_ _|refine blk_drew ?_|refine blk_alloc ?_ _));exact BK132.out)⟩;have n1_ : Aside0 (Below w.heap.size w w20):=⟨by rw [← hq_];exact (by repeat (first|(with_reducible first|exact HB.out|apply below_alloc|apply pw_below_drewN|apply below_drew1|refine below_set ?_ GE132.out)|exact HB.out))⟩;clear BK132 HB hq_;have BK132:=n0_;have HB:=n1_;clear n0_ n1_));have hcz21_0 : w20.cell? ⟨gb132,0,none⟩ = some (.bool false):=(blk_cell BK132.out 0).trans rfl;have hcz21_1 : w20.cell? ⟨gb132,1,none⟩ = some (.int .i64 0):=(blk_cell BK132.out 1).trans rfl;have hfz21_0:=blk_frozen BK132.out 0;have hfz21_1:=blk_frozen BK132.out 1))
 refine bodyPost_ret (results_cell_row rfl _ _ gb132 32 #[.bool false,.int .i64 (wrap64 (t137))] (0,0) _ rfl (by (with_reducible repeat (first|refine blk_drewN ?_ _|refine blk_drew ?_|refine blk_alloc ?_ _));refine blk_put (cs:=#[.bool false,.int .i64 0]) ?_ 1 _ rfl;(with_reducible repeat (first|refine blk_drewN ?_ _|refine blk_drew ?_|refine blk_alloc ?_ _));refine blk_put (cs:=#[.bool false,.int .i64 0]) ?_ 0 _ rfl;(with_reducible repeat (first|refine blk_drewN ?_ _|refine blk_drew ?_|refine blk_alloc ?_ _));exact BK132.out) Tryz.underlying32 rfl (by kernel_rfl)) rfl ?_
 exact ⟨by first|rfl|(simp [errW_none,errW_some] <;> rfl)|(simp [*,errW_none,errW_some] <;> rfl),by repeat (first|(with_reducible first|exact HB.out|apply below_alloc|apply pw_below_drewN|apply below_drew1|refine below_set ?_ GE132.out)|exact HB.out)⟩
end Go.Proofs.YtfgffjchphignaaGreatDoor.Print
end
