/- A part of the proof of ExpoPrints: what the functions that the law reaches come to. -/
import Derived.Test.YtfgffjchphignaaGreatDoorC03
import Derived.Test.YtfgffjchphignaaGreatDoorC01
import Derived.Laws.Cover1
import Derived.Test.YtfgffjchphignaaGreatDoorC02
set_option linter.unusedVariables false
set_option linter.unusedSimpArgs false
section
namespace Go.Proofs.YtfgffjchphignaaGreatDoor.Print
open Go.Sort Go.Shelf PureN Go.Maps Go.WideMaps
open Go.RowKit Go.Proofs.YtfgffjchphignaaGreatDoorX Go.Proofs.YtfgffjchphignaaGreatDoorW.PrintWords Go.Proofs.YtfgffjchphignaaGreatDoorW.PrintLast Go.Proofs.YtfgffjchphignaaGreatDoorW.PrintMore
/-! (*expo.reader).line, at a line that reads well -/
theorem nameB_len {n : List UInt8} (h : nameB n = true) : n.length ≤ 20:=by
 cases n with
 | nil=>simp
 | cons c r =>
  simp only [nameB,Bool.and_eq_true,decide_eq_true_eq] at h
  exact h.2
theorem RdW.farX {lb : Nat} {lc : Array Value} {w0 w : World} {rb mb n : Nat} {vo vb : Value} {B : Bod} (h : RdW lb lc w0 w rb mb n vo vb B) {xb : Nat} {cs : Array Value} (hx : w.heap[xb]? = some (.cells cs 34 (0,0)))
  {N : Nat} (ho : Kd.S k34 34 w w0.heap.size (fun k=>k < N) vo (B.out.map scrS)) (hN : N ≤ xb) (low : w0.heap.size ≤ xb) (j : Nat) (u : Value) : RdW lb lc w0 (w.setCell ⟨xb,j,none⟩ u) rb mb n vo vb B:=by
 have hne : rb ≠ xb:=by
  rintro rfl
  have h1:=h.blk
  rw [hx] at h1
  injection h1 with h1
  injection h1 with _ h2
  exact absurd h2 (by decide)
 exact ⟨(Below.heap_setCell w ⟨xb,j,none⟩ u rb hne).trans h.blk,h.map.setCell (h.map.apart hx) u,Kd.S_mono (Kd.S_far (p:=⟨xb,j,none⟩) ho (fun k hk e=>by have hk2 : k < N:=hk;have e2 : k = xb:=e;omega) u) (fun _ _=>trivial),Kd.R_set h.bad hx (by decide) j u,h.low,below_set h.bel low,blk_far h.lin (ne_of_typ hx h.lin (by decide)),h.linlow⟩
set_option maxHeartbeats 8000000 in
set_option maxRecDepth 100000 in
theorem line_ok {lb : Nat} {lc : Array Value} (w0 w : World) (rb mb n : Nat) (vo vb : Value) (B : Bod) (i : Int) (s : ByteArray) (hg_ : LaidW w) (h : RdW lb lc w0 w rb mb n vo vb B) (hs : s.size ≤ 3000) (c : UInt8) (r : List UInt8) (hc : s.data.toList = c :: r) (hc2 : c ≠ 35) (x : Scr) (he : lineS s.data.toList = .ok x) (hl : B.out.length ≤ 100000) :
  Calls Tryz.prog 26 #[.pointer (some ⟨rb,0,none⟩),.int .i64 i,.string s] w fun e' w'=>e' = .returned (.tuple #[]) ∧ ∃ vo',RdW lb lc w0 w' rb mb n vo' vb { B with out:=B.out ++ [{ x with kind:=kget B.of (getL x.labels NL) }] }:=by
 obtain ⟨hp,hne,hemp,f1⟩:=first_byte s c r hc hc2
 have q3 : (0 < s.size) = True:=eq_true hp
 have hx3 : ∀ h : 0 < s.size,((s[0]'h).toNat : Int) = bt s 0:=bt_at s 0
 have qi3 : (0 < (s.size : Int)) = True:=eq_true (by omega)
 have hsz : s.data.toList.length = s.size:=Array.length_toList
 have hf:=line_eq s.data.toList 4000 (by omega) (by omega)
 rw [he] at hf
 obtain ⟨hS,hnm,hk0⟩:=lineS_ok _ _ he
 have hmt:=metric_eq x.labels hS 4000 (by omega)
 rw [hnm] at hmt
 have hnl:=nameB_len hnm
 have hln:=expo_Line.calls 4000 s (x.labels.map ofPr) x.ovf x.v x.t x.hasT 0 0 w hg_ hf
 have HQ : Aside0 (∀ kd : Int,(⟨x.labels.map ofPr,⟨x.ovf,x.v⟩,x.t,x.hasT,kd⟩ : S34) = scrS { x with kind:=kd }):=⟨fun _=>rfl⟩
 have HR:=Aside0.mk h
 have HL:=Aside0.mk hl
 have HM:=Aside0.mk hmt
 have HN:=Aside0.mk hnl
 clear hg_ h hs hc hp hsz hf he hl hmt hnl hk0 hnm hS
 generalize x.labels.map ofPr = L at hln HM HQ
 generalize hN0 : ofL (getL x.labels NL) = nm at HM
 have HND : Aside0 (getL x.labels NL = nm.data.toList):=⟨by rw [← hN0]⟩
 have hNs : nm.size ≤ maxLen:=by have:=HN.out;rw [← hN0,ofL_size];unfold maxLen;omega
 clear hN0
 generalize x.ovf = xo at hln HQ
 generalize x.v = xv at hln HQ
 generalize x.t = xt at hln HQ
 generalize x.hasT = xh at hln HQ
 go_enter Tryz.func26,Tryz.ntmps26
 go_wp2_with (fail)
 refine hln.mono ?_
 rintro e1 w1 ⟨v0,rfl,ho,hb⟩
 have HO0:=Aside0.mk (Kd.R_mono (ok':=fun k=>w.heap.size ≤ k) (Kd.R_lower (Kd.R_bound ho) HR.out.bel.size) (fun k hk=>hk.2.1))
 obtain ⟨A1,c1,rfl⟩:=Kd.R_slice ho
 have HR1:=Aside0.mk ((HR.out.below hb).below (below_alloc (Below.refl _ _) (.cells #[.slice A1 L.length c1,.bool xo,.int .i64 xv,.int .i64 xt,.bool xh,.int .i64 0] 34)))
 have HW1:=Aside0.mk (Nat.le_trans HR.out.bel.size (below_size hb))
 have HVB:=Aside0.mk (Kd.S_lt HR.out.out)
 have HV1:=Aside0.mk (Kd.S_below (Kd.S_mono (ok':=fun k=>k < w.heap.size) (Kd.S_bound HR.out.out) (fun _ hk=>hk.2.2.1)) (below_alloc hb (.cells #[.slice A1 L.length c1,.bool xo,.int .i64 xv,.int .i64 xt,.bool xh,.int .i64 0] 34)))
 have HNW:=Aside0.mk (below_size hb)
 clear HR hln ho hb
 have HO1:=Aside0.mk (Kd.R_alloc HO0.out (.cells #[.slice A1 L.length c1,.bool xo,.int .i64 xv,.int .i64 xt,.bool xh,.int .i64 0] 34))
 clear HO0
 go_wp2_with (fail)
 refine (expo_metric.calls 4000 A1 c1 L nm true _ (Kd.R_reads' HO1.out).2.2 (Kd.R_reads' HO1.out).2.1 HM.out).mono ?_
 rintro e w2 ⟨rfl,hb⟩
 have HR2:=HR1.out.below hb
 have HO2:=Kd.R_below HO1.out hb
 have HV2:=Kd.S_below HV1.out hb
 have BX:=(hb.block w1.heap.size (by unfold World.alloc;simp)).trans (by unfold World.alloc;simp;rfl)
 have GX:=Aside0.mk (HW1.out)
 have HNX:=Aside0.mk HNW.out
 clear HNW
 clear HR1 HO1 HW1 hb HV1
 generalize w1.heap.size = xb at BX GX HNX ⊢
 have c0 : w2.cell? ⟨rb,0,none⟩ = some (.map (some mb)):=(blk_cell HR2.blk 0).trans rfl
 have f4 : w2.frozen? ⟨xb,5,none⟩ = false:=blk_frozen BX 5
 have c4 : w2.cell? ⟨xb,5,none⟩ = some (.int .i64 0):=(blk_cell BX 5).trans (by rfl)
 have hlook:=HR2.map.look nm hNs
 rw [← HND.out] at hlook
 generalize hkd : kget B.of (getL x.labels NL) = kd at hlook
 have HKD:=Aside0.mk hkd
 clear hkd
 have HR3:=Aside0.mk (HR2.farX BX HV2 HNX.out GX.out 5 (.int .i64 kd))
 have HO3:=Aside0.mk (Kd.R_set HO2 BX (by decide) 5 (.int .i64 kd))
 have BX3:=Aside0.mk (blk_set BX 5 (.int .i64 kd))
 have HXB : Aside0 (some xb ≠ vo.ownBlock):=⟨fun e=>by have:=HVB.out xb e.symm;have:=HNX.out;omega⟩
 have HV3:=Aside0.mk (Kd.S_far (p:=⟨xb,5,none⟩) HV2 (fun k hk e=>by have hk2 : k < w.heap.size:=hk;have e2 : k = xb:=e;have:=HNX.out;omega) (.int .i64 kd))
 clear HR2 HO2 HV2 BX
 go_wp2_with (fail)
 clear c0 f4 c4 hlook
 generalize w2.setCell ⟨xb,5,none⟩ (.int .i64 kd) = w3 at HR3 HO3 BX3 HV3 ⊢
 have HR4:=Aside0.mk (HR3.out.below (below_drew (Below.refl _ _)))
 have HO4:=Aside0.mk (Kd.R_drew HO3.out)
 have BX4:=Aside0.mk (blk_drew BX3.out)
 have HV4:=Aside0.mk (Kd.S_drew HV3.out)
 clear HR3 HO3 BX3 HV3
 refine start_ (n:=11) (S:=fun w'=>w'.cell? ⟨xb,0,none⟩ = some (.slice A1 L.length c1) ∧ w'.cell? ⟨xb,1,none⟩ = some (.bool xo) ∧ w'.cell? ⟨xb,2,none⟩ = some (.int .i64 xv) ∧ w'.cell? ⟨xb,3,none⟩ = some (.int .i64 xt) ∧ w'.cell? ⟨xb,4,none⟩ = some (.bool xh) ∧ w'.cell? ⟨xb,5,none⟩ = some (.int .i64 kd) ∧ w'.cell? ⟨rb,1,none⟩ = some vo) (ds:=[10]) #[false,false,false,false,false,false,false,false,false,false,false] (by kernel_rfl) rfl rfl (⟨(blk_cell BX4.out 0).trans (by rfl),(blk_cell BX4.out 1).trans (by rfl),(blk_cell BX4.out 2).trans (by rfl),(blk_cell BX4.out 3).trans (by rfl),(blk_cell BX4.out 4).trans (by rfl),(blk_cell BX4.out 5).trans (by rfl),(blk_cell HR4.out.blk 1).trans (by rfl)⟩) (fun hHeld=>?_)
 generalize w3.drew = w4 at HR4 HO4 BX4 HV4 hHeld ⊢
 refine pure_ (i:=0) (N:=some 43) (v:=?_) (a':=?_) #[true,false,false,false,false,false,false,false,false,false,false] rfl rfl (by kernel_rfl) (fun _ _ _ h=>h) (Or.inl ⟨by first|rfl|exact wanted_on rfl rfl rfl (by rfl),?_⟩) ?_ ?_
 rotate_left
 ·intro w'
  go_simp
  with_reducible rfl
 rotate_left
 ·simp only [Act.put,List.setIfInBounds_toArray,List.set_cons_zero,List.set_cons_succ,i64_w,i32_w]
  rfl
 refine pure_ (i:=1) (N:=some 44) (v:=?_) (a':=?_) #[true,true,false,false,false,false,false,false,false,false,false] rfl rfl (by kernel_rfl) (fun _ _ _ h=>h) (Or.inl ⟨by first|rfl|exact wanted_on rfl rfl rfl (by rfl),?_⟩) ?_ ?_
 rotate_left
 ·intro w'
  go_simp
  with_reducible rfl
 rotate_left
 ·simp only [Act.put,List.setIfInBounds_toArray,List.set_cons_zero,List.set_cons_succ,i64_w,i32_w]
  rfl
 refine pure_ (i:=2) (N:=some 45) (v:=?_) (a':=?_) #[true,true,true,false,false,false,false,false,false,false,false] rfl rfl (by kernel_rfl) (fun _ _ _ h=>h) (Or.inl ⟨by first|rfl|exact wanted_on rfl rfl rfl (by rfl),?_⟩) ?_ ?_
 rotate_left
 ·intro w'
  go_simp
  with_reducible rfl
 rotate_left
 ·simp only [Act.put,List.setIfInBounds_toArray,List.set_cons_zero,List.set_cons_succ,i64_w,i32_w]
  rfl
 refine pure_ (i:=3) (N:=some 46) (v:=?_) (a':=?_) #[true,true,true,true,false,false,false,false,false,false,false] rfl rfl (by kernel_rfl) (fun _ _ _ h=>h) (Or.inl ⟨by first|rfl|exact wanted_on rfl rfl rfl (by rfl),?_⟩) ?_ ?_
 rotate_left
 ·intro w'
  go_simp
  with_reducible rfl
 rotate_left
 ·simp only [Act.put,List.setIfInBounds_toArray,List.set_cons_zero,List.set_cons_succ,i64_w,i32_w]
  rfl
 refine take_ (i:=4) (N:=some 47) (v:=?_) (a':=?_) #[true,true,true,true,true,false,false,false,false,false,false] rfl rfl (by kernel_rfl) (fun _ _ _ h=>h) (Or.inl ⟨by first|rfl|exact wanted_on rfl rfl rfl (by rfl),?_⟩) hHeld ?_ ?_
 rotate_left
 ·rintro w' ⟨s0,s1,s2,s3,s4,s5,s6⟩
  go_simp
  with_reducible rfl
 rotate_left
 ·simp only [Act.put,List.setIfInBounds_toArray,List.set_cons_zero,List.set_cons_succ,i64_w,i32_w]
  rfl
 refine take_ (i:=5) (N:=some 48) (v:=?_) (a':=?_) #[true,true,true,true,true,true,false,false,false,false,false] rfl rfl (by kernel_rfl) (fun _ _ _ h=>h) (Or.inl ⟨by first|rfl|exact wanted_on rfl rfl rfl (by rfl),?_⟩) hHeld ?_ ?_
 rotate_left
 ·rintro w' ⟨s0,s1,s2,s3,s4,s5,s6⟩
  go_simp
  with_reducible rfl
 rotate_left
 ·simp only [Act.put,List.setIfInBounds_toArray,List.set_cons_zero,List.set_cons_succ,i64_w,i32_w]
  rfl
 refine one_ (i:=6) (N:=some 49) #[true,true,true,true,true,true,true,false,false,false,false] rfl rfl (by kernel_rfl) (by decide) (fun K hK=>?_)
 refine value_ (w1:=?_) (v:=?_) (by rfl) rfl ?_ ?_
 rotate_left 2
 ·go_simp
  constructor
  ·rfl
  rfl
 refine hK.out _ _ ⟨(blk_cell (blk_alloc BX4.out _) 0).trans (by rfl),(blk_cell (blk_alloc BX4.out _) 1).trans (by rfl),(blk_cell (blk_alloc BX4.out _) 2).trans (by rfl),(blk_cell (blk_alloc BX4.out _) 3).trans (by rfl),(blk_cell (blk_alloc BX4.out _) 4).trans (by rfl),(blk_cell (blk_alloc BX4.out _) 5).trans (by rfl),(blk_cell (blk_alloc HR4.out.blk _) 1).trans (by rfl)⟩ (fun hHeld=>?_)
 clear hK K
 refine norm_ (a':=?_) ?_ ?_
 rotate_left
 ·show Act.put _ (some 49) _ = _
  simp only [Act.put,List.setIfInBounds_toArray,List.set_cons_zero,List.set_cons_succ,i64_w,i32_w]
  rfl
 refine one_ (i:=7) (N:=some 50) #[true,true,true,true,true,true,true,true,false,false,false] rfl rfl (by kernel_rfl) (by decide) (fun K hK=>?_)
 refine Kd.S_append_step k34 (w0:=w0) w0.heap.size (by rfl) (.tmp 47) (.tmp 49) 23 34 (.agg #[.slice none 0 0,.bool false,.int .i64 0,.int .i64 0,.bool false,.int .i64 0]) 64 rfl Tryz.underlying23 info34 rfl (by decide) (by omega) vo (B.out.map scrS) (⟨L,⟨xo,xv⟩,xt,xh,kd⟩ : S34) [.slice A1 L.length c1,.bool xo,.int .i64 xv,.int .i64 xt,.bool xh,.int .i64 kd] (fun _=>True) (fun k=>w.heap.size ≤ k) rfl rfl ?aP (fun k hk=>⟨trivial,fun e=>by have:=HVB.out k e.symm;have hk2 : w.heap.size ≤ k:=hk;omega⟩) ?aF ?aO ?aB ?aS ?aL ?_
 (case aP=>exact k34_mkM _ _ _ _ HO4.out)
 (case aF=>exact (fun _ _=>trivial))
 (case aO=>exact Kd.S_mono HV4.out (fun k hk=>⟨trivial,fun h=>by have hk2 : k < w.heap.size:=hk;have h2 : w.heap.size ≤ k:=h;omega⟩))
 (case aB=>exact HR4.out.bel)
 (case aS=>exact HR4.out.bel.size)
 (case aL=>have:=HL.out;rw [List.length_map];omega)
 intro vo' w5 ho hb hg hat
 rw [HQ.out kd] at ho
 have HB':=HR4.out.outed ho hb hg
 have hB5:=blk_grown HR4.out.blk hg (Kd.S_ne HR4.out.out HR4.out.blk (by decide))
 have f5:=blk_frozen hB5 1
 have c5 : w5.cell? ⟨rb,1,none⟩ = some vo:=(blk_cell hB5 1).trans rfl
 have BX5:=blk_grown BX4.out hg HXB.out
 obtain ⟨A2,n2,rfl⟩:=Kd.S_slice ho
 rw [HKD.out.symm] at HB'
 simp only [List.length_append,List.length_map,List.length_singleton] at HB'
 have HB:=Aside0.mk HB'
 clear hb hg hat HB'
 refine hK.out _ _ ⟨(blk_cell BX5 0).trans (by rfl),(blk_cell BX5 1).trans (by rfl),(blk_cell BX5 2).trans (by rfl),(blk_cell BX5 3).trans (by rfl),(blk_cell BX5 4).trans (by rfl),(blk_cell BX5 5).trans (by rfl),(blk_cell hB5 1).trans (by rfl)⟩ (fun hHeld=>?_)
 clear hK K hB5 BX5 ho
 refine norm_ (a':=?_) ?_ ?_
 rotate_left
 ·show Act.put _ (some 50) _ = _
  simp only [Act.put,List.setIfInBounds_toArray,List.set_cons_zero,List.set_cons_succ,i64_w,i32_w]
  rfl
 refine pure_ (i:=8) (N:=some 51) (v:=?_) (a':=?_) #[true,true,true,true,true,true,true,true,true,false,false] rfl rfl (by kernel_rfl) (fun _ _ _ h=>h) (Or.inl ⟨by first|rfl|exact wanted_on rfl rfl rfl (by rfl),?_⟩) ?_ ?_
 rotate_left
 ·intro w'
  go_simp
  with_reducible rfl
 rotate_left
 ·simp only [Act.put,List.setIfInBounds_toArray,List.set_cons_zero,List.set_cons_succ,i64_w,i32_w]
  rfl
 refine pure_ (i:=9) (N:=some 52) (v:=?_) (a':=?_) #[true,true,true,true,true,true,true,true,true,true,false] rfl rfl (by kernel_rfl) (fun _ _ _ h=>h) (Or.inl ⟨by first|rfl|exact wanted_on rfl rfl rfl (by rfl),?_⟩) ?_ ?_
 rotate_left
 ·intro w'
  go_simp
  with_reducible rfl
 rotate_left
 ·simp only [Act.put,List.setIfInBounds_toArray,List.set_cons_zero,List.set_cons_succ,i64_w,i32_w]
  rfl
 refine last_ (i:=10) (N:=none) #[true,true,true,true,true,true,true,true,true,true,true] rfl rfl (by kernel_rfl) (by decide) (fun Kz hKz=>?_)
 refine skip_ (w1:=w5.setCell ⟨rb,1,none⟩ (.slice A2 (B.out.length + 1) n2)) rfl rfl ?hrun ?_
 case hrun =>
  clear hHeld
  first|(go_simp;done)|(go_simp;rfl)
 refine hKz.out _ _ ?_
 clear hKz Kz
 refine done_ (by kernel_rfl) ?_
 go_wp2
 go_end0
 refine ⟨rfl,_,HB.out⟩
/-! expo.Parse -/
theorem RdW.mono {lb : Nat} {lc : Array Value} {w0 w : World} {rb mb n m : Nat} {vo vb : Value} {B : Bod} (h : RdW lb lc w0 w rb mb n vo vb B) (hm : n ≤ m) : RdW lb lc w0 w rb mb m vo vb B :=
 ⟨h.blk,h.map.mono hm,h.out,h.bad,h.low,h.bel,h.lin,h.linlow⟩
theorem line_calls {lb : Nat} {lc : Array Value} (w0 w : World) (rb mb n : Nat) (vo vb : Value) (B : Bod) (i : Int) (s : ByteArray) (hg_ : LaidW w) (h : RdW lb lc w0 w rb mb n vo vb B) (hn : n < 1000000) (hs : s.size ≤ 3000) (hlo : B.out.length ≤ 100000) (hlb : B.bad.length ≤ 100000) :
  Calls Tryz.prog 26 #[.pointer (some ⟨rb,0,none⟩),.int .i64 i,.string s] w fun e w'=>e = .returned (.tuple #[]) ∧ ∃ vo' vb',RdW lb lc w0 w' rb mb (n + 1) vo' vb' (stepB B i s.data.toList):=by
 cases hc : s.data.toList with
 | nil =>
  have e : s = ⟨#[]⟩:=by
   cases s with
   | mk a=>cases a with
    | mk l=>cases hc;rfl
  subst e
  exact (line_empty w rb i).mono (fun e w' ⟨h1,h2⟩=>⟨h1,vo,vb,by rw [h2];exact h.mono (by omega)⟩)
 | cons c r =>
  by_cases h35 : c = 35
  ·subst h35
   refine (line_typed w0 w rb mb n vo vb B i s hg_ h hn hs r hc).mono (fun e w' ⟨h1,h2⟩=>⟨h1,vo,vb,?_⟩)
   rw [hc] at h2
   unfold typK at h2
   unfold stepB
   simp only [if_true]
   cases ht : typeS (35 :: r) with
   | none=>rw [ht] at h2;exact h2
   | some x=>rw [ht] at h2;exact h2
  cases hl : lineS s.data.toList with
  | error er =>
   refine (line_bad w0 w rb mb n vo vb B i s hg_ h hs c r hc h35 er hl hlb).mono (fun e w' ⟨h1,vb',h2⟩=>⟨h1,vo,vb',?_⟩)
   rw [hc] at hl
   unfold stepB
   simp only [if_neg h35,hl]
   exact h2.mono (by omega)
  | ok x =>
   refine (line_ok w0 w rb mb n vo vb B i s hg_ h hs c r hc h35 x hl hlo).mono (fun e w' ⟨h1,vo',h2⟩=>⟨h1,vo',vb,?_⟩)
   rw [hc] at hl
   unfold stepB
   simp only [if_neg h35,hl]
   exact h2.mono (by omega)
theorem step_len (B : Bod) (i : Int) (s : List UInt8) : (stepB B i s).out.length ≤ B.out.length + 1 ∧ (stepB B i s).bad.length ≤ B.bad.length + 1:=by
 unfold stepB
 split
 ·exact ⟨by omega,by omega⟩
 split
 ·split
  ·exact ⟨by show B.out.length ≤ _;omega,by show B.bad.length ≤ _;omega⟩
  exact ⟨by omega,by omega⟩
 split
 ·exact ⟨by show B.out.length ≤ _;omega,by simp⟩
 exact ⟨by simp,by show B.bad.length ≤ _;omega⟩
def expo_Parse.f (a0 : ByteArray) : Option (List S34 × List S43):=some ((scrapeS a0.data.toList).1.map scrS,(scrapeS a0.data.toList).2.map badS)
set_option maxHeartbeats 4000000 in
set_option maxRecDepth 100000 in
theorem parse_long (a0 : ByteArray) (w : World) (h : 3000 < a0.size) :
  Calls Tryz.prog 10 #[.string a0] w fun e w'=>∃ v1 : Value,e = .returned (.tuple #[.slice none 0 0,v1]) ∧ Kd.R k43 43 w' w.heap.size (fun _=>True) v1 [⟨0,11⟩] ∧ Below w.heap.size w w':=by
 have q1 : decide ((3000 : Int) < (a0.size : Int)) = true:=decide_eq_true (by omega)
 have q2 : decide (3000 < a0.size) = true:=decide_eq_true (by omega)
 have q3 : (3000 < a0.size) = True:=eq_true h
 clear h
 go_enter Tryz.func10,Tryz.ntmps10
 go_wp2_with (fail)
 go_ret2
 refine ⟨_,rfl,⟨fun _ _=>trivial,[.int .i64 0,.int .i64 11],?_,?_⟩,below_alloc (Below.refl _ _) _⟩
 ·exact World.ownsRow_lit (base:=w.heap.size) (e:=43) (size:=2) w #[.int .i64 0,.int .i64 11] 1 (Nat.le_refl _) (by decide) rfl
 refine ⟨rfl,fun j p hj=>?_⟩
 cases j with
 | zero =>
  obtain rfl : (⟨0,11⟩ : S43) = p:=by simpa using hj
  exact k43_mkM _ _ _ _
 | succ j=>simp at hj
set_option maxHeartbeats 4000000 in
set_option maxRecDepth 100000 in
theorem parse_short (a0 : ByteArray) (w : World) (hg_ : LaidW w) (h : a0.size ≤ 3000) :
  Calls Tryz.prog 10 #[.string a0] w fun e w'=>∃ v0 v1 : Value,e = .returned (.tuple #[v0,v1]) ∧ Kd.S k34 34 w' w.heap.size (fun _=>True) v0 ((runB ⟨[],[],[]⟩ 1 (linesS [] a0.data.toList)).out.map scrS) ∧ Kd.R k43 43 w' w.heap.size (fun _=>True) v1 ((runB ⟨[],[],[]⟩ 1 (linesS [] a0.data.toList)).bad.map badS) ∧ Below w.heap.size w w':=by
 have q1 : decide ((3000 : Int) < (a0.size : Int)) = false:=decide_eq_false (by omega)
 have q2 : decide (3000 < a0.size) = false:=decide_eq_false (by omega)
 have q3 : (3000 < a0.size) = False:=eq_false (by omega)
 have hW : linesS [] a0.data.toList = sepS 10 [] a0.data.toList:=lines_sep _ _
 rw [hW]
 have hsz : a0.data.toList.length = a0.size:=Array.length_toList
 have hlen : (sepS 10 [] a0.data.toList).length ≤ 10000:=by have:=sep_len 10 a0.data.toList [];omega
 have heach : ∀ l ∈ sepS 10 [] a0.data.toList,l.length ≤ 3000:=by
  intro l hl
  have h1:=sep_each 10 a0.data.toList [] l hl
  simp only [List.length_nil] at h1
  omega
 have hsp:=split_calls 10 a0 ((w.alloc (.map #[] 0)).alloc (.cells #[.map (some w.heap.size),.slice none 0 0,.slice none 0 0] 70)) (LaidW.below hg_ (below_alloc (below_alloc (Below.refl _ _) _) _)) (by omega)
 generalize sepS 10 [] a0.data.toList = L at hsp hlen heach ⊢
 have hmk : (Instr.makeMap 66 none).run Tryz.prog w = .ok (.map (some w.heap.size)) (w.alloc (.map #[] 0)):=by kernel_rfl
 have HG:=Aside0.mk hg_
 have HE:=Aside0.mk heach
 have HN:=Aside0.mk hlen
 clear hg_ h hW hsz hlen heach
 go_enter Tryz.func10,Tryz.ntmps10
 go_wp2_with (fail)
 refine hsp.mono ?_
 rintro e1 w1 ⟨rfl,rfl⟩
 have hR0 : RdW (w.heap.size + 2) (L.map fun l=>Value.string (ofL l)).toArray w (((w.alloc (.map #[] 0)).alloc (.cells #[.map (some w.heap.size),.slice none 0 0,.slice none 0 0] 70)).alloc (.cells (L.map fun l=>Value.string (ofL l)).toArray 9)) (w.heap.size + 1) w.heap.size 0 (.slice none 0 0) (.slice none 0 0) ⟨[],[],[]⟩:=by
  refine ⟨?_,(MapK.made w).below (below_alloc (below_alloc (Below.refl _ _) _) _),Kd.S_nil _ _ _ _ _,Kd.R_nil _ _ _ _ _,⟨by omega,by omega⟩,below_alloc (below_alloc (below_alloc (Below.refl _ _) _) _) _,?_,by omega⟩
  ·exact blk_alloc (by have h:=heap_alloc_new (w.alloc (.map #[] 0)) (.cells #[.map (some w.heap.size),.slice none 0 0,.slice none 0 0] 70);rw [show (w.alloc (.map #[] 0)).heap.size = w.heap.size + 1 from by unfold World.alloc;simp] at h;exact h) _
  have h:=heap_alloc_new ((w.alloc (.map #[] 0)).alloc (.cells #[.map (some w.heap.size),.slice none 0 0,.slice none 0 0] 70)) (.cells (L.map fun l=>Value.string (ofL l)).toArray 9)
  rw [show ((w.alloc (.map #[] 0)).alloc (.cells #[.map (some w.heap.size),.slice none 0 0,.slice none 0 0] 70)).heap.size = w.heap.size + 2 from by unfold World.alloc;simp] at h
  exact h
 have HR:=Aside0.mk hR0
 clear hsp hR0 hmk
 have hsz : ((w.alloc (.map #[] 0)).alloc (.cells #[.map (some w.heap.size),.slice none 0 0,.slice none 0 0] 70)).heap.size = w.heap.size + 2:=by unfold World.alloc;simp
 rw [hsz]
 clear hsz
 generalize hmb : w.heap.size = mb at HR ⊢
 generalize ((w.alloc (.map #[] 0)).alloc (.cells #[.map (some mb),.slice none 0 0,.slice none 0 0] 70)).alloc (.cells (L.map fun l=>Value.string (ofL l)).toArray 9) = ws at HR ⊢
 go_wp2_with (fail)
 go_loopg [5,6,19] L.length (fun gg s5 s6 s19 wr=>∃ (i n : Nat) (vo vb : Value) (B : Bod),s19 = .int .i64 i ∧ L.length - i ≤ gg ∧ Aside0 (i ≤ L.length ∧ n ≤ i ∧ B.out.length ≤ i ∧ B.bad.length ≤ i) ∧ Aside0 (runB B ((i : Int) + 1) (L.drop i) = runB ⟨[],[],[]⟩ 1 L) ∧ Aside0 (RdW (mb + 2) (L.map fun l=>Value.string (ofL l)).toArray w wr (mb + 1) mb n vo vb B))
 case atStart=>exact ⟨0,0,_,_,⟨[],[],[]⟩,rfl,by omega,⟨⟨by omega,by omega,by simp,by simp⟩⟩,⟨rfl⟩,HR⟩
 clear HR
 obtain ⟨i,n,vo,vb,B,rfl,hgg,HI,HQ,HR⟩:=hrel
 by_cases hlt : i < L.length
 ·have hltz : (i : Int) < (L.length : Int):=by omega
  have hLi : L[i]? = some L[i]:=List.getElem?_eq_getElem hlt
  have x0 : wr.cell? ⟨mb + 2,i,none⟩ = some (.string (ofL L[i])):=(blk_cell HR.out.lin i).trans (by simp [hLi])
  have hmem : L[i] ∈ L:=List.getElem_mem hlt
  have hB:=(HR.out.bel)
  have hline:=fun j=>line_calls w wr (mb + 1) mb n vo vb B j (ofL L[i]) (LaidW.below HG.out hB) HR.out (by have:=HI.out;have:=HN.out;omega) (by rw [ofL_size];exact HE.out _ hmem) (by have:=HI.out;have:=HN.out;omega) (by have:=HI.out;have:=HN.out;omega)
  have HD:=Aside0.mk (show L.drop i = L[i] :: L.drop (i + 1) from List.drop_eq_getElem_cons hlt)
  have hdl : (ofL L[i]).data.toList = L[i]:=rfl
  rw [hdl] at hline
  clear hB hLi hmem hdl
  generalize L[i] = l at *
  go_wp2_with (fail)
  refine (hline _).mono ?_
  rintro e w2 ⟨rfl,vo',vb',h2⟩
  have hw : wrap64 ((i : Int) + 1) = ((i + 1 : Nat) : Int):=wrap_succ i (by have:=HI.out;have:=HN.out;omega)
  rw [hw] at h2
  have hst:=step_len B ((i + 1 : Nat) : Int) l
  have HR2:=Aside0.mk h2
  clear h2 hline x0
  go_wp2
  go_roundg (L.length - (i + 1))
  case measure=>omega
  case rel=>exact ⟨i + 1,n + 1,vo',vb',_,by rw [hw],by omega,⟨by have:=HI.out;omega⟩,⟨by have h:=HQ.out;rw [HD.out,runB] at h;rw [← h];push_cast;rfl⟩,HR2⟩
 obtain rfl : i = L.length:=by have:=HI.out;omega
 have hltz : ¬ ((L.length : Int) < (L.length : Int)):=by omega
 have hBo:=HQ.out
 rw [List.drop_length,runB] at hBo
 have HBo:=Aside0.mk hBo
 have HZ:=HR.out
 have c0 : wr.cell? ⟨mb + 1,1,none⟩ = some vo:=(blk_cell HZ.blk 1).trans rfl
 have c1 : wr.cell? ⟨mb + 1,2,none⟩ = some vb:=(blk_cell HZ.blk 2).trans rfl
 obtain ⟨A0,n0,rfl⟩:=Kd.S_slice HZ.out
 obtain ⟨A1,n1,rfl⟩:=Kd.R_slice HZ.bad
 clear hBo HZ HQ HI hlt hgg
 go_wp2_with (fail)
 go_quiet (fail)
 go_wp2
 go_ret2
 have hO:=Kd.S_drewN HR.out.out nq
 have hB:=Kd.R_drewN HR.out.bad nq
 have hb:=pw_below_drewN HR.out.bel nq
 rw [HBo.out] at hO hB
 rw [HBo.out]
 simp only [List.length_map] at hO hB
 try rw [← hmb]
 exact ⟨_,_,rfl,hO,hB,hb⟩
theorem expo_Parse.calls (a0 : ByteArray) (r1 : List S34) (r2 : List S43) (w : World) (hg_ : LaidW w) (h : expo_Parse.f a0 = some (r1,r2)) :
  Calls Tryz.prog 10 #[.string a0] w fun e w'=>∃ v0_ v1_ : Value,e = .returned (.tuple #[v0_,v1_]) ∧ Kd.S k34 34 w' w.heap.size (fun _=>True) v0_ r1 ∧ Kd.R k43 43 w' w.heap.size (fun _=>True) v1_ r2 ∧ Below w.heap.size w w':=by
 unfold expo_Parse.f scrapeS at h
 have hsz : a0.data.toList.length = a0.size:=Array.length_toList
 by_cases hl : 3000 < a0.size
 ·rw [if_pos (by rw [hsz];exact hl)] at h
  cases h
  exact (parse_long a0 w hl).mono (fun e w' ⟨v1,h1,h2,h3⟩=>⟨_,v1,h1,Kd.S_nil _ _ _ _ _,h2,h3⟩)
 rw [if_neg (by rw [hsz];exact hl)] at h
 cases h
 exact parse_short a0 w hg_ (by omega)
end Go.Proofs.YtfgffjchphignaaGreatDoor.Print
end
section
namespace Go.Proofs.YtfgffjchphignaaGreatDoor.Print
open Go.RowKit Go.Proofs.YtfgffjchphignaaGreatDoorX Go.Proofs.YtfgffjchphignaaGreatDoorW.PrintWords Go.Proofs.YtfgffjchphignaaGreatDoorW.PrintLast Go.Proofs.YtfgffjchphignaaGreatDoorW.PrintMore
/-! ### spillwaylaw6_known: function 9 -/
def spillwaylaw6_known.f (k : Nat)  : Option (Bool):=(expo_Parse.f (⟨#[35,32,84,89,80,69,32,117,112,32,103,97,117,103,101,10,117,112,123,106,111,98,61,34,97,32,98,34,125,32,49,46,53,32,55,10,10,119,104,97,116,10,117,112,32,111,118,102,10]⟩ : ByteArray)).bind fun bt181=>((expo_Line.f k (⟨#[117,112,32,120]⟩ : ByteArray)).bind fun bt187=>(if (bt181.1.length : Int) = 2 then (if 0 < (bt181.1.length : Int) then (if ((rd_T34 bt181.1 0).f2) = 7 then (if (rd_T34 bt181.1 0).f3 = true then (if ((rd_T34 bt181.1 0).f4) = 2 then (if ((rd_T34 bt181.1 0).f1.f1) = 1500000 then (if 1 < (bt181.1.length : Int) then (if (rd_T34 bt181.1 1).f1.f0 = true then (if (bt181.2.length : Int) = 1 then (if 0 < (bt181.2.length : Int) then (if ((rd_T43 bt181.2 0).f0) = 4 then (if ((rd_T43 bt181.2 0).f1) = 12 then (some (bt187.2.2.2.2.2.2 == 20)) else (none)) else (none)) else (none)) else (none)) else (none)) else (none)) else (none)) else (none)) else (none)) else (none)) else (none)) else (none)))
set_option maxHeartbeats 8000000 in
set_option maxRecDepth 100000 in
theorem spillwaylaw6_known.calls (k : Nat)  (r : Bool) (w : World) (hg_ : LaidW w) (h : spillwaylaw6_known.f k  = some r) :
  Calls Tryz.prog 9 #[] w fun e w'=>e = .returned (.bool r) ∧ Below w.heap.size w w':=by
 have HLW:=Aside0.mk hg_
 clear hg_
 have hu34:=Tryz.underlying34
 have HB:=Aside0.mk (Below.refl w.heap.size w)
 have H : ((expo_Parse.f (⟨#[35,32,84,89,80,69,32,117,112,32,103,97,117,103,101,10,117,112,123,106,111,98,61,34,97,32,98,34,125,32,49,46,53,32,55,10,10,119,104,97,116,10,117,112,32,111,118,102,10]⟩ : ByteArray)).bind fun bt181=>((expo_Line.f k (⟨#[117,112,32,120]⟩ : ByteArray)).bind fun bt187=>(if (bt181.1.length : Int) = 2 then (if 0 < (bt181.1.length : Int) then (if ((rd_T34 bt181.1 0).f2) = 7 then (if (rd_T34 bt181.1 0).f3 = true then (if ((rd_T34 bt181.1 0).f4) = 2 then (if ((rd_T34 bt181.1 0).f1.f1) = 1500000 then (if 1 < (bt181.1.length : Int) then (if (rd_T34 bt181.1 1).f1.f0 = true then (if (bt181.2.length : Int) = 1 then (if 0 < (bt181.2.length : Int) then (if ((rd_T43 bt181.2 0).f0) = 4 then (if ((rd_T43 bt181.2 0).f1) = 12 then (some (bt187.2.2.2.2.2.2 == 20)) else (none)) else (none)) else (none)) else (none)) else (none)) else (none)) else (none)) else (none)) else (none)) else (none)) else (none)) else (none)))) = some r:=h
 clear h
 replace H:=Option.bind_eq_some_iff.mp H
 obtain ⟨⟨t181,t182⟩,A10,H⟩:=H
 replace H : ((expo_Line.f k (⟨#[117,112,32,120]⟩ : ByteArray)).bind fun bt187=>(if (t181.length : Int) = 2 then (if 0 < (t181.length : Int) then (if ((rd_T34 t181 0).f2) = 7 then (if (rd_T34 t181 0).f3 = true then (if ((rd_T34 t181 0).f4) = 2 then (if ((rd_T34 t181 0).f1.f1) = 1500000 then (if 1 < (t181.length : Int) then (if (rd_T34 t181 1).f1.f0 = true then (if (t182.length : Int) = 1 then (if 0 < (t182.length : Int) then (if ((rd_T43 t182 0).f0) = 4 then (if ((rd_T43 t182 0).f1) = 12 then (some (bt187.2.2.2.2.2.2 == 20)) else (none)) else (none)) else (none)) else (none)) else (none)) else (none)) else (none)) else (none)) else (none)) else (none)) else (none)) else (none))) = some r:=H
 have A1:=Aside0.mk A10
 clear A10
 replace H:=Option.bind_eq_some_iff.mp H
 obtain ⟨⟨t187,t190,t191,t192,t193,t194,t195⟩,A20,H⟩:=H
 replace H : (if (t181.length : Int) = 2 then (if 0 < (t181.length : Int) then (if ((rd_T34 t181 0).f2) = 7 then (if (rd_T34 t181 0).f3 = true then (if ((rd_T34 t181 0).f4) = 2 then (if ((rd_T34 t181 0).f1.f1) = 1500000 then (if 1 < (t181.length : Int) then (if (rd_T34 t181 1).f1.f0 = true then (if (t182.length : Int) = 1 then (if 0 < (t182.length : Int) then (if ((rd_T43 t182 0).f0) = 4 then (if ((rd_T43 t182 0).f1) = 12 then (some (t195 == 20)) else (none)) else (none)) else (none)) else (none)) else (none)) else (none)) else (none)) else (none)) else (none)) else (none)) else (none)) else (none)) = some r:=H
 have A2:=Aside0.mk A20
 clear A20
 by_cases c3 : (t181.length : Int) = 2
 ·rw [if_pos c3] at H
  have c3b0 : ((t181.length : Int) == 2) = true:=beq_iff_eq.mpr c3
  have c3b1 : ((t181.length : Int) != 2) = false:=bne_eq_false_iff_eq.mpr c3
  clear c3
  by_cases c4 : 0 < (t181.length : Int)
  ·rw [if_pos c4] at H
   have c4b0 : decide (0 < (t181.length : Int)) = true:=decide_eq_true c4
   have c4b1 : decide (0 < t181.length) = true:=decide_eq_true (by omega)
   clear c4
   by_cases c5 : ((rd_T34 t181 0).f2) = 7
   ·rw [if_pos c5] at H
    have c5b0 : (((rd_T34 t181 0).f2) == 7) = true:=beq_iff_eq.mpr c5
    have c5b1 : (((rd_T34 t181 0).f2) != 7) = false:=bne_eq_false_iff_eq.mpr c5
    clear c5
    obtain ⟨bq6,hbq6⟩ : ∃ b_ : Bool,b_ = ((rd_T34 t181 0).f3):=⟨_,rfl⟩
    replace H : (if bq6 = true then (if ((rd_T34 t181 0).f4) = 2 then (if ((rd_T34 t181 0).f1.f1) = 1500000 then (if 1 < (t181.length : Int) then (if (rd_T34 t181 1).f1.f0 = true then (if (t182.length : Int) = 1 then (if 0 < (t182.length : Int) then (if ((rd_T43 t182 0).f0) = 4 then (if ((rd_T43 t182 0).f1) = 12 then (some (t195 == 20)) else (none)) else (none)) else (none)) else (none)) else (none)) else (none)) else (none)) else (none)) else (none)) = some r:=by rw [← hbq6] at H;exact H
    have Nbq6:=Aside0.mk hbq6
    clear hbq6
    by_cases c7 : bq6 = true
    ·subst c7
     have H1 : (if ((rd_T34 t181 0).f4) = 2 then (if ((rd_T34 t181 0).f1.f1) = 1500000 then (if 1 < (t181.length : Int) then (if (rd_T34 t181 1).f1.f0 = true then (if (t182.length : Int) = 1 then (if 0 < (t182.length : Int) then (if ((rd_T43 t182 0).f0) = 4 then (if ((rd_T43 t182 0).f1) = 12 then (some (t195 == 20)) else (none)) else (none)) else (none)) else (none)) else (none)) else (none)) else (none)) else (none)) = some r:=by rw [if_pos rfl] at H;exact H
     clear H
     have H:=H1
     clear H1
     by_cases c8 : ((rd_T34 t181 0).f4) = 2
     ·rw [if_pos c8] at H
      have c8b0 : (((rd_T34 t181 0).f4) == 2) = true:=beq_iff_eq.mpr c8
      have c8b1 : (((rd_T34 t181 0).f4) != 2) = false:=bne_eq_false_iff_eq.mpr c8
      clear c8
      by_cases c9 : ((rd_T34 t181 0).f1.f1) = 1500000
      ·rw [if_pos c9] at H
       have c9b0 : (((rd_T34 t181 0).f1.f1) == 1500000) = true:=beq_iff_eq.mpr c9
       have c9b1 : (((rd_T34 t181 0).f1.f1) != 1500000) = false:=bne_eq_false_iff_eq.mpr c9
       clear c9
       by_cases c10 : 1 < (t181.length : Int)
       ·rw [if_pos c10] at H
        have c10b0 : decide (1 < (t181.length : Int)) = true:=decide_eq_true c10
        have c10b1 : decide (1 < t181.length) = true:=decide_eq_true (by omega)
        clear c10
        obtain ⟨bq11,hbq11⟩ : ∃ b_ : Bool,b_ = ((rd_T34 t181 1).f1.f0):=⟨_,rfl⟩
        replace H : (if bq11 = true then (if (t182.length : Int) = 1 then (if 0 < (t182.length : Int) then (if ((rd_T43 t182 0).f0) = 4 then (if ((rd_T43 t182 0).f1) = 12 then (some (t195 == 20)) else (none)) else (none)) else (none)) else (none)) else (none)) = some r:=by rw [← hbq11] at H;exact H
        have Nbq11:=Aside0.mk hbq11
        clear hbq11
        by_cases c12 : bq11 = true
        ·subst c12
         have H1 : (if (t182.length : Int) = 1 then (if 0 < (t182.length : Int) then (if ((rd_T43 t182 0).f0) = 4 then (if ((rd_T43 t182 0).f1) = 12 then (some (t195 == 20)) else (none)) else (none)) else (none)) else (none)) = some r:=by rw [if_pos rfl] at H;exact H
         clear H
         have H:=H1
         clear H1
         by_cases c13 : (t182.length : Int) = 1
         ·rw [if_pos c13] at H
          have c13b0 : ((t182.length : Int) == 1) = true:=beq_iff_eq.mpr c13
          have c13b1 : ((t182.length : Int) != 1) = false:=bne_eq_false_iff_eq.mpr c13
          clear c13
          by_cases c14 : 0 < (t182.length : Int)
          ·rw [if_pos c14] at H
           have c14b0 : decide (0 < (t182.length : Int)) = true:=decide_eq_true c14
           have c14b1 : decide (0 < t182.length) = true:=decide_eq_true (by omega)
           clear c14
           by_cases c15 : ((rd_T43 t182 0).f0) = 4
           ·rw [if_pos c15] at H
            have c15b0 : (((rd_T43 t182 0).f0) == 4) = true:=beq_iff_eq.mpr c15
            have c15b1 : (((rd_T43 t182 0).f0) != 4) = false:=bne_eq_false_iff_eq.mpr c15
            clear c15
            by_cases c16 : ((rd_T43 t182 0).f1) = 12
            ·rw [if_pos c16] at H
             have c16b0 : (((rd_T43 t182 0).f1) == 12) = true:=beq_iff_eq.mpr c16
             have c16b1 : (((rd_T43 t182 0).f1) != 12) = false:=bne_eq_false_iff_eq.mpr c16
             clear c16
             obtain rfl:=Option.some.inj H
             go_enter Tryz.func9,Tryz.ntmps9
             go_wp2_with (first|((with_reducible refine gate_callee (f:=10) rfl ?_);refine goesL_ (some 6) rfl rfl Tryz.func10 (by kernel_rfl) rfl #[.string (⟨#[35,32,84,89,80,69,32,117,112,32,103,97,117,103,101,10,117,112,123,106,111,98,61,34,97,32,98,34,125,32,49,46,53,32,55,10,10,119,104,97,116,10,117,112,32,111,118,102,10]⟩ : ByteArray)] rfl (by (try simp only [List.map_toArray,List.map_cons,List.map_nil]);first|done|rfl|(simp only [List.length_drop,List.length_take];rfl)) ?_;(with_reducible refine (expo_Parse.calls (⟨#[35,32,84,89,80,69,32,117,112,32,103,97,117,103,101,10,117,112,123,106,111,98,61,34,97,32,98,34,125,32,49,46,53,32,55,10,10,119,104,97,116,10,117,112,32,111,118,102,10]⟩ : ByteArray) t181 t182 _ ?side1 A1.out).mono ?_);(case side1=>exact LaidW.below HLW.out (by repeat (first|(with_reducible first|exact HB.out|apply below_alloc|apply pw_below_drewN|apply below_drew1)|exact HB.out|(refine below_set ?_ (Aside0.out ?hge);(case hge=>assumption)))));rintro e w17 ⟨v183,v185,rfl,ho0,ho1,hb⟩;refine ⟨_,rfl,?_⟩;have n0_:=Aside0.mk (Kd.S_lower ho0 (below_size (by repeat (first|(with_reducible first|exact HB.out|apply below_alloc|apply pw_below_drewN|apply below_drew1)|exact HB.out))));have n1_:=Aside0.mk (Kd.R_lower ho1 (below_size (by repeat (first|(with_reducible first|exact HB.out|apply below_alloc|apply pw_below_drewN|apply below_drew1)|exact HB.out))));have n2_:=Aside0.mk (below_step (by repeat (first|(with_reducible first|exact HB.out|apply below_alloc|apply pw_below_drewN|apply below_drew1)|exact HB.out)) hb);clear HB;have HO184:=n0_;have HO186:=n1_;have HB:=n2_;clear n0_ n1_ n2_;(try clear hb);(try clear hb2);(try clear hk);(try clear hi);(try clear ho0);(try clear ho1))|((with_reducible refine gate_callee (f:=12) rfl ?_);refine goesL_ (some 10) rfl rfl Tryz.func12 (by kernel_rfl) rfl #[.string (⟨#[117,112,32,120]⟩ : ByteArray)] rfl (by (try simp only [List.map_toArray,List.map_cons,List.map_nil]);first|done|rfl|(simp only [List.length_drop,List.length_take];rfl)) ?_;(with_reducible refine (expo_Line.calls k (⟨#[117,112,32,120]⟩ : ByteArray) t187 t190 t191 t192 t193 t194 t195 _ ?side1 A2.out).mono ?_);(case side1=>exact LaidW.below HLW.out (by repeat (first|(with_reducible first|exact HB.out|apply below_alloc|apply pw_below_drewN|apply below_drew1)|exact HB.out|(refine below_set ?_ (Aside0.out ?hge);(case hge=>assumption)))));rintro e w18 ⟨v188,rfl,ho0,hb⟩;refine ⟨_,rfl,?_⟩;have n0_:=Aside0.mk (Kd.S_elder' (by (with_reducible repeat (first|apply Kd.S_alloc|apply Kd.S_drewN|apply Kd.S_drew));exact HO184.out) (Kd.R_base ho0) hb);have n1_:=Aside0.mk (Kd.R_below (by (with_reducible repeat (first|apply Kd.R_alloc|apply Kd.R_drewN|apply Kd.R_drew));exact HO186.out) hb);have n2_:=Aside0.mk (Kd.R_lower ho0 (below_size (by repeat (first|(with_reducible first|exact HB.out|apply below_alloc|apply pw_below_drewN|apply below_drew1)|exact HB.out))));have n3_:=Aside0.mk (below_step (by repeat (first|(with_reducible first|exact HB.out|apply below_alloc|apply pw_below_drewN|apply below_drew1)|exact HB.out)) hb);clear HO184;clear HO186;clear HB;have HO184:=n0_;have HO186:=n1_;have HO189:=n2_;have HB:=n3_;clear n0_ n1_ n2_ n3_;(try clear hb);(try clear hb2);(try clear hk);(try clear hi);(try clear ho0))|((with_reducible refine gate_dst (N:=3) rfl ?_);(try (refine gate_guard (by rfl) ?_;dsimp only));refine box_event ?hg (N:=3) ?hd (cs:=#[.slice none 0 0,.bool false,.int .i64 0,.int .i64 0,.bool false,.int .i64 0]) (t:=34) ?hr ?_;(case hd=>rfl);(case hg=>rfl);(case hr=>first|(go_simp;done)|(go_simp;rfl));intro gb196 hg w19 hbox hb;have n0_:=Aside0.mk (Kd.S_below (Kd.S_elderB (by (with_reducible repeat (first|apply Kd.S_alloc|apply Kd.S_drewN|apply Kd.S_drew));exact HO184.out) gb196 (Nat.le_of_eq hg.symm)) hb);have n1_:=Aside0.mk (Kd.R_below (by (with_reducible repeat (first|apply Kd.R_alloc|apply Kd.R_drewN|apply Kd.R_drew));exact HO186.out) hb);have n2_:=Aside0.mk (Kd.R_below (by (with_reducible repeat (first|apply Kd.R_alloc|apply Kd.R_drewN|apply Kd.R_drew));exact HO189.out) hb);have n3_:=Aside0.mk (below_step (by repeat (first|(with_reducible first|exact HB.out|apply below_alloc|apply pw_below_drewN|apply below_drew1)|exact HB.out)) hb);have n4_:=Aside0.mk (hbox);have n5_:=Aside0.mk ((by rw [hg];exact (below_size (by repeat (first|(with_reducible first|exact HB.out|apply below_alloc|apply pw_below_drewN|apply below_drew1)|exact HB.out))) : w.heap.size ≤ gb196));have n6_:=Aside0.mk ((by rw [hg];exact (below_size (by repeat (first|(with_reducible first|exact HB.out|apply below_alloc|apply pw_below_drewN|apply below_drew1)|exact HB.out))) : w.heap.size ≤ gb196));clear HO184;clear HO186;clear HO189;clear HB;have HO184:=n0_;have HO186:=n1_;have HO189:=n2_;have HB:=n3_;have BK196:=n4_;have GW196:=n5_;have GE196:=n6_;clear n0_ n1_ n2_ n3_ n4_ n5_ n6_;clear hb hbox hg;obtain ⟨Ao20,co20,eo20⟩:=Kd.R_slice HO189.out;subst eo20;have hcz21_0 : w19.cell? ⟨gb196,0,none⟩ = some (.slice none 0 0):=(blk_cell BK196.out 0).trans rfl;have hcz21_1 : w19.cell? ⟨gb196,1,none⟩ = some (.bool false):=(blk_cell BK196.out 1).trans rfl;have hcz21_2 : w19.cell? ⟨gb196,2,none⟩ = some (.int .i64 0):=(blk_cell BK196.out 2).trans rfl;have hcz21_3 : w19.cell? ⟨gb196,3,none⟩ = some (.int .i64 0):=(blk_cell BK196.out 3).trans rfl;have hcz21_4 : w19.cell? ⟨gb196,4,none⟩ = some (.bool false):=(blk_cell BK196.out 4).trans rfl;have hcz21_5 : w19.cell? ⟨gb196,5,none⟩ = some (.int .i64 0):=(blk_cell BK196.out 5).trans rfl;have hfz21_0:=blk_frozen BK196.out 0;have hfz21_1:=blk_frozen BK196.out 1;have hfz21_2:=blk_frozen BK196.out 2;have hfz21_3:=blk_frozen BK196.out 3;have hfz21_4:=blk_frozen BK196.out 4;have hfz21_5:=blk_frozen BK196.out 5)|((with_reducible refine gate_store (t:=34) (p:=3) rfl ?_);refine store_event (t:=34) (p:=3) (v:=?vo_w22) (w1:=((((((w19.setCell ⟨gb196,0,none⟩ (.slice Ao20 t187.length co20)).setCell ⟨gb196,1,none⟩ (.bool t190)).setCell ⟨gb196,2,none⟩ (.int .i64 t191)).setCell ⟨gb196,3,none⟩ (.int .i64 t192)).setCell ⟨gb196,4,none⟩ (.bool t193)).setCell ⟨gb196,5,none⟩ (.int .i64 t194))) ?hg ?ho ?hn ?hr ?_;(case ho=>rfl);(case hg=>rfl);(case hn=>rfl);(case hr=>first|(go_simp;done)|(go_simp;rfl));intro w22 hw;have n0_ : Aside0 (Kd.S k34 34 w22 w.heap.size (fun k_=>some k_ ≠ (.slice Ao20 t187.length co20 : Value).ownBlock ∧ k_ ≠ gb196) v183 t181):=⟨(by rw [hw];exact (by (with_reducible repeat (first|apply Kd.S_alloc|apply Kd.S_drewN|apply Kd.S_drew));exact Kd.S_mono (Kd.S_far (p:=⟨gb196,5,none⟩) (Kd.S_far (p:=⟨gb196,4,none⟩) (Kd.S_far (p:=⟨gb196,3,none⟩) (Kd.S_far (p:=⟨gb196,2,none⟩) (Kd.S_far (p:=⟨gb196,1,none⟩) (Kd.S_far (p:=⟨gb196,0,none⟩) (Kd.S_mono HO184.out (fun k_ hk=>(⟨hk,hk.2⟩ : _ ∧ k_ ≠ gb196))) (fun _ hk=>hk.2) (.slice Ao20 t187.length co20)) (fun _ hk=>hk.2) (.bool t190)) (fun _ hk=>hk.2) (.int .i64 t191)) (fun _ hk=>hk.2) (.int .i64 t192)) (fun _ hk=>hk.2) (.bool t193)) (fun _ hk=>hk.2) (.int .i64 t194)) (fun _ hk=>⟨hk.1.1.2,hk.1.2⟩)))⟩;have n1_ : Aside0 (Kd.R k43 43 w22 w.heap.size (fun _=>True) v185 t182):=⟨(by rw [hw];exact (by (with_reducible repeat (first|apply Kd.R_alloc|apply Kd.R_drewN|apply Kd.R_drew));exact Kd.R_mono (Kd.R_far (p:=⟨gb196,5,none⟩) (Kd.R_far (p:=⟨gb196,4,none⟩) (Kd.R_far (p:=⟨gb196,3,none⟩) (Kd.R_far (p:=⟨gb196,2,none⟩) (Kd.R_far (p:=⟨gb196,1,none⟩) (Kd.R_far (p:=⟨gb196,0,none⟩) (Kd.R_types HO186.out BK196.out (by decide)) (fun _ hk=>hk.2) (.slice Ao20 t187.length co20)) (fun _ hk=>hk.2) (.bool t190)) (fun _ hk=>hk.2) (.int .i64 t191)) (fun _ hk=>hk.2) (.int .i64 t192)) (fun _ hk=>hk.2) (.bool t193)) (fun _ hk=>hk.2) (.int .i64 t194)) (fun _ hk=>trivial)))⟩;have n2_ : Aside0 (Kd.R k60 60 w22 w.heap.size (fun _=>True) (.slice Ao20 t187.length co20) t187):=⟨(by rw [hw];exact (by (with_reducible repeat (first|apply Kd.R_alloc|apply Kd.R_drewN|apply Kd.R_drew));exact Kd.R_mono (Kd.R_far (p:=⟨gb196,5,none⟩) (Kd.R_far (p:=⟨gb196,4,none⟩) (Kd.R_far (p:=⟨gb196,3,none⟩) (Kd.R_far (p:=⟨gb196,2,none⟩) (Kd.R_far (p:=⟨gb196,1,none⟩) (Kd.R_far (p:=⟨gb196,0,none⟩) (Kd.R_types HO189.out BK196.out (by decide)) (fun _ hk=>hk.2) (.slice Ao20 t187.length co20)) (fun _ hk=>hk.2) (.bool t190)) (fun _ hk=>hk.2) (.int .i64 t191)) (fun _ hk=>hk.2) (.int .i64 t192)) (fun _ hk=>hk.2) (.bool t193)) (fun _ hk=>hk.2) (.int .i64 t194)) (fun _ hk=>trivial)))⟩;have n3_ : Aside0 (w22.heap[gb196]? = some (.cells #[.slice Ao20 t187.length co20,.bool t190,.int .i64 t191,.int .i64 t192,.bool t193,.int .i64 t194] 34 (0,0))):=⟨(by rw [hw];exact (by (with_reducible repeat (first|refine blk_drewN ?_ _|refine blk_drew ?_|refine blk_alloc ?_ _));refine blk_put (cs:=#[.slice Ao20 t187.length co20,.bool t190,.int .i64 t191,.int .i64 t192,.bool t193,.int .i64 0]) ?_ 5 _ rfl;(with_reducible repeat (first|refine blk_drewN ?_ _|refine blk_drew ?_|refine blk_alloc ?_ _));refine blk_put (cs:=#[.slice Ao20 t187.length co20,.bool t190,.int .i64 t191,.int .i64 t192,.bool false,.int .i64 0]) ?_ 4 _ rfl;(with_reducible repeat (first|refine blk_drewN ?_ _|refine blk_drew ?_|refine blk_alloc ?_ _));refine blk_put (cs:=#[.slice Ao20 t187.length co20,.bool t190,.int .i64 t191,.int .i64 0,.bool false,.int .i64 0]) ?_ 3 _ rfl;(with_reducible repeat (first|refine blk_drewN ?_ _|refine blk_drew ?_|refine blk_alloc ?_ _));refine blk_put (cs:=#[.slice Ao20 t187.length co20,.bool t190,.int .i64 0,.int .i64 0,.bool false,.int .i64 0]) ?_ 2 _ rfl;(with_reducible repeat (first|refine blk_drewN ?_ _|refine blk_drew ?_|refine blk_alloc ?_ _));refine blk_put (cs:=#[.slice Ao20 t187.length co20,.bool false,.int .i64 0,.int .i64 0,.bool false,.int .i64 0]) ?_ 1 _ rfl;(with_reducible repeat (first|refine blk_drewN ?_ _|refine blk_drew ?_|refine blk_alloc ?_ _));refine blk_put (cs:=#[.slice none 0 0,.bool false,.int .i64 0,.int .i64 0,.bool false,.int .i64 0]) ?_ 0 _ rfl;(with_reducible repeat (first|refine blk_drewN ?_ _|refine blk_drew ?_|refine blk_alloc ?_ _));exact BK196.out))⟩;have n4_ : Aside0 (Below w.heap.size w w22):=⟨(by rw [hw];exact (by repeat (first|(with_reducible first|exact HB.out|apply below_alloc|apply pw_below_drewN|apply below_drew1|refine below_set ?_ GE196.out)|exact HB.out)))⟩;clear hw;clear HO184;clear HO186;clear HO189;clear BK196;clear HB;have HO184:=n0_;have HO186:=n1_;have HO189:=n2_;have BK196:=n3_;have HB:=n4_;clear n0_ n1_ n2_ n3_ n4_;obtain ⟨Ao23,co23,eo23⟩:=Kd.S_slice HO184.out;subst eo23;have p197 : 0 ≤ (0 : Int):=(by omega);have q197 : 0 < (t181.length : Int):=of_decide_eq_true (by first|(with_reducible assumption)|assumption);obtain ⟨ad197,A197_0,c197_0,e197,hx197_0,hx197_1,hx197_2,hx197_3,hx197_4,hx197_5,hl197_0,hi197_0⟩:=at_T34 (Kd.S_reads' HO184.out).2.2 0 p197 q197;(try rw [← Nbq6.out] at hx197_1);(try rw [← Nbq11.out] at hx197_1);(try rw [← Nbq6.out] at hx197_4);(try rw [← Nbq11.out] at hx197_4);cases e197;obtain ⟨ce197,hce197,hMe197,hcc197⟩:=Kd.S_get HO184.out z34 0 p197 (by first|exact q197|exact of_decide_eq_true (by first|(with_reducible assumption)|assumption)|(have e_:=(Kd.S_reads' HO184.out).1;omega));obtain ⟨ve197_0,rfl,ge197_0⟩:=k34_openM hMe197;have hv197_0:=hcc197 0 _ rfl;rw [Nat.add_zero] at hv197_0;replace hv197_0:=Option.some.inj (hv197_0.symm.trans hx197_0);rw [hv197_0] at ge197_0;have HL197_0:=Aside0.mk (show Kd.R k60 60 _ _ _ _ ((rd_T34 t181 0).f0) from ge197_0);clear hv197_0 ge197_0;clear hcc197 hce197;have qi197 : (0 < t181.length) = True:=eq_true (by omega);(try rw [show ((0 : Int)).toNat = 0 from rfl] at hx197_0);(try rw [show 0 * 6 = 0 from rfl] at hx197_0);(try rw [Addr.add_zero'] at hx197_0);(try rw [show ((0 : Int)).toNat = 0 from rfl] at hx197_1);(try rw [show 0 * 6 = 0 from rfl] at hx197_1);(try rw [Addr.add_zero'] at hx197_1);(try rw [show ((0 : Int)).toNat = 0 from rfl] at hx197_2);(try rw [show 0 * 6 = 0 from rfl] at hx197_2);(try rw [Addr.add_zero'] at hx197_2);(try rw [show ((0 : Int)).toNat = 0 from rfl] at hx197_3);(try rw [show 0 * 6 = 0 from rfl] at hx197_3);(try rw [Addr.add_zero'] at hx197_3);(try rw [show ((0 : Int)).toNat = 0 from rfl] at hx197_4);(try rw [show 0 * 6 = 0 from rfl] at hx197_4);(try rw [Addr.add_zero'] at hx197_4);(try rw [show ((0 : Int)).toNat = 0 from rfl] at hx197_5);(try rw [show 0 * 6 = 0 from rfl] at hx197_5);(try rw [Addr.add_zero'] at hx197_5);have HR197_0:=Aside0.mk hi197_0;have HC197_0:=Aside0.mk hl197_0;clear hi197_0 hl197_0;replace p197:=eq_true p197;replace q197:=eq_true q197;have p198 : 0 ≤ (0 : Int):=(by omega);have q198 : 0 < (t181.length : Int):=of_decide_eq_true (by first|(with_reducible assumption)|assumption);obtain ⟨ad198,A198_0,c198_0,e198,hx198_0,hx198_1,hx198_2,hx198_3,hx198_4,hx198_5,hl198_0,hi198_0⟩:=at_T34 (Kd.S_reads' HO184.out).2.2 0 p198 q198;(try rw [← Nbq6.out] at hx198_1);(try rw [← Nbq11.out] at hx198_1);(try rw [← Nbq6.out] at hx198_4);(try rw [← Nbq11.out] at hx198_4);obtain rfl : ad197 = ad198:=(by injection e198);obtain ⟨ce198,hce198,hMe198,hcc198⟩:=Kd.S_get HO184.out z34 0 p198 (by first|exact q198|exact of_decide_eq_true (by first|(with_reducible assumption)|assumption)|(have e_:=(Kd.S_reads' HO184.out).1;omega));obtain ⟨ve198_0,rfl,ge198_0⟩:=k34_openM hMe198;have hv198_0:=hcc198 0 _ rfl;rw [Nat.add_zero] at hv198_0;replace hv198_0:=Option.some.inj (hv198_0.symm.trans hx198_0);rw [hv198_0] at ge198_0;have HL198_0:=Aside0.mk (show Kd.R k60 60 _ _ _ _ ((rd_T34 t181 0).f0) from ge198_0);clear hv198_0 ge198_0;clear hcc198 hce198;have qi198 : (0 < t181.length) = True:=eq_true (by omega);(try rw [show ((0 : Int)).toNat = 0 from rfl] at hx198_0);(try rw [show 0 * 6 = 0 from rfl] at hx198_0);(try rw [Addr.add_zero'] at hx198_0);(try rw [show ((0 : Int)).toNat = 0 from rfl] at hx198_1);(try rw [show 0 * 6 = 0 from rfl] at hx198_1);(try rw [Addr.add_zero'] at hx198_1);(try rw [show ((0 : Int)).toNat = 0 from rfl] at hx198_2);(try rw [show 0 * 6 = 0 from rfl] at hx198_2);(try rw [Addr.add_zero'] at hx198_2);(try rw [show ((0 : Int)).toNat = 0 from rfl] at hx198_3);(try rw [show 0 * 6 = 0 from rfl] at hx198_3);(try rw [Addr.add_zero'] at hx198_3);(try rw [show ((0 : Int)).toNat = 0 from rfl] at hx198_4);(try rw [show 0 * 6 = 0 from rfl] at hx198_4);(try rw [Addr.add_zero'] at hx198_4);(try rw [show ((0 : Int)).toNat = 0 from rfl] at hx198_5);(try rw [show 0 * 6 = 0 from rfl] at hx198_5);(try rw [Addr.add_zero'] at hx198_5);have HR198_0:=Aside0.mk hi198_0;have HC198_0:=Aside0.mk hl198_0;clear hi198_0 hl198_0;replace p198:=eq_true p198;replace q198:=eq_true q198;have ea_:=Option.some.inj (hx197_0.symm.trans hx198_0);injection ea_ with ea_ en_ ec_;subst ea_;subst ec_;clear en_;have p199 : 0 ≤ (0 : Int):=(by omega);have q199 : 0 < (t181.length : Int):=of_decide_eq_true (by first|(with_reducible assumption)|assumption);obtain ⟨ad199,A199_0,c199_0,e199,hx199_0,hx199_1,hx199_2,hx199_3,hx199_4,hx199_5,hl199_0,hi199_0⟩:=at_T34 (Kd.S_reads' HO184.out).2.2 0 p199 q199;(try rw [← Nbq6.out] at hx199_1);(try rw [← Nbq11.out] at hx199_1);(try rw [← Nbq6.out] at hx199_4);(try rw [← Nbq11.out] at hx199_4);obtain rfl : ad197 = ad199:=(by injection e199);obtain ⟨ce199,hce199,hMe199,hcc199⟩:=Kd.S_get HO184.out z34 0 p199 (by first|exact q199|exact of_decide_eq_true (by first|(with_reducible assumption)|assumption)|(have e_:=(Kd.S_reads' HO184.out).1;omega));obtain ⟨ve199_0,rfl,ge199_0⟩:=k34_openM hMe199;have hv199_0:=hcc199 0 _ rfl;rw [Nat.add_zero] at hv199_0;replace hv199_0:=Option.some.inj (hv199_0.symm.trans hx199_0);rw [hv199_0] at ge199_0;have HL199_0:=Aside0.mk (show Kd.R k60 60 _ _ _ _ ((rd_T34 t181 0).f0) from ge199_0);clear hv199_0 ge199_0;clear hcc199 hce199;have qi199 : (0 < t181.length) = True:=eq_true (by omega);(try rw [show ((0 : Int)).toNat = 0 from rfl] at hx199_0);(try rw [show 0 * 6 = 0 from rfl] at hx199_0);(try rw [Addr.add_zero'] at hx199_0);(try rw [show ((0 : Int)).toNat = 0 from rfl] at hx199_1);(try rw [show 0 * 6 = 0 from rfl] at hx199_1);(try rw [Addr.add_zero'] at hx199_1);(try rw [show ((0 : Int)).toNat = 0 from rfl] at hx199_2);(try rw [show 0 * 6 = 0 from rfl] at hx199_2);(try rw [Addr.add_zero'] at hx199_2);(try rw [show ((0 : Int)).toNat = 0 from rfl] at hx199_3);(try rw [show 0 * 6 = 0 from rfl] at hx199_3);(try rw [Addr.add_zero'] at hx199_3);(try rw [show ((0 : Int)).toNat = 0 from rfl] at hx199_4);(try rw [show 0 * 6 = 0 from rfl] at hx199_4);(try rw [Addr.add_zero'] at hx199_4);(try rw [show ((0 : Int)).toNat = 0 from rfl] at hx199_5);(try rw [show 0 * 6 = 0 from rfl] at hx199_5);(try rw [Addr.add_zero'] at hx199_5);have HR199_0:=Aside0.mk hi199_0;have HC199_0:=Aside0.mk hl199_0;clear hi199_0 hl199_0;replace p199:=eq_true p199;replace q199:=eq_true q199;have ea_:=Option.some.inj (hx197_0.symm.trans hx199_0);injection ea_ with ea_ en_ ec_;subst ea_;subst ec_;clear en_;have p200 : 0 ≤ (0 : Int):=(by omega);have q200 : 0 < (t181.length : Int):=of_decide_eq_true (by first|(with_reducible assumption)|assumption);obtain ⟨ad200,A200_0,c200_0,e200,hx200_0,hx200_1,hx200_2,hx200_3,hx200_4,hx200_5,hl200_0,hi200_0⟩:=at_T34 (Kd.S_reads' HO184.out).2.2 0 p200 q200;(try rw [← Nbq6.out] at hx200_1);(try rw [← Nbq11.out] at hx200_1);(try rw [← Nbq6.out] at hx200_4);(try rw [← Nbq11.out] at hx200_4);obtain rfl : ad197 = ad200:=(by injection e200);obtain ⟨ce200,hce200,hMe200,hcc200⟩:=Kd.S_get HO184.out z34 0 p200 (by first|exact q200|exact of_decide_eq_true (by first|(with_reducible assumption)|assumption)|(have e_:=(Kd.S_reads' HO184.out).1;omega));obtain ⟨ve200_0,rfl,ge200_0⟩:=k34_openM hMe200;have hv200_0:=hcc200 0 _ rfl;rw [Nat.add_zero] at hv200_0;replace hv200_0:=Option.some.inj (hv200_0.symm.trans hx200_0);rw [hv200_0] at ge200_0;have HL200_0:=Aside0.mk (show Kd.R k60 60 _ _ _ _ ((rd_T34 t181 0).f0) from ge200_0);clear hv200_0 ge200_0;clear hcc200 hce200;have qi200 : (0 < t181.length) = True:=eq_true (by omega);(try rw [show ((0 : Int)).toNat = 0 from rfl] at hx200_0);(try rw [show 0 * 6 = 0 from rfl] at hx200_0);(try rw [Addr.add_zero'] at hx200_0);(try rw [show ((0 : Int)).toNat = 0 from rfl] at hx200_1);(try rw [show 0 * 6 = 0 from rfl] at hx200_1);(try rw [Addr.add_zero'] at hx200_1);(try rw [show ((0 : Int)).toNat = 0 from rfl] at hx200_2);(try rw [show 0 * 6 = 0 from rfl] at hx200_2);(try rw [Addr.add_zero'] at hx200_2);(try rw [show ((0 : Int)).toNat = 0 from rfl] at hx200_3);(try rw [show 0 * 6 = 0 from rfl] at hx200_3);(try rw [Addr.add_zero'] at hx200_3);(try rw [show ((0 : Int)).toNat = 0 from rfl] at hx200_4);(try rw [show 0 * 6 = 0 from rfl] at hx200_4);(try rw [Addr.add_zero'] at hx200_4);(try rw [show ((0 : Int)).toNat = 0 from rfl] at hx200_5);(try rw [show 0 * 6 = 0 from rfl] at hx200_5);(try rw [Addr.add_zero'] at hx200_5);have HR200_0:=Aside0.mk hi200_0;have HC200_0:=Aside0.mk hl200_0;clear hi200_0 hl200_0;replace p200:=eq_true p200;replace q200:=eq_true q200;have ea_:=Option.some.inj (hx197_0.symm.trans hx200_0);injection ea_ with ea_ en_ ec_;subst ea_;subst ec_;clear en_;have p201 : 0 ≤ (1 : Int):=(by omega);have q201 : 1 < (t181.length : Int):=of_decide_eq_true (by first|(with_reducible assumption)|assumption);obtain ⟨ad201,A201_0,c201_0,e201,hx201_0,hx201_1,hx201_2,hx201_3,hx201_4,hx201_5,hl201_0,hi201_0⟩:=at_T34 (Kd.S_reads' HO184.out).2.2 1 p201 q201;(try rw [← Nbq6.out] at hx201_1);(try rw [← Nbq11.out] at hx201_1);(try rw [← Nbq6.out] at hx201_4);(try rw [← Nbq11.out] at hx201_4);obtain rfl : ad197 = ad201:=(by injection e201);obtain ⟨ce201,hce201,hMe201,hcc201⟩:=Kd.S_get HO184.out z34 1 p201 (by first|exact q201|exact of_decide_eq_true (by first|(with_reducible assumption)|assumption)|(have e_:=(Kd.S_reads' HO184.out).1;omega));obtain ⟨ve201_0,rfl,ge201_0⟩:=k34_openM hMe201;have hv201_0:=hcc201 0 _ rfl;rw [Nat.add_zero] at hv201_0;replace hv201_0:=Option.some.inj (hv201_0.symm.trans hx201_0);rw [hv201_0] at ge201_0;have HL201_0:=Aside0.mk (show Kd.R k60 60 _ _ _ _ ((rd_T34 t181 1).f0) from ge201_0);clear hv201_0 ge201_0;clear hcc201 hce201;(try simp only [show (1 : Int).toNat = 1 from rfl,Nat.reduceMul,Nat.reduceEqDiff,Go.Addr.add,↓reduceIte] at hx201_0);(try simp only [show (1 : Int).toNat = 1 from rfl,Nat.reduceMul,Nat.reduceEqDiff,Go.Addr.add,↓reduceIte] at hx201_1);(try simp only [show (1 : Int).toNat = 1 from rfl,Nat.reduceMul,Nat.reduceEqDiff,Go.Addr.add,↓reduceIte] at hx201_2);(try simp only [show (1 : Int).toNat = 1 from rfl,Nat.reduceMul,Nat.reduceEqDiff,Go.Addr.add,↓reduceIte] at hx201_3);(try simp only [show (1 : Int).toNat = 1 from rfl,Nat.reduceMul,Nat.reduceEqDiff,Go.Addr.add,↓reduceIte] at hx201_4);(try simp only [show (1 : Int).toNat = 1 from rfl,Nat.reduceMul,Nat.reduceEqDiff,Go.Addr.add,↓reduceIte] at hx201_5);have qi201 : (1 < t181.length) = True:=eq_true (by omega);(try rw [show ((1 : Int)).toNat = 1 from rfl] at hx201_0);(try rw [show 1 * 6 = 6 from rfl] at hx201_0);(try rw [show ((1 : Int)).toNat = 1 from rfl] at hx201_1);(try rw [show 1 * 6 = 6 from rfl] at hx201_1);(try rw [show ((1 : Int)).toNat = 1 from rfl] at hx201_2);(try rw [show 1 * 6 = 6 from rfl] at hx201_2);(try rw [show ((1 : Int)).toNat = 1 from rfl] at hx201_3);(try rw [show 1 * 6 = 6 from rfl] at hx201_3);(try rw [show ((1 : Int)).toNat = 1 from rfl] at hx201_4);(try rw [show 1 * 6 = 6 from rfl] at hx201_4);(try rw [show ((1 : Int)).toNat = 1 from rfl] at hx201_5);(try rw [show 1 * 6 = 6 from rfl] at hx201_5);have HR201_0:=Aside0.mk hi201_0;have HC201_0:=Aside0.mk hl201_0;clear hi201_0 hl201_0;replace p201:=eq_true p201;replace q201:=eq_true q201;obtain ⟨Ao24,co24,eo24⟩:=Kd.R_slice HO186.out;subst eo24;have p202 : 0 ≤ (0 : Int):=(by omega);have q202 : 0 < (t182.length : Int):=of_decide_eq_true (by first|(with_reducible assumption)|assumption);obtain ⟨ad202,e202,hx202_0,hx202_1⟩:=at_T43 (Kd.R_reads' HO186.out).2.2 0 p202 q202;cases e202;have qi202 : (0 < t182.length) = True:=eq_true (by omega);(try rw [show ((0 : Int)).toNat = 0 from rfl] at hx202_0);(try rw [show 0 * 2 = 0 from rfl] at hx202_0);(try rw [Addr.add_zero'] at hx202_0);(try rw [show ((0 : Int)).toNat = 0 from rfl] at hx202_1);(try rw [show 0 * 2 = 0 from rfl] at hx202_1);(try rw [Addr.add_zero'] at hx202_1);replace p202:=eq_true p202;replace q202:=eq_true q202;have p203 : 0 ≤ (0 : Int):=(by omega);have q203 : 0 < (t182.length : Int):=of_decide_eq_true (by first|(with_reducible assumption)|assumption);obtain ⟨ad203,e203,hx203_0,hx203_1⟩:=at_T43 (Kd.R_reads' HO186.out).2.2 0 p203 q203;obtain rfl : ad202 = ad203:=(by injection e203);have qi203 : (0 < t182.length) = True:=eq_true (by omega);(try rw [show ((0 : Int)).toNat = 0 from rfl] at hx203_0);(try rw [show 0 * 2 = 0 from rfl] at hx203_0);(try rw [Addr.add_zero'] at hx203_0);(try rw [show ((0 : Int)).toNat = 0 from rfl] at hx203_1);(try rw [show 0 * 2 = 0 from rfl] at hx203_1);(try rw [Addr.add_zero'] at hx203_1);replace p203:=eq_true p203;replace q203:=eq_true q203))
             go_ret
             exact ⟨by first|rfl|(simp [errW_none,errW_some] <;> rfl)|(simp [*,errW_none,errW_some] <;> rfl),by repeat (first|(with_reducible first|exact HB.out|apply below_alloc|apply pw_below_drewN|apply below_drew1|refine below_set ?_ GE196.out)|exact HB.out)⟩
            rw [if_neg c16] at H
            exact absurd H (by simp)
           rw [if_neg c15] at H
           exact absurd H (by simp)
          rw [if_neg c14] at H
          exact absurd H (by simp)
         rw [if_neg c13] at H
         exact absurd H (by simp)
        replace c12:=Bool.eq_false_iff.mpr c12
        subst c12
        have H1 : (none) = some r:=by rw [if_neg (show ¬ (false = true) by decide)] at H;exact H
        clear H
        have H:=H1
        clear H1
        exact absurd H (by simp)
       rw [if_neg c10] at H
       exact absurd H (by simp)
      rw [if_neg c9] at H
      exact absurd H (by simp)
     rw [if_neg c8] at H
     exact absurd H (by simp)
    replace c7:=Bool.eq_false_iff.mpr c7
    subst c7
    have H1 : (none) = some r:=by rw [if_neg (show ¬ (false = true) by decide)] at H;exact H
    clear H
    have H:=H1
    clear H1
    exact absurd H (by simp)
   rw [if_neg c5] at H
   exact absurd H (by simp)
  rw [if_neg c4] at H
  exact absurd H (by simp)
 rw [if_neg c3] at H
 exact absurd H (by simp)
theorem eqA32 (d : Nat) (w : World) (x0 y0 : Bool) (x1 y1 : Int) :
  (Op.equalIn (d + 2) 32 (.agg #[.bool x0,.int .i64 x1]) (.agg #[.bool y0,.int .i64 y1])).run Tryz.prog w = .ok (x0 == y0 && (x1 == y1)) w:=by
 refine eqA_of Tryz.underlying32 (by kernel_rfl) ?_
 refine eqf_cons (by rfl) (by go_simp;rfl) (by go_simp;rfl) (by go_simp) ?_
 exact eqf_last (by rfl) (by go_simp;rfl) (by go_simp;rfl) (by go_simp)
theorem gtr_eq : ∀ (a b : List UInt8),Op.bytesLess a b = false → (a == b) = !(Op.bytesLess b a)
 | [],[],_=>rfl
 | [],_ :: _,h=>by cases h
 | x :: a,[],_=>rfl
 | x :: a,y :: b,h=>by
  unfold Op.bytesLess at h ⊢
  rw [List.cons_beq_cons]
  simp only [Bool.or_eq_false_iff,decide_eq_false_iff_not] at h
  obtain ⟨h1,h3⟩:=h
  by_cases h2 : y < x
  ·rw [decide_eq_true h2,beq_eq_false_iff_ne.2 (fun e=>by cases e;exact absurd h2 h1)]
   rfl
  have e : x = y:=UInt8.le_antisymm (UInt8.not_lt.1 h2) (UInt8.not_lt.1 h1)
  subst e
  rw [beq_self_eq_true,Bool.true_and] at h3
  rw [decide_eq_false h1,beq_self_eq_true,Bool.true_and,Bool.true_and,Bool.false_or]
  exact gtr_eq a b h3
/-! ### spillwayref3_less: function 114 -/
def spillwayref3_less.f (a0 : ByteArray) (a1 : ByteArray) : Option (Int):=if (Op.bytesLess a0.toList a1.toList) = true then (some (-1)) else (if (Op.bytesLess a1.toList a0.toList) = true then (some 1) else (some 0))
set_option maxHeartbeats 8000000 in
set_option maxRecDepth 100000 in
theorem spillwayref3_less.calls (a0 : ByteArray) (a1 : ByteArray) (r : Int) (w : World) (h : spillwayref3_less.f a0 a1 = some r) :
  Calls Tryz.prog 114 #[.string a0,.string a1] w fun e w'=>e = .returned (.int .i64 r) ∧ Drawn0 w w':=by
 have H : (if (Op.bytesLess a0.toList a1.toList) = true then (some (-1)) else (if (Op.bytesLess a1.toList a0.toList) = true then (some 1) else (some 0))) = some r:=h
 clear h
 by_cases c3 : (Op.bytesLess a0.toList a1.toList) = true
 ·rw [if_pos c3] at H
  have c3b0 : (Op.bytesLess a0.toList a1.toList) = true:=c3
  clear c3
  obtain rfl:=Option.some.inj H
  go_enter Tryz.func114,Tryz.ntmps114
  go_wp2
  go_ret
  exact ⟨by first|rfl|(simp;done)|(simp [*];done),by repeat (first|exact Drawn0.refl _|apply Drawn0.step)⟩
 rw [if_neg c3] at H
 have c3b0 : (Op.bytesLess a0.toList a1.toList) = false:=by simpa using c3
 clear c3
 by_cases c4 : (Op.bytesLess a1.toList a0.toList) = true
 ·rw [if_pos c4] at H
  have c4b0 : (Op.bytesLess a1.toList a0.toList) = true:=c4
  have c4b1 : (a0.toList == a1.toList) = false:=by rw [gtr_eq _ _ c3b0,c4b0];rfl
  clear c4
  obtain rfl:=Option.some.inj H
  go_enter Tryz.func114,Tryz.ntmps114
  go_wp2
  go_ret
  exact ⟨by first|rfl|(simp;done)|(simp [*];done),by repeat (first|exact Drawn0.refl _|apply Drawn0.step)⟩
 rw [if_neg c4] at H
 have c4b0 : (Op.bytesLess a1.toList a0.toList) = false:=by simpa using c4
 have c4b1 : (a0.toList == a1.toList) = true:=by rw [gtr_eq _ _ c3b0,c4b0];rfl
 clear c4
 obtain rfl:=Option.some.inj H
 go_enter Tryz.func114,Tryz.ntmps114
 go_wp2
 go_ret
 exact ⟨by first|rfl|(simp;done)|(simp [*];done),by repeat (first|exact Drawn0.refl _|apply Drawn0.step)⟩
/-! ### spillwayref3_Cmp: function 77 -/
mutual
def spillwayref3_Cmp.l0 : Nat → List (S60) → List (S60) → Int → Option (Int)
 | 0,_,_,_=>none
 | k + 1,x0,x1,x5=>if x5 < (x0.length : Int) then (spillwayref3_Cmp.j1 k x0 x1 x5 (decide (x5 < (x1.length : Int)))) else (spillwayref3_Cmp.j1 k x0 x1 x5 false)
def spillwayref3_Cmp.j1 : Nat → List (S60) → List (S60) → Int → Bool → Option (Int)
 | 0,_,_,_,_=>none
 | k + 1,x0,x1,x5,x16=>if x16 = true then (if 0 ≤ x5 then (if x5 < (x0.length : Int) then (if x5 < (x1.length : Int) then ((spillwayref3_less.f ((rd_T60 x0 x5).f0) ((rd_T60 x1 x5).f0)).bind fun t283=>(if t283 = 0 then ((spillwayref3_less.f ((rd_T60 x0 x5).f1) ((rd_T60 x1 x5).f1)).bind fun t286=>(if t286 = 0 then (spillwayref3_Cmp.l0 k x0 x1 (wrap64 (x5 + 1))) else (some t286))) else (some t283))) else (none)) else (none)) else (none)) else (if (x0.length : Int) < (x1.length : Int) then (some (-1)) else (if (x0.length : Int) > (x1.length : Int) then (some 1) else (some 0)))
end
def spillwayref3_Cmp.f (k : Nat) (l0 : List (S60)) (l1 : List (S60)) : Option (Int):=spillwayref3_Cmp.l0 k l0 l1 0
set_option maxHeartbeats 8000000 in
set_option maxRecDepth 100000 in
theorem spillwayref3_Cmp.calls (k : Nat) (A0 : Option Addr) (c0 : Nat) (l0 : List (S60)) (A1 : Option Addr) (c1 : Nat) (l1 : List (S60)) (r : Int) (w : World) (hr0 : Kd.C k60 w A0 l0.length l0) (hc0 : l0.length ≤ c0) (hr1 : Kd.C k60 w A1 l1.length l1) (hc1 : l1.length ≤ c1) (h : spillwayref3_Cmp.f k l0 l1 = some r) :
  Calls Tryz.prog 77 #[.slice A0 l0.length c0,.slice A1 l1.length c1] w fun e w'=>e = .returned (.int .i64 r) ∧ Drawn0 w w':=by
 have HR0:=Aside0.mk hr0
 have HC0:=Aside0.mk hc0
 clear hr0 hc0
 have HR1:=Aside0.mk hr1
 have HC1:=Aside0.mk hc1
 clear hr1 hc1
 have H : (spillwayref3_Cmp.l0 k l0 l1 0) = some r:=h
 clear h
 have H':=Aside0.mk H
 clear H
 go_enter Tryz.func77,Tryz.ntmps77
 go_wp2
 repeat (go_quiet (fail);try go_wp2)
 go_loopg [5] k (fun kq v5 w'=>∃ (x5_1 : Int),v5 = .int .i64 x5_1 ∧ Aside0 (spillwayref3_Cmp.l0 kq l0 l1 x5_1 = some r) ∧ Aside0 (kq ≤ k) ∧ Drawn0 w w')
 case atStart=>exact ⟨(0),(by first|rfl|(simp;done)|(simp [*];done)),H',⟨Nat.le_refl _⟩,by repeat (first|exact Drawn0.refl _|apply Drawn0.step)⟩
 clear H'
 try clear c1
 try clear p2
 obtain ⟨x5_1,rfl,HA,HK1,⟨m1,rfl⟩⟩:=hrel
 cases gk with
 | zero=>exact absurd HA.out (by simp [spillwayref3_Cmp.l0])
 | succ k1 =>
  have H:=HA.out
  clear HA
  simp only [spillwayref3_Cmp.l0] at H
  have HC3:=Aside0.mk H
  clear H
  go_upto_region 2 with (fail)
  repeat (go_quiet (fail);go_upto_region 2 with (fail))
  go_cut [16] (fun v16 wc=>∃ (kq : Nat) (x16_2 : Bool),v16 = .bool x16_2 ∧ Aside0 (spillwayref3_Cmp.j1 kq l0 l1 x5_1 x16_2 = some r) ∧ Aside0 (kq ≤ k1) ∧ Drawn0 w wc)
  case first =>
   have H:=HC3.out
   clear HC3
   by_cases c4 : x5_1 < (l0.length : Int)
   ·rw [if_pos c4] at H
    have c4b0 : decide (x5_1 < (l0.length : Int)) = true:=decide_eq_true c4
    clear c4
    (first|rw [c4b0]|(simp only [i64_w,i32_w];rw [c4b0])|skip)
    have H':=Aside0.mk H
    clear H
    go_wp2
    repeat (go_quiet (fail);try go_wp2)
    go_meet
    case rel=>exact ⟨_,(decide (x5_1 < (l1.length : Int))),(by first|rfl|(simp;done)|(simp [*];done)),H',⟨by have:=HK1.out;first|omega|exact Nat.le_refl _⟩,by repeat (first|exact Drawn0.refl _|apply Drawn0.step)⟩
   rw [if_neg c4] at H
   have c4b0 : decide (x5_1 < (l0.length : Int)) = false:=decide_eq_false c4
   clear c4
   (first|rw [c4b0]|(simp only [i64_w,i32_w];rw [c4b0])|skip)
   have H':=Aside0.mk H
   clear H
   go_wp2
   repeat (go_quiet (fail);try go_wp2)
   go_meet
   case rel=>exact ⟨_,(false),(by first|rfl|(simp;done)|(simp [*];done)),H',⟨by have:=HK1.out;first|omega|exact Nat.le_refl _⟩,by repeat (first|exact Drawn0.refl _|apply Drawn0.step)⟩
  clear HC3
  try clear c1
  try clear p2
  try clear c4
  try clear c4b0
  try clear p2
  obtain ⟨kq,x16_2,rfl,HA,HJ2,⟨mc2,rfl⟩⟩:=hcut
  cases kq with
  | zero=>exact absurd HA.out (by simp [spillwayref3_Cmp.j1])
  | succ kj2 =>
   have H:=HA.out
   clear HA
   simp only [spillwayref3_Cmp.j1] at H
   by_cases c5 : x16_2 = true
   ·subst c5
    have H1 : (if 0 ≤ x5_1 then (if x5_1 < (l0.length : Int) then (if x5_1 < (l1.length : Int) then ((spillwayref3_less.f ((rd_T60 l0 x5_1).f0) ((rd_T60 l1 x5_1).f0)).bind fun t283=>(if t283 = 0 then ((spillwayref3_less.f ((rd_T60 l0 x5_1).f1) ((rd_T60 l1 x5_1).f1)).bind fun t286=>(if t286 = 0 then (spillwayref3_Cmp.l0 kj2 l0 l1 (wrap64 (x5_1 + 1))) else (some t286))) else (some t283))) else (none)) else (none)) else (none)) = some r:=by rw [if_pos rfl] at H;exact H
    clear H
    have H:=H1
    clear H1
    by_cases c6 : 0 ≤ x5_1
    ·rw [if_pos c6] at H
     have c6b0 : decide (0 ≤ x5_1) = true:=decide_eq_true c6
     clear c6
     by_cases c7 : x5_1 < (l0.length : Int)
     ·rw [if_pos c7] at H
      have c7b0 : decide (x5_1 < (l0.length : Int)) = true:=decide_eq_true c7
      clear c7
      by_cases c8 : x5_1 < (l1.length : Int)
      ·rw [if_pos c8] at H
       have c8b0 : decide (x5_1 < (l1.length : Int)) = true:=decide_eq_true c8
       clear c8
       replace H:=Option.bind_eq_some_iff.mp H
       obtain ⟨t283,A90,H⟩:=H
       replace H : (if t283 = 0 then ((spillwayref3_less.f ((rd_T60 l0 x5_1).f1) ((rd_T60 l1 x5_1).f1)).bind fun t286=>(if t286 = 0 then (spillwayref3_Cmp.l0 kj2 l0 l1 (wrap64 (x5_1 + 1))) else (some t286))) else (some t283)) = some r:=H
       have A9:=Aside0.mk A90
       clear A90
       by_cases c10 : t283 = 0
       ·rw [if_pos c10] at H
        have c10b0 : (t283 == 0) = true:=beq_iff_eq.mpr c10
        have c10b1 : (t283 != 0) = false:=bne_eq_false_iff_eq.mpr c10
        clear c10
        replace H:=Option.bind_eq_some_iff.mp H
        obtain ⟨t286,A110,H⟩:=H
        replace H : (if t286 = 0 then (spillwayref3_Cmp.l0 kj2 l0 l1 (wrap64 (x5_1 + 1))) else (some t286)) = some r:=H
        have A11:=Aside0.mk A110
        clear A110
        by_cases c12 : t286 = 0
        ·rw [if_pos c12] at H
         have c12b0 : (t286 == 0) = true:=beq_iff_eq.mpr c12
         have c12b1 : (t286 != 0) = false:=bne_eq_false_iff_eq.mpr c12
         clear c12
         have H':=Aside0.mk H
         clear H
         have p281 : 0 ≤ (x5_1 : Int):=of_decide_eq_true (by first|(with_reducible assumption)|assumption)
         have q281 : x5_1 < (l0.length : Int):=of_decide_eq_true (by first|(with_reducible assumption)|assumption)
         obtain ⟨ad281,e281,hx281_0,hx281_1⟩:=at_T60 HR0.out x5_1 p281 q281
         cases e281
         replace p281:=eq_true p281
         replace q281:=eq_true q281
         have p282 : 0 ≤ (x5_1 : Int):=of_decide_eq_true (by first|(with_reducible assumption)|assumption)
         have q282 : x5_1 < (l1.length : Int):=of_decide_eq_true (by first|(with_reducible assumption)|assumption)
         obtain ⟨ad282,e282,hx282_0,hx282_1⟩:=at_T60 HR1.out x5_1 p282 q282
         cases e282
         replace p282:=eq_true p282
         replace q282:=eq_true q282
         go_wp2_with (first|(go_at_call 114;(with_reducible refine (spillwayref3_less.calls ((rd_T60 l0 x5_1).f0) ((rd_T60 l1 x5_1).f0) t283 _ A9.out).mono ?_);rintro e w' ⟨rfl,⟨nd,rfl⟩⟩;(try first|exact ⟨rfl,_,World.drewN_drewN _ _ _⟩|exact ⟨rfl,_,Eq.trans (World.drewN_drewN _ _ _) (congrArg (World.drewN _) (Nat.add_assoc _ _ _))⟩);have p284 : 0 ≤ (x5_1 : Int):=of_decide_eq_true (by first|(with_reducible assumption)|assumption);have q284 : x5_1 < (l0.length : Int):=of_decide_eq_true (by first|(with_reducible assumption)|assumption);obtain ⟨ad284,e284,hx284_0,hx284_1⟩:=at_T60 HR0.out x5_1 p284 q284;obtain rfl : ad281 = ad284:=(by injection e284);replace p284:=eq_true p284;replace q284:=eq_true q284;have p285 : 0 ≤ (x5_1 : Int):=of_decide_eq_true (by first|(with_reducible assumption)|assumption);have q285 : x5_1 < (l1.length : Int):=of_decide_eq_true (by first|(with_reducible assumption)|assumption);obtain ⟨ad285,e285,hx285_0,hx285_1⟩:=at_T60 HR1.out x5_1 p285 q285;obtain rfl : ad282 = ad285:=(by injection e285);replace p285:=eq_true p285;replace q285:=eq_true q285)|(go_at_call 114;(with_reducible refine (spillwayref3_less.calls ((rd_T60 l0 x5_1).f1) ((rd_T60 l1 x5_1).f1) t286 _ A11.out).mono ?_);rintro e w' ⟨rfl,⟨nd,rfl⟩⟩;(try first|exact ⟨rfl,_,World.drewN_drewN _ _ _⟩|exact ⟨rfl,_,Eq.trans (World.drewN_drewN _ _ _) (congrArg (World.drewN _) (Nat.add_assoc _ _ _))⟩)))
         repeat (go_quiet (first|(go_at_call 114;(with_reducible refine (spillwayref3_less.calls ((rd_T60 l0 x5_1).f0) ((rd_T60 l1 x5_1).f0) t283 _ A9.out).mono ?_);rintro e w' ⟨rfl,⟨nd,rfl⟩⟩;(try first|exact ⟨rfl,_,World.drewN_drewN _ _ _⟩|exact ⟨rfl,_,Eq.trans (World.drewN_drewN _ _ _) (congrArg (World.drewN _) (Nat.add_assoc _ _ _))⟩);have p284 : 0 ≤ (x5_1 : Int):=of_decide_eq_true (by first|(with_reducible assumption)|assumption);have q284 : x5_1 < (l0.length : Int):=of_decide_eq_true (by first|(with_reducible assumption)|assumption);obtain ⟨ad284,e284,hx284_0,hx284_1⟩:=at_T60 HR0.out x5_1 p284 q284;obtain rfl : ad281 = ad284:=(by injection e284);replace p284:=eq_true p284;replace q284:=eq_true q284;have p285 : 0 ≤ (x5_1 : Int):=of_decide_eq_true (by first|(with_reducible assumption)|assumption);have q285 : x5_1 < (l1.length : Int):=of_decide_eq_true (by first|(with_reducible assumption)|assumption);obtain ⟨ad285,e285,hx285_0,hx285_1⟩:=at_T60 HR1.out x5_1 p285 q285;obtain rfl : ad282 = ad285:=(by injection e285);replace p285:=eq_true p285;replace q285:=eq_true q285)|(go_at_call 114;(with_reducible refine (spillwayref3_less.calls ((rd_T60 l0 x5_1).f1) ((rd_T60 l1 x5_1).f1) t286 _ A11.out).mono ?_);rintro e w' ⟨rfl,⟨nd,rfl⟩⟩;(try first|exact ⟨rfl,_,World.drewN_drewN _ _ _⟩|exact ⟨rfl,_,Eq.trans (World.drewN_drewN _ _ _) (congrArg (World.drewN _) (Nat.add_assoc _ _ _))⟩)));try go_wp2_with (first|(go_at_call 114;(with_reducible refine (spillwayref3_less.calls ((rd_T60 l0 x5_1).f0) ((rd_T60 l1 x5_1).f0) t283 _ A9.out).mono ?_);rintro e w' ⟨rfl,⟨nd,rfl⟩⟩;(try first|exact ⟨rfl,_,World.drewN_drewN _ _ _⟩|exact ⟨rfl,_,Eq.trans (World.drewN_drewN _ _ _) (congrArg (World.drewN _) (Nat.add_assoc _ _ _))⟩);have p284 : 0 ≤ (x5_1 : Int):=of_decide_eq_true (by first|(with_reducible assumption)|assumption);have q284 : x5_1 < (l0.length : Int):=of_decide_eq_true (by first|(with_reducible assumption)|assumption);obtain ⟨ad284,e284,hx284_0,hx284_1⟩:=at_T60 HR0.out x5_1 p284 q284;obtain rfl : ad281 = ad284:=(by injection e284);replace p284:=eq_true p284;replace q284:=eq_true q284;have p285 : 0 ≤ (x5_1 : Int):=of_decide_eq_true (by first|(with_reducible assumption)|assumption);have q285 : x5_1 < (l1.length : Int):=of_decide_eq_true (by first|(with_reducible assumption)|assumption);obtain ⟨ad285,e285,hx285_0,hx285_1⟩:=at_T60 HR1.out x5_1 p285 q285;obtain rfl : ad282 = ad285:=(by injection e285);replace p285:=eq_true p285;replace q285:=eq_true q285)|(go_at_call 114;(with_reducible refine (spillwayref3_less.calls ((rd_T60 l0 x5_1).f1) ((rd_T60 l1 x5_1).f1) t286 _ A11.out).mono ?_);rintro e w' ⟨rfl,⟨nd,rfl⟩⟩;(try first|exact ⟨rfl,_,World.drewN_drewN _ _ _⟩|exact ⟨rfl,_,Eq.trans (World.drewN_drewN _ _ _) (congrArg (World.drewN _) (Nat.add_assoc _ _ _))⟩))))
         go_roundg kj2
         case measure=>have:=HK1.out;have:=HJ2.out;omega
         case rel=>exact ⟨(wrap64 (x5_1 + 1)),(by first|rfl|(simp;done)|(simp [*];done)),H',⟨by have:=HK1.out;have:=HJ2.out;omega⟩,by repeat (first|exact Drawn0.refl _|apply Drawn0.step)⟩
        rw [if_neg c12] at H
        have c12b0 : (t286 == 0) = false:=beq_eq_false_iff_ne.mpr c12
        have c12b1 : (t286 != 0) = true:=bne_iff_ne.mpr c12
        obtain rfl:=Option.some.inj H
        have p281 : 0 ≤ (x5_1 : Int):=of_decide_eq_true (by first|(with_reducible assumption)|assumption)
        have q281 : x5_1 < (l0.length : Int):=of_decide_eq_true (by first|(with_reducible assumption)|assumption)
        obtain ⟨ad281,e281,hx281_0,hx281_1⟩:=at_T60 HR0.out x5_1 p281 q281
        cases e281
        replace p281:=eq_true p281
        replace q281:=eq_true q281
        have p282 : 0 ≤ (x5_1 : Int):=of_decide_eq_true (by first|(with_reducible assumption)|assumption)
        have q282 : x5_1 < (l1.length : Int):=of_decide_eq_true (by first|(with_reducible assumption)|assumption)
        obtain ⟨ad282,e282,hx282_0,hx282_1⟩:=at_T60 HR1.out x5_1 p282 q282
        cases e282
        replace p282:=eq_true p282
        replace q282:=eq_true q282
        go_wp2_with (first|(go_at_call 114;(with_reducible refine (spillwayref3_less.calls ((rd_T60 l0 x5_1).f0) ((rd_T60 l1 x5_1).f0) t283 _ A9.out).mono ?_);rintro e w' ⟨rfl,⟨nd,rfl⟩⟩;(try first|exact ⟨rfl,_,World.drewN_drewN _ _ _⟩|exact ⟨rfl,_,Eq.trans (World.drewN_drewN _ _ _) (congrArg (World.drewN _) (Nat.add_assoc _ _ _))⟩);have p284 : 0 ≤ (x5_1 : Int):=of_decide_eq_true (by first|(with_reducible assumption)|assumption);have q284 : x5_1 < (l0.length : Int):=of_decide_eq_true (by first|(with_reducible assumption)|assumption);obtain ⟨ad284,e284,hx284_0,hx284_1⟩:=at_T60 HR0.out x5_1 p284 q284;obtain rfl : ad281 = ad284:=(by injection e284);replace p284:=eq_true p284;replace q284:=eq_true q284;have p285 : 0 ≤ (x5_1 : Int):=of_decide_eq_true (by first|(with_reducible assumption)|assumption);have q285 : x5_1 < (l1.length : Int):=of_decide_eq_true (by first|(with_reducible assumption)|assumption);obtain ⟨ad285,e285,hx285_0,hx285_1⟩:=at_T60 HR1.out x5_1 p285 q285;obtain rfl : ad282 = ad285:=(by injection e285);replace p285:=eq_true p285;replace q285:=eq_true q285)|(go_at_call 114;(with_reducible refine (spillwayref3_less.calls ((rd_T60 l0 x5_1).f1) ((rd_T60 l1 x5_1).f1) t286 _ A11.out).mono ?_);rintro e w' ⟨rfl,⟨nd,rfl⟩⟩;(try first|exact ⟨rfl,_,World.drewN_drewN _ _ _⟩|exact ⟨rfl,_,Eq.trans (World.drewN_drewN _ _ _) (congrArg (World.drewN _) (Nat.add_assoc _ _ _))⟩)))
        repeat (go_quiet (first|(go_at_call 114;(with_reducible refine (spillwayref3_less.calls ((rd_T60 l0 x5_1).f0) ((rd_T60 l1 x5_1).f0) t283 _ A9.out).mono ?_);rintro e w' ⟨rfl,⟨nd,rfl⟩⟩;(try first|exact ⟨rfl,_,World.drewN_drewN _ _ _⟩|exact ⟨rfl,_,Eq.trans (World.drewN_drewN _ _ _) (congrArg (World.drewN _) (Nat.add_assoc _ _ _))⟩);have p284 : 0 ≤ (x5_1 : Int):=of_decide_eq_true (by first|(with_reducible assumption)|assumption);have q284 : x5_1 < (l0.length : Int):=of_decide_eq_true (by first|(with_reducible assumption)|assumption);obtain ⟨ad284,e284,hx284_0,hx284_1⟩:=at_T60 HR0.out x5_1 p284 q284;obtain rfl : ad281 = ad284:=(by injection e284);replace p284:=eq_true p284;replace q284:=eq_true q284;have p285 : 0 ≤ (x5_1 : Int):=of_decide_eq_true (by first|(with_reducible assumption)|assumption);have q285 : x5_1 < (l1.length : Int):=of_decide_eq_true (by first|(with_reducible assumption)|assumption);obtain ⟨ad285,e285,hx285_0,hx285_1⟩:=at_T60 HR1.out x5_1 p285 q285;obtain rfl : ad282 = ad285:=(by injection e285);replace p285:=eq_true p285;replace q285:=eq_true q285)|(go_at_call 114;(with_reducible refine (spillwayref3_less.calls ((rd_T60 l0 x5_1).f1) ((rd_T60 l1 x5_1).f1) t286 _ A11.out).mono ?_);rintro e w' ⟨rfl,⟨nd,rfl⟩⟩;(try first|exact ⟨rfl,_,World.drewN_drewN _ _ _⟩|exact ⟨rfl,_,Eq.trans (World.drewN_drewN _ _ _) (congrArg (World.drewN _) (Nat.add_assoc _ _ _))⟩)));try go_wp2_with (first|(go_at_call 114;(with_reducible refine (spillwayref3_less.calls ((rd_T60 l0 x5_1).f0) ((rd_T60 l1 x5_1).f0) t283 _ A9.out).mono ?_);rintro e w' ⟨rfl,⟨nd,rfl⟩⟩;(try first|exact ⟨rfl,_,World.drewN_drewN _ _ _⟩|exact ⟨rfl,_,Eq.trans (World.drewN_drewN _ _ _) (congrArg (World.drewN _) (Nat.add_assoc _ _ _))⟩);have p284 : 0 ≤ (x5_1 : Int):=of_decide_eq_true (by first|(with_reducible assumption)|assumption);have q284 : x5_1 < (l0.length : Int):=of_decide_eq_true (by first|(with_reducible assumption)|assumption);obtain ⟨ad284,e284,hx284_0,hx284_1⟩:=at_T60 HR0.out x5_1 p284 q284;obtain rfl : ad281 = ad284:=(by injection e284);replace p284:=eq_true p284;replace q284:=eq_true q284;have p285 : 0 ≤ (x5_1 : Int):=of_decide_eq_true (by first|(with_reducible assumption)|assumption);have q285 : x5_1 < (l1.length : Int):=of_decide_eq_true (by first|(with_reducible assumption)|assumption);obtain ⟨ad285,e285,hx285_0,hx285_1⟩:=at_T60 HR1.out x5_1 p285 q285;obtain rfl : ad282 = ad285:=(by injection e285);replace p285:=eq_true p285;replace q285:=eq_true q285)|(go_at_call 114;(with_reducible refine (spillwayref3_less.calls ((rd_T60 l0 x5_1).f1) ((rd_T60 l1 x5_1).f1) t286 _ A11.out).mono ?_);rintro e w' ⟨rfl,⟨nd,rfl⟩⟩;(try first|exact ⟨rfl,_,World.drewN_drewN _ _ _⟩|exact ⟨rfl,_,Eq.trans (World.drewN_drewN _ _ _) (congrArg (World.drewN _) (Nat.add_assoc _ _ _))⟩))))
        go_ret
        exact ⟨by first|rfl|(simp;done)|(simp [*];done),by repeat (first|exact Drawn0.refl _|apply Drawn0.step)⟩
       rw [if_neg c10] at H
       have c10b0 : (t283 == 0) = false:=beq_eq_false_iff_ne.mpr c10
       have c10b1 : (t283 != 0) = true:=bne_iff_ne.mpr c10
       obtain rfl:=Option.some.inj H
       have p281 : 0 ≤ (x5_1 : Int):=of_decide_eq_true (by first|(with_reducible assumption)|assumption)
       have q281 : x5_1 < (l0.length : Int):=of_decide_eq_true (by first|(with_reducible assumption)|assumption)
       obtain ⟨ad281,e281,hx281_0,hx281_1⟩:=at_T60 HR0.out x5_1 p281 q281
       cases e281
       replace p281:=eq_true p281
       replace q281:=eq_true q281
       have p282 : 0 ≤ (x5_1 : Int):=of_decide_eq_true (by first|(with_reducible assumption)|assumption)
       have q282 : x5_1 < (l1.length : Int):=of_decide_eq_true (by first|(with_reducible assumption)|assumption)
       obtain ⟨ad282,e282,hx282_0,hx282_1⟩:=at_T60 HR1.out x5_1 p282 q282
       cases e282
       replace p282:=eq_true p282
       replace q282:=eq_true q282
       go_wp2_with (first|(go_at_call 114;(with_reducible refine (spillwayref3_less.calls ((rd_T60 l0 x5_1).f0) ((rd_T60 l1 x5_1).f0) t283 _ A9.out).mono ?_);rintro e w' ⟨rfl,⟨nd,rfl⟩⟩;(try first|exact ⟨rfl,_,World.drewN_drewN _ _ _⟩|exact ⟨rfl,_,Eq.trans (World.drewN_drewN _ _ _) (congrArg (World.drewN _) (Nat.add_assoc _ _ _))⟩)))
       repeat (go_quiet (first|(go_at_call 114;(with_reducible refine (spillwayref3_less.calls ((rd_T60 l0 x5_1).f0) ((rd_T60 l1 x5_1).f0) t283 _ A9.out).mono ?_);rintro e w' ⟨rfl,⟨nd,rfl⟩⟩;(try first|exact ⟨rfl,_,World.drewN_drewN _ _ _⟩|exact ⟨rfl,_,Eq.trans (World.drewN_drewN _ _ _) (congrArg (World.drewN _) (Nat.add_assoc _ _ _))⟩)));try go_wp2_with (first|(go_at_call 114;(with_reducible refine (spillwayref3_less.calls ((rd_T60 l0 x5_1).f0) ((rd_T60 l1 x5_1).f0) t283 _ A9.out).mono ?_);rintro e w' ⟨rfl,⟨nd,rfl⟩⟩;(try first|exact ⟨rfl,_,World.drewN_drewN _ _ _⟩|exact ⟨rfl,_,Eq.trans (World.drewN_drewN _ _ _) (congrArg (World.drewN _) (Nat.add_assoc _ _ _))⟩))))
       go_ret
       exact ⟨by first|rfl|(simp;done)|(simp [*];done),by repeat (first|exact Drawn0.refl _|apply Drawn0.step)⟩
      rw [if_neg c8] at H
      exact absurd H (by simp)
     rw [if_neg c7] at H
     exact absurd H (by simp)
    rw [if_neg c6] at H
    exact absurd H (by simp)
   replace c5:=Bool.eq_false_iff.mpr c5
   subst c5
   have H1 : (if (l0.length : Int) < (l1.length : Int) then (some (-1)) else (if (l0.length : Int) > (l1.length : Int) then (some 1) else (some 0))) = some r:=by rw [if_neg (show ¬ (false = true) by decide)] at H;exact H
   clear H
   have H:=H1
   clear H1
   by_cases c13 : (l0.length : Int) < (l1.length : Int)
   ·rw [if_pos c13] at H
    have c13b0 : decide ((l0.length : Int) < (l1.length : Int)) = true:=decide_eq_true c13
    have c13b1 : decide (l0.length < l1.length) = true:=decide_eq_true (Int.ofNat_lt.mp c13)
    clear c13
    obtain rfl:=Option.some.inj H
    go_wp2
    repeat (go_quiet (fail);try go_wp2)
    go_ret
    exact ⟨by first|rfl|(simp;done)|(simp [*];done),by repeat (first|exact Drawn0.refl _|apply Drawn0.step)⟩
   rw [if_neg c13] at H
   have c13b0 : decide ((l0.length : Int) < (l1.length : Int)) = false:=decide_eq_false c13
   have c13b1 : decide (l0.length < l1.length) = false:=decide_eq_false (fun h=>c13 (Int.ofNat_lt.mpr h))
   clear c13
   by_cases c14 : (l0.length : Int) > (l1.length : Int)
   ·rw [if_pos c14] at H
    have c14b0 : decide ((l1.length : Int) < (l0.length : Int)) = true:=decide_eq_true c14
    have c14b1 : decide (l1.length < l0.length) = true:=decide_eq_true (Int.ofNat_lt.mp c14)
    clear c14
    obtain rfl:=Option.some.inj H
    go_wp2
    repeat (go_quiet (fail);try go_wp2)
    go_ret
    exact ⟨by first|rfl|(simp;done)|(simp [*];done),by repeat (first|exact Drawn0.refl _|apply Drawn0.step)⟩
   rw [if_neg c14] at H
   have c14b0 : decide ((l1.length : Int) < (l0.length : Int)) = false:=decide_eq_false c14
   have c14b1 : decide (l1.length < l0.length) = false:=decide_eq_false (fun h=>c14 (Int.ofNat_lt.mpr h))
   clear c14
   obtain rfl:=Option.some.inj H
   go_wp2
   repeat (go_quiet (fail);try go_wp2)
   go_ret
   exact ⟨by first|rfl|(simp;done)|(simp [*];done),by repeat (first|exact Drawn0.refl _|apply Drawn0.step)⟩
/-! ### spillwayref3_Same: function 42 -/
def spillwayref3_Same.f (k : Nat) (l0 : List (S60)) (l1 : List (S60)) : Option (Bool):=(spillwayref3_Cmp.f k l0 l1).bind fun t287=>(some (t287 == 0))
set_option maxHeartbeats 8000000 in
set_option maxRecDepth 100000 in
theorem spillwayref3_Same.calls (k : Nat) (A0 : Option Addr) (c0 : Nat) (l0 : List (S60)) (A1 : Option Addr) (c1 : Nat) (l1 : List (S60)) (r : Bool) (w : World) (hr0 : Kd.C k60 w A0 l0.length l0) (hc0 : l0.length ≤ c0) (hr1 : Kd.C k60 w A1 l1.length l1) (hc1 : l1.length ≤ c1) (h : spillwayref3_Same.f k l0 l1 = some r) :
  Calls Tryz.prog 42 #[.slice A0 l0.length c0,.slice A1 l1.length c1] w fun e w'=>e = .returned (.bool r) ∧ Drawn0 w w':=by
 have HR0:=Aside0.mk hr0
 have HC0:=Aside0.mk hc0
 clear hr0 hc0
 have HR1:=Aside0.mk hr1
 have HC1:=Aside0.mk hc1
 clear hr1 hc1
 have H : ((spillwayref3_Cmp.f k l0 l1).bind fun t287=>(some (t287 == 0))) = some r:=h
 clear h
 replace H:=Option.bind_eq_some_iff.mp H
 obtain ⟨t287,A30,H⟩:=H
 replace H : (some (t287 == 0)) = some r:=H
 have A3:=Aside0.mk A30
 clear A30
 obtain rfl:=Option.some.inj H
 go_enter Tryz.func42,Tryz.ntmps42
 go_wp2_with (first|((with_reducible refine gate_callee (f:=77) rfl ?_);refine goesL_ (some 7) rfl rfl Tryz.func77 (by kernel_rfl) rfl #[.slice A0 l0.length c0,.slice A1 l1.length c1] rfl (by (try simp only [List.map_toArray,List.map_cons,List.map_nil]);first|done|rfl|(simp only [List.length_drop,List.length_take];rfl)) ?_;(with_reducible refine (spillwayref3_Cmp.calls k _ _ l0 _ _ l1 t287 _ ?side1 ?side2 ?side3 ?side4 A3.out).mono ?_);(case side1=>repeat (first|exact HR0.out|(with_reducible refine Kd.C_alloc ?_ _)|(with_reducible refine Kd.C_drewN ?_ _)|(with_reducible refine Kd.C_drew ?_)));(case side2=>exact HC0.out);(case side3=>repeat (first|exact HR1.out|(with_reducible refine Kd.C_alloc ?_ _)|(with_reducible refine Kd.C_drewN ?_ _)|(with_reducible refine Kd.C_drew ?_)));(case side4=>exact HC1.out);rintro e w' ⟨rfl,⟨nd,rfl⟩⟩;refine ⟨_,rfl,?_⟩))
 go_ret
 exact ⟨by first|rfl|(simp;done)|(simp [*];done),by repeat (first|exact Drawn0.refl _|apply Drawn0.step)⟩
end Go.Proofs.YtfgffjchphignaaGreatDoor.Print
end
section
namespace Go.Proofs.YtfgffjchphignaaGreatDoor.Print
open Go.RowKit Go.Proofs.YtfgffjchphignaaGreatDoorX Go.Proofs.YtfgffjchphignaaGreatDoorW.PrintWords Go.Proofs.YtfgffjchphignaaGreatDoorW.PrintLast Go.Proofs.YtfgffjchphignaaGreatDoorW.PrintMore
attribute [local go_sem high] eqA32
/-! ### spillwaylaw6_same: function 15 -/
def spillwaylaw6_same.f (k : Nat) (l0_0 : List (S60)) (a0_1 : Bool) (a0_2 : Int) (a0_3 : Int) (a0_4 : Bool) (a0_5 : Int) (l1_0 : List (S60)) (a1_1 : Bool) (a1_2 : Int) (a1_3 : Int) (a1_4 : Bool) (a1_5 : Int) : Option (Bool):=(spillwayref3_Same.f k l0_0 l1_0).bind fun t290=>(if t290 = true then (if (a0_1 == a1_1 && (a0_2 == a1_2)) = true then (if a0_3 = a1_3 then (if (a0_4 == a1_4) = true then (some (a0_5 == a1_5)) else (none)) else (none)) else (none)) else (none))
set_option maxHeartbeats 8000000 in
set_option maxRecDepth 100000 in
theorem spillwaylaw6_same.calls (k : Nat) (A0_0 : Option Addr) (c0_0 : Nat) (l0_0 : List (S60)) (a0_1 : Bool) (a0_2 : Int) (a0_3 : Int) (a0_4 : Bool) (a0_5 : Int) (A1_0 : Option Addr) (c1_0 : Nat) (l1_0 : List (S60)) (a1_1 : Bool) (a1_2 : Int) (a1_3 : Int) (a1_4 : Bool) (a1_5 : Int) (r : Bool) (w : World) (hr0_0 : Kd.C k60 w A0_0 l0_0.length l0_0) (hc0_0 : l0_0.length ≤ c0_0) (hr1_0 : Kd.C k60 w A1_0 l1_0.length l1_0) (hc1_0 : l1_0.length ≤ c1_0) (h : spillwaylaw6_same.f k l0_0 a0_1 a0_2 a0_3 a0_4 a0_5 l1_0 a1_1 a1_2 a1_3 a1_4 a1_5 = some r) :
  Calls Tryz.prog 15 #[.agg #[.slice A0_0 l0_0.length c0_0,.bool a0_1,.int .i64 a0_2,.int .i64 a0_3,.bool a0_4,.int .i64 a0_5],.agg #[.slice A1_0 l1_0.length c1_0,.bool a1_1,.int .i64 a1_2,.int .i64 a1_3,.bool a1_4,.int .i64 a1_5]] w fun e w'=>e = .returned (.bool r) ∧ Below w.heap.size w w':=by
 have hu34:=Tryz.underlying34
 have hu32:=Tryz.underlying32
 have HR0_0:=Aside0.mk hr0_0
 have HC0_0:=Aside0.mk hc0_0
 clear hr0_0 hc0_0
 have HR1_0:=Aside0.mk hr1_0
 have HC1_0:=Aside0.mk hc1_0
 clear hr1_0 hc1_0
 have HB:=Aside0.mk (Below.refl w.heap.size w)
 have H : ((spillwayref3_Same.f k l0_0 l1_0).bind fun t290=>(if t290 = true then (if (a0_1 == a1_1 && (a0_2 == a1_2)) = true then (if a0_3 = a1_3 then (if (a0_4 == a1_4) = true then (some (a0_5 == a1_5)) else (none)) else (none)) else (none)) else (none))) = some r:=h
 clear h
 replace H:=Option.bind_eq_some_iff.mp H
 obtain ⟨t290,A30,H⟩:=H
 replace H : (if t290 = true then (if (a0_1 == a1_1 && (a0_2 == a1_2)) = true then (if a0_3 = a1_3 then (if (a0_4 == a1_4) = true then (some (a0_5 == a1_5)) else (none)) else (none)) else (none)) else (none)) = some r:=H
 have A3:=Aside0.mk A30
 clear A30
 by_cases c4 : t290 = true
 ·subst c4
  have H1 : (if (a0_1 == a1_1 && (a0_2 == a1_2)) = true then (if a0_3 = a1_3 then (if (a0_4 == a1_4) = true then (some (a0_5 == a1_5)) else (none)) else (none)) else (none)) = some r:=by rw [if_pos rfl] at H;exact H
  clear H
  have H:=H1
  clear H1
  by_cases c5 : (a0_1 == a1_1 && (a0_2 == a1_2)) = true
  ·rw [if_pos c5] at H
   have c5b0 : (a0_1 == a1_1 && (a0_2 == a1_2)) = true:=c5
   (try (have c5b1 : decide (a0_1 = a1_1 && (a0_2 == a1_2)) = true:=by simpa using c5))
   (try (have c5b2 : (a0_1 == a1_1 && (a0_2 == a1_2)) = true:=by simpa using c5))
   clear c5
   by_cases c6 : a0_3 = a1_3
   ·rw [if_pos c6] at H
    have c6b0 : (a0_3 == a1_3) = true:=beq_iff_eq.mpr c6
    have c6b1 : (a0_3 != a1_3) = false:=bne_eq_false_iff_eq.mpr c6
    clear c6
    by_cases c7 : (a0_4 == a1_4) = true
    ·rw [if_pos c7] at H
     have c7b0 : (a0_4 == a1_4) = true:=c7
     (try (have c7b1 : decide (a0_4 = a1_4) = true:=by simpa using c7))
     (try (have c7b2 : (a0_4 == a1_4) = true:=by simpa using c7))
     clear c7
     obtain rfl:=Option.some.inj H
     go_enter Tryz.func15,Tryz.ntmps15
     go_wp2_with (first|((with_reducible refine gate_dst (N:=2) rfl ?_);refine box_event ?hg (N:=2) ?hd (cs:=#[.slice A0_0 l0_0.length c0_0,.bool a0_1,.int .i64 a0_2,.int .i64 a0_3,.bool a0_4,.int .i64 a0_5]) (t:=34) ?hr ?_;(case hd=>rfl);(case hg=>rfl);(case hr=>first|(go_simp;done)|(go_simp;rfl));intro gb288 hg w8 hbox hb;have n0_:=Aside0.mk (below_step (by repeat (first|(with_reducible first|exact HB.out|apply below_alloc|apply pw_below_drewN|apply below_drew1)|exact HB.out)) hb);have n1_:=Aside0.mk (hbox);have n2_:=Aside0.mk ((by rw [hg];exact (below_size (by repeat (first|(with_reducible first|exact HB.out|apply below_alloc|apply pw_below_drewN|apply below_drew1)|exact HB.out))) : w.heap.size ≤ gb288));have n3_:=Aside0.mk ((by rw [hg];exact (below_size (by repeat (first|(with_reducible first|exact HB.out|apply below_alloc|apply pw_below_drewN|apply below_drew1)|exact HB.out))) : w.heap.size ≤ gb288));clear HB;have HB:=n0_;have BK288:=n1_;have GW288:=n2_;have GE288:=n3_;clear n0_ n1_ n2_ n3_;clear hb hbox hg)|((with_reducible refine gate_dst (N:=3) rfl ?_);refine box_event ?hg (N:=3) ?hd (cs:=#[.slice A1_0 l1_0.length c1_0,.bool a1_1,.int .i64 a1_2,.int .i64 a1_3,.bool a1_4,.int .i64 a1_5]) (t:=34) ?hr ?_;(case hd=>rfl);(case hg=>rfl);(case hr=>first|(go_simp;done)|(go_simp;rfl));intro gb289 hg w9 hbox hb;have n0_:=Aside0.mk (blk_below (g:=gb288) (o:=.cells #[.slice A0_0 l0_0.length c0_0,.bool a0_1,.int .i64 a0_2,.int .i64 a0_3,.bool a0_4,.int .i64 a0_5] 34 (0,0)) (by (with_reducible repeat (first|refine blk_drewN ?_ _|refine blk_drew ?_|refine blk_alloc ?_ _));exact BK288.out) hb);have n1_:=Aside0.mk (below_step (by repeat (first|(with_reducible first|exact HB.out|apply below_alloc|apply pw_below_drewN|apply below_drew1|refine below_set ?_ GE288.out)|exact HB.out)) hb);have n2_:=Aside0.mk (hbox);have n3_:=Aside0.mk ((by rw [hg];exact (below_size (by repeat (first|(with_reducible first|exact HB.out|apply below_alloc|apply pw_below_drewN|apply below_drew1|refine below_set ?_ GE288.out)|exact HB.out))) : w.heap.size ≤ gb289));have n4_:=Aside0.mk ((by rw [hg];exact (below_size (by repeat (first|(with_reducible first|exact HB.out|apply below_alloc|apply pw_below_drewN|apply below_drew1|refine below_set ?_ GE288.out)|exact HB.out))) : w.heap.size ≤ gb289));have n5_:=Aside0.mk ((by rw [hg];exact Nat.ne_of_lt (blk_lt (g:=gb288) (o:=.cells #[.slice A0_0 l0_0.length c0_0,.bool a0_1,.int .i64 a0_2,.int .i64 a0_3,.bool a0_4,.int .i64 a0_5] 34 (0,0)) (by (with_reducible repeat (first|refine blk_drewN ?_ _|refine blk_drew ?_|refine blk_alloc ?_ _));exact BK288.out)) : gb288 ≠ gb289));have n6_:=Aside0.mk ((by rw [hg];exact Nat.ne_of_gt (blk_lt (g:=gb288) (o:=.cells #[.slice A0_0 l0_0.length c0_0,.bool a0_1,.int .i64 a0_2,.int .i64 a0_3,.bool a0_4,.int .i64 a0_5] 34 (0,0)) (by (with_reducible repeat (first|refine blk_drewN ?_ _|refine blk_drew ?_|refine blk_alloc ?_ _));exact BK288.out)) : gb289 ≠ gb288));clear BK288;clear HB;have BK288:=n0_;have HB:=n1_;have BK289:=n2_;have GW289:=n3_;have GE289:=n4_;have NB288_289:=n5_;have NB289_288:=n6_;clear n0_ n1_ n2_ n3_ n4_ n5_ n6_;clear hb hbox hg;have hnb10:=NB288_289.out;have hnc10:=NB289_288.out;have hcz11_0 : w9.cell? ⟨gb288,0,none⟩ = some (.slice A0_0 l0_0.length c0_0):=(blk_cell BK288.out 0).trans rfl;have hcz11_1 : w9.cell? ⟨gb288,1,none⟩ = some (.bool a0_1):=(blk_cell BK288.out 1).trans rfl;have hcz11_2 : w9.cell? ⟨gb288,2,none⟩ = some (.int .i64 a0_2):=(blk_cell BK288.out 2).trans rfl;have hcz11_3 : w9.cell? ⟨gb288,3,none⟩ = some (.int .i64 a0_3):=(blk_cell BK288.out 3).trans rfl;have hcz11_4 : w9.cell? ⟨gb288,4,none⟩ = some (.bool a0_4):=(blk_cell BK288.out 4).trans rfl;have hcz11_5 : w9.cell? ⟨gb288,5,none⟩ = some (.int .i64 a0_5):=(blk_cell BK288.out 5).trans rfl;have hfz11_0:=blk_frozen BK288.out 0;have hfz11_1:=blk_frozen BK288.out 1;have hfz11_2:=blk_frozen BK288.out 2;have hfz11_3:=blk_frozen BK288.out 3;have hfz11_4:=blk_frozen BK288.out 4;have hfz11_5:=blk_frozen BK288.out 5;have hcz12_0 : w9.cell? ⟨gb289,0,none⟩ = some (.slice A1_0 l1_0.length c1_0):=(blk_cell BK289.out 0).trans rfl;have hcz12_1 : w9.cell? ⟨gb289,1,none⟩ = some (.bool a1_1):=(blk_cell BK289.out 1).trans rfl;have hcz12_2 : w9.cell? ⟨gb289,2,none⟩ = some (.int .i64 a1_2):=(blk_cell BK289.out 2).trans rfl;have hcz12_3 : w9.cell? ⟨gb289,3,none⟩ = some (.int .i64 a1_3):=(blk_cell BK289.out 3).trans rfl;have hcz12_4 : w9.cell? ⟨gb289,4,none⟩ = some (.bool a1_4):=(blk_cell BK289.out 4).trans rfl;have hcz12_5 : w9.cell? ⟨gb289,5,none⟩ = some (.int .i64 a1_5):=(blk_cell BK289.out 5).trans rfl;have hfz12_0:=blk_frozen BK289.out 0;have hfz12_1:=blk_frozen BK289.out 1;have hfz12_2:=blk_frozen BK289.out 2;have hfz12_3:=blk_frozen BK289.out 3;have hfz12_4:=blk_frozen BK289.out 4;have hfz12_5:=blk_frozen BK289.out 5)|((with_reducible refine gate_callee (f:=42) rfl ?_);refine goesL_ (some 9) rfl rfl Tryz.func42 (by kernel_rfl) rfl #[.slice A0_0 l0_0.length c0_0,.slice A1_0 l1_0.length c1_0] rfl (by (try simp only [List.map_toArray,List.map_cons,List.map_nil]);first|done|rfl|(simp only [List.length_drop,List.length_take];rfl)) ?_;(with_reducible refine (spillwayref3_Same.calls k _ _ l0_0 _ _ l1_0 true _ ?side1 ?side2 ?side3 ?side4 A3.out).mono ?_);(case side1=>repeat (first|exact (Kd.C_below HR0_0.out HB.out)|(with_reducible refine Kd.C_alloc ?_ _)|(with_reducible refine Kd.C_drewN ?_ _)|(with_reducible refine Kd.C_drew ?_)));(case side2=>exact HC0_0.out);(case side3=>repeat (first|exact (Kd.C_below HR1_0.out HB.out)|(with_reducible refine Kd.C_alloc ?_ _)|(with_reducible refine Kd.C_drewN ?_ _)|(with_reducible refine Kd.C_drew ?_)));(case side4=>exact HC1_0.out);rintro e w' ⟨rfl,⟨nd,rfl⟩⟩;refine ⟨_,rfl,?_⟩))
     go_ret
     exact ⟨by first|rfl|(simp [errW_none,errW_some] <;> rfl)|(simp [*,errW_none,errW_some] <;> rfl),by repeat (first|(with_reducible first|exact HB.out|apply below_alloc|apply pw_below_drewN|apply below_drew1|refine below_set ?_ GE288.out|refine below_set ?_ GE289.out)|exact HB.out)⟩
    rw [if_neg c7] at H
    exact absurd H (by simp)
   rw [if_neg c6] at H
   exact absurd H (by simp)
  rw [if_neg c5] at H
  exact absurd H (by simp)
 replace c4:=Bool.eq_false_iff.mpr c4
 subst c4
 have H1 : (none) = some r:=by rw [if_neg (show ¬ (false = true) by decide)] at H;exact H
 clear H
 have H:=H1
 clear H1
 exact absurd H (by simp)
end Go.Proofs.YtfgffjchphignaaGreatDoor.Print
end
section
namespace Go.Proofs.YtfgffjchphignaaGreatDoor.Print
open Go.RowKit Go.Proofs.YtfgffjchphignaaGreatDoorX Go.Proofs.YtfgffjchphignaaGreatDoorW.PrintWords Go.Proofs.YtfgffjchphignaaGreatDoorW.PrintLast Go.Proofs.YtfgffjchphignaaGreatDoorW.PrintMore
/-! ### spillwaylaw6_sames: function 14 -/
def spillwaylaw6_sames.l0 : Nat → List (S34) → List (S34) → Int → Option (Bool)
 | 0,_,_,_=>none
 | k + 1,x0,x1,x5=>if x5 < (x0.length : Int) then (if 0 ≤ x5 then (if x5 < (x1.length : Int) then ((spillwaylaw6_same.f k ((rd_T34 x0 x5).f0) ((rd_T34 x0 x5).f1.f0) ((rd_T34 x0 x5).f1.f1) ((rd_T34 x0 x5).f2) ((rd_T34 x0 x5).f3) ((rd_T34 x0 x5).f4) ((rd_T34 x1 x5).f0) ((rd_T34 x1 x5).f1.f0) ((rd_T34 x1 x5).f1.f1) ((rd_T34 x1 x5).f2) ((rd_T34 x1 x5).f3) ((rd_T34 x1 x5).f4)).bind fun t293=>(if t293 = true then (spillwaylaw6_sames.l0 k x0 x1 (wrap64 (x5 + 1))) else (none))) else (none)) else (none)) else (some true)
def spillwaylaw6_sames.f (k : Nat) (l0 : List (S34)) (l1 : List (S34)) : Option (Bool):=if (l0.length : Int) = (l1.length : Int) then (spillwaylaw6_sames.l0 k l0 l1 0) else (none)
def spillwaylaw6_sames.T6 : Bool × List (List Nat × List Nat):=(true,[([],[]),([],[]),([0,1],[0,1]),([2],[2]),([],[]),([],[]),([4,5],[4,5]),([6],[6]),([3,7],[3,7]),([8],[8])])
def spillwaylaw6_sames.B6 : List Nat:=[0,0,3,7,0,0,48,112,255,511]
theorem spillwaylaw6_sames.tab6 : rtab .any (opsOf Tryz.f14 6) = spillwaylaw6_sames.T6:=by kernel_rfl
theorem spillwaylaw6_sames.bits6 : waitsOk spillwaylaw6_sames.T6.2 spillwaylaw6_sames.B6 = true:=by kernel_rfl
set_option maxHeartbeats 8000000 in
set_option maxRecDepth 100000 in
theorem spillwaylaw6_sames.calls (k : Nat) (A0 : Option Addr) (c0 : Nat) (l0 : List (S34)) (A1 : Option Addr) (c1 : Nat) (l1 : List (S34)) (r : Bool) (w : World) (hr0 : Kd.C k34 w A0 l0.length l0) (hc0 : l0.length ≤ c0) (hr1 : Kd.C k34 w A1 l1.length l1) (hc1 : l1.length ≤ c1) (h : spillwaylaw6_sames.f k l0 l1 = some r) :
  Calls Tryz.prog 14 #[.slice A0 l0.length c0,.slice A1 l1.length c1] w fun e w'=>e = .returned (.bool r) ∧ Below w.heap.size w w':=by
 have hu34:=Tryz.underlying34
 have HR0:=Aside0.mk hr0
 have HC0:=Aside0.mk hc0
 clear hr0 hc0
 have HR1:=Aside0.mk hr1
 have HC1:=Aside0.mk hc1
 clear hr1 hc1
 have HB:=Aside0.mk (Below.refl w.heap.size w)
 have H : (if (l0.length : Int) = (l1.length : Int) then (spillwaylaw6_sames.l0 k l0 l1 0) else (none)) = some r:=h
 clear h
 by_cases c3 : (l0.length : Int) = (l1.length : Int)
 ·rw [if_pos c3] at H
  have c3b0 : ((l0.length : Int) == (l1.length : Int)) = true:=beq_iff_eq.mpr c3
  have c3b1 : ((l0.length : Int) != (l1.length : Int)) = false:=bne_eq_false_iff_eq.mpr c3
  have c3b2 : (l0.length == l1.length) = true:=by first|simpa using c3|(simp at c3 ⊢;omega)
  clear c3
  have H':=Aside0.mk H
  clear H
  go_enter Tryz.func14,Tryz.ntmps14
  go_wp2
  go_loopg [5] k (fun kq v5 w'=>∃ (x5_1 : Int),v5 = .int .i64 x5_1 ∧ Aside0 (spillwaylaw6_sames.l0 kq l0 l1 x5_1 = some r) ∧ Aside0 (kq ≤ k) ∧ Aside0 (Below w.heap.size w w'))
  case atStart=>exact ⟨(0),(by first|rfl|(simp;done)|(simp [*];done)),H',⟨Nat.le_refl _⟩,⟨by repeat (first|(with_reducible first|exact HB.out|apply below_alloc|apply pw_below_drewN|apply below_drew1)|exact HB.out)⟩⟩
  clear H'
  try clear c1
  try clear p2
  try clear c3
  try clear c3b0
  try clear c3b1
  try clear c3b2
  obtain ⟨x5_1,rfl,HA,HK1,HB⟩:=hrel
  cases gk with
  | zero=>exact absurd HA.out (by simp [spillwaylaw6_sames.l0])
  | succ k1 =>
   have H:=HA.out
   clear HA
   simp only [spillwaylaw6_sames.l0] at H
   by_cases c4 : x5_1 < (l0.length : Int)
   ·rw [if_pos c4] at H
    have c4b0 : decide (x5_1 < (l0.length : Int)) = true:=decide_eq_true c4
    clear c4
    by_cases c5 : 0 ≤ x5_1
    ·rw [if_pos c5] at H
     have c5b0 : decide (0 ≤ x5_1) = true:=decide_eq_true c5
     clear c5
     by_cases c6 : x5_1 < (l1.length : Int)
     ·rw [if_pos c6] at H
      have c6b0 : decide (x5_1 < (l1.length : Int)) = true:=decide_eq_true c6
      clear c6
      replace H:=Option.bind_eq_some_iff.mp H
      obtain ⟨t293,A70,H⟩:=H
      replace H : (if t293 = true then (spillwaylaw6_sames.l0 k1 l0 l1 (wrap64 (x5_1 + 1))) else (none)) = some r:=H
      have A7:=Aside0.mk A70
      clear A70
      by_cases c8 : t293 = true
      ·subst c8
       have H1 : (spillwaylaw6_sames.l0 k1 l0 l1 (wrap64 (x5_1 + 1))) = some r:=by rw [if_pos rfl] at H;exact H
       clear H
       have H:=H1
       clear H1
       have H':=Aside0.mk H
       clear H
       try go_wp2
       have n0_:=Aside0.mk (below_drew1 HB.out)
       clear HB
       have HB:=n0_
       clear n0_
       have p291 : 0 ≤ (x5_1 : Int):=of_decide_eq_true (by first|(with_reducible assumption)|assumption)
       have q291 : x5_1 < (l0.length : Int):=of_decide_eq_true (by first|(with_reducible assumption)|assumption)
       obtain ⟨ad291,A291_0,c291_0,e291,hx291_0,hx291_1,hx291_2,hx291_3,hx291_4,hx291_5,hl291_0,hi291_0⟩:=at_T34 HR0.out x5_1 p291 q291
       have hw291_5:=hx291_5
       have hw291_4:=hx291_4
       have hw291_3:=hx291_3
       have hw291_2:=hx291_2
       have hw291_1:=hx291_1
       have hw291_0:=hx291_0
       cases e291
       replace hx291_0:=(HB.out.cell (World.block_lt_of_cell? w _ hx291_0)).trans hx291_0
       replace hx291_1:=(HB.out.cell (World.block_lt_of_cell? w _ hx291_1)).trans hx291_1
       replace hx291_2:=(HB.out.cell (World.block_lt_of_cell? w _ hx291_2)).trans hx291_2
       replace hx291_3:=(HB.out.cell (World.block_lt_of_cell? w _ hx291_3)).trans hx291_3
       replace hx291_4:=(HB.out.cell (World.block_lt_of_cell? w _ hx291_4)).trans hx291_4
       replace hx291_5:=(HB.out.cell (World.block_lt_of_cell? w _ hx291_5)).trans hx291_5
       have HR291_0:=Aside0.mk hi291_0
       have HC291_0:=Aside0.mk hl291_0
       clear hi291_0 hl291_0
       replace p291:=eq_true p291
       replace q291:=eq_true q291
       have p292 : 0 ≤ (x5_1 : Int):=of_decide_eq_true (by first|(with_reducible assumption)|assumption)
       have q292 : x5_1 < (l1.length : Int):=of_decide_eq_true (by first|(with_reducible assumption)|assumption)
       obtain ⟨ad292,A292_0,c292_0,e292,hx292_0,hx292_1,hx292_2,hx292_3,hx292_4,hx292_5,hl292_0,hi292_0⟩:=at_T34 HR1.out x5_1 p292 q292
       have hw292_5:=hx292_5
       have hw292_4:=hx292_4
       have hw292_3:=hx292_3
       have hw292_2:=hx292_2
       have hw292_1:=hx292_1
       have hw292_0:=hx292_0
       cases e292
       replace hx292_0:=(HB.out.cell (World.block_lt_of_cell? w _ hx292_0)).trans hx292_0
       replace hx292_1:=(HB.out.cell (World.block_lt_of_cell? w _ hx292_1)).trans hx292_1
       replace hx292_2:=(HB.out.cell (World.block_lt_of_cell? w _ hx292_2)).trans hx292_2
       replace hx292_3:=(HB.out.cell (World.block_lt_of_cell? w _ hx292_3)).trans hx292_3
       replace hx292_4:=(HB.out.cell (World.block_lt_of_cell? w _ hx292_4)).trans hx292_4
       replace hx292_5:=(HB.out.cell (World.block_lt_of_cell? w _ hx292_5)).trans hx292_5
       have HR292_0:=Aside0.mk hi292_0
       have HC292_0:=Aside0.mk hl292_0
       clear hi292_0 hl292_0
       replace p292:=eq_true p292
       replace q292:=eq_true q292
       refine start_ (n:=10) (S:=fun w'=>w'.cell? (ad291.add ((x5_1).toNat * 6)) = some (.slice A291_0 ((rd_T34 l0 x5_1).f0).length c291_0) ∧ w'.cell? ⟨(ad291.add ((x5_1).toNat * 6)).block,(ad291.add ((x5_1).toNat * 6)).off + 1,none⟩ = some (.bool ((rd_T34 l0 x5_1).f1.f0)) ∧ w'.cell? ⟨(ad291.add ((x5_1).toNat * 6)).block,(ad291.add ((x5_1).toNat * 6)).off + 2,none⟩ = some (.int .i64 ((rd_T34 l0 x5_1).f1.f1)) ∧ w'.cell? ⟨(ad291.add ((x5_1).toNat * 6)).block,(ad291.add ((x5_1).toNat * 6)).off + 3,none⟩ = some (.int .i64 ((rd_T34 l0 x5_1).f2)) ∧ w'.cell? ⟨(ad291.add ((x5_1).toNat * 6)).block,(ad291.add ((x5_1).toNat * 6)).off + 4,none⟩ = some (.bool ((rd_T34 l0 x5_1).f3)) ∧ w'.cell? ⟨(ad291.add ((x5_1).toNat * 6)).block,(ad291.add ((x5_1).toNat * 6)).off + 5,none⟩ = some (.int .i64 ((rd_T34 l0 x5_1).f4)) ∧ w'.cell? (ad292.add ((x5_1).toNat * 6)) = some (.slice A292_0 ((rd_T34 l1 x5_1).f0).length c292_0) ∧ w'.cell? ⟨(ad292.add ((x5_1).toNat * 6)).block,(ad292.add ((x5_1).toNat * 6)).off + 1,none⟩ = some (.bool ((rd_T34 l1 x5_1).f1.f0)) ∧ w'.cell? ⟨(ad292.add ((x5_1).toNat * 6)).block,(ad292.add ((x5_1).toNat * 6)).off + 2,none⟩ = some (.int .i64 ((rd_T34 l1 x5_1).f1.f1)) ∧ w'.cell? ⟨(ad292.add ((x5_1).toNat * 6)).block,(ad292.add ((x5_1).toNat * 6)).off + 3,none⟩ = some (.int .i64 ((rd_T34 l1 x5_1).f2)) ∧ w'.cell? ⟨(ad292.add ((x5_1).toNat * 6)).block,(ad292.add ((x5_1).toNat * 6)).off + 4,none⟩ = some (.bool ((rd_T34 l1 x5_1).f3)) ∧ w'.cell? ⟨(ad292.add ((x5_1).toNat * 6)).block,(ad292.add ((x5_1).toNat * 6)).off + 5,none⟩ = some (.int .i64 ((rd_T34 l1 x5_1).f4))) (ds:=[]) #[false,false,false,false,false,false,false,false,false,false] (by kernel_rfl) rfl rfl ⟨((HB.out.cell (World.block_lt_of_cell? w _ hw291_0)).trans hw291_0),((HB.out.cell (World.block_lt_of_cell? w _ hw291_1)).trans hw291_1),((HB.out.cell (World.block_lt_of_cell? w _ hw291_2)).trans hw291_2),((HB.out.cell (World.block_lt_of_cell? w _ hw291_3)).trans hw291_3),((HB.out.cell (World.block_lt_of_cell? w _ hw291_4)).trans hw291_4),((HB.out.cell (World.block_lt_of_cell? w _ hw291_5)).trans hw291_5),((HB.out.cell (World.block_lt_of_cell? w _ hw292_0)).trans hw292_0),((HB.out.cell (World.block_lt_of_cell? w _ hw292_1)).trans hw292_1),((HB.out.cell (World.block_lt_of_cell? w _ hw292_2)).trans hw292_2),((HB.out.cell (World.block_lt_of_cell? w _ hw292_3)).trans hw292_3),((HB.out.cell (World.block_lt_of_cell? w _ hw292_4)).trans hw292_4),((HB.out.cell (World.block_lt_of_cell? w _ hw292_5)).trans hw292_5)⟩ (fun hHeld=>?_);refine with_tabW spillwaylaw6_sames.tab6 spillwaylaw6_sames.bits6 (fun HT_ HW_=>?_)
       generalize wr.drew = w9 at HB HR291_0 HR292_0 hx291_0 hx291_1 hx291_2 hx291_3 hx291_4 hx291_5 hx292_0 hx292_1 hx292_2 hx292_3 hx292_4 hx292_5 hHeld ⊢
       refine pure_ (i:=0) (N:=some 17) (v:=?_) (a':=?_) #[true,false,false,false,false,false,false,false,false,false] rfl rfl (any_of HT_.out (by kernel_rfl)) (fun _ _ _ h=>h) (Or.inl ⟨by rfl,?_⟩) ?_ ?_
       rotate_left
       ·intro w'
        go_simp
        with_reducible rfl
       rotate_left
       ·simp only [Act.put,List.setIfInBounds_toArray,List.set_cons_zero,List.set_cons_succ,i64_w,i32_w]
        rfl
       refine pure_ (i:=1) (N:=some 18) (v:=?_) (a':=?_) #[true,true,false,false,false,false,false,false,false,false] rfl rfl (any_of HT_.out (by kernel_rfl)) (fun _ _ _ h=>h) (Or.inl ⟨by rfl,?_⟩) ?_ ?_
       rotate_left
       ·intro w'
        go_simp
        with_reducible rfl
       rotate_left
       ·simp only [Act.put,List.setIfInBounds_toArray,List.set_cons_zero,List.set_cons_succ,i64_w,i32_w]
        rfl
       refine pure_ (i:=2) (N:=some 19) (v:=?_) (a':=?_) #[true,true,true,false,false,false,false,false,false,false] rfl rfl (any_of HT_.out (by kernel_rfl)) (fun _ _ _ h=>h) (Or.inl ⟨by rfl,?_⟩) ?_ ?_
       rotate_left
       ·intro w'
        go_simp
        with_reducible rfl
       rotate_left
       ·simp only [Act.put,List.setIfInBounds_toArray,List.set_cons_zero,List.set_cons_succ,i64_w,i32_w]
        rfl
       refine pure_ (i:=4) (N:=some 21) (v:=?_) (a':=?_) #[true,true,true,false,true,false,false,false,false,false] rfl rfl (any_of HT_.out (by kernel_rfl)) (fun _ _ _ h=>h) (Or.inl ⟨by rfl,?_⟩) ?_ ?_
       rotate_left
       ·intro w'
        go_simp
        with_reducible rfl
       rotate_left
       ·simp only [Act.put,List.setIfInBounds_toArray,List.set_cons_zero,List.set_cons_succ,i64_w,i32_w]
        rfl
       refine pure_ (i:=5) (N:=some 22) (v:=?_) (a':=?_) #[true,true,true,false,true,true,false,false,false,false] rfl rfl (any_of HT_.out (by kernel_rfl)) (fun _ _ _ h=>h) (Or.inl ⟨by rfl,?_⟩) ?_ ?_
       rotate_left
       ·intro w'
        go_simp
        with_reducible rfl
       rotate_left
       ·simp only [Act.put,List.setIfInBounds_toArray,List.set_cons_zero,List.set_cons_succ,i64_w,i32_w]
        rfl
       refine pure_ (i:=6) (N:=some 23) (v:=?_) (a':=?_) #[true,true,true,false,true,true,true,false,false,false] rfl rfl (any_of HT_.out (by kernel_rfl)) (fun _ _ _ h=>h) (Or.inl ⟨by rfl,?_⟩) ?_ ?_
       rotate_left
       ·intro w'
        go_simp
        with_reducible rfl
       rotate_left
       ·simp only [Act.put,List.setIfInBounds_toArray,List.set_cons_zero,List.set_cons_succ,i64_w,i32_w]
        rfl
       refine take_ (i:=3) (N:=some 20) (v:=?_) (a':=?_) #[true,true,true,true,true,true,true,false,false,false] rfl rfl (take_ofW HT_.out HW_.out (by kernel_rfl)) (fun _ _ _ h=>h) (Or.inl ⟨by rfl,?_⟩) hHeld ?_ ?_
       rotate_left
       ·rintro w' ⟨s0,s1,s2,s3,s4,s5,s6,s7,s8,s9,s10,s11⟩
        go_simp
        with_reducible rfl
       rotate_left
       ·simp only [Act.put,List.setIfInBounds_toArray,List.set_cons_zero,List.set_cons_succ,i64_w,i32_w]
        rfl
       refine take_ (i:=7) (N:=some 24) (v:=?_) (a':=?_) #[true,true,true,true,true,true,true,true,false,false] rfl rfl (take_ofW HT_.out HW_.out (by kernel_rfl)) (fun _ _ _ h=>h) (Or.inl ⟨by rfl,?_⟩) hHeld ?_ ?_
       rotate_left
       ·rintro w' ⟨s0,s1,s2,s3,s4,s5,s6,s7,s8,s9,s10,s11⟩
        go_simp
        with_reducible rfl
       rotate_left
       ·simp only [Act.put,List.setIfInBounds_toArray,List.set_cons_zero,List.set_cons_succ,i64_w,i32_w]
        rfl
       refine one_ (i:=8) (N:=some 25) #[true,true,true,true,true,true,true,true,true,false] rfl rfl (one_of HT_.out (by kernel_rfl)) (by decide) (fun K hK=>?_)
       refine goes_ Tryz.func15 (by kernel_rfl) rfl #[.agg #[.slice A291_0 ((rd_T34 l0 x5_1).f0).length c291_0,.bool ((rd_T34 l0 x5_1).f1.f0),.int .i64 ((rd_T34 l0 x5_1).f1.f1),.int .i64 ((rd_T34 l0 x5_1).f2),.bool ((rd_T34 l0 x5_1).f3),.int .i64 ((rd_T34 l0 x5_1).f4)],.agg #[.slice A292_0 ((rd_T34 l1 x5_1).f0).length c292_0,.bool ((rd_T34 l1 x5_1).f1.f0),.int .i64 ((rd_T34 l1 x5_1).f1.f1),.int .i64 ((rd_T34 l1 x5_1).f2),.bool ((rd_T34 l1 x5_1).f3),.int .i64 ((rd_T34 l1 x5_1).f4)]] (by rfl) rfl rfl (by (try simp only [List.map_toArray,List.map_cons,List.map_nil]);first|done|rfl|(simp only [List.length_drop,List.length_take];rfl)) ?_
       with_reducible refine (spillwaylaw6_same.calls k1 _ _ ((rd_T34 l0 x5_1).f0) ((rd_T34 l0 x5_1).f1.f0) ((rd_T34 l0 x5_1).f1.f1) ((rd_T34 l0 x5_1).f2) ((rd_T34 l0 x5_1).f3) ((rd_T34 l0 x5_1).f4) _ _ ((rd_T34 l1 x5_1).f0) ((rd_T34 l1 x5_1).f1.f0) ((rd_T34 l1 x5_1).f1.f1) ((rd_T34 l1 x5_1).f2) ((rd_T34 l1 x5_1).f3) ((rd_T34 l1 x5_1).f4) true _ ?side1 ?side2 ?side3 ?side4 A7.out).mono ?_
       (case side1=>repeat (first|exact (Kd.C_below HR291_0.out HB.out)|(with_reducible refine Kd.C_alloc ?_ _)|(with_reducible refine Kd.C_drewN ?_ _)|(with_reducible refine Kd.C_drew ?_)))
       (case side2=>exact HC291_0.out)
       (case side3=>repeat (first|exact (Kd.C_below HR292_0.out HB.out)|(with_reducible refine Kd.C_alloc ?_ _)|(with_reducible refine Kd.C_drewN ?_ _)|(with_reducible refine Kd.C_drew ?_)))
       (case side4=>exact HC292_0.out)
       rintro e w10 ⟨rfl,hb⟩
       refine ⟨_,rfl,?_⟩
       have n0_:=Aside0.mk (below_step (by repeat (first|(with_reducible first|exact HB.out|apply below_alloc|apply pw_below_drewN|apply below_drew1)|exact HB.out)) hb)
       clear HB
       have HB:=n0_
       clear n0_
       (try clear hb)
       (try clear hb2)
       (try clear hk)
       (try clear hi)
       refine hK.out _ _ ⟨((HB.out.cell (World.block_lt_of_cell? w _ hw291_0)).trans hw291_0),((HB.out.cell (World.block_lt_of_cell? w _ hw291_1)).trans hw291_1),((HB.out.cell (World.block_lt_of_cell? w _ hw291_2)).trans hw291_2),((HB.out.cell (World.block_lt_of_cell? w _ hw291_3)).trans hw291_3),((HB.out.cell (World.block_lt_of_cell? w _ hw291_4)).trans hw291_4),((HB.out.cell (World.block_lt_of_cell? w _ hw291_5)).trans hw291_5),((HB.out.cell (World.block_lt_of_cell? w _ hw292_0)).trans hw292_0),((HB.out.cell (World.block_lt_of_cell? w _ hw292_1)).trans hw292_1),((HB.out.cell (World.block_lt_of_cell? w _ hw292_2)).trans hw292_2),((HB.out.cell (World.block_lt_of_cell? w _ hw292_3)).trans hw292_3),((HB.out.cell (World.block_lt_of_cell? w _ hw292_4)).trans hw292_4),((HB.out.cell (World.block_lt_of_cell? w _ hw292_5)).trans hw292_5)⟩ (fun hHeld=>?_)
       clear hK K
       refine norm_ (a':=?_) ?_ ?_
       rotate_left
       ·show Act.put _ (some 25) _ = _
        simp only [Act.put,List.setIfInBounds_toArray,List.set_cons_zero,List.set_cons_succ,i64_w,i32_w]
        rfl
       refine pure_ (i:=9) (N:=some 26) (v:=?_) (a':=?_) #[true,true,true,true,true,true,true,true,true,true] rfl rfl (any_of HT_.out (by kernel_rfl)) (fun _ _ _ h=>h) (Or.inl ⟨by rfl,?_⟩) ?_ ?_
       rotate_left
       ·intro w'
        go_simp
        with_reducible rfl
       rotate_left
       ·simp only [Act.put,List.setIfInBounds_toArray,List.set_cons_zero,List.set_cons_succ,i64_w,i32_w]
        rfl
       refine done_ (done_of HT_.out (by kernel_rfl)) ?_
       try go_wp2
       go_roundg k1
       case measure=>have:=HK1.out;omega
       case rel=>exact ⟨(wrap64 (x5_1 + 1)),(by first|rfl|(simp;done)|(simp [*];done)),H',⟨by have:=HK1.out;omega⟩,⟨by repeat (first|(with_reducible first|exact HB.out|apply below_alloc|apply pw_below_drewN|apply below_drew1)|exact HB.out)⟩⟩
      replace c8:=Bool.eq_false_iff.mpr c8
      subst c8
      have H1 : (none) = some r:=by rw [if_neg (show ¬ (false = true) by decide)] at H;exact H
      clear H
      have H:=H1
      clear H1
      exact absurd H (by simp)
     rw [if_neg c6] at H
     exact absurd H (by simp)
    rw [if_neg c5] at H
    exact absurd H (by simp)
   rw [if_neg c4] at H
   have c4b0 : decide (x5_1 < (l0.length : Int)) = false:=decide_eq_false c4
   clear c4
   obtain rfl:=Option.some.inj H
   go_wp2
   go_ret
   exact ⟨by first|rfl|(simp [errW_none,errW_some] <;> rfl)|(simp [*,errW_none,errW_some] <;> rfl),by repeat (first|(with_reducible first|exact HB.out|apply below_alloc|apply pw_below_drewN|apply below_drew1)|exact HB.out)⟩
 rw [if_neg c3] at H
 exact absurd H (by simp)
end Go.Proofs.YtfgffjchphignaaGreatDoor.Print
end
section
namespace Go.Proofs.YtfgffjchphignaaGreatDoor.PureN
open Go.RowKit Go.Proofs.YtfgffjchphignaaGreatDoor.Print Go.Proofs.YtfgffjchphignaaGreatDoorW.PrintWords Go.Proofs.YtfgffjchphignaaGreatDoorW.PrintLast
/-! What is compared with itself is the same. -/
theorem bless_irr : ∀ l : List UInt8,Op.bytesLess l l = false
 | []=>rfl
 | x :: l=>by
  unfold Op.bytesLess
  rw [bless_irr l,Bool.and_false,Bool.or_false]
  exact decide_eq_false (by intro h;exact absurd h (UInt8.lt_irrefl x))
theorem less_refl (a : ByteArray) : spillwayref3_less.f a a = some 0:=by
 unfold spillwayref3_less.f
 rw [bless_irr]
 rfl
theorem cmp_refl (l : List S60) (hl : l.length ≤ 100000) : ∀ (n i k : Nat),l.length ≤ i + n → i ≤ l.length → 2 * n + 2 ≤ k → spillwayref3_Cmp.l0 k l l i = some 0
 | n,i,0,_,_,hk=>by omega
 | n,i,1,_,_,hk=>by omega
 | n,i,k + 2,h,hi,hk=>by
  rw [spillwayref3_Cmp.l0]
  by_cases hc : (i : Int) < (l.length : Int)
  ·rw [if_pos hc,decide_eq_true hc,spillwayref3_Cmp.j1,if_pos rfl,if_pos (by omega),if_pos hc,if_pos hc,less_refl,Option.bind_some,if_pos rfl,less_refl,Option.bind_some,if_pos rfl,wrap_succ i (by omega)]
   cases n with
   | zero=>omega
   | succ n=>exact cmp_refl l hl n (i + 1) k (by omega) (by omega) (by omega)
  rw [if_neg hc,spillwayref3_Cmp.j1,if_neg (by simp),if_neg (by omega),if_neg (by omega)]
theorem same3_refl (l : List S60) (hl : l.length ≤ 100000) (k : Nat) (hk : 2 * l.length + 2 ≤ k) : spillwayref3_Same.f k l l = some true:=by
 unfold spillwayref3_Same.f spillwayref3_Cmp.f
 have h:=cmp_refl l hl l.length 0 k (by omega) (by omega) hk
 rw [show ((0 : Nat) : Int) = 0 from rfl] at h
 rw [h]
 rfl
theorem same_refl (x : S34) (hl : x.f0.length ≤ 100000) (k : Nat) (hk : 2 * x.f0.length + 2 ≤ k) : spillwaylaw6_same.f k x.f0 x.f1.f0 x.f1.f1 x.f2 x.f3 x.f4 x.f0 x.f1.f0 x.f1.f1 x.f2 x.f3 x.f4 = some true:=by
 unfold spillwaylaw6_same.f
 rw [same3_refl x.f0 hl k hk,Option.bind_some,if_pos rfl,if_pos (by simp),if_pos rfl,if_pos (by simp)]
 simp
theorem sames_loop (l : List S34) (m : Nat) (hm : m ≤ 100000) (hl : l.length ≤ 100000) (hx : ∀ x ∈ l,x.f0.length ≤ m) : ∀ (n i k : Nat),l.length ≤ i + n → i ≤ l.length → n + 2 * m + 4 ≤ k → spillwaylaw6_sames.l0 k l l i = some true
 | n,i,0,_,_,hk=>by omega
 | n,i,k + 1,h,hi,hk=>by
  rw [spillwaylaw6_sames.l0]
  by_cases hc : (i : Int) < (l.length : Int)
  ·have hlt : i < l.length:=by omega
   have hmem : rd_T34 l (i : Int) ∈ l:=by
    unfold rd_T34
    rw [Int.toNat_natCast,List.getD_eq_getElem?_getD,List.getElem?_eq_getElem hlt]
    exact List.getElem_mem hlt
   have h1:=hx _ hmem
   rw [if_pos hc,if_pos (by omega),if_pos hc,same_refl _ (by omega) k (by omega),Option.bind_some,if_pos rfl,wrap_succ i (by omega)]
   cases n with
   | zero=>omega
   | succ n=>exact sames_loop l m hm hl hx n (i + 1) k (by omega) (by omega) (by omega)
  rw [if_neg hc]
theorem sames_refl (l : List S34) (m : Nat) (hm : m ≤ 100000) (hl : l.length ≤ 100000) (hx : ∀ x ∈ l,x.f0.length ≤ m) (k : Nat) (hk : l.length + 2 * m + 4 ≤ k) : spillwaylaw6_sames.f k l l = some true:=by
 unfold spillwaylaw6_sames.f
 rw [if_pos rfl]
 exact sames_loop l m hm hl hx l.length 0 k (by omega) (by omega) hk
/-! ExpoLines, in plain Lean. -/
theorem known_isL : spillwaylaw6_known.f 4000 = some true:=by decide +kernel
abbrev b0 : Bod:=⟨[],[],[]⟩
structure InvL (l0 : List ByteArray) (i : Nat) (body : ByteArray) (B : Bod) : Prop where
 bd : body.data.toList = ((l0.take i).map (·.data.toList)).flatMap (· ++ [10])
 run : B = runB b0 1 ((l0.take i).map (·.data.toList))
 of : B.of = []
 ok : ∀ s ∈ (l0.take i).map (·.data.toList),s.length ≤ 150 ∧ (10 : UInt8) ∉ s
 lab : ∀ x ∈ B.out,x.labels.length ≤ 10
 len : B.out.length ≤ i ∧ B.bad.length ≤ i
end Go.Proofs.YtfgffjchphignaaGreatDoor.PureN
end
section
namespace Go.Proofs.YtfgffjchphignaaGreatDoor.Print
open Go.Sort Go.Shelf
open Go.RowKit Go.Proofs.YtfgffjchphignaaGreatDoorX Go.Proofs.YtfgffjchphignaaGreatDoorW.PrintWords Go.Proofs.YtfgffjchphignaaGreatDoorW.PrintLast Go.Proofs.YtfgffjchphignaaGreatDoorW.PrintMore
/-! A strings.Builder that lies within a printer. -/
set_option maxHeartbeats 2000000 in
set_option maxRecDepth 100000 in
theorem checkP_fresh (b : Nat) (w : World) (h0 : w.cell? ⟨b,1,none⟩ = some (.pointer none)) (hsh : w.shape? b = some (104,4)) (hfz : w.frozen? ⟨b,1,none⟩ = false) :
  Calls Tryz.prog 127 #[.pointer (some ⟨b,1,none⟩)] w fun e w'=>e = .returned (.tuple #[]) ∧ w' = w.setCell ⟨b,1,none⟩ (.pointer (some ⟨b,1,none⟩)):=by
 obtain ⟨j,hj,hjs⟩ : ∃ j,Tryz.prog.info? 102 = some j ∧ j.size = 2:=Option.map_eq_some_iff.1 (by kernel_rfl : (Tryz.prog.info? 102).map (·.size) = some 2)
 have t70 : Tryz.prog.underlying 100 = some (.pointer 102):=by kernel_rfl
 have t164 : Tryz.prog.underlying 188 = some .unsafePointer:=by kernel_rfl
 have lies : liesAt Tryz.prog Tryz.prog.depth 104 (4 / Tryz.prog.cellsOf 104) 1 102 1 = true:=by kernel_rfl
 go_enter Tryz.func127,Tryz.ntmps127
 go_wp2
 rw [Lib.run_to_unsafe w ⟨b,1,none⟩ t70 t164 hj (by rw [hjs];decide) hsh (show 1 < 4 by decide)]
 simp only [Result.andThen]
 rw [Oper.upon_value]
 go_wp2
 rw [run_callFunc_extern Tryz.func158 (by kernel_rfl) (by kernel_rfl) (by kernel_rfl) (e:=Extern.AbiNoEscape.same) (by kernel_rfl)]
 rw [Lib.run_noEscape]
 simp only [Result.andThen]
 rw [Oper.upon_value]
 go_wp2
 rw [Lib.run_from_unsafe w ⟨b,1,none⟩ t164 t70 hj hsh lies]
 simp only [Result.andThen]
 rw [Oper.upon_value]
 go_wp2
 go_end0
 exact ⟨rfl,rfl⟩
set_option maxHeartbeats 1000000 in
set_option maxRecDepth 100000 in
theorem checkP_used (b : Nat) (w : World) (h0 : w.cell? ⟨b,1,none⟩ = some (.pointer (some ⟨b,1,none⟩))) :
  Calls Tryz.prog 127 #[.pointer (some ⟨b,1,none⟩)] w fun e w'=>e = .returned (.tuple #[]) ∧ w' = w:=by
 obtain ⟨j,hj,_⟩ : ∃ j,Tryz.prog.info? 102 = some j ∧ j.size = 2:=Option.map_eq_some_iff.1 (by kernel_rfl : (Tryz.prog.info? 102).map (·.size) = some 2)
 have t70 : Tryz.prog.underlying 100 = some (.pointer 102):=by kernel_rfl
 go_enter Tryz.func127,Tryz.ntmps127
 go_wp2
 rw [Lib.run_neq_ptr_same w _ t70 hj]
 go_wp2
 go_end0
 exact ⟨rfl,rfl⟩
/-- A printer: its map, its builder (whose address it may have noted), its flag. -/
structure PrB (B pb mb : Nat) (pa pv : Value) (lg : Bool) (bs : List Value) (w : World) : Prop where
 low : B ≤ pb
 blk : w.heap[pb]? = some (.cells #[.map (some mb),pa,pv,.bool lg] 104 (0,0))
 own : w.ownsRowF B 5 1 pv bs.length bs
 far : pv.ownBlock ≠ some pb
def IsPa (pb : Nat) (pa : Value) : Prop:=pa = .pointer none ∨ pa = .pointer (some ⟨pb,1,none⟩)
theorem grown_setP (w : World) (p : Addr) (u : Value) : w.grownBy (w.setCell p u) (some p.block):=by
 have hb:=Below.setCell (B:=0) (Below.refl 0 w) (p:=p) (Nat.zero_le _) u
 exact ⟨hb.os,hb.tape,hb.output,hb.size,fun k _ hne=>Below.heap_setCell w p u k (fun e=>hne (by rw [e]))⟩
theorem checkP (B pb mb : Nat) (pa pv : Value) (lg : Bool) (bs : List Value) (w : World) (h : PrB B pb mb pa pv lg bs w) (hpa : IsPa pb pa) :
  Calls Tryz.prog 127 #[.pointer (some ⟨pb,1,none⟩)] w fun e w'=>e = .returned (.tuple #[]) ∧ PrB B pb mb (.pointer (some ⟨pb,1,none⟩)) pv lg bs w' ∧ Below B w w' ∧ Lib.OthersKept 5 (some pb) w w':=by
 rcases hpa with rfl|rfl
 ·refine (checkP_fresh pb w ((Lib.cell_of_heap h.blk 1).trans rfl) (by simp [World.shape?,h.blk]) (Lib.frozen_of_heap h.blk 1)).mono ?_
  rintro e w' ⟨rfl,rfl⟩
  refine ⟨rfl,⟨h.low,?_,?_,h.far⟩,(Below.refl B w).setCell (p:=⟨pb,1,none⟩) h.low _,(Lib.OthersKept.refl _ _ w).setCell ⟨pb,1,none⟩ rfl _⟩
  ·exact (blk_set h.blk 1 _).trans rfl
  exact World.ownsRowF.kept h.own (grown_setP w ⟨pb,1,none⟩ _) (.inr h.far)
 refine (checkP_used pb w ((Lib.cell_of_heap h.blk 1).trans rfl)).mono ?_
 rintro e w' ⟨rfl,rfl⟩
 exact ⟨rfl,h,Below.refl B _,Lib.OthersKept.refl _ _ _⟩
set_option maxHeartbeats 2000000 in
set_option maxRecDepth 100000 in
theorem writeP (B pb mb : Nat) (pa pv : Value) (lg : Bool) (bs : List Value) (s : ByteArray) (w : World) (h : PrB B pb mb pa pv lg bs w) (hpa : IsPa pb pa) (hlen : bs.length + s.size ≤ 140737488355328) (hBw : B ≤ w.heap.size) :
  Calls Tryz.prog 108 #[.pointer (some ⟨pb,1,none⟩),.string s] w fun e w'=>e = .returned (.tuple #[.int .i64 s.size,.nilIface]) ∧ (∃ pv',PrB B pb mb (.pointer (some ⟨pb,1,none⟩)) pv' lg (bs ++ Lib.strCells s) w') ∧ Below B w w' ∧ Lib.OthersKept 5 (some pb) w w':=by
 obtain ⟨i0,hi,hz0,hz1,hz2⟩:=info_parts (P:=Tryz.prog) (e:=5) (z:=.int .u8 0) (size:=1) (bytes:=1) (by kernel_rfl)
 have t37 : Tryz.prog.underlying 47 = some (.slice 5):=by kernel_rfl
 have t9:=Tryz.underlying9
 have ne5 : (102 : TypeId) ≠ 5:=by decide
 go_enter Tryz.func108,Tryz.ntmps108
 go_wp2_with (go_at_call 127;refine (checkP B pb mb pa pv lg bs _ h hpa).mono ?_)
 rintro e w1 ⟨rfl,h1,hb1,hk1⟩
 obtain ⟨hB,hbk,hown,hne⟩:=h1
 have c1 : w1.cell? ⟨pb,2,none⟩ = some pv:=by rw [Lib.cell_of_heap hbk];rfl
 go_wp2_with (at_builtin;refine Lib.wpList_append_own_stringF _ rfl _ _ 47 9 rfl B 5 i0 t37 t9 hi hz0 hz1 hz2 _ _ _ rfl hown s rfl ?c3 ?c4 ?c5 ?_)
 case c3=>unfold maxLen;omega
 case c4=>omega
 case c5=>have:=hb1.size;omega
 intro v' w2 hown' hgrow hat
 have hlt : pb < w1.heap.size:=blk_lt hbk
 have hb2 : w2.heap[pb]? = some (.cells #[.map (some mb),.pointer (some ⟨pb,1,none⟩),pv,.bool lg] 104 (0,0)):=by
  rw [hgrow.block pb hlt (fun e=>hne e.symm)]
  exact hbk
 have d1 : w2.cell? ⟨pb,2,none⟩ = some pv:=by rw [Lib.cell_of_heap hb2];rfl
 have f1 : w2.frozen? ⟨pb,2,none⟩ = false:=Lib.frozen_of_heap hb2 2
 have hfar : v'.ownBlock ≠ some pb:=by
  intro e
  rcases hown'.2 with ⟨hv,_⟩|⟨g,cap,cur,fz,hv,_,hg,_⟩
  ·rw [hv] at e
   simp [Value.ownBlock] at e
  rw [hv] at e
  simp only [Value.ownBlock,Option.some.injEq] at e
  rw [e,hb2] at hg
  injection hg with hg
  injection hg with _ hg
  exact absurd hg (by decide)
 obtain ⟨ao,n',cap,rfl⟩ : ∃ ao n' cap,v' = .slice ao n' cap:=by
  rcases hown'.2 with ⟨hv,_⟩|⟨g,cap,cur,fz,hv,_⟩
  ·exact ⟨_,_,_,hv⟩
  exact ⟨_,_,_,hv⟩
 go_wp2
 go_ret2
 refine ⟨rfl,⟨_,hB,(blk_set hb2 2 _).trans rfl,?_,hfar⟩,?_,(hk1.grown hgrow (Lib.ownsRowF_kind hown)).setCell ⟨pb,2,none⟩ rfl _⟩
 ·have hx : (bs ++ Lib.strCells s).length = bs.length + s.size:=by rw [List.length_append,Lib.strCells_length]
  rw [hx]
  exact World.ownsRowF.kept hown' (grown_setP w2 ⟨pb,2,none⟩ _) (.inr hfar)
 exact (hb1.grown hgrow (by have:=hb1.size;omega) (fun k hk=>(hown.lt k hk).1)).setCell (p:=⟨pb,2,none⟩) hB _
/-! (*expo.printer).line -/
theorem others_below {w w' : World} {b : Option Nat} (hb : Below w.heap.size w w') : Lib.OthersKept 5 b w w':=fun k o h _ _=>(hb.block k (blk_lt h)).trans h
theorem grown_belowP {w w' : World} (hb : Below w.heap.size w w') : w.grownBy w' none:=⟨hb.os,hb.tape,hb.output,hb.size,fun k hk _=>hb.block k hk⟩
theorem PrB.below {B pb mb : Nat} {pa pv : Value} {lg : Bool} {bs : List Value} {w w' : World} (h : PrB B pb mb pa pv lg bs w) (hb : Below w.heap.size w w') : PrB B pb mb pa pv lg bs w' :=
 ⟨h.low,(hb.block pb (blk_lt h.blk)).trans h.blk,by
  rcases hv : pv.ownBlock with _|k
  ·exact World.ownsRowF.kept h.own (grown_belowP hb) (.inl hv)
  exact World.ownsRowF.kept h.own (grown_belowP hb) (.inr (by rw [hv];simp)),h.far⟩
theorem PrB.flag {B pb mb : Nat} {pa pv : Value} {lg : Bool} {bs : List Value} {w : World} (h : PrB B pb mb pa pv lg bs w) (x : Bool) : PrB B pb mb pa pv x bs (w.setCell ⟨pb,3,none⟩ (.bool x)) :=
 ⟨h.low,(blk_set h.blk 3 _).trans rfl,World.ownsRowF.kept h.own (grown_setP w ⟨pb,3,none⟩ _) (.inr h.far),h.far⟩
set_option maxHeartbeats 4000000 in
set_option maxRecDepth 100000 in
theorem prline_calls (B pb mb : Nat) (pa pv : Value) (lg : Bool) (bs : List Value) (A : Option Addr) (c : Nat) (ws : List ByteArray) (t : ByteArray) (w : World) (h : PrB B pb mb pa pv lg bs w) (hpa : IsPa pb pa) (hr : Kd.C Kd.string w A ws.length ws) (hc : ws.length ≤ c) (ht : strings_Join.f ws (⟨#[32]⟩ : ByteArray) = some t) (hts : t.size ≤ 1000000) (hlen : bs.length ≤ 1000000000) (hBw : B ≤ w.heap.size) :
  Calls Tryz.prog 84 #[.pointer (some ⟨pb,0,none⟩),.slice A ws.length c] w fun e w'=>e = .returned (.tuple #[]) ∧ (∃ pv',PrB B pb mb (.pointer (some ⟨pb,1,none⟩)) pv' (lg || decide (300 < t.size)) (bs ++ Lib.strCells (t ++ (⟨#[10]⟩ : ByteArray))) w') ∧ Below B w w' ∧ Lib.OthersKept 5 (some pb) w w':=by
 have hjc:=strings_Join.calls A c ws (⟨#[32]⟩ : ByteArray) t w hr hc ht
 have HH:=Aside0.mk h
 have HT:=Aside0.mk hts
 have HL:=Aside0.mk hlen
 have HBW:=Aside0.mk hBw
 have HPA:=Aside0.mk hpa
 clear h hr hc ht hts hlen hBw hpa
 go_enter Tryz.func84,Tryz.ntmps84
 go_wp2_with (fail)
 refine hjc.mono ?_
 rintro e1 w1 ⟨rfl,hb1⟩
 have HH1:=Aside0.mk (HH.out.below hb1)
 have HO1:=Aside0.mk (others_below (b:=some pb) hb1)
 have HB1:=Aside0.mk (show Below B w w1 from ⟨hb1.os,hb1.tape,hb1.output,hb1.size,fun k hk=>hb1.block k (by have:=HBW.out;omega)⟩)
 have c3 : w1.cell? ⟨pb,3,none⟩ = some (.bool lg):=(blk_cell HH1.out.blk 3).trans rfl
 have f3:=blk_frozen HH1.out.blk 3
 have s1 : (9223372036854775807 < t.size + 1) = False:=eq_false (by have:=HT.out;omega)
 have hst : ∀ x : Bool,∀ w2,w2 = w1.setCell ⟨pb,3,none⟩ (.bool x) → Calls Tryz.prog 108 #[.pointer (some ⟨pb,1,none⟩),.string (t ++ (⟨#[10]⟩ : ByteArray))] w2 fun e w'=>e = .returned (.tuple #[.int .i64 (t ++ (⟨#[10]⟩ : ByteArray)).size,.nilIface]) ∧ (∃ pv',PrB B pb mb (.pointer (some ⟨pb,1,none⟩)) pv' x (bs ++ Lib.strCells (t ++ (⟨#[10]⟩ : ByteArray))) w') ∧ Below B w w' ∧ Lib.OthersKept 5 (some pb) w w':=by
  rintro x w2 rfl
  refine (writeP B pb mb pa pv x bs (t ++ (⟨#[10]⟩ : ByteArray)) _ (HH1.out.flag x) HPA.out (by have:=HT.out;have:=HL.out;rw [ByteArray.size_append];show bs.length + (t.size + 1) ≤ _;omega) (by have:=HBW.out;have h2:=HB1.out.size;have h3:=(grown_setP w1 ⟨pb,3,none⟩ (.bool x)).size;omega)).mono ?_
  rintro e w' ⟨h1,h2,h3,h4⟩
  refine ⟨h1,h2,?_,?_⟩
  ·have h5:=(HB1.out).setCell (p:=⟨pb,3,none⟩) HH1.out.low (.bool x)
   exact ⟨h3.os.trans h5.os,h3.tape.trans h5.tape,h3.output.trans h5.output,Nat.le_trans h5.size h3.size,fun k hk=>(h3.block k hk).trans (h5.block k hk)⟩
  exact (HO1.out.setCell ⟨pb,3,none⟩ rfl _).trans h4
 clear hjc hb1
 cases lg with
 | true =>
  go_wp2_with (fail)
  refine (hst true _ rfl).mono ?_
  rintro e5 w5 ⟨rfl,h2,h3,h4⟩
  go_wp2_with (fail)
  go_end0
  exact ⟨rfl,by rw [Bool.true_or];exact h2,h3,h4⟩
 | false =>
  by_cases h300 : 300 < t.size
  ·have k1 : decide (300 < t.size) = true:=decide_eq_true h300
   have k2 : decide ((300 : Int) < (t.size : Int)) = true:=decide_eq_true (by omega)
   have HK:=Aside0.mk k1
   go_wp2_with (fail)
   refine (hst true _ rfl).mono ?_
   rintro e5 w5 ⟨rfl,h2,h3,h4⟩
   go_wp2_with (fail)
   go_end0
   exact ⟨rfl,by rw [HK.out];exact h2,h3,h4⟩
  have k1 : decide (300 < t.size) = false:=decide_eq_false h300
  have k2 : decide ((300 : Int) < (t.size : Int)) = false:=decide_eq_false (by omega)
  have HK:=Aside0.mk k1
  go_wp2_with (fail)
  refine (hst false _ rfl).mono ?_
  rintro e5 w5 ⟨rfl,h2,h3,h4⟩
  go_wp2_with (fail)
  go_end0
  exact ⟨rfl,by rw [HK.out];exact h2,h3,h4⟩
/-! fix.Is by hand. -/
theorem wanted_undef {ops : Array Oper} {o og : Oper} {a : Act} {g t : Nat} {u : Bool} (hg : o.guard = some (g,u)) (ho : ops[g]? = some og) (hd : og.dst = some t) (hv : a.tmps[t]? = some undef) : Region.wanted o (yielded ops a.tmps) = false:=by
 cases u <;> simp_all [Region.wanted,yielded,undef]
def isNm (b : Bool) (n : Int) : Bool:=(b && n == 0) || (!b && n != -9223372036854775808)
set_option maxHeartbeats 4000000 in
set_option maxRecDepth 100000 in
theorem fixis_A (w : World) : Calls Tryz.prog 16 #[.agg #[.bool true,.int .i64 0]] w fun e w'=>e = .returned (.bool true) ∧ Below w.heap.size w w':=by
 have hx : (w.alloc (.cells #[.bool true,.int .i64 0] 32)).heap[w.heap.size]? = some (.cells #[.bool true,.int .i64 0] 32 (0,0)):=heap_alloc_new _ _
 have HX:=Aside0.mk (blk_drew hx)
 have HB:=Aside0.mk (below_step (below_alloc (Below.refl w.heap.size w) (.cells #[.bool true,.int .i64 0] 32)) (below_drew (Below.refl _ _)))
 clear hx
 go_enter Tryz.func16,Tryz.ntmps16
 go_wp2_with (fail)
 refine start_ (n:=14) (S:=fun w'=>w'.cell? ⟨w.heap.size,0,none⟩ = some (.bool true) ∧ w'.cell? ⟨w.heap.size,1,none⟩ = some (.int .i64 0)) (ds:=[]) #[false,false,false,false,false,false,false,false,false,false,false,false,false,false] (by kernel_rfl) rfl rfl (⟨(blk_cell HX.out 0).trans rfl,(blk_cell HX.out 1).trans rfl⟩) (fun hHeld=>?_)
 generalize (w.alloc (.cells #[.bool true,.int .i64 0] 32)).drew = w2 at HX HB hHeld ⊢
 generalize hg : w.heap.size = g at HX hHeld ⊢
 refine take_ (i:=0) (N:=some 3) (v:=?_) (a':=?_) #[true,false,false,false,false,false,false,false,false,false,false,false,false,false] rfl rfl (by kernel_rfl) (fun _ _ _ h=>h) (Or.inl ⟨by first|rfl|exact wanted_on rfl rfl rfl (by rfl),?_⟩) hHeld ?_ ?_
 rotate_left
 ·rintro w' ⟨s0,s1⟩
  go_simp
  with_reducible rfl
 rotate_left
 ·simp only [Act.put,List.setIfInBounds_toArray,List.set_cons_zero,List.set_cons_succ,i64_w,i32_w]
  rfl
 refine one_ (i:=1) (N:=some 4) #[true,true,false,false,false,false,false,false,false,false,false,false,false,false] rfl rfl (by kernel_rfl) (by decide) (fun K hK=>?_)
 refine goes_ Tryz.func43 (by kernel_rfl) rfl #[] (by rfl) rfl rfl (by (try simp only [List.map_toArray,List.map_cons,List.map_nil]);first|done|rfl) ?_
 refine (fix_ovf.calls true 0 w2 rfl).mono ?_
 rintro e w3 ⟨rfl,hb⟩
 refine ⟨_,rfl,?_⟩
 have HX3:=Aside0.mk ((hb.block g (blk_lt HX.out)).trans HX.out)
 have HB3:=Aside0.mk (below_step HB.out hb)
 clear HX HB hb
 refine hK.out _ _ ⟨(blk_cell HX3.out 0).trans rfl,(blk_cell HX3.out 1).trans rfl⟩ (fun hHeld=>?_)
 clear hK K
 refine norm_ (a':=?_) ?_ ?_
 rotate_left
 ·show Act.put _ (some 4) _ = _
  simp only [Act.put,List.setIfInBounds_toArray,List.set_cons_zero,List.set_cons_succ,i64_w,i32_w]
  rfl
 refine pure_ (i:=2) (N:=some 5) (v:=?_) (a':=?_) #[true,true,true,false,false,false,false,false,false,false,false,false,false,false] rfl rfl (by kernel_rfl) (fun _ _ _ h=>h) (Or.inl ⟨by first|rfl|exact wanted_on rfl rfl rfl (by rfl),?_⟩) ?_ ?_
 rotate_left
 ·intro w'
  go_simp
  with_reducible rfl
 rotate_left
 ·simp only [Act.put,List.setIfInBounds_toArray,List.set_cons_zero,List.set_cons_succ,i64_w,i32_w]
  rfl
 refine pure_ (i:=3) (N:=some 6) (v:=?_) (a':=?_) #[true,true,true,true,false,false,false,false,false,false,false,false,false,false] rfl rfl (by kernel_rfl) (fun _ _ _ h=>h) (Or.inl ⟨by first|rfl|exact wanted_on rfl rfl rfl (by rfl),?_⟩) ?_ ?_
 rotate_left
 ·intro w'
  go_simp
  with_reducible rfl
 rotate_left
 ·simp only [Act.put,List.setIfInBounds_toArray,List.set_cons_zero,List.set_cons_succ,i64_w,i32_w]
  rfl
 refine pure_ (i:=4) (N:=some 7) (v:=undef) (a':=_) #[true,true,true,true,true,false,false,false,false,false,false,false,false,false] rfl rfl (by kernel_rfl) (fun _ _ _ h=>h) (Or.inr ⟨wanted_off rfl rfl rfl (by rfl),rfl⟩) rfl ?_
 refine norm_ (a':=?_) ?_ ?_
 rotate_left
 ·show Act.put _ (some 7) _ = _
  simp only [Act.put,List.setIfInBounds_toArray,List.set_cons_zero,List.set_cons_succ,i64_w,i32_w]
  rfl
 refine pure_ (i:=5) (N:=some 8) (v:=undef) (a':=_) #[true,true,true,true,true,true,false,false,false,false,false,false,false,false] rfl rfl (by kernel_rfl) (fun _ _ _ h=>h) (Or.inr ⟨wanted_off rfl rfl rfl (by rfl),rfl⟩) rfl ?_
 refine norm_ (a':=?_) ?_ ?_
 rotate_left
 ·show Act.put _ (some 8) _ = _
  simp only [Act.put,List.setIfInBounds_toArray,List.set_cons_zero,List.set_cons_succ,i64_w,i32_w]
  rfl
 refine pure_ (i:=6) (N:=some 9) (v:=undef) (a':=_) #[true,true,true,true,true,true,true,false,false,false,false,false,false,false] rfl rfl (by kernel_rfl) (fun _ _ _ h=>h) (Or.inr ⟨wanted_off rfl rfl rfl (by rfl),rfl⟩) rfl ?_
 refine norm_ (a':=?_) ?_ ?_
 rotate_left
 ·show Act.put _ (some 9) _ = _
  simp only [Act.put,List.setIfInBounds_toArray,List.set_cons_zero,List.set_cons_succ,i64_w,i32_w]
  rfl
 refine pure_ (i:=7) (N:=some 10) (v:=undef) (a':=_) #[true,true,true,true,true,true,true,true,false,false,false,false,false,false] rfl rfl (by kernel_rfl) (fun _ _ _ h=>h) (Or.inr ⟨wanted_off rfl rfl rfl (by rfl),rfl⟩) rfl ?_
 refine norm_ (a':=?_) ?_ ?_
 rotate_left
 ·show Act.put _ (some 10) _ = _
  simp only [Act.put,List.setIfInBounds_toArray,List.set_cons_zero,List.set_cons_succ,i64_w,i32_w]
  rfl
 refine pure_ (i:=8) (N:=some 11) (v:=undef) (a':=_) #[true,true,true,true,true,true,true,true,true,false,false,false,false,false] rfl rfl (by kernel_rfl) (fun _ _ _ h=>h) (Or.inr ⟨wanted_undef rfl rfl rfl (by rfl),rfl⟩) rfl ?_
 refine norm_ (a':=?_) ?_ ?_
 rotate_left
 ·show Act.put _ (some 11) _ = _
  simp only [Act.put,List.setIfInBounds_toArray,List.set_cons_zero,List.set_cons_succ,i64_w,i32_w]
  rfl
 refine pure_ (i:=9) (N:=some 12) (v:=undef) (a':=_) #[true,true,true,true,true,true,true,true,true,true,false,false,false,false] rfl rfl (by kernel_rfl) (fun _ _ _ h=>h) (Or.inr ⟨wanted_undef rfl rfl rfl (by rfl),rfl⟩) rfl ?_
 refine norm_ (a':=?_) ?_ ?_
 rotate_left
 ·show Act.put _ (some 12) _ = _
  simp only [Act.put,List.setIfInBounds_toArray,List.set_cons_zero,List.set_cons_succ,i64_w,i32_w]
  rfl
 refine pure_ (i:=10) (N:=some 13) (v:=undef) (a':=_) #[true,true,true,true,true,true,true,true,true,true,true,false,false,false] rfl rfl (by kernel_rfl) (fun _ _ _ h=>h) (Or.inr ⟨wanted_undef rfl rfl rfl (by rfl),rfl⟩) rfl ?_
 refine norm_ (a':=?_) ?_ ?_
 rotate_left
 ·show Act.put _ (some 13) _ = _
  simp only [Act.put,List.setIfInBounds_toArray,List.set_cons_zero,List.set_cons_succ,i64_w,i32_w]
  rfl
 refine pure_ (i:=11) (N:=some 14) (v:=undef) (a':=_) #[true,true,true,true,true,true,true,true,true,true,true,true,false,false] rfl rfl (by kernel_rfl) (fun _ _ _ h=>h) (Or.inr ⟨wanted_off rfl rfl rfl (by rfl),rfl⟩) rfl ?_
 refine norm_ (a':=?_) ?_ ?_
 rotate_left
 ·show Act.put _ (some 14) _ = _
  simp only [Act.put,List.setIfInBounds_toArray,List.set_cons_zero,List.set_cons_succ,i64_w,i32_w]
  rfl
 refine pure_ (i:=12) (N:=some 15) (v:=?_) (a':=?_) #[true,true,true,true,true,true,true,true,true,true,true,true,true,false] rfl rfl (by kernel_rfl) (fun _ _ _ h=>h) (Or.inl ⟨by first|rfl|exact wanted_on rfl rfl rfl (by rfl),?_⟩) ?_ ?_
 rotate_left
 ·intro w'
  go_simp
  with_reducible rfl
 rotate_left
 ·simp only [Act.put,List.setIfInBounds_toArray,List.set_cons_zero,List.set_cons_succ,i64_w,i32_w]
  rfl
 refine pure_ (i:=13) (N:=some 2) (v:=?_) (a':=?_) #[true,true,true,true,true,true,true,true,true,true,true,true,true,true] rfl rfl (by kernel_rfl) (fun _ _ _ h=>h) (Or.inl ⟨by first|rfl|exact wanted_on rfl rfl rfl (by rfl),?_⟩) ?_ ?_
 rotate_left
 ·intro w'
  go_simp
  with_reducible rfl
 rotate_left
 ·simp only [Act.put,List.setIfInBounds_toArray,List.set_cons_zero,List.set_cons_succ,i64_w,i32_w]
  rfl
 refine done_ (by kernel_rfl) ?_
 go_wp2
 go_ret
 exact ⟨rfl,HB3.out⟩
set_option maxHeartbeats 4000000 in
set_option maxRecDepth 100000 in
theorem fixis_B (n : Int) (hn : n ≠ 0) (w : World) : Calls Tryz.prog 16 #[.agg #[.bool true,.int .i64 n]] w fun e w'=>e = .returned (.bool false) ∧ Below w.heap.size w w':=by
 have hn0 : (n == 0) = false:=beq_eq_false_iff_ne.2 hn
 clear hn
 have hx : (w.alloc (.cells #[.bool true,.int .i64 n] 32)).heap[w.heap.size]? = some (.cells #[.bool true,.int .i64 n] 32 (0,0)):=heap_alloc_new _ _
 have HX:=Aside0.mk (blk_drew hx)
 have HB:=Aside0.mk (below_step (below_alloc (Below.refl w.heap.size w) (.cells #[.bool true,.int .i64 n] 32)) (below_drew (Below.refl _ _)))
 clear hx
 go_enter Tryz.func16,Tryz.ntmps16
 go_wp2_with (fail)
 refine start_ (n:=14) (S:=fun w'=>w'.cell? ⟨w.heap.size,0,none⟩ = some (.bool true) ∧ w'.cell? ⟨w.heap.size,1,none⟩ = some (.int .i64 n)) (ds:=[]) #[false,false,false,false,false,false,false,false,false,false,false,false,false,false] (by kernel_rfl) rfl rfl (⟨(blk_cell HX.out 0).trans rfl,(blk_cell HX.out 1).trans rfl⟩) (fun hHeld=>?_)
 generalize (w.alloc (.cells #[.bool true,.int .i64 n] 32)).drew = w2 at HX HB hHeld ⊢
 generalize hg : w.heap.size = g at HX hHeld ⊢
 refine take_ (i:=0) (N:=some 3) (v:=?_) (a':=?_) #[true,false,false,false,false,false,false,false,false,false,false,false,false,false] rfl rfl (by kernel_rfl) (fun _ _ _ h=>h) (Or.inl ⟨by first|rfl|exact wanted_on rfl rfl rfl (by rfl),?_⟩) hHeld ?_ ?_
 rotate_left
 ·rintro w' ⟨s0,s1⟩
  go_simp
  with_reducible rfl
 rotate_left
 ·simp only [Act.put,List.setIfInBounds_toArray,List.set_cons_zero,List.set_cons_succ,i64_w,i32_w]
  rfl
 refine one_ (i:=1) (N:=some 4) #[true,true,false,false,false,false,false,false,false,false,false,false,false,false] rfl rfl (by kernel_rfl) (by decide) (fun K hK=>?_)
 refine goes_ Tryz.func43 (by kernel_rfl) rfl #[] (by rfl) rfl rfl (by (try simp only [List.map_toArray,List.map_cons,List.map_nil]);first|done|rfl) ?_
 refine (fix_ovf.calls true 0 w2 rfl).mono ?_
 rintro e w3 ⟨rfl,hb⟩
 refine ⟨_,rfl,?_⟩
 have HX3:=Aside0.mk ((hb.block g (blk_lt HX.out)).trans HX.out)
 have HB3:=Aside0.mk (below_step HB.out hb)
 clear HX HB hb
 refine hK.out _ _ ⟨(blk_cell HX3.out 0).trans rfl,(blk_cell HX3.out 1).trans rfl⟩ (fun hHeld=>?_)
 clear hK K
 refine norm_ (a':=?_) ?_ ?_
 rotate_left
 ·show Act.put _ (some 4) _ = _
  simp only [Act.put,List.setIfInBounds_toArray,List.set_cons_zero,List.set_cons_succ,i64_w,i32_w]
  rfl
 refine pure_ (i:=2) (N:=some 5) (v:=?_) (a':=?_) #[true,true,true,false,false,false,false,false,false,false,false,false,false,false] rfl rfl (by kernel_rfl) (fun _ _ _ h=>h) (Or.inl ⟨by first|rfl|exact wanted_on rfl rfl rfl (by rfl),?_⟩) ?_ ?_
 rotate_left
 ·intro w'
  go_simp
  with_reducible rfl
 rotate_left
 ·simp only [Act.put,List.setIfInBounds_toArray,List.set_cons_zero,List.set_cons_succ,i64_w,i32_w]
  rfl
 refine pure_ (i:=3) (N:=some 6) (v:=?_) (a':=?_) #[true,true,true,true,false,false,false,false,false,false,false,false,false,false] rfl rfl (by kernel_rfl) (fun _ _ _ h=>h) (Or.inl ⟨by first|rfl|exact wanted_on rfl rfl rfl (by rfl),?_⟩) ?_ ?_
 rotate_left
 ·intro w'
  go_simp
  with_reducible rfl
 rotate_left
 ·simp only [Act.put,List.setIfInBounds_toArray,List.set_cons_zero,List.set_cons_succ,i64_w,i32_w]
  rfl
 refine pure_ (i:=4) (N:=some 7) (v:=?_) (a':=?_) #[true,true,true,true,true,false,false,false,false,false,false,false,false,false] rfl rfl (by kernel_rfl) (fun _ _ _ h=>h) (Or.inl ⟨by first|rfl|exact wanted_on rfl rfl rfl (by rfl),?_⟩) ?_ ?_
 rotate_left
 ·intro w'
  go_simp
  with_reducible rfl
 rotate_left
 ·simp only [Act.put,List.setIfInBounds_toArray,List.set_cons_zero,List.set_cons_succ,i64_w,i32_w]
  rfl
 refine take_ (i:=5) (N:=some 8) (v:=?_) (a':=?_) #[true,true,true,true,true,true,false,false,false,false,false,false,false,false] rfl rfl (by kernel_rfl) (fun _ _ _ h=>h) (Or.inl ⟨by first|rfl|exact wanted_on rfl rfl rfl (by rfl),?_⟩) hHeld ?_ ?_
 rotate_left
 ·rintro w' ⟨s0,s1⟩
  go_simp
  with_reducible rfl
 rotate_left
 ·simp only [Act.put,List.setIfInBounds_toArray,List.set_cons_zero,List.set_cons_succ,i64_w,i32_w]
  rfl
 refine pure_ (i:=6) (N:=some 9) (v:=?_) (a':=?_) #[true,true,true,true,true,true,true,false,false,false,false,false,false,false] rfl rfl (by kernel_rfl) (fun _ _ _ h=>h) (Or.inl ⟨by first|rfl|exact wanted_on rfl rfl rfl (by rfl),?_⟩) ?_ ?_
 rotate_left
 ·intro w'
  go_simp
  with_reducible rfl
 rotate_left
 ·simp only [Act.put,List.setIfInBounds_toArray,List.set_cons_zero,List.set_cons_succ,i64_w,i32_w]
  rfl
 refine pure_ (i:=7) (N:=some 10) (v:=?_) (a':=?_) #[true,true,true,true,true,true,true,true,false,false,false,false,false,false] rfl rfl (by kernel_rfl) (fun _ _ _ h=>h) (Or.inl ⟨by first|rfl|exact wanted_on rfl rfl rfl (by rfl),?_⟩) ?_ ?_
 rotate_left
 ·intro w'
  go_simp
  with_reducible rfl
 rotate_left
 ·simp only [Act.put,List.setIfInBounds_toArray,List.set_cons_zero,List.set_cons_succ,i64_w,i32_w]
  rfl
 refine pure_ (i:=8) (N:=some 11) (v:=undef) (a':=_) #[true,true,true,true,true,true,true,true,true,false,false,false,false,false] rfl rfl (by kernel_rfl) (fun _ _ _ h=>h) (Or.inr ⟨wanted_off rfl rfl rfl (by rfl),rfl⟩) rfl ?_
 refine norm_ (a':=?_) ?_ ?_
 rotate_left
 ·show Act.put _ (some 11) _ = _
  simp only [Act.put,List.setIfInBounds_toArray,List.set_cons_zero,List.set_cons_succ,i64_w,i32_w]
  rfl
 refine pure_ (i:=9) (N:=some 12) (v:=undef) (a':=_) #[true,true,true,true,true,true,true,true,true,true,false,false,false,false] rfl rfl (by kernel_rfl) (fun _ _ _ h=>h) (Or.inr ⟨wanted_off rfl rfl rfl (by rfl),rfl⟩) rfl ?_
 refine norm_ (a':=?_) ?_ ?_
 rotate_left
 ·show Act.put _ (some 12) _ = _
  simp only [Act.put,List.setIfInBounds_toArray,List.set_cons_zero,List.set_cons_succ,i64_w,i32_w]
  rfl
 refine pure_ (i:=10) (N:=some 13) (v:=undef) (a':=_) #[true,true,true,true,true,true,true,true,true,true,true,false,false,false] rfl rfl (by kernel_rfl) (fun _ _ _ h=>h) (Or.inr ⟨wanted_off rfl rfl rfl (by rfl),rfl⟩) rfl ?_
 refine norm_ (a':=?_) ?_ ?_
 rotate_left
 ·show Act.put _ (some 13) _ = _
  simp only [Act.put,List.setIfInBounds_toArray,List.set_cons_zero,List.set_cons_succ,i64_w,i32_w]
  rfl
 refine pure_ (i:=11) (N:=some 14) (v:=?_) (a':=?_) #[true,true,true,true,true,true,true,true,true,true,true,true,false,false] rfl rfl (by kernel_rfl) (fun _ _ _ h=>h) (Or.inl ⟨by first|rfl|exact wanted_on rfl rfl rfl (by rfl),?_⟩) ?_ ?_
 rotate_left
 ·intro w'
  go_simp
  with_reducible rfl
 rotate_left
 ·simp only [Act.put,List.setIfInBounds_toArray,List.set_cons_zero,List.set_cons_succ,i64_w,i32_w]
  rfl
 refine pure_ (i:=12) (N:=some 15) (v:=?_) (a':=?_) #[true,true,true,true,true,true,true,true,true,true,true,true,true,false] rfl rfl (by kernel_rfl) (fun _ _ _ h=>h) (Or.inl ⟨by first|rfl|exact wanted_on rfl rfl rfl (by rfl),?_⟩) ?_ ?_
 rotate_left
 ·intro w'
  go_simp
  with_reducible rfl
 rotate_left
 ·simp only [Act.put,List.setIfInBounds_toArray,List.set_cons_zero,List.set_cons_succ,i64_w,i32_w]
  rfl
 refine pure_ (i:=13) (N:=some 2) (v:=?_) (a':=?_) #[true,true,true,true,true,true,true,true,true,true,true,true,true,true] rfl rfl (by kernel_rfl) (fun _ _ _ h=>h) (Or.inl ⟨by first|rfl|exact wanted_on rfl rfl rfl (by rfl),?_⟩) ?_ ?_
 rotate_left
 ·intro w'
  go_simp
  with_reducible rfl
 rotate_left
 ·simp only [Act.put,List.setIfInBounds_toArray,List.set_cons_zero,List.set_cons_succ,i64_w,i32_w]
  rfl
 refine done_ (by kernel_rfl) ?_
 go_wp2
 go_ret
 exact ⟨rfl,HB3.out⟩
set_option maxHeartbeats 4000000 in
set_option maxRecDepth 100000 in
theorem fixis_C (n : Int) (w : World) : Calls Tryz.prog 16 #[.agg #[.bool false,.int .i64 n]] w fun e w'=>e = .returned (.bool (n != -9223372036854775808)) ∧ Below w.heap.size w w':=by
 have hx : (w.alloc (.cells #[.bool false,.int .i64 n] 32)).heap[w.heap.size]? = some (.cells #[.bool false,.int .i64 n] 32 (0,0)):=heap_alloc_new _ _
 have HX:=Aside0.mk (blk_drew hx)
 have HB:=Aside0.mk (below_step (below_alloc (Below.refl w.heap.size w) (.cells #[.bool false,.int .i64 n] 32)) (below_drew (Below.refl _ _)))
 clear hx
 go_enter Tryz.func16,Tryz.ntmps16
 go_wp2_with (fail)
 refine start_ (n:=14) (S:=fun w'=>w'.cell? ⟨w.heap.size,0,none⟩ = some (.bool false) ∧ w'.cell? ⟨w.heap.size,1,none⟩ = some (.int .i64 n)) (ds:=[]) #[false,false,false,false,false,false,false,false,false,false,false,false,false,false] (by kernel_rfl) rfl rfl (⟨(blk_cell HX.out 0).trans rfl,(blk_cell HX.out 1).trans rfl⟩) (fun hHeld=>?_)
 generalize (w.alloc (.cells #[.bool false,.int .i64 n] 32)).drew = w2 at HX HB hHeld ⊢
 generalize hg : w.heap.size = g at HX hHeld ⊢
 refine take_ (i:=0) (N:=some 3) (v:=?_) (a':=?_) #[true,false,false,false,false,false,false,false,false,false,false,false,false,false] rfl rfl (by kernel_rfl) (fun _ _ _ h=>h) (Or.inl ⟨by first|rfl|exact wanted_on rfl rfl rfl (by rfl),?_⟩) hHeld ?_ ?_
 rotate_left
 ·rintro w' ⟨s0,s1⟩
  go_simp
  with_reducible rfl
 rotate_left
 ·simp only [Act.put,List.setIfInBounds_toArray,List.set_cons_zero,List.set_cons_succ,i64_w,i32_w]
  rfl
 refine one_ (i:=1) (N:=some 4) #[true,true,false,false,false,false,false,false,false,false,false,false,false,false] rfl rfl (by kernel_rfl) (by decide) (fun K hK=>?_)
 refine goes_ Tryz.func43 (by kernel_rfl) rfl #[] (by rfl) rfl rfl (by (try simp only [List.map_toArray,List.map_cons,List.map_nil]);first|done|rfl) ?_
 refine (fix_ovf.calls true 0 w2 rfl).mono ?_
 rintro e w3 ⟨rfl,hb⟩
 refine ⟨_,rfl,?_⟩
 have HX3:=Aside0.mk ((hb.block g (blk_lt HX.out)).trans HX.out)
 have HB3:=Aside0.mk (below_step HB.out hb)
 clear HX HB hb
 refine hK.out _ _ ⟨(blk_cell HX3.out 0).trans rfl,(blk_cell HX3.out 1).trans rfl⟩ (fun hHeld=>?_)
 clear hK K
 refine norm_ (a':=?_) ?_ ?_
 rotate_left
 ·show Act.put _ (some 4) _ = _
  simp only [Act.put,List.setIfInBounds_toArray,List.set_cons_zero,List.set_cons_succ,i64_w,i32_w]
  rfl
 refine pure_ (i:=2) (N:=some 5) (v:=?_) (a':=?_) #[true,true,true,false,false,false,false,false,false,false,false,false,false,false] rfl rfl (by kernel_rfl) (fun _ _ _ h=>h) (Or.inl ⟨by first|rfl|exact wanted_on rfl rfl rfl (by rfl),?_⟩) ?_ ?_
 rotate_left
 ·intro w'
  go_simp
  with_reducible rfl
 rotate_left
 ·simp only [Act.put,List.setIfInBounds_toArray,List.set_cons_zero,List.set_cons_succ,i64_w,i32_w]
  rfl
 refine pure_ (i:=3) (N:=some 6) (v:=?_) (a':=?_) #[true,true,true,true,false,false,false,false,false,false,false,false,false,false] rfl rfl (by kernel_rfl) (fun _ _ _ h=>h) (Or.inl ⟨by first|rfl|exact wanted_on rfl rfl rfl (by rfl),?_⟩) ?_ ?_
 rotate_left
 ·intro w'
  go_simp
  with_reducible rfl
 rotate_left
 ·simp only [Act.put,List.setIfInBounds_toArray,List.set_cons_zero,List.set_cons_succ,i64_w,i32_w]
  rfl
 refine pure_ (i:=4) (N:=some 7) (v:=?_) (a':=?_) #[true,true,true,true,true,false,false,false,false,false,false,false,false,false] rfl rfl (by kernel_rfl) (fun _ _ _ h=>h) (Or.inl ⟨by first|rfl|exact wanted_on rfl rfl rfl (by rfl),?_⟩) ?_ ?_
 rotate_left
 ·intro w'
  go_simp
  with_reducible rfl
 rotate_left
 ·simp only [Act.put,List.setIfInBounds_toArray,List.set_cons_zero,List.set_cons_succ,i64_w,i32_w]
  rfl
 refine take_ (i:=5) (N:=some 8) (v:=?_) (a':=?_) #[true,true,true,true,true,true,false,false,false,false,false,false,false,false] rfl rfl (by kernel_rfl) (fun _ _ _ h=>h) (Or.inl ⟨by first|rfl|exact wanted_on rfl rfl rfl (by rfl),?_⟩) hHeld ?_ ?_
 rotate_left
 ·rintro w' ⟨s0,s1⟩
  go_simp
  with_reducible rfl
 rotate_left
 ·simp only [Act.put,List.setIfInBounds_toArray,List.set_cons_zero,List.set_cons_succ,i64_w,i32_w]
  rfl
 refine pure_ (i:=6) (N:=some 9) (v:=?_) (a':=?_) #[true,true,true,true,true,true,true,false,false,false,false,false,false,false] rfl rfl (by kernel_rfl) (fun _ _ _ h=>h) (Or.inl ⟨by first|rfl|exact wanted_on rfl rfl rfl (by rfl),?_⟩) ?_ ?_
 rotate_left
 ·intro w'
  go_simp
  with_reducible rfl
 rotate_left
 ·simp only [Act.put,List.setIfInBounds_toArray,List.set_cons_zero,List.set_cons_succ,i64_w,i32_w]
  rfl
 refine pure_ (i:=7) (N:=some 10) (v:=?_) (a':=?_) #[true,true,true,true,true,true,true,true,false,false,false,false,false,false] rfl rfl (by kernel_rfl) (fun _ _ _ h=>h) (Or.inl ⟨by first|rfl|exact wanted_on rfl rfl rfl (by rfl),?_⟩) ?_ ?_
 rotate_left
 ·intro w'
  go_simp
  with_reducible rfl
 rotate_left
 ·simp only [Act.put,List.setIfInBounds_toArray,List.set_cons_zero,List.set_cons_succ,i64_w,i32_w]
  rfl
 refine pure_ (i:=8) (N:=some 11) (v:=?_) (a':=?_) #[true,true,true,true,true,true,true,true,true,false,false,false,false,false] rfl rfl (by kernel_rfl) (fun _ _ _ h=>h) (Or.inl ⟨by first|rfl|exact wanted_on rfl rfl rfl (by rfl),?_⟩) ?_ ?_
 rotate_left
 ·intro w'
  go_simp
  with_reducible rfl
 rotate_left
 ·simp only [Act.put,List.setIfInBounds_toArray,List.set_cons_zero,List.set_cons_succ,i64_w,i32_w]
  rfl
 refine take_ (i:=9) (N:=some 12) (v:=?_) (a':=?_) #[true,true,true,true,true,true,true,true,true,true,false,false,false,false] rfl rfl (by kernel_rfl) (fun _ _ _ h=>h) (Or.inl ⟨by first|rfl|exact wanted_on rfl rfl rfl (by rfl),?_⟩) hHeld ?_ ?_
 rotate_left
 ·rintro w' ⟨s0,s1⟩
  go_simp
  with_reducible rfl
 rotate_left
 ·simp only [Act.put,List.setIfInBounds_toArray,List.set_cons_zero,List.set_cons_succ,i64_w,i32_w]
  rfl
 refine pure_ (i:=10) (N:=some 13) (v:=?_) (a':=?_) #[true,true,true,true,true,true,true,true,true,true,true,false,false,false] rfl rfl (by kernel_rfl) (fun _ _ _ h=>h) (Or.inl ⟨by first|rfl|exact wanted_on rfl rfl rfl (by rfl),?_⟩) ?_ ?_
 rotate_left
 ·intro w'
  go_simp
  with_reducible rfl
 rotate_left
 ·simp only [Act.put,List.setIfInBounds_toArray,List.set_cons_zero,List.set_cons_succ,i64_w,i32_w]
  rfl
 refine pure_ (i:=11) (N:=some 14) (v:=?_) (a':=?_) #[true,true,true,true,true,true,true,true,true,true,true,true,false,false] rfl rfl (by kernel_rfl) (fun _ _ _ h=>h) (Or.inl ⟨by first|rfl|exact wanted_on rfl rfl rfl (by rfl),?_⟩) ?_ ?_
 rotate_left
 ·intro w'
  go_simp
  with_reducible rfl
 rotate_left
 ·simp only [Act.put,List.setIfInBounds_toArray,List.set_cons_zero,List.set_cons_succ,i64_w,i32_w]
  rfl
 refine pure_ (i:=12) (N:=some 15) (v:=?_) (a':=?_) #[true,true,true,true,true,true,true,true,true,true,true,true,true,false] rfl rfl (by kernel_rfl) (fun _ _ _ h=>h) (Or.inl ⟨by first|rfl|exact wanted_on rfl rfl rfl (by rfl),?_⟩) ?_ ?_
 rotate_left
 ·intro w'
  go_simp
  with_reducible rfl
 rotate_left
 ·simp only [Act.put,List.setIfInBounds_toArray,List.set_cons_zero,List.set_cons_succ,i64_w,i32_w]
  rfl
 refine pure_ (i:=13) (N:=some 2) (v:=?_) (a':=?_) #[true,true,true,true,true,true,true,true,true,true,true,true,true,true] rfl rfl (by kernel_rfl) (fun _ _ _ h=>h) (Or.inl ⟨by first|rfl|exact wanted_on rfl rfl rfl (by rfl),?_⟩) ?_ ?_
 rotate_left
 ·intro w'
  go_simp
  with_reducible rfl
 rotate_left
 ·simp only [Act.put,List.setIfInBounds_toArray,List.set_cons_zero,List.set_cons_succ,i64_w,i32_w]
  rfl
 refine done_ (by kernel_rfl) ?_
 go_wp2
 go_ret
 exact ⟨rfl,HB3.out⟩
theorem fixis_calls (b : Bool) (n : Int) (w : World) : Calls Tryz.prog 16 #[.agg #[.bool b,.int .i64 n]] w fun e w'=>e = .returned (.bool (isNm b n)) ∧ Below w.heap.size w w':=by
 cases b with
 | true =>
  by_cases hn : n = 0
  ·subst hn
   exact fixis_A w
  have e : isNm true n = false:=by unfold isNm;simp [hn]
  rw [e]
  exact fixis_B n hn w
 | false =>
  have e : isNm false n = (n != -9223372036854775808):=by unfold isNm;simp
  rw [e]
  exact fixis_C n w
end Go.Proofs.YtfgffjchphignaaGreatDoor.Print
end
section
namespace Go.Proofs.YtfgffjchphignaaGreatDoor.PureN
open Go.RowKit Go.Proofs.YtfgffjchphignaaGreatDoor.Print Go.Proofs.YtfgffjchphignaaGreatDoor.Pure
open Go.Proofs.YtfgffjchphignaaGreatDoorX Go.Proofs.YtfgffjchphignaaGreatDoorW.PrintWords Go.Proofs.YtfgffjchphignaaGreatDoorW.PrintLast Go.Proofs.YtfgffjchphignaaGreatDoorW.PrintMore
/-! ExpoBuilt, in plain Lean. -/
theorem words_end (a cur : List UInt8) (h : ∀ c ∈ a,c ≠ 34 ∧ c ≠ 32) : wordsS false cur a = [cur ++ a]:=by
 have:=words_plain a cur [] h
 rw [List.append_nil] at this
 rw [this,wordsS]
theorem words_sp (a cur r : List UInt8) (h : ∀ c ∈ a,c ≠ 34 ∧ c ≠ 32) : wordsS false cur (a ++ 32 :: r) = (cur ++ a) :: wordsS false [] r:=by
 rw [words_plain a cur _ h,words_32]
theorem isD_ok {c : UInt8} (h : isD c = true) : c ≠ 34 ∧ c ≠ 32:=by
 unfold isD at h
 refine ⟨?_,?_⟩ <;> (rintro rfl;revert h;decide)
theorem dec_ok2 (u : Nat) : ∀ c ∈ Lib.decDigits u,c ≠ 34 ∧ c ≠ 32:=fun c hc=>isD_ok (List.all_eq_true.1 (dec_all u) c hc)
theorem trim_mem (l : List UInt8) (c : UInt8) (h : c ∈ Lib.trimRightB l 48) : c ∈ l:=by
 rw [trim_app l 48]
 exact List.mem_append.2 (Or.inl h)
theorem body_ok (N : Nat) : ∀ c ∈ bodyS N,c ≠ 34 ∧ c ≠ 32:=by
 intro c hc
 unfold bodyS at hc
 rcases List.mem_append.1 hc with hc|hc
 ·exact dec_ok2 _ c hc
 split at hc
 ·rcases List.mem_cons.1 hc with rfl|hc
  ·decide
  exact dec_ok2 _ c (List.mem_of_mem_drop (trim_mem _ c hc))
 simp at hc
theorem print_ok (a : Bool) (n : Int) : ∀ c ∈ printS a n,c ≠ 34 ∧ c ≠ 32:=by
 intro c hc
 unfold printS at hc
 split at hc
 ·revert c
  decide
 split at hc
 ·rcases List.mem_cons.1 hc with rfl|hc
  ·decide
  exact body_ok _ c hc
 exact body_ok _ c hc
theorem parse_is (a : Bool) (n : Int) (hn : R n) (h : isNm a n = true) : parseS (printS a n) = (a,n,0):=by
 rw [parse_print a n hn]
 unfold isNm at h
 unfold over isOver
 cases a with
 | true =>
  simp at h
  subst h
  rfl
 | false =>
  simp at h
  simp [h]
theorem time_dec (n : Nat) (h : n ≤ 1000000) : timeS (Lib.decDigits n) = some (n : Int):=by
 unfold timeS
 have h1:=dec_pos n
 have h2:=dec_len n 7 (by omega) (by omega)
 have h3 : ¬ (1 < (Lib.decDigits n).length ∧ (Lib.decDigits n).head? = some 48):=by
  rintro ⟨h4,h5⟩
  rcases Nat.eq_zero_or_pos n with rfl|hp
  ·rw [dec_zero] at h4
   simp at h4
  obtain ⟨c,r,e,hc,_⟩:=dec_head n hp
  rw [e] at h5
  simp only [List.head?_cons,Option.some.injEq] at h5
  rw [h5] at hc
  exact hc rfl
 rw [if_pos ⟨h1,h2,dec_all n,h3,by rw [dec_val];exact h⟩,dec_val]
theorem trim_len (l : List UInt8) : (Lib.trimRightB l 48).length ≤ l.length:=by
 have h:=congrArg List.length (trim_app l 48)
 rw [List.length_append] at h
 omega
theorem bodyS_len (N : Nat) (hN : N ≤ 9223372036854775808) : (bodyS N).length ≤ 30:=by
 unfold bodyS
 have h1:=dec_len (N / 1000000) 13 (by omega) (by omega)
 have h2:=dec_len (N % 1000000 + 1000000) 7 (by omega) (by omega)
 have h3:=trim_len ((Lib.decDigits (N % 1000000 + 1000000)).drop 1)
 rw [List.length_drop] at h3
 rw [List.length_append]
 split
 ·rw [List.length_cons]
  omega
 simp only [List.length_nil]
 omega
theorem printS_len (a : Bool) (n : Int) (hn : R n) : (printS a n).length ≤ 40:=by
 have hab : (ab n).toNat ≤ 9223372036854775808:=by
  obtain ⟨h1,h2⟩:=hn
  unfold ab
  split <;> omega
 have:=bodyS_len _ hab
 unfold printS
 split
 ·simp
 split
 ·rw [List.length_cons]
  omega
 omega
end Go.Proofs.YtfgffjchphignaaGreatDoor.PureN
end
section
namespace Go.Proofs.YtfgffjchphignaaGreatDoor.Print
open Go.RowKit Go.Proofs.YtfgffjchphignaaGreatDoorX Go.Proofs.YtfgffjchphignaaGreatDoorW.PrintWords Go.Proofs.YtfgffjchphignaaGreatDoorW.PrintLast Go.Proofs.YtfgffjchphignaaGreatDoorW.PrintMore
/-! ### spillwayref3_Name: function 29 -/
def spillwayref3_Name.l0 : Nat → ByteArray → Int → Option (Bool)
 | 0,_,_=>none
 | k + 1,x0,x3=>if x3 < (x0.size : Int) then (if 0 ≤ x3 then (if (bt x0 x3) ≥ 97 then (if (bt x0 x3) ≤ 122 then (spillwayref3_Name.l0 k x0 (wrap64 (x3 + 1))) else (if (bt x0 x3) ≥ 65 then (if (bt x0 x3) ≤ 90 then (spillwayref3_Name.l0 k x0 (wrap64 (x3 + 1))) else (if (bt x0 x3) = 95 then (spillwayref3_Name.l0 k x0 (wrap64 (x3 + 1))) else (if x3 > 0 then (if (bt x0 x3) ≥ 48 then (if ((bt x0 x3) ≤ 57) then (spillwayref3_Name.l0 k x0 (wrap64 (x3 + 1))) else (some false)) else (some false)) else (some false)))) else (if (bt x0 x3) = 95 then (spillwayref3_Name.l0 k x0 (wrap64 (x3 + 1))) else (if x3 > 0 then (if (bt x0 x3) ≥ 48 then (if ((bt x0 x3) ≤ 57) then (spillwayref3_Name.l0 k x0 (wrap64 (x3 + 1))) else (some false)) else (some false)) else (some false))))) else (if (bt x0 x3) ≥ 65 then (if (bt x0 x3) ≤ 90 then (spillwayref3_Name.l0 k x0 (wrap64 (x3 + 1))) else (if (bt x0 x3) = 95 then (spillwayref3_Name.l0 k x0 (wrap64 (x3 + 1))) else (if x3 > 0 then (if (bt x0 x3) ≥ 48 then (if ((bt x0 x3) ≤ 57) then (spillwayref3_Name.l0 k x0 (wrap64 (x3 + 1))) else (some false)) else (some false)) else (some false)))) else (if (bt x0 x3) = 95 then (spillwayref3_Name.l0 k x0 (wrap64 (x3 + 1))) else (if x3 > 0 then (if (bt x0 x3) ≥ 48 then (if ((bt x0 x3) ≤ 57) then (spillwayref3_Name.l0 k x0 (wrap64 (x3 + 1))) else (some false)) else (some false)) else (some false))))) else (none)) else (if (x0.size : Int) ≥ 1 then (some (decide ((x0.size : Int) ≤ 20))) else (some false))
def spillwayref3_Name.f (k : Nat) (a0 : ByteArray) : Option (Bool):=spillwayref3_Name.l0 k a0 0
set_option maxHeartbeats 8000000 in
set_option maxRecDepth 100000 in
theorem spillwayref3_Name.calls (k : Nat) (a0 : ByteArray) (r : Bool) (w : World) (h : spillwayref3_Name.f k a0 = some r) :
  Calls Tryz.prog 29 #[.string a0] w fun e w'=>e = .returned (.bool r) ∧ Drawn0 w w':=by
 have H : (spillwayref3_Name.l0 k a0 0) = some r:=h
 clear h
 have H':=Aside0.mk H
 clear H
 go_enter Tryz.func29,Tryz.ntmps29
 go_wp2
 go_loopg [3] k (fun kq v3 w'=>∃ (x3_1 : Int),v3 = .int .i64 x3_1 ∧ Aside0 (spillwayref3_Name.l0 kq a0 x3_1 = some r) ∧ Aside0 (kq ≤ k) ∧ Drawn0 w w')
 case atStart=>exact ⟨(0),(by first|rfl|(simp;done)|(simp [*];done)),H',⟨Nat.le_refl _⟩,by repeat (first|exact Drawn0.refl _|apply Drawn0.step)⟩
 clear H'
 obtain ⟨x3_1,rfl,HA,HK1,⟨m1,rfl⟩⟩:=hrel
 cases gk with
 | zero=>exact absurd HA.out (by simp [spillwayref3_Name.l0])
 | succ k1 =>
  have H:=HA.out
  clear HA
  simp only [spillwayref3_Name.l0] at H
  by_cases c2 : x3_1 < (a0.size : Int)
  ·rw [if_pos c2] at H
   have c2b0 : decide (x3_1 < (a0.size : Int)) = true:=decide_eq_true c2
   clear c2
   by_cases c3 : 0 ≤ x3_1
   ·rw [if_pos c3] at H
    have c3b0 : decide (0 ≤ x3_1) = true:=decide_eq_true c3
    clear c3
    by_cases c5 : (bt a0 x3_1) ≥ 97
    ·rw [if_pos c5] at H
     have c5b0 : decide (97 ≤ (bt a0 x3_1)) = true:=decide_eq_true c5
     clear c5
     by_cases c6 : (bt a0 x3_1) ≤ 122
     ·rw [if_pos c6] at H
      have c6b0 : decide ((bt a0 x3_1) ≤ 122) = true:=decide_eq_true c6
      clear c6
      have H':=Aside0.mk H
      clear H
      have p4 : 0 ≤ (x3_1 : Int):=of_decide_eq_true (by first|(with_reducible assumption)|assumption)
      have q4 : x3_1 < (a0.size : Int):=of_decide_eq_true (by first|(with_reducible assumption)|assumption)
      have hx4:=bt_at a0 x3_1
      replace p4:=eq_true p4
      replace q4:=eq_true q4
      go_wp2
      go_roundg k1
      case measure=>have:=HK1.out;omega
      case rel=>exact ⟨(wrap64 (x3_1 + 1)),(by first|rfl|(simp;done)|(simp [*];done)),H',⟨by have:=HK1.out;omega⟩,by repeat (first|exact Drawn0.refl _|apply Drawn0.step)⟩
     rw [if_neg c6] at H
     have c6b0 : decide ((bt a0 x3_1) ≤ 122) = false:=decide_eq_false c6
     clear c6
     by_cases c7 : (bt a0 x3_1) ≥ 65
     ·rw [if_pos c7] at H
      have c7b0 : decide (65 ≤ (bt a0 x3_1)) = true:=decide_eq_true c7
      clear c7
      by_cases c8 : (bt a0 x3_1) ≤ 90
      ·rw [if_pos c8] at H
       have c8b0 : decide ((bt a0 x3_1) ≤ 90) = true:=decide_eq_true c8
       clear c8
       have H':=Aside0.mk H
       clear H
       have p4 : 0 ≤ (x3_1 : Int):=of_decide_eq_true (by first|(with_reducible assumption)|assumption)
       have q4 : x3_1 < (a0.size : Int):=of_decide_eq_true (by first|(with_reducible assumption)|assumption)
       have hx4:=bt_at a0 x3_1
       replace p4:=eq_true p4
       replace q4:=eq_true q4
       go_wp2
       go_roundg k1
       case measure=>have:=HK1.out;omega
       case rel=>exact ⟨(wrap64 (x3_1 + 1)),(by first|rfl|(simp;done)|(simp [*];done)),H',⟨by have:=HK1.out;omega⟩,by repeat (first|exact Drawn0.refl _|apply Drawn0.step)⟩
      rw [if_neg c8] at H
      have c8b0 : decide ((bt a0 x3_1) ≤ 90) = false:=decide_eq_false c8
      clear c8
      by_cases c9 : (bt a0 x3_1) = 95
      ·rw [if_pos c9] at H
       have c9b0 : ((bt a0 x3_1) == 95) = true:=beq_iff_eq.mpr c9
       have c9b1 : ((bt a0 x3_1) != 95) = false:=bne_eq_false_iff_eq.mpr c9
       clear c9
       have H':=Aside0.mk H
       clear H
       have p4 : 0 ≤ (x3_1 : Int):=of_decide_eq_true (by first|(with_reducible assumption)|assumption)
       have q4 : x3_1 < (a0.size : Int):=of_decide_eq_true (by first|(with_reducible assumption)|assumption)
       have hx4:=bt_at a0 x3_1
       replace p4:=eq_true p4
       replace q4:=eq_true q4
       go_wp2
       go_roundg k1
       case measure=>have:=HK1.out;omega
       case rel=>exact ⟨(wrap64 (x3_1 + 1)),(by first|rfl|(simp;done)|(simp [*];done)),H',⟨by have:=HK1.out;omega⟩,by repeat (first|exact Drawn0.refl _|apply Drawn0.step)⟩
      rw [if_neg c9] at H
      have c9b0 : ((bt a0 x3_1) == 95) = false:=beq_eq_false_iff_ne.mpr c9
      have c9b1 : ((bt a0 x3_1) != 95) = true:=bne_iff_ne.mpr c9
      by_cases c10 : x3_1 > 0
      ·rw [if_pos c10] at H
       have c10b0 : decide (0 < x3_1) = true:=decide_eq_true c10
       clear c10
       by_cases c11 : (bt a0 x3_1) ≥ 48
       ·rw [if_pos c11] at H
        have c11b0 : decide (48 ≤ (bt a0 x3_1)) = true:=decide_eq_true c11
        clear c11
        by_cases c12 : ((bt a0 x3_1) ≤ 57)
        ·rw [if_pos c12] at H
         have c12b0 : decide ((bt a0 x3_1) ≤ 57) = true:=decide_eq_true c12
         clear c12
         have H':=Aside0.mk H
         clear H
         have p4 : 0 ≤ (x3_1 : Int):=of_decide_eq_true (by first|(with_reducible assumption)|assumption)
         have q4 : x3_1 < (a0.size : Int):=of_decide_eq_true (by first|(with_reducible assumption)|assumption)
         have hx4:=bt_at a0 x3_1
         replace p4:=eq_true p4
         replace q4:=eq_true q4
         go_wp2
         go_roundg k1
         case measure=>have:=HK1.out;omega
         case rel=>exact ⟨(wrap64 (x3_1 + 1)),(by first|rfl|(simp;done)|(simp [*];done)),H',⟨by have:=HK1.out;omega⟩,by repeat (first|exact Drawn0.refl _|apply Drawn0.step)⟩
        rw [if_neg c12] at H
        have c12b0 : decide ((bt a0 x3_1) ≤ 57) = false:=decide_eq_false c12
        clear c12
        obtain rfl:=Option.some.inj H
        have p4 : 0 ≤ (x3_1 : Int):=of_decide_eq_true (by first|(with_reducible assumption)|assumption)
        have q4 : x3_1 < (a0.size : Int):=of_decide_eq_true (by first|(with_reducible assumption)|assumption)
        have hx4:=bt_at a0 x3_1
        replace p4:=eq_true p4
        replace q4:=eq_true q4
        go_wp2
        go_ret
        exact ⟨by first|rfl|(simp;done)|(simp [*];done),by repeat (first|exact Drawn0.refl _|apply Drawn0.step)⟩
       rw [if_neg c11] at H
       have c11b0 : decide (48 ≤ (bt a0 x3_1)) = false:=decide_eq_false c11
       clear c11
       obtain rfl:=Option.some.inj H
       have p4 : 0 ≤ (x3_1 : Int):=of_decide_eq_true (by first|(with_reducible assumption)|assumption)
       have q4 : x3_1 < (a0.size : Int):=of_decide_eq_true (by first|(with_reducible assumption)|assumption)
       have hx4:=bt_at a0 x3_1
       replace p4:=eq_true p4
       replace q4:=eq_true q4
       go_wp2
       go_ret
       exact ⟨by first|rfl|(simp;done)|(simp [*];done),by repeat (first|exact Drawn0.refl _|apply Drawn0.step)⟩
      rw [if_neg c10] at H
      have c10b0 : decide (0 < x3_1) = false:=decide_eq_false c10
      clear c10
      obtain rfl:=Option.some.inj H
      have p4 : 0 ≤ (x3_1 : Int):=of_decide_eq_true (by first|(with_reducible assumption)|assumption)
      have q4 : x3_1 < (a0.size : Int):=of_decide_eq_true (by first|(with_reducible assumption)|assumption)
      have hx4:=bt_at a0 x3_1
      replace p4:=eq_true p4
      replace q4:=eq_true q4
      go_wp2
      go_ret
      exact ⟨by first|rfl|(simp;done)|(simp [*];done),by repeat (first|exact Drawn0.refl _|apply Drawn0.step)⟩
     rw [if_neg c7] at H
     have c7b0 : decide (65 ≤ (bt a0 x3_1)) = false:=decide_eq_false c7
     clear c7
     by_cases c13 : (bt a0 x3_1) = 95
     ·rw [if_pos c13] at H
      have c13b0 : ((bt a0 x3_1) == 95) = true:=beq_iff_eq.mpr c13
      have c13b1 : ((bt a0 x3_1) != 95) = false:=bne_eq_false_iff_eq.mpr c13
      clear c13
      have H':=Aside0.mk H
      clear H
      have p4 : 0 ≤ (x3_1 : Int):=of_decide_eq_true (by first|(with_reducible assumption)|assumption)
      have q4 : x3_1 < (a0.size : Int):=of_decide_eq_true (by first|(with_reducible assumption)|assumption)
      have hx4:=bt_at a0 x3_1
      replace p4:=eq_true p4
      replace q4:=eq_true q4
      go_wp2
      go_roundg k1
      case measure=>have:=HK1.out;omega
      case rel=>exact ⟨(wrap64 (x3_1 + 1)),(by first|rfl|(simp;done)|(simp [*];done)),H',⟨by have:=HK1.out;omega⟩,by repeat (first|exact Drawn0.refl _|apply Drawn0.step)⟩
     rw [if_neg c13] at H
     have c13b0 : ((bt a0 x3_1) == 95) = false:=beq_eq_false_iff_ne.mpr c13
     have c13b1 : ((bt a0 x3_1) != 95) = true:=bne_iff_ne.mpr c13
     by_cases c14 : x3_1 > 0
     ·rw [if_pos c14] at H
      have c14b0 : decide (0 < x3_1) = true:=decide_eq_true c14
      clear c14
      by_cases c15 : (bt a0 x3_1) ≥ 48
      ·rw [if_pos c15] at H
       have c15b0 : decide (48 ≤ (bt a0 x3_1)) = true:=decide_eq_true c15
       clear c15
       by_cases c16 : ((bt a0 x3_1) ≤ 57)
       ·rw [if_pos c16] at H
        have c16b0 : decide ((bt a0 x3_1) ≤ 57) = true:=decide_eq_true c16
        clear c16
        have H':=Aside0.mk H
        clear H
        have p4 : 0 ≤ (x3_1 : Int):=of_decide_eq_true (by first|(with_reducible assumption)|assumption)
        have q4 : x3_1 < (a0.size : Int):=of_decide_eq_true (by first|(with_reducible assumption)|assumption)
        have hx4:=bt_at a0 x3_1
        replace p4:=eq_true p4
        replace q4:=eq_true q4
        go_wp2
        go_roundg k1
        case measure=>have:=HK1.out;omega
        case rel=>exact ⟨(wrap64 (x3_1 + 1)),(by first|rfl|(simp;done)|(simp [*];done)),H',⟨by have:=HK1.out;omega⟩,by repeat (first|exact Drawn0.refl _|apply Drawn0.step)⟩
       rw [if_neg c16] at H
       have c16b0 : decide ((bt a0 x3_1) ≤ 57) = false:=decide_eq_false c16
       clear c16
       obtain rfl:=Option.some.inj H
       have p4 : 0 ≤ (x3_1 : Int):=of_decide_eq_true (by first|(with_reducible assumption)|assumption)
       have q4 : x3_1 < (a0.size : Int):=of_decide_eq_true (by first|(with_reducible assumption)|assumption)
       have hx4:=bt_at a0 x3_1
       replace p4:=eq_true p4
       replace q4:=eq_true q4
       go_wp2
       go_ret
       exact ⟨by first|rfl|(simp;done)|(simp [*];done),by repeat (first|exact Drawn0.refl _|apply Drawn0.step)⟩
      rw [if_neg c15] at H
      have c15b0 : decide (48 ≤ (bt a0 x3_1)) = false:=decide_eq_false c15
      clear c15
      obtain rfl:=Option.some.inj H
      have p4 : 0 ≤ (x3_1 : Int):=of_decide_eq_true (by first|(with_reducible assumption)|assumption)
      have q4 : x3_1 < (a0.size : Int):=of_decide_eq_true (by first|(with_reducible assumption)|assumption)
      have hx4:=bt_at a0 x3_1
      replace p4:=eq_true p4
      replace q4:=eq_true q4
      go_wp2
      go_ret
      exact ⟨by first|rfl|(simp;done)|(simp [*];done),by repeat (first|exact Drawn0.refl _|apply Drawn0.step)⟩
     rw [if_neg c14] at H
     have c14b0 : decide (0 < x3_1) = false:=decide_eq_false c14
     clear c14
     obtain rfl:=Option.some.inj H
     have p4 : 0 ≤ (x3_1 : Int):=of_decide_eq_true (by first|(with_reducible assumption)|assumption)
     have q4 : x3_1 < (a0.size : Int):=of_decide_eq_true (by first|(with_reducible assumption)|assumption)
     have hx4:=bt_at a0 x3_1
     replace p4:=eq_true p4
     replace q4:=eq_true q4
     go_wp2
     go_ret
     exact ⟨by first|rfl|(simp;done)|(simp [*];done),by repeat (first|exact Drawn0.refl _|apply Drawn0.step)⟩
    rw [if_neg c5] at H
    have c5b0 : decide (97 ≤ (bt a0 x3_1)) = false:=decide_eq_false c5
    clear c5
    by_cases c17 : (bt a0 x3_1) ≥ 65
    ·rw [if_pos c17] at H
     have c17b0 : decide (65 ≤ (bt a0 x3_1)) = true:=decide_eq_true c17
     clear c17
     by_cases c18 : (bt a0 x3_1) ≤ 90
     ·rw [if_pos c18] at H
      have c18b0 : decide ((bt a0 x3_1) ≤ 90) = true:=decide_eq_true c18
      clear c18
      have H':=Aside0.mk H
      clear H
      have p4 : 0 ≤ (x3_1 : Int):=of_decide_eq_true (by first|(with_reducible assumption)|assumption)
      have q4 : x3_1 < (a0.size : Int):=of_decide_eq_true (by first|(with_reducible assumption)|assumption)
      have hx4:=bt_at a0 x3_1
      replace p4:=eq_true p4
      replace q4:=eq_true q4
      go_wp2
      go_roundg k1
      case measure=>have:=HK1.out;omega
      case rel=>exact ⟨(wrap64 (x3_1 + 1)),(by first|rfl|(simp;done)|(simp [*];done)),H',⟨by have:=HK1.out;omega⟩,by repeat (first|exact Drawn0.refl _|apply Drawn0.step)⟩
     rw [if_neg c18] at H
     have c18b0 : decide ((bt a0 x3_1) ≤ 90) = false:=decide_eq_false c18
     clear c18
     by_cases c19 : (bt a0 x3_1) = 95
     ·rw [if_pos c19] at H
      have c19b0 : ((bt a0 x3_1) == 95) = true:=beq_iff_eq.mpr c19
      have c19b1 : ((bt a0 x3_1) != 95) = false:=bne_eq_false_iff_eq.mpr c19
      clear c19
      have H':=Aside0.mk H
      clear H
      have p4 : 0 ≤ (x3_1 : Int):=of_decide_eq_true (by first|(with_reducible assumption)|assumption)
      have q4 : x3_1 < (a0.size : Int):=of_decide_eq_true (by first|(with_reducible assumption)|assumption)
      have hx4:=bt_at a0 x3_1
      replace p4:=eq_true p4
      replace q4:=eq_true q4
      go_wp2
      go_roundg k1
      case measure=>have:=HK1.out;omega
      case rel=>exact ⟨(wrap64 (x3_1 + 1)),(by first|rfl|(simp;done)|(simp [*];done)),H',⟨by have:=HK1.out;omega⟩,by repeat (first|exact Drawn0.refl _|apply Drawn0.step)⟩
     rw [if_neg c19] at H
     have c19b0 : ((bt a0 x3_1) == 95) = false:=beq_eq_false_iff_ne.mpr c19
     have c19b1 : ((bt a0 x3_1) != 95) = true:=bne_iff_ne.mpr c19
     by_cases c20 : x3_1 > 0
     ·rw [if_pos c20] at H
      have c20b0 : decide (0 < x3_1) = true:=decide_eq_true c20
      clear c20
      by_cases c21 : (bt a0 x3_1) ≥ 48
      ·rw [if_pos c21] at H
       have c21b0 : decide (48 ≤ (bt a0 x3_1)) = true:=decide_eq_true c21
       clear c21
       by_cases c22 : ((bt a0 x3_1) ≤ 57)
       ·rw [if_pos c22] at H
        have c22b0 : decide ((bt a0 x3_1) ≤ 57) = true:=decide_eq_true c22
        clear c22
        have H':=Aside0.mk H
        clear H
        have p4 : 0 ≤ (x3_1 : Int):=of_decide_eq_true (by first|(with_reducible assumption)|assumption)
        have q4 : x3_1 < (a0.size : Int):=of_decide_eq_true (by first|(with_reducible assumption)|assumption)
        have hx4:=bt_at a0 x3_1
        replace p4:=eq_true p4
        replace q4:=eq_true q4
        go_wp2
        go_roundg k1
        case measure=>have:=HK1.out;omega
        case rel=>exact ⟨(wrap64 (x3_1 + 1)),(by first|rfl|(simp;done)|(simp [*];done)),H',⟨by have:=HK1.out;omega⟩,by repeat (first|exact Drawn0.refl _|apply Drawn0.step)⟩
       rw [if_neg c22] at H
       have c22b0 : decide ((bt a0 x3_1) ≤ 57) = false:=decide_eq_false c22
       clear c22
       obtain rfl:=Option.some.inj H
       have p4 : 0 ≤ (x3_1 : Int):=of_decide_eq_true (by first|(with_reducible assumption)|assumption)
       have q4 : x3_1 < (a0.size : Int):=of_decide_eq_true (by first|(with_reducible assumption)|assumption)
       have hx4:=bt_at a0 x3_1
       replace p4:=eq_true p4
       replace q4:=eq_true q4
       go_wp2
       go_ret
       exact ⟨by first|rfl|(simp;done)|(simp [*];done),by repeat (first|exact Drawn0.refl _|apply Drawn0.step)⟩
      rw [if_neg c21] at H
      have c21b0 : decide (48 ≤ (bt a0 x3_1)) = false:=decide_eq_false c21
      clear c21
      obtain rfl:=Option.some.inj H
      have p4 : 0 ≤ (x3_1 : Int):=of_decide_eq_true (by first|(with_reducible assumption)|assumption)
      have q4 : x3_1 < (a0.size : Int):=of_decide_eq_true (by first|(with_reducible assumption)|assumption)
      have hx4:=bt_at a0 x3_1
      replace p4:=eq_true p4
      replace q4:=eq_true q4
      go_wp2
      go_ret
      exact ⟨by first|rfl|(simp;done)|(simp [*];done),by repeat (first|exact Drawn0.refl _|apply Drawn0.step)⟩
     rw [if_neg c20] at H
     have c20b0 : decide (0 < x3_1) = false:=decide_eq_false c20
     clear c20
     obtain rfl:=Option.some.inj H
     have p4 : 0 ≤ (x3_1 : Int):=of_decide_eq_true (by first|(with_reducible assumption)|assumption)
     have q4 : x3_1 < (a0.size : Int):=of_decide_eq_true (by first|(with_reducible assumption)|assumption)
     have hx4:=bt_at a0 x3_1
     replace p4:=eq_true p4
     replace q4:=eq_true q4
     go_wp2
     go_ret
     exact ⟨by first|rfl|(simp;done)|(simp [*];done),by repeat (first|exact Drawn0.refl _|apply Drawn0.step)⟩
    rw [if_neg c17] at H
    have c17b0 : decide (65 ≤ (bt a0 x3_1)) = false:=decide_eq_false c17
    clear c17
    by_cases c23 : (bt a0 x3_1) = 95
    ·rw [if_pos c23] at H
     have c23b0 : ((bt a0 x3_1) == 95) = true:=beq_iff_eq.mpr c23
     have c23b1 : ((bt a0 x3_1) != 95) = false:=bne_eq_false_iff_eq.mpr c23
     clear c23
     have H':=Aside0.mk H
     clear H
     have p4 : 0 ≤ (x3_1 : Int):=of_decide_eq_true (by first|(with_reducible assumption)|assumption)
     have q4 : x3_1 < (a0.size : Int):=of_decide_eq_true (by first|(with_reducible assumption)|assumption)
     have hx4:=bt_at a0 x3_1
     replace p4:=eq_true p4
     replace q4:=eq_true q4
     go_wp2
     go_roundg k1
     case measure=>have:=HK1.out;omega
     case rel=>exact ⟨(wrap64 (x3_1 + 1)),(by first|rfl|(simp;done)|(simp [*];done)),H',⟨by have:=HK1.out;omega⟩,by repeat (first|exact Drawn0.refl _|apply Drawn0.step)⟩
    rw [if_neg c23] at H
    have c23b0 : ((bt a0 x3_1) == 95) = false:=beq_eq_false_iff_ne.mpr c23
    have c23b1 : ((bt a0 x3_1) != 95) = true:=bne_iff_ne.mpr c23
    by_cases c24 : x3_1 > 0
    ·rw [if_pos c24] at H
     have c24b0 : decide (0 < x3_1) = true:=decide_eq_true c24
     clear c24
     by_cases c25 : (bt a0 x3_1) ≥ 48
     ·rw [if_pos c25] at H
      have c25b0 : decide (48 ≤ (bt a0 x3_1)) = true:=decide_eq_true c25
      clear c25
      by_cases c26 : ((bt a0 x3_1) ≤ 57)
      ·rw [if_pos c26] at H
       have c26b0 : decide ((bt a0 x3_1) ≤ 57) = true:=decide_eq_true c26
       clear c26
       have H':=Aside0.mk H
       clear H
       have p4 : 0 ≤ (x3_1 : Int):=of_decide_eq_true (by first|(with_reducible assumption)|assumption)
       have q4 : x3_1 < (a0.size : Int):=of_decide_eq_true (by first|(with_reducible assumption)|assumption)
       have hx4:=bt_at a0 x3_1
       replace p4:=eq_true p4
       replace q4:=eq_true q4
       go_wp2
       go_roundg k1
       case measure=>have:=HK1.out;omega
       case rel=>exact ⟨(wrap64 (x3_1 + 1)),(by first|rfl|(simp;done)|(simp [*];done)),H',⟨by have:=HK1.out;omega⟩,by repeat (first|exact Drawn0.refl _|apply Drawn0.step)⟩
      rw [if_neg c26] at H
      have c26b0 : decide ((bt a0 x3_1) ≤ 57) = false:=decide_eq_false c26
      clear c26
      obtain rfl:=Option.some.inj H
      have p4 : 0 ≤ (x3_1 : Int):=of_decide_eq_true (by first|(with_reducible assumption)|assumption)
      have q4 : x3_1 < (a0.size : Int):=of_decide_eq_true (by first|(with_reducible assumption)|assumption)
      have hx4:=bt_at a0 x3_1
      replace p4:=eq_true p4
      replace q4:=eq_true q4
      go_wp2
      go_ret
      exact ⟨by first|rfl|(simp;done)|(simp [*];done),by repeat (first|exact Drawn0.refl _|apply Drawn0.step)⟩
     rw [if_neg c25] at H
     have c25b0 : decide (48 ≤ (bt a0 x3_1)) = false:=decide_eq_false c25
     clear c25
     obtain rfl:=Option.some.inj H
     have p4 : 0 ≤ (x3_1 : Int):=of_decide_eq_true (by first|(with_reducible assumption)|assumption)
     have q4 : x3_1 < (a0.size : Int):=of_decide_eq_true (by first|(with_reducible assumption)|assumption)
     have hx4:=bt_at a0 x3_1
     replace p4:=eq_true p4
     replace q4:=eq_true q4
     go_wp2
     go_ret
     exact ⟨by first|rfl|(simp;done)|(simp [*];done),by repeat (first|exact Drawn0.refl _|apply Drawn0.step)⟩
    rw [if_neg c24] at H
    have c24b0 : decide (0 < x3_1) = false:=decide_eq_false c24
    clear c24
    obtain rfl:=Option.some.inj H
    have p4 : 0 ≤ (x3_1 : Int):=of_decide_eq_true (by first|(with_reducible assumption)|assumption)
    have q4 : x3_1 < (a0.size : Int):=of_decide_eq_true (by first|(with_reducible assumption)|assumption)
    have hx4:=bt_at a0 x3_1
    replace p4:=eq_true p4
    replace q4:=eq_true q4
    go_wp2
    go_ret
    exact ⟨by first|rfl|(simp;done)|(simp [*];done),by repeat (first|exact Drawn0.refl _|apply Drawn0.step)⟩
   rw [if_neg c3] at H
   exact absurd H (by simp)
  rw [if_neg c2] at H
  have c2b0 : decide (x3_1 < (a0.size : Int)) = false:=decide_eq_false c2
  clear c2
  by_cases c27 : (a0.size : Int) ≥ 1
  ·rw [if_pos c27] at H
   have c27b0 : decide (1 ≤ (a0.size : Int)) = true:=decide_eq_true c27
   have c27b1 : decide (1 ≤ a0.size) = true:=decide_eq_true (by omega)
   clear c27
   obtain rfl:=Option.some.inj H
   go_wp2
   go_ret
   exact ⟨by first|rfl|(simp;done)|(simp [*];done),by repeat (first|exact Drawn0.refl _|apply Drawn0.step)⟩
  rw [if_neg c27] at H
  have c27b0 : decide (1 ≤ (a0.size : Int)) = false:=decide_eq_false c27
  have c27b1 : decide (1 ≤ a0.size) = false:=decide_eq_false (by omega)
  clear c27
  obtain rfl:=Option.some.inj H
  go_wp2
  go_ret
  exact ⟨by first|rfl|(simp;done)|(simp [*];done),by repeat (first|exact Drawn0.refl _|apply Drawn0.step)⟩
/-! ### spillwayref3_Value: function 17 -/
def spillwayref3_Value.l0 : Nat → ByteArray → Int → Option (Bool)
 | 0,_,_=>none
 | k + 1,x0,x3=>if x3 < (x0.size : Int) then (if 0 ≤ x3 then (if (bt x0 x3) = 10 then (some false) else (spillwayref3_Value.l0 k x0 (wrap64 (x3 + 1)))) else (none)) else (some (decide ((x0.size : Int) ≤ 30)))
def spillwayref3_Value.f (k : Nat) (a0 : ByteArray) : Option (Bool):=spillwayref3_Value.l0 k a0 0
set_option maxHeartbeats 8000000 in
set_option maxRecDepth 100000 in
theorem spillwayref3_Value.calls (k : Nat) (a0 : ByteArray) (r : Bool) (w : World) (h : spillwayref3_Value.f k a0 = some r) :
  Calls Tryz.prog 17 #[.string a0] w fun e w'=>e = .returned (.bool r) ∧ Drawn0 w w':=by
 have H : (spillwayref3_Value.l0 k a0 0) = some r:=h
 clear h
 have H':=Aside0.mk H
 clear H
 go_enter Tryz.func17,Tryz.ntmps17
 go_wp2
 go_loopg [3] k (fun kq v3 w'=>∃ (x3_1 : Int),v3 = .int .i64 x3_1 ∧ Aside0 (spillwayref3_Value.l0 kq a0 x3_1 = some r) ∧ Aside0 (kq ≤ k) ∧ Drawn0 w w')
 case atStart=>exact ⟨(0),(by first|rfl|(simp;done)|(simp [*];done)),H',⟨Nat.le_refl _⟩,by repeat (first|exact Drawn0.refl _|apply Drawn0.step)⟩
 clear H'
 try clear c1
 obtain ⟨x3_1,rfl,HA,HK1,⟨m1,rfl⟩⟩:=hrel
 cases gk with
 | zero=>exact absurd HA.out (by simp [spillwayref3_Value.l0])
 | succ k1 =>
  have H:=HA.out
  clear HA
  simp only [spillwayref3_Value.l0] at H
  by_cases c2 : x3_1 < (a0.size : Int)
  ·rw [if_pos c2] at H
   have c2b0 : decide (x3_1 < (a0.size : Int)) = true:=decide_eq_true c2
   clear c2
   by_cases c3 : 0 ≤ x3_1
   ·rw [if_pos c3] at H
    have c3b0 : decide (0 ≤ x3_1) = true:=decide_eq_true c3
    clear c3
    by_cases c5 : (bt a0 x3_1) = 10
    ·rw [if_pos c5] at H
     have c5b0 : ((bt a0 x3_1) == 10) = true:=beq_iff_eq.mpr c5
     have c5b1 : ((bt a0 x3_1) != 10) = false:=bne_eq_false_iff_eq.mpr c5
     clear c5
     obtain rfl:=Option.some.inj H
     have p4 : 0 ≤ (x3_1 : Int):=of_decide_eq_true (by first|(with_reducible assumption)|assumption)
     have q4 : x3_1 < (a0.size : Int):=of_decide_eq_true (by first|(with_reducible assumption)|assumption)
     have hx4:=bt_at a0 x3_1
     replace p4:=eq_true p4
     replace q4:=eq_true q4
     go_wp2
     go_ret
     exact ⟨by first|rfl|(simp;done)|(simp [*];done),by repeat (first|exact Drawn0.refl _|apply Drawn0.step)⟩
    rw [if_neg c5] at H
    have c5b0 : ((bt a0 x3_1) == 10) = false:=beq_eq_false_iff_ne.mpr c5
    have c5b1 : ((bt a0 x3_1) != 10) = true:=bne_iff_ne.mpr c5
    have H':=Aside0.mk H
    clear H
    have p4 : 0 ≤ (x3_1 : Int):=of_decide_eq_true (by first|(with_reducible assumption)|assumption)
    have q4 : x3_1 < (a0.size : Int):=of_decide_eq_true (by first|(with_reducible assumption)|assumption)
    have hx4:=bt_at a0 x3_1
    replace p4:=eq_true p4
    replace q4:=eq_true q4
    go_wp2
    go_roundg k1
    case measure=>have:=HK1.out;omega
    case rel=>exact ⟨(wrap64 (x3_1 + 1)),(by first|rfl|(simp;done)|(simp [*];done)),H',⟨by have:=HK1.out;omega⟩,by repeat (first|exact Drawn0.refl _|apply Drawn0.step)⟩
   rw [if_neg c3] at H
   exact absurd H (by simp)
  rw [if_neg c2] at H
  have c2b0 : decide (x3_1 < (a0.size : Int)) = false:=decide_eq_false c2
  clear c2
  obtain rfl:=Option.some.inj H
  go_wp2
  go_ret
  exact ⟨by first|rfl|(simp;done)|(simp [*];done),by repeat (first|exact Drawn0.refl _|apply Drawn0.step)⟩
end Go.Proofs.YtfgffjchphignaaGreatDoor.Print
end
section
namespace Go.Proofs.YtfgffjchphignaaGreatDoor.PureN
open Go.RowKit Go.Proofs.YtfgffjchphignaaGreatDoor.Print
open Go.Proofs.YtfgffjchphignaaGreatDoorX Go.Proofs.YtfgffjchphignaaGreatDoorW.PrintWords Go.Proofs.YtfgffjchphignaaGreatDoorW.PrintLast Go.Proofs.YtfgffjchphignaaGreatDoorW.PrintMore
/-! The document's names and values. -/
theorem rname_round (k : Nat) (s : ByteArray) (x : Nat) (hx : x < s.size) (hn : s.size ≤ 9223372036854775807) (c : UInt8) (hc : bt s (x : Int) = (c.toNat : Int)) :
  spillwayref3_Name.l0 (k + 1) s (x : Int) = if nameC (x == 0) c then spillwayref3_Name.l0 k s ((x + 1 : Nat) : Int) else some false:=by
 have hw : wrap64 ((x : Int) + 1) = ((x + 1 : Nat) : Int):=by unfold wrap64;omega
 rw [spillwayref3_Name.l0,if_pos (by omega),if_pos (by omega),hw,hc]
 generalize spillwayref3_Name.l0 k s ((x + 1 : Nat) : Int) = R
 have hb:=UInt8.toNat_lt c
 have e : nameC (x == 0) c = (decide (97 ≤ c.toNat ∧ c.toNat ≤ 122) || decide (65 ≤ c.toNat ∧ c.toNat ≤ 90) || decide (c.toNat = 95) || (decide (0 < x) && decide (48 ≤ c.toNat ∧ c.toNat ≤ 57))):=by
  unfold nameC isL isD
  rcases Nat.eq_zero_or_pos x with h|h
  ·subst h;simp
  have : (x == 0) = false:=beq_eq_false_iff_ne.2 (by omega)
  rw [this]
  simp [h]
 rw [e]
 generalize c.toNat = n at hb ⊢
 simp only [Bool.or_eq_true,decide_eq_true_eq,Bool.and_eq_true]
 repeat' split
 all_goals first|rfl|(exfalso;omega)
theorem rname_end (k : Nat) (s : ByteArray) (x : Nat) (hx : x = s.size) : spillwayref3_Name.l0 (k + 1) s (x : Int) = some (decide (1 ≤ s.size) && decide (s.size ≤ 20)):=by
 rw [spillwayref3_Name.l0,if_neg (by omega)]
 by_cases h : 1 ≤ s.size
 ·rw [if_pos (by omega),decide_eq_true h,Bool.true_and]
  exact congrArg some (decide_eq_decide.2 (by omega))
 rw [if_neg (by omega),decide_eq_false h,Bool.false_and]
theorem rname_loop (s : ByteArray) (hn : s.size ≤ 9223372036854775807) (d : Nat) : ∀ (x : Nat) (k : Nat),x + d = s.size → d < k → 0 < x →
  spillwayref3_Name.l0 k s (x : Int) = some ((s.data.toList.drop x).all idc && decide (s.size ≤ 20)):=by
 induction d with
 | zero =>
  intro x k h hk h0
  obtain ⟨k,rfl⟩ : ∃ m,k = m + 1:=⟨k - 1,by omega⟩
  have hd : s.data.toList.drop x = []:=List.drop_eq_nil_of_le (by simp;show s.size ≤ _;omega)
  rw [rname_end k s x (by omega),hd,List.all_nil,decide_eq_true (show 1 ≤ s.size by omega)]
 | succ d ih =>
  intro x k h hk h0
  obtain ⟨k,rfl⟩ : ∃ m,k = m + 1:=⟨k - 1,by omega⟩
  obtain ⟨c,hc,hg⟩:=bt_byte s x (by omega)
  have hd : s.data.toList.drop x = c :: s.data.toList.drop (x + 1):=by
   obtain ⟨hl,e⟩:=List.getElem?_eq_some_iff.1 hg
   rw [List.drop_eq_getElem_cons hl,e]
  rw [rname_round k s x (by omega) hn c hc,hd,List.all_cons]
  have h1 : nameC (x == 0) c = idc c:=by
   have : (x == 0) = false:=beq_eq_false_iff_ne.2 (by omega)
   rw [this]
   rfl
  rw [h1]
  cases idc c with
  | false=>rfl
  | true =>
   rw [if_pos rfl,ih (x + 1) k (by omega) (by omega) (by omega)]
   rfl
theorem rname_eq (s : ByteArray) (hn : s.size ≤ 9223372036854775807) (k : Nat) (hk : s.size < k) : spillwayref3_Name.f k s = some (nameB s.data.toList):=by
 unfold spillwayref3_Name.f
 obtain ⟨k,rfl⟩ : ∃ m,k = m + 1:=⟨k - 1,by omega⟩
 cases e : s.data.toList with
 | nil =>
  have h0 : s.size = 0:=by have:=congrArg List.length e;rw [Array.length_toList,List.length_nil] at this;exact this
  have hh:=rname_end k s 0 h0.symm
  rw [show ((0 : Nat) : Int) = 0 from rfl] at hh
  rw [hh]
  simp [nameB,h0]
 | cons c r =>
  have h0 : s.size = r.length + 1:=by have:=congrArg List.length e;rw [Array.length_toList,List.length_cons] at this;exact this
  obtain ⟨c',hc,hg⟩:=bt_byte s 0 (by omega)
  rw [e] at hg
  have hcc : c = c':=by simpa using hg
  subst hcc
  have hr:=rname_round k s 0 (by omega) hn c hc
  rw [show ((0 : Nat) : Int) = 0 from rfl] at hr
  rw [hr]
  have h1 : nameC ((0 : Nat) == 0) c = isL c:=by simp [nameC]
  rw [h1,nameB]
  cases isL c with
  | false=>simp
  | true =>
   rw [if_pos rfl,rname_loop s hn r.length (0 + 1) k (by omega) (by omega) (by omega),e]
   simp [h0]
theorem rval_loop (s : ByteArray) (hn : s.size ≤ 9223372036854775807) (d : Nat) : ∀ (x : Nat) (k : Nat),x + d = s.size → d < k →
  spillwayref3_Value.l0 k s (x : Int) = some (!(s.data.toList.drop x).contains 10 && decide (s.size ≤ 30)):=by
 induction d with
 | zero =>
  intro x k h hk
  obtain ⟨k,rfl⟩ : ∃ m,k = m + 1:=⟨k - 1,by omega⟩
  have hd : s.data.toList.drop x = []:=List.drop_eq_nil_of_le (by simp;show s.size ≤ _;omega)
  rw [spillwayref3_Value.l0,if_neg (by omega),hd]
  exact congrArg some (decide_eq_decide.2 (by omega))
 | succ d ih =>
  intro x k h hk
  obtain ⟨k,rfl⟩ : ∃ m,k = m + 1:=⟨k - 1,by omega⟩
  obtain ⟨c,hc,hg⟩:=bt_byte s x (by omega)
  have hd : s.data.toList.drop x = c :: s.data.toList.drop (x + 1):=by
   obtain ⟨hl,e⟩:=List.getElem?_eq_some_iff.1 hg
   rw [List.drop_eq_getElem_cons hl,e]
  have hw : wrap64 ((x : Int) + 1) = ((x + 1 : Nat) : Int):=by unfold wrap64;omega
  rw [spillwayref3_Value.l0,if_pos (by omega),if_pos (by omega),hw,hc,hd,List.contains_cons]
  by_cases h10 : (c.toNat : Int) = 10
  ·have e : c = 10:=(toNat_is c 10 (by omega)).1 h10
   rw [if_pos h10,e]
   rfl
  have e : ((10 : UInt8) == c) = false:=beq_eq_false_iff_ne.2 (fun e=>h10 (by rw [← e];rfl))
  rw [if_neg h10,ih (x + 1) k (by omega) (by omega),e,Bool.false_or]
theorem rval_eq (s : ByteArray) (hn : s.size ≤ 9223372036854775807) (k : Nat) (hk : s.size < k) : spillwayref3_Value.f k s = some (!s.data.toList.contains 10 && decide (s.data.toList.length ≤ 30)):=by
 have h:=rval_loop s hn s.size 0 k (by omega) hk
 rw [show ((0 : Nat) : Int) = 0 from rfl,List.drop_zero] at h
 unfold spillwayref3_Value.f
 rw [h,show s.data.toList.length = s.size from Array.length_toList]
theorem valB_parts (v : List UInt8) : valB v = (!(v == []) && (!v.contains 10 && decide (v.length ≤ 30))):=by
 unfold valB
 cases v with
 | nil=>rfl
 | cons c r =>
  rw [decide_eq_true (show 1 ≤ (c :: r).length by simp),Bool.true_and,Bool.and_comm]
  rfl
end Go.Proofs.YtfgffjchphignaaGreatDoor.PureN
end
section
namespace Go.Proofs.YtfgffjchphignaaGreatDoor.Print
open Go.Sort Go.Shelf PureN
open Go.RowKit Go.Proofs.YtfgffjchphignaaGreatDoorX Go.Proofs.YtfgffjchphignaaGreatDoorW.PrintWords Go.Proofs.YtfgffjchphignaaGreatDoorW.PrintLast Go.Proofs.YtfgffjchphignaaGreatDoorW.PrintMore
/-! The document's Is. -/
abbrev small2 (l : List S60) : Prop:=l.length ≤ 1000 ∧ (∀ x ∈ l,x.f0.size ≤ 9223372036854775807 ∧ x.f1.size ≤ 9223372036854775807)
def spillwayref3_Is.f (l : List S60) : Option Bool:=if small2 l then some (isS (l.map pr)) else none
theorem rname_calls (s : ByteArray) (w : World) (h : s.size ≤ 9223372036854775807) : Calls Tryz.prog 29 #[.string s] w fun e w'=>e = .returned (.bool (nameB s.data.toList)) ∧ ∃ m,w' = w.drewN m :=
 (spillwayref3_Name.calls (s.size + 1) s _ w (rname_eq s h _ (Nat.lt_succ_self _))).mono fun _ _ ⟨h1,h2⟩=>⟨h1,h2.out⟩
theorem rval_calls (s : ByteArray) (w : World) (h : s.size ≤ 9223372036854775807) : Calls Tryz.prog 17 #[.string s] w fun e w'=>e = .returned (.bool (!s.data.toList.contains 10 && decide (s.data.toList.length ≤ 30))) ∧ ∃ m,w' = w.drewN m :=
 (spillwayref3_Value.calls (s.size + 1) s _ w (rval_eq s h _ (Nat.lt_succ_self _))).mono fun _ _ ⟨h1,h2⟩=>⟨h1,h2.out⟩
set_option maxHeartbeats 4000000 in
set_option maxRecDepth 100000 in
theorem spillwayref3_Is.calls (A : Option Addr) (c : Nat) (l : List S60) (r : Bool) (w : World) (hr : Kd.C k60 w A l.length l) (hc : l.length ≤ c) (h : spillwayref3_Is.f l = some r) :
  Calls Tryz.prog 49 #[.slice A l.length c] w fun e w'=>e = .returned (.bool r) ∧ Below w.heap.size w w':=by
 unfold spillwayref3_Is.f at h
 by_cases g : small2 l
 ·rw [if_pos g] at h
  replace h:=Option.some.inj h
  rw [isS_from,List.length_map] at h
  have HR:=Aside0.mk hr
  have HE:=Aside0.mk h
  have HS:=Aside0.mk g.2
  have hn:=g.1
  clear hr h g
  go_enter Tryz.func49,Tryz.ntmps49
  go_wp2
  go_loopg [3] l.length (fun kq v7 w'=>∃ (i : Nat),v7 = .int .i64 i ∧ i + kq = l.length ∧ Aside0 (Below w.heap.size w w') ∧ Aside0 ((isFrom (prevP l i) ((l.drop i).map pr) && decide (l.length ≤ 8)) = r))
  case atStart=>exact ⟨0,rfl,by omega,⟨Below.refl _ _⟩,⟨HE.out⟩⟩
  clear HE
  obtain ⟨i,rfl,hik,HB,HE⟩:=hrel
  cases gk with
  | zero =>
   have hltz : ¬ (i : Int) < (l.length : Int):=by omega
   have he:=HE.out
   rw [List.drop_eq_nil_of_le (by omega),List.map_nil,isFrom,Bool.true_and] at he
   clear HE
   have HE:=Aside0.mk he
   clear he
   go_wp2
   go_ret
   exact ⟨by rw [← HE.out];exact congrArg (fun b=>Ending.returned (Value.bool b)) (decide_eq_decide.2 (by omega)),HB.out⟩
  | succ k1 =>
   have hlt : i < l.length:=by omega
   have hltz : (i : Int) < (l.length : Int):=by omega
   obtain ⟨ad,rfl,x0,x1⟩:=at_T60 HR.out (i : Int) (by omega) hltz
   have x0:=(HB.out.cell (World.block_lt_of_cell? w _ x0)).trans x0
   have x1:=(HB.out.cell (World.block_lt_of_cell? w _ x1)).trans x1
   rw [Int.toNat_natCast] at x0 x1
   have ex : rd_T60 l (i : Int) = l.getD i z60:=rfl
   rw [ex] at x0 x1
   have hd : l.drop i = l.getD i z60 :: l.drop (i + 1):=by
    rw [List.drop_eq_getElem_cons hlt,List.getD_eq_getElem?_getD,List.getElem?_eq_getElem hlt]
    rfl
   have he:=HE.out
   rw [hd,List.map_cons] at he
   have hp1 : prevP l (i + 1) = some (pr (l.getD i z60)):=rfl
   have hname:=HS.out (l.getD i z60) (by rw [List.getD_eq_getElem?_getD,List.getElem?_eq_getElem hlt];exact List.getElem_mem hlt)
   clear HE ex hd
   have e2 : isFrom (prevP l i) (pr (l.getD i z60) :: (l.drop (i + 1)).map pr) = (nameB (pr (l.getD i z60)).1 && valB (pr (l.getD i z60)).2 && (match prevP l i with|none=>true|some q=>ltL q.1 (pr (l.getD i z60)).1) && isFrom (prevP l (i + 1)) ((l.drop (i + 1)).map pr)):=by
    cases prevP l i <;> rfl
   rw [e2] at he
   have hlast : (match prevP l i with|none=>true|some q=>ltL q.1 (pr (l.getD i z60)).1) = if i = 0 then true else ltL (pr (l.getD (i - 1) z60)).1 (pr (l.getD i z60)).1:=by
    unfold prevP
    by_cases h0 : i = 0
    ·rw [if_pos h0,if_pos h0]
    rw [if_neg h0,if_neg h0]
   rw [hlast] at he
   have hy : 0 < i → wr.cell? (ad.add ((i - 1) * 2)) = some (.string (l.getD (i - 1) z60).f0):=fun h0=>by
    obtain ⟨ad',e',y0,_⟩:=at_T60 HR.out ((i - 1 : Nat) : Int) (by omega) (by omega)
    cases e'
    rw [Int.toNat_natCast] at y0
    exact (HB.out.cell (World.block_lt_of_cell? w _ y0)).trans y0
   generalize l.getD (i - 1) z60 = y at he hy
   generalize hrest : isFrom (prevP l (i + 1)) ((l.drop (i + 1)).map pr) = rest at he
   have HRest:=Aside0.mk hrest
   clear hrest
   generalize l.getD i z60 = x at x0 x1 he hname
   have n1:=fun W=>rname_calls x.f0 W hname.1
   have n2:=fun W=>rval_calls x.f1 W hname.2
   have hv0 : (x.f1.toList == ([] : List UInt8)) = (x.f1.data.toList == []):=by rw [ByteArray.toList_eq]
   have hv1 : x.f1.toList.isEmpty = (x.f1.data.toList == []):=by rw [ByteArray.toList_eq];cases x.f1.data.toList <;> rfl
   have hvb:=valB_parts x.f1.data.toList
   have he : ((nameB x.f0.data.toList && valB x.f1.data.toList && (if i = 0 then true else ltL y.f0.data.toList x.f0.data.toList) && rest) && decide (l.length ≤ 8)) = r:=he
   clear hlast e2 hp1 hname
   have hw : wr.heap[wr.heap.size]? = none:=Array.getElem?_eq_none (Nat.le_refl _)
   cases h1 : nameB x.f0.data.toList with
   | false =>
    rw [h1] at he n1
    have HE:=Aside0.mk he
    clear he h1 n2 hy hw
    go_wp2
    go_quiet (first|(go_at_call 29;exact Calls.quiet_of (n1 _)))
    go_wp2
    go_ret
    exact ⟨by rw [← HE.out];rfl,(by repeat (first|(with_reducible first|exact HB.out|apply below_alloc|apply pw_below_drewN|apply below_drew1)|exact HB.out))⟩
   | true =>
    rw [h1] at he n1
    cases hE : (x.f1.data.toList == ([] : List UInt8)) with
    | true =>
     rw [hvb,hE,Bool.not_true,Bool.false_and] at he
     rw [hE] at hv0 hv1
     have HE:=Aside0.mk he
     clear he h1 hE hvb n2 hy hw
     go_wp2
     go_quiet (first|(go_at_call 29;exact Calls.quiet_of (n1 _)))
     go_wp2
     go_ret
     exact ⟨by rw [← HE.out];rfl,(by repeat (first|(with_reducible first|exact HB.out|apply below_alloc|apply pw_below_drewN|apply below_drew1)|exact HB.out))⟩
    | false =>
     cases hV : (!x.f1.data.toList.contains 10 && decide (x.f1.data.toList.length ≤ 30)) with
     | false =>
      rw [hvb,hE,hV,Bool.not_false,Bool.true_and] at he
      rw [hV] at n2
      rw [hE] at hv0 hv1
      have HE:=Aside0.mk he
      clear he h1 hE hV hvb hy hw
      go_wp2
      go_quiet (first|(go_at_call 29;exact Calls.quiet_of (n1 _))|(go_at_call 17;exact Calls.quiet_of (n2 _)))
      go_wp2
      go_ret
      exact ⟨by rw [← HE.out];rfl,(by repeat (first|(with_reducible first|exact HB.out|apply below_alloc|apply pw_below_drewN|apply below_drew1)|exact HB.out))⟩
     | true =>
      rw [hvb,hE,hV,Bool.not_false,Bool.true_and] at he
      rw [hV] at n2
      rw [hE] at hv0 hv1
      rcases Nat.eq_zero_or_pos i with h0|h0
      ·have hz : decide (0 < i) = false:=decide_eq_false (by omega)
       rw [if_pos h0] at he
       have HE:=Aside0.mk (show (rest && decide (l.length ≤ 8)) = r from he)
       have H0:=Aside0.mk h0
       clear he h1 hE hV hvb hy hw h0
       go_wp2
       go_quiet (first|(go_at_call 29;exact Calls.quiet_of (n1 _))|(go_at_call 17;exact Calls.quiet_of (n2 _)))
       go_wp2
       go_roundg k1
       case measure=>omega
       case rel=>exact ⟨i + 1,by go_num,by omega,⟨(by repeat (first|(with_reducible first|exact HB.out|apply below_alloc|apply pw_below_drewN|apply below_drew1)|exact HB.out))⟩,⟨by rw [HRest.out];exact HE.out⟩⟩
      obtain ⟨m,rfl⟩ : ∃ m,i = m + 1:=⟨i - 1,by omega⟩
      rw [if_neg (by omega)] at he
      have y0:=hy h0
      rw [Nat.add_sub_cancel] at y0
      have y0:=Lib.cell?_alloc_some (.cells #[.string x.f0,.string x.f1] 60) y0
      have hwp : IntKind.i64.wrap (m : Int) = (m : Int):=by rw [IntKind.wrap_i64];omega
      have jz : (m : Int) < (l.length : Int):=by omega
      have hless : Op.bytesLess y.f0.toList x.f0.toList = ltL y.f0.data.toList x.f0.data.toList:=by rw [less_is,ByteArray.toList_eq,ByteArray.toList_eq]
      have hz : (0 : Int) < (m : Int) + 1:=by omega
      cases h3 : ltL y.f0.data.toList x.f0.data.toList with
      | false =>
       rw [h3] at he hless
       have HE:=Aside0.mk he
       clear he h1 hE hV hvb h3 hy hw h0
       go_wp2
       go_quiet (first|(go_at_call 29;exact Calls.quiet_of (n1 _))|(go_at_call 17;exact Calls.quiet_of (n2 _)))
       go_wp2
       go_ret
       exact ⟨by rw [← HE.out];rfl,(by repeat (first|(with_reducible first|exact HB.out|apply below_alloc|apply pw_below_drewN|apply below_drew1)|exact HB.out))⟩
      | true =>
       rw [h3] at he hless
       have HE:=Aside0.mk (show (rest && decide (l.length ≤ 8)) = r from he)
       clear he h1 hE hV hvb h3 hy hw h0
       go_wp2
       go_quiet (first|(go_at_call 29;exact Calls.quiet_of (n1 _))|(go_at_call 17;exact Calls.quiet_of (n2 _)))
       go_wp2
       go_roundg k1
       case measure=>omega
       case rel=>exact ⟨m + 1 + 1,by go_num,by omega,⟨(by repeat (first|(with_reducible first|exact HB.out|apply below_alloc|apply pw_below_drewN|apply below_drew1)|exact HB.out))⟩,⟨by rw [HRest.out];exact HE.out⟩⟩
 rw [if_neg g] at h
 exact absurd h (by simp)
end Go.Proofs.YtfgffjchphignaaGreatDoor.Print
end
section
namespace Go.Proofs.YtfgffjchphignaaGreatDoor.Print
open Go.RowKit Go.Proofs.YtfgffjchphignaaGreatDoorX Go.Proofs.YtfgffjchphignaaGreatDoorW.PrintWords Go.Proofs.YtfgffjchphignaaGreatDoorW.PrintLast Go.Proofs.YtfgffjchphignaaGreatDoorW.PrintMore
/-! ### spillwayref2_Is: function 50 -/
def spillwayref2_Is.f (a0_0 : Bool) (a0_1 : Int) : Option (Bool):=if a0_0 = true then (some (a0_1 == 0)) else (if a0_1 = (-9223372036854775808) then (some false) else (some true))
set_option maxHeartbeats 8000000 in
set_option maxRecDepth 100000 in
theorem spillwayref2_Is.calls (a0_0 : Bool) (a0_1 : Int) (r : Bool) (w : World) (h : spillwayref2_Is.f a0_0 a0_1 = some r) :
  Calls Tryz.prog 50 #[.agg #[.bool a0_0,.int .i64 a0_1]] w fun e w'=>e = .returned (.bool r) ∧ Below w.heap.size w w':=by
 have hu32:=Tryz.underlying32
 have HB:=Aside0.mk (Below.refl w.heap.size w)
 have H : (if a0_0 = true then (some (a0_1 == 0)) else (if a0_1 = (-9223372036854775808) then (some false) else (some true))) = some r:=h
 clear h
 by_cases c2 : a0_0 = true
 ·subst c2
  have H1 : (some (a0_1 == 0)) = some r:=by rw [if_pos rfl] at H;exact H
  clear H
  have H:=H1
  clear H1
  obtain rfl:=Option.some.inj H
  go_enter Tryz.func50,Tryz.ntmps50
  go_wp2_with (first|((with_reducible refine gate_dst (N:=1) rfl ?_);refine box_event ?hg (N:=1) ?hd (cs:=#[.bool true,.int .i64 a0_1]) (t:=32) ?hr ?_;(case hd=>rfl);(case hg=>rfl);(case hr=>first|(go_simp;done)|(go_simp;rfl));intro gb448 hg w3 hbox hb;have n0_:=Aside0.mk (below_step (by repeat (first|(with_reducible first|exact HB.out|apply below_alloc|apply pw_below_drewN|apply below_drew1)|exact HB.out)) hb);have n1_:=Aside0.mk (hbox);have n2_:=Aside0.mk ((by rw [hg];exact (below_size (by repeat (first|(with_reducible first|exact HB.out|apply below_alloc|apply pw_below_drewN|apply below_drew1)|exact HB.out))) : w.heap.size ≤ gb448));have n3_:=Aside0.mk ((by rw [hg];exact (below_size (by repeat (first|(with_reducible first|exact HB.out|apply below_alloc|apply pw_below_drewN|apply below_drew1)|exact HB.out))) : w.heap.size ≤ gb448));clear HB;have HB:=n0_;have BK448:=n1_;have GW448:=n2_;have GE448:=n3_;clear n0_ n1_ n2_ n3_;clear hb hbox hg;have hcz4_0 : w3.cell? ⟨gb448,0,none⟩ = some (.bool true):=(blk_cell BK448.out 0).trans rfl;have hcz4_1 : w3.cell? ⟨gb448,1,none⟩ = some (.int .i64 a0_1):=(blk_cell BK448.out 1).trans rfl;have hfz4_0:=blk_frozen BK448.out 0;have hfz4_1:=blk_frozen BK448.out 1))
  go_ret
  exact ⟨by first|rfl|(simp [errW_none,errW_some] <;> rfl)|(simp [*,errW_none,errW_some] <;> rfl),by repeat (first|(with_reducible first|exact HB.out|apply below_alloc|apply pw_below_drewN|apply below_drew1|refine below_set ?_ GE448.out)|exact HB.out)⟩
 replace c2:=Bool.eq_false_iff.mpr c2
 subst c2
 have H1 : (if a0_1 = (-9223372036854775808) then (some false) else (some true)) = some r:=by rw [if_neg (show ¬ (false = true) by decide)] at H;exact H
 clear H
 have H:=H1
 clear H1
 by_cases c5 : a0_1 = (-9223372036854775808)
 ·rw [if_pos c5] at H
  have c5b0 : (a0_1 == (-9223372036854775808)) = true:=beq_iff_eq.mpr c5
  have c5b1 : (a0_1 != (-9223372036854775808)) = false:=bne_eq_false_iff_eq.mpr c5
  clear c5
  obtain rfl:=Option.some.inj H
  go_enter Tryz.func50,Tryz.ntmps50
  go_wp2_with (first|((with_reducible refine gate_dst (N:=1) rfl ?_);refine box_event ?hg (N:=1) ?hd (cs:=#[.bool false,.int .i64 a0_1]) (t:=32) ?hr ?_;(case hd=>rfl);(case hg=>rfl);(case hr=>first|(go_simp;done)|(go_simp;rfl));intro gb448 hg w6 hbox hb;have n0_:=Aside0.mk (below_step (by repeat (first|(with_reducible first|exact HB.out|apply below_alloc|apply pw_below_drewN|apply below_drew1)|exact HB.out)) hb);have n1_:=Aside0.mk (hbox);have n2_:=Aside0.mk ((by rw [hg];exact (below_size (by repeat (first|(with_reducible first|exact HB.out|apply below_alloc|apply pw_below_drewN|apply below_drew1)|exact HB.out))) : w.heap.size ≤ gb448));have n3_:=Aside0.mk ((by rw [hg];exact (below_size (by repeat (first|(with_reducible first|exact HB.out|apply below_alloc|apply pw_below_drewN|apply below_drew1)|exact HB.out))) : w.heap.size ≤ gb448));clear HB;have HB:=n0_;have BK448:=n1_;have GW448:=n2_;have GE448:=n3_;clear n0_ n1_ n2_ n3_;clear hb hbox hg;have hcz7_0 : w6.cell? ⟨gb448,0,none⟩ = some (.bool false):=(blk_cell BK448.out 0).trans rfl;have hcz7_1 : w6.cell? ⟨gb448,1,none⟩ = some (.int .i64 a0_1):=(blk_cell BK448.out 1).trans rfl;have hfz7_0:=blk_frozen BK448.out 0;have hfz7_1:=blk_frozen BK448.out 1))
  go_ret
  exact ⟨by first|rfl|(simp [errW_none,errW_some] <;> rfl)|(simp [*,errW_none,errW_some] <;> rfl),by repeat (first|(with_reducible first|exact HB.out|apply below_alloc|apply pw_below_drewN|apply below_drew1|refine below_set ?_ GE448.out)|exact HB.out)⟩
 rw [if_neg c5] at H
 have c5b0 : (a0_1 == (-9223372036854775808)) = false:=beq_eq_false_iff_ne.mpr c5
 have c5b1 : (a0_1 != (-9223372036854775808)) = true:=bne_iff_ne.mpr c5
 obtain rfl:=Option.some.inj H
 go_enter Tryz.func50,Tryz.ntmps50
 go_wp2_with (first|((with_reducible refine gate_dst (N:=1) rfl ?_);refine box_event ?hg (N:=1) ?hd (cs:=#[.bool false,.int .i64 a0_1]) (t:=32) ?hr ?_;(case hd=>rfl);(case hg=>rfl);(case hr=>first|(go_simp;done)|(go_simp;rfl));intro gb448 hg w8 hbox hb;have n0_:=Aside0.mk (below_step (by repeat (first|(with_reducible first|exact HB.out|apply below_alloc|apply pw_below_drewN|apply below_drew1)|exact HB.out)) hb);have n1_:=Aside0.mk (hbox);have n2_:=Aside0.mk ((by rw [hg];exact (below_size (by repeat (first|(with_reducible first|exact HB.out|apply below_alloc|apply pw_below_drewN|apply below_drew1)|exact HB.out))) : w.heap.size ≤ gb448));have n3_:=Aside0.mk ((by rw [hg];exact (below_size (by repeat (first|(with_reducible first|exact HB.out|apply below_alloc|apply pw_below_drewN|apply below_drew1)|exact HB.out))) : w.heap.size ≤ gb448));clear HB;have HB:=n0_;have BK448:=n1_;have GW448:=n2_;have GE448:=n3_;clear n0_ n1_ n2_ n3_;clear hb hbox hg;have hcz9_0 : w8.cell? ⟨gb448,0,none⟩ = some (.bool false):=(blk_cell BK448.out 0).trans rfl;have hcz9_1 : w8.cell? ⟨gb448,1,none⟩ = some (.int .i64 a0_1):=(blk_cell BK448.out 1).trans rfl;have hfz9_0:=blk_frozen BK448.out 0;have hfz9_1:=blk_frozen BK448.out 1))
 go_ret
 exact ⟨by first|rfl|(simp [errW_none,errW_some] <;> rfl)|(simp [*,errW_none,errW_some] <;> rfl),by repeat (first|(with_reducible first|exact HB.out|apply below_alloc|apply pw_below_drewN|apply below_drew1|refine below_set ?_ GE448.out)|exact HB.out)⟩
/-! ### spillwayref3_Get: function 33 -/
def spillwayref3_Get.l0 : Nat → List (S60) → ByteArray → Int → Option (ByteArray)
 | 0,_,_,_=>none
 | k + 1,x0,x1,x5=>if x5 < (x0.length : Int) then (if 0 ≤ x5 then (if ((rd_T60 x0 x5).f0).toList = x1.toList then (some ((rd_T60 x0 x5).f1)) else (spillwayref3_Get.l0 k x0 x1 (wrap64 (x5 + 1)))) else (none)) else (some (⟨#[]⟩ : ByteArray))
def spillwayref3_Get.f (k : Nat) (l0 : List (S60)) (a1 : ByteArray) : Option (ByteArray):=spillwayref3_Get.l0 k l0 a1 0
set_option maxHeartbeats 8000000 in
set_option maxRecDepth 100000 in
theorem spillwayref3_Get.calls (k : Nat) (A0 : Option Addr) (c0 : Nat) (l0 : List (S60)) (a1 : ByteArray) (r : ByteArray) (w : World) (hr0 : Kd.C k60 w A0 l0.length l0) (hc0 : l0.length ≤ c0) (h : spillwayref3_Get.f k l0 a1 = some r) :
  Calls Tryz.prog 33 #[.slice A0 l0.length c0,.string a1] w fun e w'=>e = .returned (.string r) ∧ Drawn0 w w':=by
 have HR0:=Aside0.mk hr0
 have HC0:=Aside0.mk hc0
 clear hr0 hc0
 have H : (spillwayref3_Get.l0 k l0 a1 0) = some r:=h
 clear h
 have H':=Aside0.mk H
 clear H
 go_enter Tryz.func33,Tryz.ntmps33
 go_wp2
 go_loopg [5] k (fun kq v5 w'=>∃ (x5_1 : Int),v5 = .int .i64 x5_1 ∧ Aside0 (spillwayref3_Get.l0 kq l0 a1 x5_1 = some r) ∧ Aside0 (kq ≤ k) ∧ Drawn0 w w')
 case atStart=>exact ⟨(0),(by first|rfl|(simp;done)|(simp [*];done)),H',⟨Nat.le_refl _⟩,by repeat (first|exact Drawn0.refl _|apply Drawn0.step)⟩
 clear H'
 try clear p2
 obtain ⟨x5_1,rfl,HA,HK1,⟨m1,rfl⟩⟩:=hrel
 cases gk with
 | zero=>exact absurd HA.out (by simp [spillwayref3_Get.l0])
 | succ k1 =>
  have H:=HA.out
  clear HA
  simp only [spillwayref3_Get.l0] at H
  by_cases c3 : x5_1 < (l0.length : Int)
  ·rw [if_pos c3] at H
   have c3b0 : decide (x5_1 < (l0.length : Int)) = true:=decide_eq_true c3
   clear c3
   by_cases c4 : 0 ≤ x5_1
   ·rw [if_pos c4] at H
    have c4b0 : decide (0 ≤ x5_1) = true:=decide_eq_true c4
    clear c4
    by_cases c5 : ((rd_T60 l0 x5_1).f0).toList = a1.toList
    ·rw [if_pos c5] at H
     have c5b0 : (((rd_T60 l0 x5_1).f0).toList == a1.toList) = true:=beq_iff_eq.mpr c5
     have c5b1 : (((rd_T60 l0 x5_1).f0).toList != a1.toList) = false:=bne_eq_false_iff_eq.mpr c5
     clear c5
     obtain rfl:=Option.some.inj H
     have p210 : 0 ≤ (x5_1 : Int):=of_decide_eq_true (by first|(with_reducible assumption)|assumption)
     have q210 : x5_1 < (l0.length : Int):=of_decide_eq_true (by first|(with_reducible assumption)|assumption)
     obtain ⟨ad210,e210,hx210_0,hx210_1⟩:=at_T60 HR0.out x5_1 p210 q210
     cases e210
     replace p210:=eq_true p210
     replace q210:=eq_true q210
     have p211 : 0 ≤ (x5_1 : Int):=of_decide_eq_true (by first|(with_reducible assumption)|assumption)
     have q211 : x5_1 < (l0.length : Int):=of_decide_eq_true (by first|(with_reducible assumption)|assumption)
     obtain ⟨ad211,e211,hx211_0,hx211_1⟩:=at_T60 HR0.out x5_1 p211 q211
     obtain rfl : ad210 = ad211:=(by injection e211)
     replace p211:=eq_true p211
     replace q211:=eq_true q211
     go_wp2
     go_ret
     exact ⟨by first|rfl|(simp;done)|(simp [*];done),by repeat (first|exact Drawn0.refl _|apply Drawn0.step)⟩
    rw [if_neg c5] at H
    have c5b0 : (((rd_T60 l0 x5_1).f0).toList == a1.toList) = false:=beq_eq_false_iff_ne.mpr c5
    have c5b1 : (((rd_T60 l0 x5_1).f0).toList != a1.toList) = true:=bne_iff_ne.mpr c5
    have H':=Aside0.mk H
    clear H
    have p210 : 0 ≤ (x5_1 : Int):=of_decide_eq_true (by first|(with_reducible assumption)|assumption)
    have q210 : x5_1 < (l0.length : Int):=of_decide_eq_true (by first|(with_reducible assumption)|assumption)
    obtain ⟨ad210,e210,hx210_0,hx210_1⟩:=at_T60 HR0.out x5_1 p210 q210
    cases e210
    replace p210:=eq_true p210
    replace q210:=eq_true q210
    go_wp2
    go_roundg k1
    case measure=>have:=HK1.out;omega
    case rel=>exact ⟨(wrap64 (x5_1 + 1)),(by first|rfl|(simp;done)|(simp [*];done)),H',⟨by have:=HK1.out;omega⟩,by repeat (first|exact Drawn0.refl _|apply Drawn0.step)⟩
   rw [if_neg c4] at H
   exact absurd H (by simp)
  rw [if_neg c3] at H
  have c3b0 : decide (x5_1 < (l0.length : Int)) = false:=decide_eq_false c3
  clear c3
  obtain rfl:=Option.some.inj H
  go_wp2
  go_ret
  exact ⟨by first|rfl|(simp;done)|(simp [*];done),by repeat (first|exact Drawn0.refl _|apply Drawn0.step)⟩
/-! ### spillwayref3_Quote: function 18 -/
def spillwayref3_Quote.l0 : Nat → ByteArray → ByteArray → Int → Option (ByteArray)
 | 0,_,_,_=>none
 | k + 1,x0,x3,x4=>if x4 < (x0.size : Int) then (if 0 ≤ x4 then (if (bt x0 x4) = 34 then (if x3.size + 1 ≤ 9223372036854775807 then (if x4 ≤ (wrap64 (x4 + 1)) then (if (wrap64 (x4 + 1)) ≤ (x0.size : Int) then (if (x3 ++ (⟨#[92]⟩ : ByteArray)).size + (x0.extract (x4 : Int).toNat ((wrap64 (x4 + 1)) : Int).toNat).size ≤ 9223372036854775807 then (spillwayref3_Quote.l0 k x0 ((x3 ++ (⟨#[92]⟩ : ByteArray)) ++ (x0.extract (x4 : Int).toNat ((wrap64 (x4 + 1)) : Int).toNat)) (wrap64 (x4 + 1))) else (none)) else (none)) else (none)) else (none)) else (if (bt x0 x4) = 92 then (if x3.size + 1 ≤ 9223372036854775807 then (if x4 ≤ (wrap64 (x4 + 1)) then (if (wrap64 (x4 + 1)) ≤ (x0.size : Int) then (if (x3 ++ (⟨#[92]⟩ : ByteArray)).size + (x0.extract (x4 : Int).toNat ((wrap64 (x4 + 1)) : Int).toNat).size ≤ 9223372036854775807 then (spillwayref3_Quote.l0 k x0 ((x3 ++ (⟨#[92]⟩ : ByteArray)) ++ (x0.extract (x4 : Int).toNat ((wrap64 (x4 + 1)) : Int).toNat)) (wrap64 (x4 + 1))) else (none)) else (none)) else (none)) else (none)) else (if x4 ≤ (wrap64 (x4 + 1)) then (if (wrap64 (x4 + 1)) ≤ (x0.size : Int) then (if x3.size + (x0.extract (x4 : Int).toNat ((wrap64 (x4 + 1)) : Int).toNat).size ≤ 9223372036854775807 then (spillwayref3_Quote.l0 k x0 (x3 ++ (x0.extract (x4 : Int).toNat ((wrap64 (x4 + 1)) : Int).toNat)) (wrap64 (x4 + 1))) else (none)) else (none)) else (none)))) else (none)) else (if x3.size + 1 ≤ 9223372036854775807 then (some (x3 ++ (⟨#[34]⟩ : ByteArray))) else (none))
def spillwayref3_Quote.f (k : Nat) (a0 : ByteArray) : Option (ByteArray):=spillwayref3_Quote.l0 k a0 (⟨#[34]⟩ : ByteArray) 0
set_option maxHeartbeats 8000000 in
set_option maxRecDepth 100000 in
theorem spillwayref3_Quote.calls (k : Nat) (a0 : ByteArray) (r : ByteArray) (w : World) (h : spillwayref3_Quote.f k a0 = some r) :
  Calls Tryz.prog 18 #[.string a0] w fun e w'=>e = .returned (.string r) ∧ Drawn0 w w':=by
 have H : (spillwayref3_Quote.l0 k a0 (⟨#[34]⟩ : ByteArray) 0) = some r:=h
 clear h
 have H':=Aside0.mk H
 clear H
 go_enter Tryz.func18,Tryz.ntmps18
 go_wp2
 go_loopg [3,4] k (fun kq v3 v4 w'=>∃ (x3_1 : ByteArray) (x4_1 : Int),v3 = .string x3_1 ∧ v4 = .int .i64 x4_1 ∧ Aside0 (spillwayref3_Quote.l0 kq a0 x3_1 x4_1 = some r) ∧ Aside0 (kq ≤ k) ∧ Drawn0 w w')
 case atStart=>exact ⟨((⟨#[34]⟩ : ByteArray)),(0),(by first|rfl|(simp;done)|(simp [*];done)),(by first|rfl|(simp;done)|(simp [*];done)),H',⟨Nat.le_refl _⟩,by repeat (first|exact Drawn0.refl _|apply Drawn0.step)⟩
 clear H'
 try clear c1
 obtain ⟨x3_1,x4_1,rfl,rfl,HA,HK1,⟨m1,rfl⟩⟩:=hrel
 cases gk with
 | zero=>exact absurd HA.out (by simp [spillwayref3_Quote.l0])
 | succ k1 =>
  have H:=HA.out
  clear HA
  simp only [spillwayref3_Quote.l0] at H
  by_cases c2 : x4_1 < (a0.size : Int)
  ·rw [if_pos c2] at H
   have c2b0 : decide (x4_1 < (a0.size : Int)) = true:=decide_eq_true c2
   clear c2
   by_cases c3 : 0 ≤ x4_1
   ·rw [if_pos c3] at H
    have c3b0 : decide (0 ≤ x4_1) = true:=decide_eq_true c3
    clear c3
    by_cases c5 : (bt a0 x4_1) = 34
    ·rw [if_pos c5] at H
     have c5b0 : ((bt a0 x4_1) == 34) = true:=beq_iff_eq.mpr c5
     have c5b1 : ((bt a0 x4_1) != 34) = false:=bne_eq_false_iff_eq.mpr c5
     clear c5
     by_cases c6 : x3_1.size + 1 ≤ 9223372036854775807
     ·rw [if_pos c6] at H
      have c6b0:=eq_true c6
      have c6b1 : decide (x3_1.size + 1 ≤ 9223372036854775807) = true:=decide_eq_true c6
      try have c6b2 : (9223372036854775807 < x3_1.size + 1) = False:=eq_false (Nat.not_lt.2 c6)
      have c7b0:=eq_true (of_decide_eq_true (by first|(with_reducible assumption)|assumption) : 0 ≤ x4_1)
      by_cases c8 : x4_1 ≤ (wrap64 (x4_1 + 1))
      ·rw [if_pos c8] at H
       have c8b0:=eq_true c8
       have c8b1 : decide (x4_1 ≤ (wrap64 (x4_1 + 1))) = true:=decide_eq_true c8
       by_cases c9 : (wrap64 (x4_1 + 1)) ≤ (a0.size : Int)
       ·rw [if_pos c9] at H
        have c9b0:=eq_true c9
        have c9b1 : decide ((wrap64 (x4_1 + 1)) ≤ (a0.size : Int)) = true:=decide_eq_true c9
        by_cases c10 : (x3_1 ++ (⟨#[92]⟩ : ByteArray)).size + (a0.extract (x4_1 : Int).toNat ((wrap64 (x4_1 + 1)) : Int).toNat).size ≤ 9223372036854775807
        ·rw [if_pos c10] at H
         have c10b0:=eq_true c10
         have c10b1 : decide ((x3_1 ++ (⟨#[92]⟩ : ByteArray)).size + (a0.extract (x4_1 : Int).toNat ((wrap64 (x4_1 + 1)) : Int).toNat).size ≤ 9223372036854775807) = true:=decide_eq_true c10
         try have c10b2 : (9223372036854775807 < (x3_1 ++ (⟨#[92]⟩ : ByteArray)).size + (a0.extract (x4_1 : Int).toNat ((wrap64 (x4_1 + 1)) : Int).toNat).size) = False:=eq_false (Nat.not_lt.2 c10)
         try (have c10b3:=c10;simp only [ByteArray.size_append,sz_one] at c10b3;have c10b4:=eq_false (Nat.not_lt.2 c10b3);clear c10b3)
         have H':=Aside0.mk H
         clear H
         have p4 : 0 ≤ (x4_1 : Int):=of_decide_eq_true (by first|(with_reducible assumption)|assumption)
         have q4 : x4_1 < (a0.size : Int):=of_decide_eq_true (by first|(with_reducible assumption)|assumption)
         have hx4:=bt_at a0 x4_1
         replace p4:=eq_true p4
         replace q4:=eq_true q4
         go_wp2
         go_roundg k1
         case measure=>have:=HK1.out;omega
         case rel=>exact ⟨((x3_1 ++ (⟨#[92]⟩ : ByteArray)) ++ (a0.extract (x4_1 : Int).toNat ((wrap64 (x4_1 + 1)) : Int).toNat)),(wrap64 (x4_1 + 1)),(by first|rfl|(simp;done)|(simp [*];done)),(by first|rfl|(simp;done)|(simp [*];done)),H',⟨by have:=HK1.out;omega⟩,by repeat (first|exact Drawn0.refl _|apply Drawn0.step)⟩
        rw [if_neg c10] at H
        exact absurd H (by simp)
       rw [if_neg c9] at H
       exact absurd H (by simp)
      rw [if_neg c8] at H
      exact absurd H (by simp)
     rw [if_neg c6] at H
     exact absurd H (by simp)
    rw [if_neg c5] at H
    have c5b0 : ((bt a0 x4_1) == 34) = false:=beq_eq_false_iff_ne.mpr c5
    have c5b1 : ((bt a0 x4_1) != 34) = true:=bne_iff_ne.mpr c5
    by_cases c12 : (bt a0 x4_1) = 92
    ·rw [if_pos c12] at H
     have c12b0 : ((bt a0 x4_1) == 92) = true:=beq_iff_eq.mpr c12
     have c12b1 : ((bt a0 x4_1) != 92) = false:=bne_eq_false_iff_eq.mpr c12
     clear c12
     by_cases c13 : x3_1.size + 1 ≤ 9223372036854775807
     ·rw [if_pos c13] at H
      have c13b0:=eq_true c13
      have c13b1 : decide (x3_1.size + 1 ≤ 9223372036854775807) = true:=decide_eq_true c13
      try have c13b2 : (9223372036854775807 < x3_1.size + 1) = False:=eq_false (Nat.not_lt.2 c13)
      have c14b0:=eq_true (of_decide_eq_true (by first|(with_reducible assumption)|assumption) : 0 ≤ x4_1)
      by_cases c15 : x4_1 ≤ (wrap64 (x4_1 + 1))
      ·rw [if_pos c15] at H
       have c15b0:=eq_true c15
       have c15b1 : decide (x4_1 ≤ (wrap64 (x4_1 + 1))) = true:=decide_eq_true c15
       by_cases c16 : (wrap64 (x4_1 + 1)) ≤ (a0.size : Int)
       ·rw [if_pos c16] at H
        have c16b0:=eq_true c16
        have c16b1 : decide ((wrap64 (x4_1 + 1)) ≤ (a0.size : Int)) = true:=decide_eq_true c16
        by_cases c17 : (x3_1 ++ (⟨#[92]⟩ : ByteArray)).size + (a0.extract (x4_1 : Int).toNat ((wrap64 (x4_1 + 1)) : Int).toNat).size ≤ 9223372036854775807
        ·rw [if_pos c17] at H
         have c17b0:=eq_true c17
         have c17b1 : decide ((x3_1 ++ (⟨#[92]⟩ : ByteArray)).size + (a0.extract (x4_1 : Int).toNat ((wrap64 (x4_1 + 1)) : Int).toNat).size ≤ 9223372036854775807) = true:=decide_eq_true c17
         try have c17b2 : (9223372036854775807 < (x3_1 ++ (⟨#[92]⟩ : ByteArray)).size + (a0.extract (x4_1 : Int).toNat ((wrap64 (x4_1 + 1)) : Int).toNat).size) = False:=eq_false (Nat.not_lt.2 c17)
         try (have c17b3:=c17;simp only [ByteArray.size_append,sz_one] at c17b3;have c17b4:=eq_false (Nat.not_lt.2 c17b3);clear c17b3)
         have H':=Aside0.mk H
         clear H
         have p4 : 0 ≤ (x4_1 : Int):=of_decide_eq_true (by first|(with_reducible assumption)|assumption)
         have q4 : x4_1 < (a0.size : Int):=of_decide_eq_true (by first|(with_reducible assumption)|assumption)
         have hx4:=bt_at a0 x4_1
         replace p4:=eq_true p4
         replace q4:=eq_true q4
         have p11 : 0 ≤ (x4_1 : Int):=of_decide_eq_true (by first|(with_reducible assumption)|assumption)
         have q11 : x4_1 < (a0.size : Int):=of_decide_eq_true (by first|(with_reducible assumption)|assumption)
         have hx11:=bt_at a0 x4_1
         replace p11:=eq_true p11
         replace q11:=eq_true q11
         go_wp2
         go_roundg k1
         case measure=>have:=HK1.out;omega
         case rel=>exact ⟨((x3_1 ++ (⟨#[92]⟩ : ByteArray)) ++ (a0.extract (x4_1 : Int).toNat ((wrap64 (x4_1 + 1)) : Int).toNat)),(wrap64 (x4_1 + 1)),(by first|rfl|(simp;done)|(simp [*];done)),(by first|rfl|(simp;done)|(simp [*];done)),H',⟨by have:=HK1.out;omega⟩,by repeat (first|exact Drawn0.refl _|apply Drawn0.step)⟩
        rw [if_neg c17] at H
        exact absurd H (by simp)
       rw [if_neg c16] at H
       exact absurd H (by simp)
      rw [if_neg c15] at H
      exact absurd H (by simp)
     rw [if_neg c13] at H
     exact absurd H (by simp)
    rw [if_neg c12] at H
    have c12b0 : ((bt a0 x4_1) == 92) = false:=beq_eq_false_iff_ne.mpr c12
    have c12b1 : ((bt a0 x4_1) != 92) = true:=bne_iff_ne.mpr c12
    have c18b0:=eq_true (of_decide_eq_true (by first|(with_reducible assumption)|assumption) : 0 ≤ x4_1)
    by_cases c19 : x4_1 ≤ (wrap64 (x4_1 + 1))
    ·rw [if_pos c19] at H
     have c19b0:=eq_true c19
     have c19b1 : decide (x4_1 ≤ (wrap64 (x4_1 + 1))) = true:=decide_eq_true c19
     by_cases c20 : (wrap64 (x4_1 + 1)) ≤ (a0.size : Int)
     ·rw [if_pos c20] at H
      have c20b0:=eq_true c20
      have c20b1 : decide ((wrap64 (x4_1 + 1)) ≤ (a0.size : Int)) = true:=decide_eq_true c20
      by_cases c21 : x3_1.size + (a0.extract (x4_1 : Int).toNat ((wrap64 (x4_1 + 1)) : Int).toNat).size ≤ 9223372036854775807
      ·rw [if_pos c21] at H
       have c21b0:=eq_true c21
       have c21b1 : decide (x3_1.size + (a0.extract (x4_1 : Int).toNat ((wrap64 (x4_1 + 1)) : Int).toNat).size ≤ 9223372036854775807) = true:=decide_eq_true c21
       try have c21b2 : (9223372036854775807 < x3_1.size + (a0.extract (x4_1 : Int).toNat ((wrap64 (x4_1 + 1)) : Int).toNat).size) = False:=eq_false (Nat.not_lt.2 c21)
       have H':=Aside0.mk H
       clear H
       have p4 : 0 ≤ (x4_1 : Int):=of_decide_eq_true (by first|(with_reducible assumption)|assumption)
       have q4 : x4_1 < (a0.size : Int):=of_decide_eq_true (by first|(with_reducible assumption)|assumption)
       have hx4:=bt_at a0 x4_1
       replace p4:=eq_true p4
       replace q4:=eq_true q4
       have p11 : 0 ≤ (x4_1 : Int):=of_decide_eq_true (by first|(with_reducible assumption)|assumption)
       have q11 : x4_1 < (a0.size : Int):=of_decide_eq_true (by first|(with_reducible assumption)|assumption)
       have hx11:=bt_at a0 x4_1
       replace p11:=eq_true p11
       replace q11:=eq_true q11
       go_wp2
       go_roundg k1
       case measure=>have:=HK1.out;omega
       case rel=>exact ⟨(x3_1 ++ (a0.extract (x4_1 : Int).toNat ((wrap64 (x4_1 + 1)) : Int).toNat)),(wrap64 (x4_1 + 1)),(by first|rfl|(simp;done)|(simp [*];done)),(by first|rfl|(simp;done)|(simp [*];done)),H',⟨by have:=HK1.out;omega⟩,by repeat (first|exact Drawn0.refl _|apply Drawn0.step)⟩
      rw [if_neg c21] at H
      exact absurd H (by simp)
     rw [if_neg c20] at H
     exact absurd H (by simp)
    rw [if_neg c19] at H
    exact absurd H (by simp)
   rw [if_neg c3] at H
   exact absurd H (by simp)
  rw [if_neg c2] at H
  have c2b0 : decide (x4_1 < (a0.size : Int)) = false:=decide_eq_false c2
  clear c2
  by_cases c22 : x3_1.size + 1 ≤ 9223372036854775807
  ·rw [if_pos c22] at H
   have c22b0:=eq_true c22
   have c22b1 : decide (x3_1.size + 1 ≤ 9223372036854775807) = true:=decide_eq_true c22
   try have c22b2 : (9223372036854775807 < x3_1.size + 1) = False:=eq_false (Nat.not_lt.2 c22)
   obtain rfl:=Option.some.inj H
   go_wp2
   go_ret
   exact ⟨by first|rfl|(simp;done)|(simp [*];done),by repeat (first|exact Drawn0.refl _|apply Drawn0.step)⟩
  rw [if_neg c22] at H
  exact absurd H (by simp)
end Go.Proofs.YtfgffjchphignaaGreatDoor.Print
end
