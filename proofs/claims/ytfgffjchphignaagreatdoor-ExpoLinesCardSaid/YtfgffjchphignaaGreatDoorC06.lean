/- A part of the proof of ExpoLines: what the functions that the law reaches come to. -/
import Derived.Test.YtfgffjchphignaaGreatDoorC05
set_option linter.unusedVariables false
set_option linter.unusedSimpArgs false
section
namespace Go.Proofs.YtfgffjchphignaaGreatDoor.PureN
open Go.RowKit Go.Proofs.YtfgffjchphignaaGreatDoor.Print Go.Proofs.YtfgffjchphignaaGreatDoorW.PrintWords Go.Proofs.YtfgffjchphignaaGreatDoorW.PrintLast

/-! What is compared with itself is the same. -/
theorem bless_irr : ∀ l : List UInt8, Op.bytesLess l l = false
 | [] => rfl
 | x :: l => by
  unfold Op.bytesLess
  rw [bless_irr l, Bool.and_false, Bool.or_false]
  exact decide_eq_false (by intro h; exact absurd h (UInt8.lt_irrefl x))
theorem less_refl (a : ByteArray) : spillwayref3_less.f a a = some 0 := by
 unfold spillwayref3_less.f
 rw [bless_irr]
 rfl
theorem cmp_refl (l : List S60) (hl : l.length ≤ 100000) : ∀ (n i k : Nat), l.length ≤ i + n → i ≤ l.length → 2 * n + 2 ≤ k → spillwayref3_Cmp.l0 k l l i = some 0
 | n, i, 0, _, _, hk => by omega
 | n, i, 1, _, _, hk => by omega
 | n, i, k + 2, h, hi, hk => by
  rw [spillwayref3_Cmp.l0]
  by_cases hc : (i : Int) < (l.length : Int)
  ·rw [if_pos hc, decide_eq_true hc, spillwayref3_Cmp.j1, if_pos rfl, if_pos (by omega), if_pos hc, if_pos hc, less_refl, Option.bind_some, if_pos rfl, less_refl, Option.bind_some, if_pos rfl, wrap_succ i (by omega)]
   cases n with
   | zero => omega
   | succ n => exact cmp_refl l hl n (i + 1) k (by omega) (by omega) (by omega)
  ·rw [if_neg hc, spillwayref3_Cmp.j1, if_neg (by simp), if_neg (by omega), if_neg (by omega)]
theorem same3_refl (l : List S60) (hl : l.length ≤ 100000) (k : Nat) (hk : 2 * l.length + 2 ≤ k) : spillwayref3_Same.f k l l = some true := by
 unfold spillwayref3_Same.f spillwayref3_Cmp.f
 have h := cmp_refl l hl l.length 0 k (by omega) (by omega) hk
 rw [show ((0 : Nat) : Int) = 0 from rfl] at h
 rw [h]
 rfl
theorem same_refl (x : S34) (hl : x.f0.length ≤ 100000) (k : Nat) (hk : 2 * x.f0.length + 2 ≤ k) : spillwaylaw6_same.f k x.f0 x.f1.f0 x.f1.f1 x.f2 x.f3 x.f4 x.f0 x.f1.f0 x.f1.f1 x.f2 x.f3 x.f4 = some true := by
 unfold spillwaylaw6_same.f
 rw [same3_refl x.f0 hl k hk, Option.bind_some, if_pos rfl, if_pos (by simp), if_pos rfl, if_pos (by simp)]
 simp
theorem sames_loop (l : List S34) (m : Nat) (hm : m ≤ 100000) (hl : l.length ≤ 100000) (hx : ∀ x ∈ l, x.f0.length ≤ m) : ∀ (n i k : Nat), l.length ≤ i + n → i ≤ l.length → n + 2 * m + 4 ≤ k → spillwaylaw6_sames.l0 k l l i = some true
 | n, i, 0, _, _, hk => by omega
 | n, i, k + 1, h, hi, hk => by
  rw [spillwaylaw6_sames.l0]
  by_cases hc : (i : Int) < (l.length : Int)
  ·have hlt : i < l.length := by omega
   have hmem : rd_T34 l (i : Int) ∈ l := by
    unfold rd_T34
    rw [Int.toNat_natCast, List.getD_eq_getElem?_getD, List.getElem?_eq_getElem hlt]
    exact List.getElem_mem hlt
   have h1 := hx _ hmem
   rw [if_pos hc, if_pos (by omega), if_pos hc, same_refl _ (by omega) k (by omega), Option.bind_some, if_pos rfl, wrap_succ i (by omega)]
   cases n with
   | zero => omega
   | succ n => exact sames_loop l m hm hl hx n (i + 1) k (by omega) (by omega) (by omega)
  ·rw [if_neg hc]
theorem sames_refl (l : List S34) (m : Nat) (hm : m ≤ 100000) (hl : l.length ≤ 100000) (hx : ∀ x ∈ l, x.f0.length ≤ m) (k : Nat) (hk : l.length + 2 * m + 4 ≤ k) : spillwaylaw6_sames.f k l l = some true := by
 unfold spillwaylaw6_sames.f
 rw [if_pos rfl]
 exact sames_loop l m hm hl hx l.length 0 k (by omega) (by omega) hk
end Go.Proofs.YtfgffjchphignaaGreatDoor.PureN
end

section
namespace Go.Proofs.YtfgffjchphignaaGreatDoor.PureN
open Go.RowKit Go.Proofs.YtfgffjchphignaaGreatDoor.Print Go.Proofs.YtfgffjchphignaaGreatDoorW.PrintWords Go.Proofs.YtfgffjchphignaaGreatDoorW.PrintLast

/-! ExpoLines, in plain Lean. -/
theorem known_isL : spillwaylaw6_known.f 4000 = some true := by decide +kernel
theorem runB_snoc (s : List UInt8) : ∀ (l : List (List UInt8)) (B : Bod) (i : Int), runB B i (l ++ [s]) = stepB (runB B i l) (i + l.length) s
 | [], B, i => by simp [runB]
 | a :: l, B, i => by
  rw [List.cons_append, runB, runB_snoc s l, runB]
  congr 1
  rw [List.length_cons]
  push_cast
  omega
theorem lines_cut (s : List UInt8) (r : List UInt8) (h : (10 : UInt8) ∉ s) : ∀ cur, linesS cur (s ++ 10 :: r) = (cur ++ s) :: linesS [] r := by
 induction s with
 | nil => intro cur; rw [List.nil_append, linesS, if_pos rfl, List.append_nil]
 | cons c s ih =>
  intro cur
  rw [List.cons_append, linesS, if_neg (fun e => h (by rw [e]; exact List.mem_cons_self)), ih (fun hm => h (List.mem_cons_of_mem _ hm)), List.append_assoc]
  rfl
theorem lines_flat : ∀ (L : List (List UInt8)), (∀ s ∈ L, (10 : UInt8) ∉ s) → linesS [] (L.flatMap (· ++ [10])) = L ++ [[]]
 | [], _ => rfl
 | s :: L, h => by
  rw [List.flatMap_cons, List.append_assoc, List.singleton_append, lines_cut s _ (h s List.mem_cons_self), lines_flat L (fun t ht => h t (List.mem_cons_of_mem _ ht))]
  rfl
theorem flat_len : ∀ (L : List (List UInt8)), (∀ s ∈ L, s.length ≤ 150) → (L.flatMap (· ++ [10])).length ≤ 151 * L.length
 | [], _ => by simp
 | s :: L, h => by
  have h1 := h s List.mem_cons_self
  have h2 := flat_len L (fun t ht => h t (List.mem_cons_of_mem _ ht))
  simp only [List.flatMap_cons, List.length_append, List.length_cons, List.length_nil]
  omega
abbrev b0 : Bod := ⟨[], [], []⟩
structure InvL (l0 : List ByteArray) (i : Nat) (body : ByteArray) (B : Bod) : Prop where
 bd : body.data.toList = ((l0.take i).map (·.data.toList)).flatMap (· ++ [10])
 run : B = runB b0 1 ((l0.take i).map (·.data.toList))
 of : B.of = []
 ok : ∀ s ∈ (l0.take i).map (·.data.toList), s.length ≤ 150 ∧ (10 : UInt8) ∉ s
 lab : ∀ x ∈ B.out, x.labels.length ≤ 10
 len : B.out.length ≤ i ∧ B.bad.length ≤ i
theorem step_line (B : Bod) (i : Int) (s : List UInt8) (hof : B.of = []) (h : s.head? ≠ some 35) :
  stepB B i s = (if s = [] then B else match lineS s with | .error e => { B with bad := B.bad ++ [(i, e)] } | .ok x => { B with out := B.out ++ [{ x with kind := 0 }] }) := by
 cases s with
 | nil => rfl
 | cons c r =>
  have hc : c ≠ 35 := fun e => h (by rw [e]; rfl)
  unfold stepB
  simp only [if_neg hc, hof, reduceCtorEq, if_false]
  rfl
theorem step_inv {l0 : List ByteArray} {i : Nat} {body : ByteArray} {B : Bod} (h : InvL l0 i body B) (hi : i < l0.length) (t : ByteArray) (ht : l0[i]? = some t) (h150 : t.size ≤ 150) (hnl : (10 : UInt8) ∉ t.data.toList) (hh : t.data.toList.head? ≠ some 35) :
  InvL l0 (i + 1) ((body ++ t) ++ (⟨#[10]⟩ : ByteArray)) (stepB B ((i + 1 : Nat) : Int) t.data.toList) := by
 have hz : t.data.toList.length = t.size := Array.length_toList
 have htk : l0.take (i + 1) = l0.take i ++ [t] := by
  rw [List.take_add_one, ht]
  rfl
 have hsl := step_line B ((i + 1 : Nat) : Int) t.data.toList h.of hh
 refine ⟨?_, ?_, ?_, ?_, ?_, ?_⟩
 ·rw [htk, List.map_append, List.flatMap_append, ← h.bd]
  simp [ByteArray.append_eq, ByteArray.data_append]
 ·rw [htk, List.map_append, List.map_singleton, runB_snoc, ← h.run]
  congr 1
  rw [List.length_map, List.length_take]
  omega
 ·rw [hsl]
  split
  ·exact h.of
  ·split <;> exact h.of
 ·intro s hs
  rw [htk, List.map_append, List.mem_append, List.map_singleton, List.mem_singleton] at hs
  rcases hs with hs | rfl
  ·exact h.ok s hs
  ·exact ⟨by omega, hnl⟩
 ·rw [hsl]
  split
  ·exact h.lab
  ·cases hl : lineS t.data.toList with
   | error e => exact h.lab
   | ok x =>
    intro y hy
    rcases List.mem_append.1 hy with hy | hy
    ·exact h.lab y hy
    ·rw [List.mem_singleton.1 hy]
     have := (isS_is _ (lineS_ok _ _ hl).1).len
     show x.labels.length ≤ 10
     omega
 ·have h1 := step_len B ((i + 1 : Nat) : Int) t.data.toList
  have h2 := h.len
  exact ⟨by omega, by omega⟩
theorem lines_end (l0 : List ByteArray) (hl : l0.length ≤ 12) (body : ByteArray) (B : Bod) (h : InvL l0 l0.length body B) : expo_Parse.f body = some (B.out.map scrS, B.bad.map badS) ∧ spillwaylaw6_sames.f 100 (B.out.map scrS) (B.out.map scrS) = some true := by
 have hbd := h.bd
 have hrun := h.run
 have hok := h.ok
 rw [List.take_length] at hbd hrun hok
 have hlen : body.data.toList.length ≤ 3000 := by
  have := flat_len _ (fun s hs => (hok s hs).1)
  rw [List.length_map] at this
  rw [hbd]
  omega
 have hlines : linesS [] body.data.toList = l0.map (·.data.toList) ++ [[]] := by
  rw [hbd]
  exact lines_flat _ (fun s hs => (hok s hs).2)
 refine ⟨?_, ?_⟩
 ·unfold expo_Parse.f scrapeS
  rw [if_neg (by omega), hlines, runB_snoc, ← hrun]
  rfl
 ·exact sames_refl (B.out.map scrS) 10 (by omega) (by rw [List.length_map]; have := h.len; omega) (by
   intro y hy
   obtain ⟨x, hx, rfl⟩ := List.mem_map.1 hy
   show (x.labels.map ofPr).length ≤ 10
   rw [List.length_map]
   exact h.lab x hx) 100 (by rw [List.length_map]; have := h.len; omega)
end Go.Proofs.YtfgffjchphignaaGreatDoor.PureN
end

section
namespace Go.Proofs.YtfgffjchphignaaGreatDoor.Print
open Go.Sort Go.Shelf PureN Go.Maps Go.WideMaps
open Go.RowKit Go.Proofs.YtfgffjchphignaaGreatDoorX Go.Proofs.YtfgffjchphignaaGreatDoorW.PrintWords Go.Proofs.YtfgffjchphignaaGreatDoorW.PrintLast Go.Proofs.YtfgffjchphignaaGreatDoorW.PrintMore
attribute [local go_sem] max2_int min2_int max_two min_two max_three min_three max_four min_four

/-! ExpoLines: the walk -/
structure LnW (w wr : World) (v4 v5 : Value) (B : Bod) : Prop where
 out : Kd.S k34 34 wr w.heap.size (fun _ => True) v4 (B.out.map scrS)
 bad : Kd.R (Kd.int .i64) 3 wr w.heap.size (fun _ => True) v5 (B.bad.map (·.1))
 bel : Below w.heap.size w wr
theorem LnW.below {w wr w' : World} {v4 v5 : Value} {B : Bod} (h : LnW w wr v4 v5 B) (hb : Below wr.heap.size wr w') : LnW w w' v4 v5 B :=
 ⟨Kd.S_below h.out hb, Kd.R_below h.bad hb, below_step h.bel hb⟩
set_option maxHeartbeats 8000000 in
set_option maxRecDepth 100000 in
theorem lines_walk (A0 : Option Addr) (c0 : Nat) (l : List ByteArray) (w : World) (hr0 : Kd.C Kd.string w A0 l.length l) (hc0 : l.length ≤ c0) (hg_ : LaidW w) (hkn : spillwaylaw6_known.f 4000 = some true) :
  Calls Tryz.prog 4 #[.slice A0 l.length c0] w fun e w' => e = .returned (.bool true) ∧ Below w.heap.size w w' := by
 have HG := Aside0.mk hg_
 have HR0 := Aside0.mk hr0
 have hkc := spillwaylaw6_known.calls 4000 true w hg_ hkn
 clear hg_ hr0 hc0 hkn
 by_cases hl : (l.length : Int) > 12
 ·have hl1 : decide (12 < l.length) = true := decide_eq_true (by omega)
  have hl2 : decide ((12 : Int) < (l.length : Int)) = true := decide_eq_true hl
  clear hl
  go_enter Tryz.func4, Tryz.ntmps4
  go_wp2_with (go_at_call 9; refine hkc.mono ?_; rintro e w1 ⟨rfl, hb1⟩)
  go_ret
  exact ⟨rfl, hb1⟩
 ·have hl1 : decide (12 < l.length) = false := decide_eq_false (by omega)
  have hl2 : decide ((12 : Int) < (l.length : Int)) = false := decide_eq_false hl
  have HL := Aside0.mk (show l.length ≤ 12 by omega)
  clear hl
  go_enter Tryz.func4, Tryz.ntmps4
  go_wp2_with (go_at_call 9; refine hkc.mono ?_; rintro e w1 ⟨rfl, hb1⟩)
  have HB1 := Aside0.mk hb1
  clear hb1 hkc
  go_loopg [3, 4, 5, 6, 7, 8, 9] l.length (fun gg s3 s4 s5 s6 _ _ _ wr => ∃ (i : Nat) (body : ByteArray) (B : Bod), s3 = .string body ∧ s6 = .int .i64 i ∧ l.length - i ≤ gg ∧ Aside0 (i ≤ l.length) ∧ Aside0 (InvL l i body B) ∧ Aside0 (LnW w wr s4 s5 B))
  case atStart => exact ⟨0, _, b0, rfl, rfl, by omega, ⟨by omega⟩, ⟨⟨rfl, rfl, rfl, by simp, by simp, by simp⟩⟩, ⟨⟨Kd.S_nil _ _ _ _ _, Kd.R_nil _ _ _ _ _, HB1.out⟩⟩⟩
  case round =>
   clear HB1
   obtain ⟨i, body, B, rfl, rfl, hgg, HI, HV, HW⟩ := hrel
   have HGG := Aside0.mk hgg
   clear hgg
   by_cases hlt : i < l.length
   ·have hget : l[i]? = some l[i] := List.getElem?_eq_getElem hlt
    have ht : rdOf ByteArray.empty l (i : Int) = l[i] := by
     unfold rdOf
     rw [Int.toNat_natCast, List.getD_eq_getElem?_getD, hget]
     rfl
    obtain ⟨ad, rfl, hx0⟩ := Kd.at_string HR0.out (i : Int) (by omega) (by omega)
    rw [ht, Int.toNat_natCast] at hx0
    have HT := Aside0.mk hget
    generalize l[i] = t at hx0 HT
    clear hget ht
    have hx := (HW.out.bel.cell (World.block_lt_of_cell? w _ hx0)).trans hx0
    have hltz : (i : Int) < (l.length : Int) := by omega
    have HX0 := Aside0.mk hx0
    clear hx0
    by_cases h150 : t.size > 150
    ·have h1 : decide (150 < t.size) = true := decide_eq_true h150
     have h2 : decide ((150 : Int) < (t.size : Int)) = true := decide_eq_true (by omega)
     clear h150
     go_wp2_with (fail)
     go_ret
     exact ⟨rfl, HW.out.bel⟩
    ·have h1 : decide (150 < t.size) = false := decide_eq_false h150
     have h2 : decide ((150 : Int) < (t.size : Int)) = false := decide_eq_false (by omega)
     have H150 := Aside0.mk (show t.size ≤ 150 by omega)
     clear h150
     go_wp2_with (fail)
     go_loopg [7] t.size (fun gq s7 wq => ∃ (j : Nat), s7 = .int .i64 j ∧ t.size - j ≤ gq ∧ Aside0 (j ≤ t.size) ∧ Aside0 ((10 : UInt8) ∉ t.data.toList.take j) ∧ wq = wr)
     case atStart => exact ⟨0, rfl, by omega, ⟨by omega⟩, ⟨by simp⟩, rfl⟩
     case round =>
      obtain ⟨j, rfl, hgq, HJ, HNO, rfl⟩ := hrel
      by_cases hj : j < t.size
      ·obtain ⟨c, hcb, hcd⟩ := bt_drop2 t j hj
       have hjz : (j : Int) < (t.size : Int) := by omega
       have q3 : (j < t.size) = True := eq_true hj
       have hb3 : ∀ h : j < t.size, ((t[j]'h).toNat : Int) = bt t j := fun h => bt_at t j h
       by_cases h10 : c = 10
       ·have e1 : (bt t (j : Int) == 10) = true := by rw [hcb, h10]; rfl
        clear hcb hcd
        go_wp2_with (fail)
        go_ret
        exact ⟨rfl, HW.out.bel⟩
       ·have e1 : (bt t (j : Int) == 10) = false := by
         rw [hcb, beq_eq_false_iff_ne]
         exact fun e => h10 ((toNat_is c 10 (by omega)).1 e)
        have htk : t.data.toList.take (j + 1) = t.data.toList.take j ++ [c] := by
         rw [List.take_add_one]
         congr 1
         have := congrArg List.head? hcd
         rw [List.head?_drop] at this
         rw [this]
         rfl
        have HNO2 : Aside0 ((10 : UInt8) ∉ t.data.toList.take (j + 1)) := ⟨by
         rw [htk, List.mem_append, List.mem_singleton]
         rintro (h2 | h2)
         ·exact HNO.out h2
         ·exact h10 h2.symm⟩
        have hw := wrap_succ j (by have := H150.out; omega)
        clear hcb hcd htk
        go_wp2_with (fail)
        go_roundg (t.size - (j + 1))
        case measure => omega
        case rel => exact ⟨j + 1, by rw [hw], by omega, ⟨by omega⟩, HNO2, rfl⟩
      ·obtain rfl : j = t.size := by have := HJ.out; omega
       have hjz : ¬ ((t.size : Int) < (t.size : Int)) := by omega
       have hz : t.data.toList.length = t.size := Array.length_toList
       have HNL : Aside0 ((10 : UInt8) ∉ t.data.toList) := ⟨by have h := HNO.out; rwa [List.take_of_length_le (by omega)] at h⟩
       clear HNO HJ hgq hj
       have hzl : wr.cell? (ad.add i) = some (.string t) := hx
       cases hc : t.data.toList with
       | nil =>
        have hne : (t.toList == ([] : List UInt8)) = true := by rw [ByteArray.toList_eq, hc]; rfl
        have hemp : t.toList.isEmpty = true := by rw [ByteArray.toList_eq, hc]; rfl
        have hI := step_inv HV.out hlt t HT.out H150.out HNL.out (by rw [hc]; simp)
        have hsl := step_line B ((i + 1 : Nat) : Int) t.data.toList HV.out.of (by rw [hc]; simp)
        rw [if_pos hc] at hsl
        rw [hsl] at hI
        have HV2 := Aside0.mk hI
        have hln := line_eq t.data.toList 4000 (by omega) (by have := H150.out; omega)
        have hle : lineS ([] : List UInt8) = .error 12 := rfl
        rw [hc, hle] at hln
        have he : ofL ([] : List UInt8) = t := by rw [← hc]
        rw [he] at hln
        have hlc := fun W hg => expo_Line.calls 4000 t [] false 0 0 false 0 12 W hg hln
        have hw := wrap_succ i (by have := HI.out; have := HL.out; omega)
        have hsz : body.size ≤ 10000 := by
         have h1 := flat_len _ (fun s hs => (HV.out.ok s hs).1)
         rw [← HV.out.bd, List.length_map, List.length_take] at h1
         have h2 : body.data.toList.length = body.size := Array.length_toList
         have := HL.out
         omega
        have s1 : (9223372036854775807 < body.size + t.size) = False := eq_false (by have := H150.out; omega)
        have s2 : (9223372036854775807 < body.size + t.size + 1) = False := eq_false (by have := H150.out; omega)
        have hlc2 := hlc wr (LaidW.below HG.out HW.out.bel)
        clear hI hsl hle he hln hlc hsz hz hc HNL
        go_wp2_with (fail)
        refine hlc2.mono ?_
        rintro e2 w2 ⟨v0, rfl, ho, hb⟩
        have HW2 := Aside0.mk (HW.out.below hb)
        have hx2 := (HW2.out.bel.cell (World.block_lt_of_cell? w _ HX0.out)).trans HX0.out
        have HX2 := Aside0.mk hx2
        clear hx hzl
        obtain ⟨A1, c1, rfl⟩ := Kd.R_slice ho
        have hx3 : ∀ o, (w2.alloc o).cell? (ad.add i) = some (.string t) := fun o => ((below_alloc (Below.refl _ w2) o).cell (World.block_lt_of_cell? w2 _ hx2)).trans hx2
        have HW3 := Aside0.mk (HW2.out.below (below_alloc (Below.refl _ _) (.cells #[.slice A1 0 c1, .bool false, .int .i64 0, .int .i64 0, .bool false, .int .i64 0] 34)))
        clear ho hb hlc2 hx2
        go_wp2_with (fail)
        go_roundg (l.length - (i + 1))
        case measure => have := HGG.out; omega
        case rel => exact ⟨i + 1, _, B, rfl, by rw [hw], by omega, ⟨by omega⟩, HV2, HW3⟩
       | cons c r =>
        obtain ⟨hp, hne, hemp, _⟩ : 0 < t.size ∧ (t.toList == ([] : List UInt8)) = false ∧ t.toList.isEmpty = false ∧ True := ⟨by rw [← hz, hc]; simp, by rw [ByteArray.toList_eq, hc]; rfl, by rw [ByteArray.toList_eq, hc]; rfl, trivial⟩
        have q3 : (0 < t.size) = True := eq_true hp
        have hx3 : ∀ h : 0 < t.size, ((t[0]'h).toNat : Int) = bt t 0 := bt_at t 0
        have qi3 : (0 < (t.size : Int)) = True := eq_true (by omega)
        obtain ⟨c2, hcb, hcd⟩ := bt_drop2 t 0 hp
        rw [List.drop_zero, hc] at hcd
        have hc2 : c2 = c := by injection hcd with h1 _; exact h1.symm
        rw [hc2, show ((0 : Nat) : Int) = 0 from rfl] at hcb
        by_cases h35 : c = 35
        ·have e1 : (bt t 0 == 35) = true := by rw [hcb, h35]; rfl
         clear hcb hcd hc hc2 hp
         go_wp2_with (fail)
         go_ret
         exact ⟨rfl, HW.out.bel⟩
        ·have e1 : (bt t 0 == 35) = false := by
          rw [hcb, beq_eq_false_iff_ne]
          exact fun e => h35 ((toNat_is c 35 (by omega)).1 e)
         have hh : t.data.toList.head? ≠ some 35 := by
          rw [hc]
          intro e
          injection e with e
          exact h35 e
         have hnn : t.data.toList ≠ [] := by rw [hc]; simp
         have hI := step_inv HV.out hlt t HT.out H150.out HNL.out hh
         have hsl := step_line B ((i + 1 : Nat) : Int) t.data.toList HV.out.of hh
         rw [if_neg hnn] at hsl
         rw [hsl] at hI
         clear hsl hh hnn hcb hcd hc2 hc h35
         have hsz : body.size ≤ 10000 := by
          have h1 := flat_len _ (fun s hs => (HV.out.ok s hs).1)
          rw [← HV.out.bd, List.length_map, List.length_take] at h1
          have h2 : body.data.toList.length = body.size := Array.length_toList
          have := HL.out
          omega
         have s1 : (9223372036854775807 < body.size + t.size) = False := eq_false (by have := H150.out; omega)
         have s2 : (9223372036854775807 < body.size + t.size + 1) = False := eq_false (by have := H150.out; omega)
         have hw := wrap_succ i (by have := HI.out; have := HL.out; omega)
         have hln := line_eq t.data.toList 4000 (by omega) (by have := H150.out; omega)
         have he : ofL t.data.toList = t := rfl
         rw [he] at hln
         cases hls : lineS t.data.toList with
         | error e =>
          rw [hls] at hln hI
          have HV2 := Aside0.mk hI
          have hen : (e != 0) = true := bne_iff_ne.2 (lineS_err _ _ hls)
          have hlc2 := expo_Line.calls 4000 t [] false 0 0 false 0 e wr (LaidW.below HG.out HW.out.bel) hln
          clear hI hln he hls hz HNL hsz hp
          go_wp2_with (fail)
          refine hlc2.mono ?_
          rintro e2 w2 ⟨v0, rfl, ho, hb⟩
          have HW2 := Aside0.mk (HW.out.below hb)
          have hx2 := (HW2.out.bel.cell (World.block_lt_of_cell? w _ HX0.out)).trans HX0.out
          have HX2 := Aside0.mk hx2
          clear hx hzl
          obtain ⟨A1, c1, rfl⟩ := Kd.R_slice ho
          have hx3 : ∀ o, (w2.alloc o).cell? (ad.add i) = some (.string t) := fun o => ((below_alloc (Below.refl _ w2) o).cell (World.block_lt_of_cell? w2 _ hx2)).trans hx2
          have HW3 := Aside0.mk (HW2.out.below (below_alloc (Below.refl _ _) (.cells #[.slice A1 0 c1, .bool false, .int .i64 0, .int .i64 0, .bool false, .int .i64 0] 34)))
          clear ho hb hlc2 hx2
          go_wp2_with (first | ((with_reducible refine gate_builtin (b := .append) (xs := #[.tmp 87, .tmp 90]) rfl ?_); at_builtin; refine Kd.R_append (Kd.int .i64) (w0 := w) w.heap.size rfl (.tmp 87) (.tmp 90) 27 3 (.int .i64 0) 8 rfl Tryz.underlying27 info3 rfl (by decide) (by omega) u5 (B.bad.map (·.1)) ((i : Int) + 1) [.int .i64 ((i : Int) + 1)] (fun _ => True) (fun _ => False) rfl (by first | (go_simp; done) | (go_simp; rfl)) ?aP (fun _ hk => hk.elim) ?aF ?aO ?aB ?aS ?aL ?_; (case aP => exact rfl); (case aF => exact (fun _ _ => trivial)); (case aO => exact HW3.out.bad); (case aB => exact HW3.out.bel); (case aS => exact HW3.out.bel.size); (case aL => have := HV.out.len; have := HI.out; have := HL.out; rw [List.length_map]; omega); intro v5' w4 ho4 hb4 hg4 hat4; have HO4 := Aside0.mk ho4; have HS4 := Aside0.mk (Kd.S_over' HW3.out.out (Kd.R_typed HW3.out.bad) (by decide) hg4); have HB4 := Aside0.mk hb4; clear ho4 hb4 hg4 hat4 hx3 HW3))
          go_roundg (l.length - (i + 1))
          case measure => have := HGG.out; omega
          case rel => exact ⟨i + 1, _, _, rfl, by rw [hw], by omega, ⟨by omega⟩, HV2, ⟨⟨HS4.out, by rw [List.map_append]; exact HO4.out, HB4.out⟩⟩⟩
         | ok x =>
          rw [hls] at hln hI
          have HV2 := Aside0.mk hI
          have hen : ((0 : Int) != 0) = false := rfl
          have hlc2 := expo_Line.calls 4000 t (x.labels.map ofPr) x.ovf x.v x.t x.hasT 0 0 wr (LaidW.below HG.out HW.out.bel) hln
          have HQ : Aside0 ((⟨x.labels.map ofPr, ⟨x.ovf, x.v⟩, x.t, x.hasT, 0⟩ : S34) = scrS { x with kind := 0 }) := ⟨rfl⟩
          clear hI hln he hls hz HNL hsz hp
          generalize x.labels.map ofPr = L at hlc2 HQ
          go_wp2_with (fail)
          refine hlc2.mono ?_
          rintro e2 w2 ⟨v0, rfl, ho, hb⟩
          have HW2 := Aside0.mk (HW.out.below hb)
          have hx2 := (HW2.out.bel.cell (World.block_lt_of_cell? w _ HX0.out)).trans HX0.out
          clear hx hzl
          have HLB := Aside0.mk (Kd.R_mono (ok' := fun k => wr.heap.size ≤ k) (Kd.R_lower (Kd.R_bound ho) HW.out.bel.size) (fun k hk => hk.2.1))
          have HVT := Aside0.mk (Kd.S_lt HW.out.out)
          have HVS := Aside0.mk (Kd.S_below (Kd.S_mono (ok' := fun k => k < wr.heap.size) (Kd.S_bound HW.out.out) (fun _ hk => hk.2.2.1)) hb)
          obtain ⟨A1, c1, rfl⟩ := Kd.R_slice ho
          have hbw : Below w2.heap.size w2 (w2.alloc (.cells #[.slice A1 L.length c1, .bool x.ovf, .int .i64 x.v, .int .i64 x.t, .bool x.hasT, .int .i64 0] 34)) := below_alloc (Below.refl _ _) _
          have hx3 := (hbw.cell (World.block_lt_of_cell? w2 _ hx2)).trans hx2
          have HW3 := Aside0.mk (HW2.out.below hbw)
          have HL3 := Aside0.mk (Kd.R_below HLB.out hbw)
          have HS3 := Aside0.mk (Kd.S_below HVS.out hbw)
          clear ho hb hlc2 hx2 HLB HVS HW2 hbw
          go_wp2_with (first | ((with_reducible refine gate_builtin (b := .append) (xs := #[.tmp 74, .tmp 76]) rfl ?_); at_builtin; refine Kd.S_append k34 (w0 := w) w.heap.size rfl (.tmp 74) (.tmp 76) 23 34 (.agg #[.slice none 0 0, .bool false, .int .i64 0, .int .i64 0, .bool false, .int .i64 0]) 64 rfl Tryz.underlying23 info34 rfl (by decide) (by omega) u4 (B.out.map scrS) (⟨L, ⟨x.ovf, x.v⟩, x.t, x.hasT, 0⟩ : S34) [.slice A1 L.length c1, .bool x.ovf, .int .i64 x.v, .int .i64 x.t, .bool x.hasT, .int .i64 0] (fun _ => True) (fun k => wr.heap.size ≤ k) rfl (by first | (go_simp; done) | (go_simp; rfl)) ?aP (fun k hk => ⟨trivial, fun e => by have := HVT.out k e.symm; have hk2 : wr.heap.size ≤ k := hk; omega⟩) ?aF ?aO ?aB ?aS ?aL ?_; (case aP => exact k34_mkM _ _ _ _ HL3.out); (case aF => exact (fun _ _ => trivial)); (case aO => exact Kd.S_mono HS3.out (fun k hk => ⟨trivial, fun h => by have hk2 : k < wr.heap.size := hk; have h2 : wr.heap.size ≤ k := h; omega⟩)); (case aB => exact HW3.out.bel); (case aS => exact HW3.out.bel.size); (case aL => have := HV.out.len; have := HI.out; have := HL.out; rw [List.length_map]; omega); intro v4' w4 ho4 hb4 hg4 hat4; have HO4 := Aside0.mk ho4; have HD4 := Aside0.mk (Kd.R_over' HW3.out.bad (Kd.S_typed HW3.out.out) (by decide) hg4); have HB4 := Aside0.mk hb4; clear ho4 hb4 hg4 hat4 hx3 HW3))
          go_roundg (l.length - (i + 1))
          case measure => have := HGG.out; omega
          case rel => exact ⟨i + 1, _, _, rfl, by rw [hw], by omega, ⟨by omega⟩, HV2, ⟨⟨by rw [List.map_append]; have h := HO4.out; rw [HQ.out] at h; exact h, HD4.out, HB4.out⟩⟩⟩
   ·obtain rfl : i = l.length := by have := HI.out; omega
    have hltz : ¬ ((l.length : Int) < (l.length : Int)) := by omega
    obtain ⟨hP, hS⟩ := lines_end l HL.out body B HV.out
    have hpc := expo_Parse.calls body _ _ wr (LaidW.below HG.out HW.out.bel) hP
    have HSM := Aside0.mk hS
    have HLN := Aside0.mk HV.out.len
    clear hP hS HV HGG hlt
    go_wp2_with (fail)
    refine hpc.mono ?_
    rintro e2 w2 ⟨v0, v1, rfl, hS0, hR1, hb⟩
    obtain ⟨A0', c0', rfl⟩ := Kd.S_slice hS0
    obtain ⟨A1, c1, rfl⟩ := Kd.R_slice hR1
    obtain ⟨A4, c4, rfl⟩ := Kd.S_slice HW.out.out
    obtain ⟨A5, c5, rfl⟩ := Kd.R_slice HW.out.bad
    have HW2 := Aside0.mk (HW.out.below hb)
    have hsm := spillwaylaw6_sames.calls 100 A0' c0' _ A4 c4 _ true w2 (Kd.S_reads' hS0).2.2 (Kd.S_reads' hS0).2.1 (Kd.S_reads' HW2.out.out).2.2 (Kd.S_reads' HW2.out.out).2.1 HSM.out
    have HC1 := Aside0.mk (Kd.R_reads' hR1).2.2
    have HC5 := Aside0.mk (Kd.R_reads' HW2.out.bad).2.2
    simp only [List.length_map] at hsm
    clear hpc hS0 hR1 HW hb HSM
    go_wp2_with (fail)
    refine hsm.mono ?_
    rintro e3 w3 ⟨rfl, hb3⟩
    have HB3 := Aside0.mk (below_step HW2.out.bel hb3)
    have HD1 := Aside0.mk (Kd.C_below HC1.out hb3)
    have HD5 := Aside0.mk (Kd.C_below HC5.out hb3)
    clear hsm HC1 HC5 HW2 hb3
    go_wp2_with (fail)
    go_loopg [12] B.bad.length (fun gq s12 wq => ∃ (j nd : Nat), s12 = .int .i64 j ∧ B.bad.length - j ≤ gq ∧ Aside0 (j ≤ B.bad.length) ∧ wq = w3.drewN nd)
    case atStart => exact ⟨0, 0, rfl, by omega, ⟨by omega⟩, rfl⟩
    case round =>
     obtain ⟨j, nd, rfl, hgq, HJ, rfl⟩ := hrel
     by_cases hj : j < B.bad.length
     ·have hjz : (j : Int) < (B.bad.length : Int) := by omega
      obtain ⟨ad1, rfl, y0, y1⟩ := at_T43 HD1.out (j : Int) (by omega) (by rw [List.length_map]; omega)
      obtain ⟨ad5, rfl, z0⟩ := Kd.at_int HD5.out (j : Int) (by omega) (by rw [List.length_map]; omega)
      have he : (rd_T43 (B.bad.map badS) (j : Int)).f0 = YtfgffjchphignaaGreatDoorW.PrintWords.rd (B.bad.map (·.1)) (j : Int) := by
       unfold rd_T43 YtfgffjchphignaaGreatDoorW.PrintWords.rd
       rw [Int.toNat_natCast, List.getD_eq_getElem?_getD, List.getD_eq_getElem?_getD, List.getElem?_map, List.getElem?_map, List.getElem?_eq_getElem hj]
       rfl
      rw [he] at y0
      generalize YtfgffjchphignaaGreatDoorW.PrintWords.rd (B.bad.map (·.1)) (j : Int) = vv at y0 z0
      rw [Int.toNat_natCast] at y0 y1 z0
      have hw := wrap_succ j (by have := HLN.out; have := HL.out; omega)
      clear he y1
      go_wp2_with (fail)
      go_quiet (fail)
      go_wp2
      go_roundg (B.bad.length - (j + 1))
      case measure => omega
      case rel => exact ⟨j + 1, _, by rw [hw], by omega, ⟨by omega⟩, rfl⟩
     ·obtain rfl : j = B.bad.length := by have := HJ.out; omega
      have hjz : ¬ ((B.bad.length : Int) < (B.bad.length : Int)) := by omega
      go_wp2_with (fail)
      go_ret
      exact ⟨rfl, pw_below_drewN HB3.out nd⟩
end Go.Proofs.YtfgffjchphignaaGreatDoor.Print
end
