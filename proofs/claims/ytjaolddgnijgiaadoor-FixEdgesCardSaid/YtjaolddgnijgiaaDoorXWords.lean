import Derived.Below
import Derived.Deep.Draws
import Derived.Deep.AppendLies
import Derived.Maps.AppendAt
import Derived.OwnWalk
import Derived.Laws.BytesArg
import Derived.Laws.MakeOwn
import Derived.Laws.OwnMore
import Derived.Deep.OwnRows
import Derived.Tactics
import Derived.Lib.ConvBytes
import Derived.Laws.Slices
import Derived.WalkKit
import Derived.KernelRfl
import Derived.RowKit3
import Derived.Deep.LoopGhost
import Derived.Deep.QuietTactic
import Derived.BigQuiet
import Derived.WideLaws
import Derived.Deep.DeepCutAuto
import Derived.Deep.CutBlock
import Derived.Deep.RegionHeld3
import Derived.Laws.Rows
import Derived.Lib.AppendStr
import Derived.ArgAppend
import Derived.Laws.IdiomCopy
import Derived.OrdersHeld
import Derived.Laws.BitsLemmas
import Derived.RowKit
import Derived.Test.YtjaolddgnijgiaaDoorWWords
import Derived.Test.YtjaolddgnijgiaaDoorWLast
import Derived.Test.YtjaolddgnijgiaaDoorWRest
import Derived.Lib.SlBytesConst
namespace Go.Proofs.YtjaolddgnijgiaaDoorX
set_option linter.unusedVariables false
set_option linter.unusedSimpArgs false
open Go.RowKit Go.Proofs.YtjaolddgnijgiaaDoorW.PrintWords Go.Proofs.YtjaolddgnijgiaaDoorW.PrintLast Go.Proofs.YtjaolddgnijgiaaDoorW.PrintMore

theorem V_string {P : Program} {w : World} {base : Nat} {ok : Nat → Prop} {e' src dst e : TypeId} {v : Value} {xs : List Int} (hs : P.underlying src = some (.slice e)) (he : P.underlying e = some (.int .u8)) (hd : P.underlying dst = some .string)
    (h : Kd.V (Kd.int .u8) e' w base ok v xs) : (convert src dst v).run P w = .ok (.string (strOfNums xs)) w := by
  obtain ⟨A, c, rfl, hl, hf⟩ := h
  exact Kd.C_string hs he hd (Kd.V_reads' (Kd.V_mk (e := e') (base := base) hl hf)).2.2

theorem V_stringN {P : Program} {w : World} {base : Nat} {ok : Nat → Prop} {e' src dst e : TypeId} {v : Value} {xs : List Int} (hs : P.underlying src = some (.slice e)) (he : P.underlying e = some (.int .u8)) (hd : P.underlying dst = some .string)
    (h : Kd.V (Kd.int .u8) e' w base ok v xs) : ∀ n, (convert src dst v).run P (w.drewN n) = .ok (.string (strOfNums xs)) (w.drewN n) := fun n => V_string hs he hd (Kd.V_drewN h n)

theorem run_append_str_at {P : Program} {w : World} (base : Nat) (t u ty e : TypeId) (i : TypeInfo) (ht : P.underlying t = some (.slice e)) (hu : P.underlying u = some .string) (hi : P.info? e = some i) (hz : i.zero = some (.int .u8 0))
    (hsize : i.size = 1) (hby : i.bytes = 1)
    (v : Value) (n : Nat) (xs : List Value) (hown : w.ownsRow base e 1 v n xs) (s : ByteArray)
    (h63 : n + s.size ≤ maxLen) (hbytes : n + s.size ≤ 140737488355328) (hbase : base ≤ w.heap.size) :
    ∃ v' w', (Builtin.append_ #[t, u] ty #[v, .string s]).run P w = .ok v' w' ∧ w'.ownsRow base e 1 v' (n + s.size) (xs ++ Lib.strCells s) ∧ w.grownBy w' v.ownBlock ∧
      (v'.ownBlock = v.ownBlock ∨ ∃ b, v'.ownBlock = some b ∧ w.heap.size ≤ b) := by
  have hxl : xs.length = n := by simpa using hown.1
  rcases hown.2 with ⟨rfl, hx⟩ | ⟨g, cap, cur, rfl, hbg, hg, hnc, hcm, hcs, htake⟩
  · subst hx
    have hxs : xs = [] := List.eq_nil_of_length_eq_zero hxl
    subst hxs
    obtain ⟨v', w', hr, h2, h3, _⟩ := Lib.run_append_own_string (P := P) w w.heap.size t u ty e i ht hu hi hz hsize hby (.slice none 0 0) 0 [] (World.ownsRow_nil w _ e 1) s h63 hbytes (Nat.le_refl _)
    refine ⟨v', w', hr, own_less h2 hbase, h3, ?_⟩
    rcases h2.2 with ⟨rfl, _⟩ | ⟨g, cap, cur, rfl, hbg, _⟩
    · exact .inl rfl
    · exact .inr ⟨g, by simp [Value.ownBlock], hbg⟩
  · obtain ⟨v', w', hr, h2, h3, _⟩ := Lib.run_append_own_string (P := P) w base t u ty e i ht hu hi hz hsize hby _ n xs hown s h63 hbytes hbase
    refine ⟨v', w', hr, h2, h3, ?_⟩
    simp only [maxLen] at h63
    by_cases hroom : n + s.size ≤ cap
    · have hcs' : cur.size = cap := by simpa using hcs
      have hr2 := Lib.run_append_room_string (P := P) w t u ty e i ht hu hi hsize g n cap cur hg s hroom (by omega)
      rw [hr2] at hr
      injection hr with hr _
      subst hr
      exact .inl (by simp [Value.ownBlock])
    · have holds : ∀ j u, xs[j]? = some u → w.cell? ((⟨g, 0, none⟩ : Addr).add j) = some u := hown.cells (g := g) rfl
      have hr2 := Lib.run_append_grow_string (P := P) w t u ty e i (.int .u8 0) ht hu hi hz ⟨g, 0, none⟩ n cap xs (by rw [hsize]; simpa using hxl) holds s (by omega) (by omega) (by rw [hby]; exact growslice_fits (by omega) (by omega))
      rw [hr2] at hr
      injection hr with hr _
      subst hr
      exact .inr ⟨_, by simp [Value.ownBlock], Nat.le_refl _⟩

section
variable {P : Program} {ops : Array Oper} {rest : List Oper} {o : Oper} {a : Act} {Q : Exit → Act → World → Prop}
theorem append_str_at {w0 W : World} (base : Nat) (hgd : o.guard = none) (s x : Operand) (t u e : TypeId)
    (ho : o.op = .call { callee := .builtin .append, args := #[s, x], argTypes := #[t, u] })
    (ht : P.underlying t = some (.slice e)) (hu : P.underlying u = some .string) (hinfo : (P.info? e).map (fun i => (i.zero, i.size, i.bytes)) = some (some (.int .u8 0), 1, 1))
    (v : Value) (xs : List Int) (y : ByteArray) (ok : Nat → Prop) (hs : a.eval s = v) (hx : a.eval x = .string y) (hfresh : ∀ k, W.heap.size ≤ k → ok k)
    (HO : (Kd.int .u8).R e W base ok v xs) (HB : Below base w0 W) (hbase : base ≤ W.heap.size) (hl : xs.length + y.size ≤ 140737488355328)
    (h : ∀ v1 w1, (Kd.int .u8).R e w1 base ok v1 (xs ++ bytesOf y) → Below base w0 w1 → W.grownBy w1 v.ownBlock → (v1.ownBlock = v.ownBlock ∨ ∃ b, v1.ownBlock = some b ∧ W.heap.size ≤ b) → wpList P ops Q rest (a.put o.dst v1) w1) :
    wpList P ops Q (o :: rest) a W := by
  obtain ⟨i0, hi, hzz⟩ := Option.map_eq_some_iff.1 hinfo
  simp only [Prod.mk.injEq] at hzz
  obtain ⟨hz0, hz1, hz2⟩ := hzz
  have hown : W.ownsRow base e 1 v xs.length (nums .u8 xs) := Kd.own_of_R HO
  obtain ⟨v1, w1, hr, h2, hg, hat⟩ := run_append_str_at (P := P) (w := W) base t u o.type e i0 ht hu hi hz0 hz1 hz2 v xs.length (nums .u8 xs) hown y (by simp only [maxLen]; omega) hl hbase
  refine wpList_plain hgd fun K hK => ?_
  unfold Oper.wp execOp
  simp only [ho, resolve, invoke, builtin, Sem.run_bind, Sem.run_pure, Result.andThen_ok, List.map_toArray, List.map_cons, List.map_nil, hs, hx, hr]
  have hl2 : (xs ++ bytesOf y).length = xs.length + y.size := by rw [List.length_append, bytesOf_length]
  have hc : nums .u8 (xs ++ bytesOf y) = nums .u8 xs ++ Lib.strCells y := by
    rw [nums_append]
    congr 1
    simp [nums, bytesOf, Lib.strCells]
  have h2' : w1.ownsRow base e 1 v1 (xs ++ bytesOf y).length (nums .u8 (xs ++ bytesOf y)) := by rw [hl2, hc]; exact h2
  refine hK _ _ (h v1 w1 (Kd.R_of_own (h1 := fun _ => rfl) h2' fun k hk => ?_) (HB.grown hg hbase (own_base hown)) hg hat)
  rcases hat with h1 | ⟨b, h1, h3⟩
  · exact HO.1 k (h1 ▸ hk)
  · rw [h1] at hk; cases hk; exact hfresh _ h3
end

/-- A row of bytes that a literal made. -/
theorem lit_reads (W : World) (l : List Int) (e : TypeId) (fr : Nat × Nat) (hl : l.length ≤ 9223372036854775807) :
    Kd.C (Kd.int .u8) (W.alloc (.cells (l.map (Value.int .u8)).toArray e fr)) (some ⟨W.heap.size, 0, none⟩) l.length l := by
  refine ⟨rfl, hl, fun _ => ⟨_, rfl, fun j p hj => ⟨[.int .u8 p], rfl, rfl, fun i u hu => ?_⟩⟩⟩
  cases i with
  | succ i => simp at hu
  | zero =>
    simp only [List.getElem?_cons_zero, Option.some.injEq] at hu
    subst hu
    have hb : (W.alloc (.cells (l.map (Value.int .u8)).toArray e fr)).heap[W.heap.size]? = some (.cells (l.map (Value.int .u8)).toArray e fr) := by
      show (W.heap.push _)[W.heap.size]? = _
      simp
    have hjl := (List.getElem?_eq_some_iff.1 hj).1
    have hj2 := (List.getElem?_eq_some_iff.1 hj).2
    obtain ⟨W1, hW1⟩ : ∃ W1, W.alloc (.cells (l.map (Value.int .u8)).toArray e fr) = W1 := ⟨_, rfl⟩
    rw [hW1] at hb ⊢
    rw [add_at, cell_of_row W1 _ _ _ e fr hb]
    simp [show (Kd.int .u8).sz = 1 from rfl, hjl, hj2]

/-- A row of rows of bytes that a literal made. -/
theorem lit_rows (W : World) (vs : List Value) (ls : List (List Int)) (e : TypeId) (fr : Nat × Nat) (hl : ls.length ≤ 9223372036854775807)
    (h : ∀ (j : Nat) (l : List Int), ls[j]? = some l → ∃ A c, vs[j]? = some (Value.slice A l.length c) ∧ l.length ≤ c ∧ Kd.C (Kd.int .u8) W A l.length l) :
    Kd.C (Kd.slice 5 (Kd.int .u8)) (W.alloc (.cells vs.toArray e fr)) (some ⟨W.heap.size, 0, none⟩) ls.length ls := by
  refine ⟨rfl, hl, fun _ => ⟨_, rfl, fun j p hj => ?_⟩⟩
  obtain ⟨A, c, hv, hc, hr⟩ := h j p hj
  refine ⟨[.slice A p.length c], rfl, ⟨A, c, rfl, hc, Kd.C_alloc hr _⟩, fun i u hu => ?_⟩
  cases i with
  | succ i => simp at hu
  | zero =>
    simp only [List.getElem?_cons_zero, Option.some.injEq] at hu
    subst hu
    have hb : (W.alloc (.cells vs.toArray e fr)).heap[W.heap.size]? = some (.cells vs.toArray e fr) := by
      show (W.heap.push _)[W.heap.size]? = _
      simp
    have hjl := (List.getElem?_eq_some_iff.1 hv).1
    have hj2 := (List.getElem?_eq_some_iff.1 hv).2
    obtain ⟨W1, hW1⟩ : ∃ W1, W.alloc (.cells vs.toArray e fr) = W1 := ⟨_, rfl⟩
    rw [hW1] at hb ⊢
    rw [add_at, cell_of_row W1 _ _ _ e fr hb]
    simp [show (Kd.slice 5 (Kd.int .u8)).sz = 1 from rfl, hjl, hj2]

theorem lit_reads_at (W : World) (g : Nat) (l : List Int) (e : TypeId) (fr : Nat × Nat) (hg : W.heap.size = g) (hl : l.length ≤ 9223372036854775807) :
    Kd.C (Kd.int .u8) (W.alloc (.cells (l.map (Value.int .u8)).toArray e fr)) (some ⟨g, 0, none⟩) l.length l := by
  subst hg
  exact lit_reads W l e fr hl
theorem lit_rows_at (W : World) (g : Nat) (vs : List Value) (ls : List (List Int)) (e : TypeId) (fr : Nat × Nat) (hg : W.heap.size = g) (hl : ls.length ≤ 9223372036854775807)
    (h : ∀ (j : Nat) (l : List Int), ls[j]? = some l → ∃ A c, vs[j]? = some (Value.slice A l.length c) ∧ l.length ≤ c ∧ Kd.C (Kd.int .u8) W A l.length l) :
    Kd.C (Kd.slice 5 (Kd.int .u8)) (W.alloc (.cells vs.toArray e fr)) (some ⟨g, 0, none⟩) ls.length ls := by
  subst hg
  exact lit_rows W vs ls e fr hl h

theorem V_of_C {w : World} {A : Option Addr} {c : Nat} {l : List Int} (h : Kd.C (Kd.int .u8) w A l.length l) (hc : l.length ≤ c) (e : Nat) (base : Nat) :
    Kd.V (Kd.int .u8) e w base (fun k => k < w.heap.size) (.slice A l.length c) l := Kd.V_mk hc (Kd.C_F (Kd.heap_int .u8) h)

theorem sz_one (a : UInt8) : (⟨#[a]⟩ : ByteArray).size = 1 := rfl
end Go.Proofs.YtjaolddgnijgiaaDoorX
