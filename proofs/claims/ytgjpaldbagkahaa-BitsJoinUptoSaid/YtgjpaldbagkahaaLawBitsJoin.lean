-- The row of the law BitsJoin, second form: its append may pass 2^48 bytes where the pieces are of any size.
import Derived.Test.YtgjpaldbagkahaaRows
import Derived.Test.YtgjpaldbagkahaaPrint10
import Derived.Test.YtgjpaldbagkahaaPureBitsJoin
import Derived.WalkKit
import Derived.ProofKit
import Derived.OpenShut
import Derived.ShutString
import Derived.ChangeOld
import Derived.Below
import Derived.JoinedCond
import Derived.Deep.Matrix
namespace Go.Proofs.Ytgjpaldbagkahaa.bitsJoin
open Go.ChangeShapes Go.WideShapes Go.ChangeAt Go.RowKit
open Go.Proofs.YtgjpaldbagkahaaW.PrintWords
set_option linter.unusedVariables false
theorem own : ownKnob Try.prog.godebug = none := by kernel_rfl
theorem laidOut : laidOutB Try.prog = true := by kernel_rfl

theorem part_le {H : Type} : ∀ (l : List (DataW H)) (g : Nat → Nat) (n : Nat), l.length = n → (∀ i d, l[i]? = some d → g i ≤ Rows.uptoBulk d) → ((List.range n).map g).sum ≤ Rows.uptoBulkAll l
  | [], g, n, hn, _ => by
    subst hn
    simp
  | x :: r, g, n, hn, h => by
    subst hn
    have ih := part_le r (fun i => g (i + 1)) r.length rfl (fun i d hd => h (i + 1) d (by simpa using hd))
    have h0 := h 0 x rfl
    rw [List.length_cons, List.range_succ_eq_map, List.map_cons, List.sum_cons, List.map_map]
    simp only [Rows.uptoBulkAll]
    have : ((List.range r.length).map (g ∘ Nat.succ)).sum = ((List.range r.length).map (fun i => g (i + 1))).sum := rfl
    omega

theorem lits_bulk {H : Type} (k : IntKind) (zs : List Int) : zs.length ≤ Rows.uptoBulkAll (lits (H := H) k zs) := by
  induction zs with
  | nil => simp
  | cons z r ih =>
    simp only [lits, List.map_cons, Rows.uptoBulkAll, List.length_cons] at ih ⊢
    have : Rows.uptoBulk (DataW.lit (H := H) (.int k z)) = 1 := by simp [Rows.uptoBulk]
    omega

theorem row_bulk {H : Type} (A : Option Addr) (L : Nat) (zs : List Int) (hA : A = none → zs.length = 0) (hL : L ≤ zs.length) : (zs.take L).length ≤ Rows.uptoBulk (Go.Deep.intRow (H := H) .u8 A L zs) := by
  cases A with
  | none =>
    have := hA rfl
    rw [List.length_take]
    omega
  | some a =>
    simp only [Go.Deep.intRow, Rows.uptoBulk]
    have := lits_bulk (H := H) .u8 (zs.take L)
    omega

/-- The rows, opened: a row of rows, as the walk asks for it. -/
theorem opened {W : World} {a : Addr} {len cap : Nat} {A : Nat → Option Addr} {L C : Nat → Nat} {Z : Nat → List Int} (hl : len ≤ cap) (hm : cap ≤ maxLen)
    (h : ∀ r, r < cap → W.cell? (a.add r) = some (.slice (A r) (L r) (C r)) ∧ L r ≤ C r ∧ C r ≤ maxLen ∧ (Z r).length = C r ∧ (∀ n ∈ Z r, (Lit.int .u8 n).wf = true) ∧ (A r = none → C r = 0) ∧
      ∀ a', A r = some a' → 0 ≤ a'.block ∧ ∀ c, c < C r → W.cell? (a'.add c) = some (.int .u8 ((Z r).getD c 0))) :
    Kd.C (Kd.slice 5 (Kd.int .u8)) W (some a) ((List.range len).map fun r => (Z r).take (L r)).length ((List.range len).map fun r => (Z r).take (L r)) := by
  have hmm : maxLen ≤ 9223372036854775807 := by decide
  refine ⟨rfl, by simp; omega, fun _ => ⟨a, rfl, fun j p hj => ?_⟩⟩
  obtain ⟨hj1, hj2⟩ := List.getElem?_eq_some_iff.1 hj
  have hjl : j < len := by simpa using hj1
  have hp : p = (Z j).take (L j) := by rw [← hj2]; simp
  subst hp
  obtain ⟨h1, h2, h3, h4, h5, h6, h7⟩ := h j (by omega)
  have hlen : ((Z j).take (L j)).length = L j := by rw [List.length_take]; omega
  refine ⟨[.slice (A j) (L j) (C j)], rfl, ⟨A j, C j, by rw [hlen], by omega, rfl, by rw [hlen]; omega, fun hpos => ?_⟩, fun i u hu => ?_⟩
  · cases hA : A j with
    | none =>
      have := h6 hA
      omega
    | some a' =>
      refine ⟨a', rfl, fun c q hc => ⟨[.int .u8 q], rfl, rfl, fun i u hu => ?_⟩⟩
      obtain ⟨hc1, hc2⟩ := List.getElem?_eq_some_iff.1 hc
      have hcl : c < L j := by omega
      have := (h7 a' hA).2 c (by omega)
      have hq : (Z j).getD c 0 = q := by
        rw [List.getD_eq_getElem?_getD, List.getElem?_eq_getElem (by omega)]
        rw [List.getElem_take] at hc2
        exact hc2
      cases i with
      | zero =>
        have e : Value.int .u8 q = u := by simpa using hu
        rw [← e, ← hq]
        simpa [Kd.int, Kd.scalar] using this
      | succ i => simp at hu
  · cases i with
    | zero =>
      have e : Value.slice (A j) (L j) (C j) = u := by simpa using hu
      rw [← e]
      simpa [Kd.slice] using h1
    | succ i => simp at hu

theorem flat_len (n : Nat) (g : Nat → List Int) : ((List.range n).map g).flatten.length = ((List.range n).map fun i => (g i).length).sum := by
  rw [List.length_flatten, List.map_map]
  rfl

set_option maxRecDepth 100000 in
theorem lifted (os : Os) (started : os.Started) (H : Type) (enc : TypeId × Value → H) (F : Stop.Interp) :
    ReturnsInHanded {} Try.checked os 4 .any ((Rows.OpenSpec.upto Rows.bitsJoinSpec).pre6 enc Try.prog Try.f4 Rows.bitsJoinUptoRow.domain false) (((Rows.OpenSpec.upto Rows.bitsJoinSpec).at F).post enc Try.prog Try.f4 false true false false) := by
  refine returnsInHanded_of_cond (C := Try.checked) (s := Rows.OpenSpec.upto Rows.bitsJoinSpec) (k := Rows.uptoSmall) rfl own started (by kernel_rfl) Try.func4
    (OpenSpec.witness (enc := enc) (C := Try.checked) (s := Rows.OpenSpec.upto Rows.bitsJoinSpec) (k := Rows.uptoSmall) rfl false ⟨#[], #[.slice none 0 0, .int .u8 0], []⟩ 8 (by kernel_rfl) (by kernel_rfl) (by kernel_rfl)
      (x := ([.nil, .lit (.int .u8 0)], [], [])) (by kernel_rfl) rfl (by kernel_rfl)) ?_
  intro W base args ds gs before hval0 hW hcnd hk _
  have hval : ∀ (j : Nat) t v, Try.f4.params[j]? = some t → args[j]? = some v → Value.okWide Try.prog W .any base t v := hval0
  have hW' := hW
  obtain ⟨p, q, hA0, hV, rfl, hfz, hnd⟩ := hW
  have hA : DataW.TrodAll enc Try.prog W 0 (fun _ => true) true Try.f4.params.toList args.toList ds p := hA0
  rw [Try.params4] at hA hval
  obtain ⟨v0, vs0, d0, ds0, p0, q0, hargs, rfl, rfl, h0, r0⟩ := trodAll_cons hA
  obtain ⟨v1, vs1, d1, ds1, p1, q1, rfl, rfl, rfl, h1, r1⟩ := trodAll_cons r0
  obtain ⟨rfl, rfl, rfl⟩ := trodAll_nil r1
  obtain rfl : args = #[v0, v1] := by cases args; simp_all
  obtain ⟨rfl, rfl⟩ := trodVars_none hV
  obtain ⟨a0, len0, cap0, rfl⟩ := okWide_slice Try.underlying34 (hval 0 34 v0 rfl rfl)
  have k0 := h0
  have lt0 : ∀ x ∈ p0, x.block < W.heap.size := by obtain ⟨m, hm⟩ := k0; exact DataW.trod_lt m _ _ _ hm
  obtain ⟨x1, rfl, rfl, rfl, y1⟩ := open_int Try.underlying5 (hval 1 5 v1 rfl rfl) h1
  obtain ⟨ls, hls, hcl, hC, hfl⟩ : ∃ ls : List (List Int), ls.length = len0 ∧ len0 ≤ cap0 ∧ Kd.C (Kd.slice 5 (Kd.int .u8)) W a0 ls.length ls ∧ ls.flatten.length ≤ Rows.uptoBulk d0 := by
    obtain ⟨fuel, hf⟩ := h0
    rcases Go.Deep.open_int_rows Try.underlying34 Try.underlying22 Try.underlying5 (by kernel_rfl) (by kernel_rfl) hf with ⟨hcs, _⟩ | ⟨a, len, cap, A, L, C, Z, hcs, _, hl, hm, hx, hr⟩
    · simp [Value.cells] at hcs
      obtain ⟨rfl, rfl, rfl⟩ := hcs
      exact ⟨[], rfl, Nat.le_refl _, Kd.C_nil _ _, by simp⟩
    · simp [Value.cells] at hcs
      obtain ⟨rfl, rfl, rfl⟩ := hcs
      refine ⟨(List.range len0).map fun r => (Z r).take (L r), by simp, hl, opened hl hm hr, ?_⟩
      simp only [Prod.mk.injEq] at hx
      rw [hx.1, flat_len]
      simp only [Rows.uptoBulk]
      refine Nat.le_trans (part_le ((List.range len0).map fun r => Go.Deep.intRow .u8 (A r) (L r) (Z r)) (fun r => ((Z r).take (L r)).length) len0 (by simp) (fun i d hd => ?_)) (by omega)
      obtain ⟨hi1, hi2⟩ := List.getElem?_eq_some_iff.1 hd
      have hil : i < len0 := by simpa using hi1
      have hdd : d = Go.Deep.intRow .u8 (A i) (L i) (Z i) := by rw [← hi2]; simp
      rw [hdd]
      obtain ⟨g1, g2, g3, g4, g5, g6, g7⟩ := hr i (by omega)
      exact row_bulk _ _ _ (fun hn => by rw [g4]; exact g6 hn) (by omega)
  have hsm : Rows.uptoBulkAll [d0, (DataW.lit (Lit.int .u8 x1) : DataW H)] ≤ 1048576 := of_decide_eq_true hk
  have hfin : ls.flatten.length < 140737488355328 := by
    simp only [Rows.uptoBulkAll] at hsm
    omega
  subst hls
  clear hA0 hval0
  refine (Print.spillwaylaw1_BitsJoin.calls 70 a0 cap0 ls x1 true W hC hcl (Pure.BitsJoin ls x1 y1 hfin) rfl).mono fun e W' ⟨he, bel⟩ => ?_
  subst he
  exact ⟨_, rfl, _, _, _, [], _, [], hW', trodAll_mk1 (shut_bool Try.underlying4 _), (trodAll_cons_mk (Below.trod laidOut (by kernel_rfl) (of_decide_eq_true (by kernel_rfl)) k0 bel lt0) (trodAll_cons_mk (shut_int Try.underlying5 y1) trodAll_mk0)), rfl, bel.frame _, fun h => by cases h⟩
theorem over : Rows.bitsJoinUptoRow.holds Try.pinned (Rows.OpenSpec.upto Rows.bitsJoinSpec) :=
  OpenClaim.holds_of_cond 4 Try.f4 rfl rfl rfl rfl rfl rfl rfl ⟨rfl, rfl, rfl, rfl, rfl⟩ rfl rfl rfl rfl rfl (by kernel_rfl) Try.func4 (by kernel_rfl)
    (of_decide_eq_true (by kernel_rfl)) (by unfold Func.isWrapper; first | (rw [if_pos (by decide +kernel)]; kernel_rfl) | (rw [if_neg (by decide +kernel)]; exact ⟨rfl, rfl⟩))
    (fun os started H enc _ F => lifted os started H enc F)
theorem proved : Rows.BitsJoinUptoSaid := over
#print axioms proved
end Go.Proofs.Ytgjpaldbagkahaa.bitsJoin
namespace Go.Proofs.Ytgjpaldbagkahaa
/-- The row, under a short name, for the claim. -/
theorem bitsJoinUpto_holds : Rows.BitsJoinUptoSaid := bitsJoin.proved
end Go.Proofs.Ytgjpaldbagkahaa
