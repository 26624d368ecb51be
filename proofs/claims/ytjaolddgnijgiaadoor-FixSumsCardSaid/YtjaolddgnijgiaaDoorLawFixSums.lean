-- The row and the card of the law FixSums.
import Derived.Test.YtjaolddgnijgiaaDoorCards
import Derived.Test.YtjaolddgnijgiaaDoorTie
import Derived.Test.YtjaolddgnijgiaaDoorLaid
import Derived.Test.YtjaolddgnijgiaaDoorPrint12
import Derived.Test.YtjaolddgnijgiaaDoorPureA
import Derived.WalkKit
import Derived.ProofKit
import Derived.OpenShut
import Derived.Below
import Derived.Deep.SlicePairs
namespace Go.Proofs.YtjaolddgnijgiaaDoor.fixSums
open Go.ChangeShapes Go.WideShapes Go.ChangeAt Go.RowKit
open Go.Proofs.YtjaolddgnijgiaaDoorW.PrintWords
set_option linter.unusedVariables false
theorem own : ownKnob Tryd.prog.godebug = none := by kernel_rfl
theorem laidOut : laidOutB Tryd.prog = true := by kernel_rfl
theorem pure (l : List Print.S25) (hl : Pure.I64 l) : Print.spillwaylaw2_FixSums.f 1100 l = some true := by
  unfold Print.spillwaylaw2_FixSums.f Print.spillwaylaw2_known.f
  rw [Option.bind_some, if_pos rfl]
  by_cases h : (l.length : Int) > 100
  · rw [if_pos h]
  · rw [if_neg h, Pure.sum_eq 1100 l hl (by omega) (by omega), Option.bind_some, Pure.ref_sum_eq 1100 l hl (by omega) (by omega), Option.bind_some]
    simp
theorem opened {W : World} {a : Addr} {len cap : Nat} {L : List Print.S25} (hL : L.length = len) (hc : len ≤ cap) (hm : cap ≤ maxLen)
    (h : ∀ i (hi : i < L.length), W.cell? (a.add (i * 2)) = some (.bool L[i].f0) ∧ W.cell? (a.add (i * 2 + 1)) = some (.int .i64 L[i].f1)) : Kd.C Print.k25 W (some a) L.length L := by
  have hmm : maxLen ≤ 9223372036854775807 := by decide
  refine ⟨rfl, by omega, fun _ => ⟨a, rfl, fun j p hj => ?_⟩⟩
  obtain ⟨hj1, hj2⟩ := List.getElem?_eq_some_iff.1 hj
  obtain ⟨h0, h1⟩ := h j hj1
  rw [hj2] at h0 h1
  refine ⟨[.bool p.f0, .int .i64 p.f1], rfl, Print.k25_mk W p, fun i u hu => ?_⟩
  show W.cell? (a.add (j * 2 + i)) = some u
  match i, hu with
  | 0, hu =>
    obtain rfl := Option.some.inj hu
    exact h0
  | 1, hu =>
    obtain rfl := Option.some.inj hu
    exact h1
  | n + 2, hu => simp at hu

set_option maxRecDepth 100000 in
theorem contract (H : Type) (enc : TypeId × Value → H) (W : World) (base : Nat) (args : Array Value) (ds gs : List (DataW H)) (before : List MemPlace)
    (hval : ∀ (j : Nat) t v, Tryd.f3.params[j]? = some t → args[j]? = some v → Value.okWide Tryd.prog W .any base t v)
    (hW : DataW.Whole enc Tryd.prog Tryd.f3.params.toList Rows.fixSumsSpec.vars false W args.toList ds gs before) (hG : Print.LaidW W) :
    Calls Tryd.prog 3 args W fun e W' => ∃ v, e = .returned v ∧ Rows.fixSumsSpec.post enc Tryd.prog Tryd.f3 false true false false W args v W' := by
  have hW' := hW
  obtain ⟨p, q, hA0, hV, rfl, hfz, hnd⟩ := hW
  have hA : DataW.TrodAll enc Tryd.prog W 0 (fun _ => true) true Tryd.f3.params.toList args.toList ds p := hA0
  rw [Tryd.params3] at hA hval
  obtain ⟨v0, vs0, d0, ds0, p0, q0, hargs, rfl, rfl, h0, r0⟩ := trodAll_cons hA
  obtain ⟨rfl, rfl, rfl⟩ := trodAll_nil r0
  obtain rfl : args = #[v0] := by cases args; simp_all
  obtain ⟨rfl, rfl⟩ := trodVars_none hV
  obtain ⟨a0, len0, cap0, rfl⟩ := okWide_slice Tryd.underlying22 (hval 0 22 v0 rfl rfl)
  have k0 := h0
  have lt0 : ∀ x ∈ p0, x.block < W.heap.size := by obtain ⟨m, hm⟩ := k0; exact DataW.trod_lt m _ _ _ hm
  obtain ⟨l, hll, hcl, hC, hI⟩ : ∃ l : List Print.S25, l.length = len0 ∧ len0 ≤ cap0 ∧ Kd.C Print.k25 W a0 l.length l ∧ Pure.I64 l := by
    obtain ⟨fuel, hf⟩ := h0
    rcases Go.Deep.open_slice_pairs Tryd.underlying22 Tryd.underlying25 (by kernel_rfl) rfl rfl (by kernel_rfl) (by kernel_rfl) hf with ⟨hcs, _⟩ | ⟨a, len, cap, m, n, V0, V1, D0, D1, P0, P1, hcs, _, hl, hm, hmm, _, hx⟩
    · simp [Value.cells] at hcs
      obtain ⟨rfl, rfl, rfl⟩ := hcs
      exact ⟨[], rfl, Nat.le_refl _, Kd.C_nil _ _, fun a ha => by cases ha⟩
    · simp [Value.cells] at hcs
      obtain ⟨rfl, rfl, rfl⟩ := hcs
      simp only [if_true] at hmm
      have each : ∀ i, ∃ s : Print.S25, i < len0 → V0 i = .bool s.f0 ∧ V1 i = .int .i64 s.f1 ∧ (Lit.int .i64 s.f1).wf = true := by
        intro i
        by_cases hi : i < len0
        · obtain ⟨_, _, t0, t1⟩ := hx i (by omega)
          obtain ⟨b, e0, _⟩ := DataW.trod_bool Tryd.underlying4 t0
          obtain ⟨z, e1, _, w1⟩ := DataW.trod_int Tryd.underlying2 t1
          simp at e0 e1
          exact ⟨⟨b, z⟩, fun _ => ⟨e0, e1, w1⟩⟩
        · exact ⟨⟨false, 0⟩, fun h => absurd h hi⟩
      obtain ⟨S, hS⟩ := Classical.axiomOfChoice each
      refine ⟨(List.range len0).map S, by simp, hl, opened (by simp) hl hm ?_, ?_⟩
      · intro i hi
        have hil : i < len0 := by simpa using hi
        obtain ⟨c0, c1, _, _⟩ := hx i (by omega)
        obtain ⟨e0, e1, _⟩ := hS i hil
        rw [e0] at c0
        rw [e1] at c1
        simpa using And.intro c0 c1
      · intro s hs
        obtain ⟨i, hi, rfl⟩ := List.mem_map.1 hs
        obtain ⟨_, _, w1⟩ := hS i (List.mem_range.1 hi)
        simpa [Lit.wf, IntKind.min, IntKind.max, IntKind.signed, IntKind.bits] using w1
  subst hll
  clear hA0
  refine (Print.spillwaylaw2_FixSums.calls 1100 a0 cap0 l true W hC hcl hG (pure l hI) rfl).mono fun e W' ⟨he, bel⟩ => ?_
  subst he
  exact ⟨_, rfl, _, _, _, [], _, [], hW', trodAll_mk1 (shut_bool Tryd.underlying4 _), (trodAll_cons_mk (Below.trod laidOut (by kernel_rfl) (of_decide_eq_true (by kernel_rfl)) k0 bel lt0) trodAll_mk0), rfl, bel.frame _, fun h => by cases h⟩

theorem reads (os : Os) {H : Type} (enc : TypeId × Value → H) : ∃ places, DataW.whole enc Tryd.prog ((laidWorld os).forCall (fun _ _ => 0) ⟨#[], #[.slice none 0 0], []⟩).memory Tryd.f3.params.toList Rows.fixSumsSpec.vars false #[Value.slice none 0 0].toList 8 = some ([.nil], [], places) :=
  ⟨[], by kernel_rfl⟩
set_option maxRecDepth 100000 in
theorem lifted (os : Os) (started : os.Started) (H : Type) (enc : TypeId × Value → H) (F : Stop.Interp) :
    ReturnsInHanded {} Tryd.checked os 3 .any ((OpenSpec.ofChange Rows.fixSumsSpec).preRow enc Tryd.prog Tryd.f3 Rows.fixSumsRow.domain false Rows.fixSumsRow.laid) (((OpenSpec.ofChange Rows.fixSumsSpec).at F).post enc Tryd.prog Tryd.f3 false true false false) := by
  obtain ⟨places, hx⟩ := reads os enc
  refine returnsInHanded_of_row (C := Tryd.checked) (s := OpenSpec.ofChange Rows.fixSumsSpec) own started (by kernel_rfl) Tryd.func3
    (witness_row_atRef (enc := enc) (C := Tryd.checked) false (laidWorld os) #[.slice none 0 0] rfl (by kernel_rfl) (by kernel_rfl) (by kernel_rfl)
      (OpenSpec.preRow_of_cond 8 hx (by kernel_rfl) (fun k hk => by cases hk) (by kernel_rfl) (laid_met os _))) ?_
  intro W base args ds gs before hval hW _ _ _ hL hS _
  exact contract H enc W base args ds gs before hval hW (laidW hL hS)
theorem said : Rows.FixSumsSaid :=
  OpenClaim.holds_of_cond 3 Tryd.f3 rfl rfl rfl rfl rfl rfl rfl ⟨rfl, rfl, rfl, rfl, rfl⟩ rfl rfl rfl rfl rfl (by kernel_rfl) Tryd.func3 (by kernel_rfl)
    (of_decide_eq_true (by kernel_rfl)) (by unfold Func.isWrapper; first | (rw [if_pos (by decide +kernel)]; kernel_rfl) | (rw [if_neg (by decide +kernel)]; exact ⟨rfl, rfl⟩))
    (fun os started H enc _ F => by rw [OpenClaim.pre_eq_preRow]; exact lifted os started H enc F)
theorem plain (f : FuncId) (fn : Func) (hf : Tryd.pinned.checked.prog.funcNamed "spillway/spillwaylaw2.FixSums" = some f) (hfn : Tryd.pinned.checked.prog.funcs[f]? = some fn) :
    true = Tryd.pinned.checked.prog.looks [] ∧ ∀ (j : Nat) t, fn.params[j]? = some t → Tryd.pinned.checked.prog.wantsStandIn t = false := by
  obtain rfl : f = 3 := Option.some.inj ((show Tryd.prog.funcNamed "spillway/spillwaylaw2.FixSums" = some 3 by kernel_rfl).symm.trans hf) |>.symm
  obtain rfl : fn = Tryd.f3 := (Option.some.inj (Tryd.func3.symm.trans hfn)).symm
  refine ⟨by kernel_rfl, fun j t ht => ?_⟩
  rw [Tryd.params3] at ht
  obtain rfl : t = 22 := by simpa using Array.mem_of_getElem? ht
  exact (show Tryd.prog.wantsStandIn 22 = false by kernel_rfl)
theorem card : Rows.FixSumsCardSaid :=
  Claim7.holds_tied_plain_at .later [] _ _ _ _ said (fun _ h => by cases h) (by kernel_rfl) (fun _ h => by cases h) fixSums_row_tie rfl ⟨rfl, rfl⟩ (by kernel_rfl) rfl plain (by kernel_rfl)
#print axioms card
end Go.Proofs.YtjaolddgnijgiaaDoor.fixSums
namespace Go.Proofs.YtjaolddgnijgiaaDoor
/-- The card, under a short name, for the claim. -/
theorem fixSumsCard_holds : Rows.FixSumsCardSaid := fixSums.card
end Go.Proofs.YtjaolddgnijgiaaDoor
