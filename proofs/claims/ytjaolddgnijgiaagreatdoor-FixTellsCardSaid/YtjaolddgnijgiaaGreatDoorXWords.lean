import Derived.Below
import Derived.Deep.Draws
import Derived.Deep.AppendLies
import Derived.Maps.AppendAt
import Derived.OwnWalk
import Derived.Laws.BytesArg
import Derived.Laws.MakeOwn
import Derived.Laws.OwnMore
import Derived.Deep.OwnRows
import Derived.Tactics
import Derived.Lib.ConvBytes
import Derived.Laws.Slices
import Derived.WalkKit
import Derived.KernelRfl
import Derived.RowKit3
import Derived.Deep.LoopGhost
import Derived.Deep.QuietTactic
import Derived.BigQuiet
import Derived.WideLaws
import Derived.Deep.DeepCutAuto
import Derived.Deep.CutBlock
import Derived.Deep.RegionHeld3
import Derived.Laws.Rows
import Derived.Lib.AppendStr
import Derived.ArgAppend
import Derived.Laws.IdiomCopy
import Derived.OrdersHeld
import Derived.Laws.BitsLemmas
import Derived.RowKit
import Derived.Test.YtjaolddgnijgiaaGreatDoorWWords
import Derived.Test.YtjaolddgnijgiaaGreatDoorWLast
import Derived.Test.YtjaolddgnijgiaaGreatDoorWRest
import Derived.Lib.SlBytesConst
namespace Go.Proofs.YtjaolddgnijgiaaGreatDoorX
set_option linter.unusedVariables false
set_option linter.unusedSimpArgs false
open Go.RowKit Go.Proofs.YtjaolddgnijgiaaGreatDoorW.PrintWords Go.Proofs.YtjaolddgnijgiaaGreatDoorW.PrintLast Go.Proofs.YtjaolddgnijgiaaGreatDoorW.PrintMore

section
variable {P : Program} {ops : Array Oper} {rest : List Oper} {o : Oper} {a : Act} {Q : Exit → Act → World → Prop}
end

/-- A row of bytes that a literal made. -/
theorem lit_reads (W : World) (l : List Int) (e : TypeId) (fr : Nat × Nat) (hl : l.length ≤ 9223372036854775807) :
    Kd.C (Kd.int .u8) (W.alloc (.cells (l.map (Value.int .u8)).toArray e fr)) (some ⟨W.heap.size, 0, none⟩) l.length l := by
  refine ⟨rfl, hl, fun _ => ⟨_, rfl, fun j p hj => ⟨[.int .u8 p], rfl, rfl, fun i u hu => ?_⟩⟩⟩
  cases i with
  | succ i => simp at hu
  | zero =>
    simp only [List.getElem?_cons_zero, Option.some.injEq] at hu
    subst hu
    have hb : (W.alloc (.cells (l.map (Value.int .u8)).toArray e fr)).heap[W.heap.size]? = some (.cells (l.map (Value.int .u8)).toArray e fr) := by
      show (W.heap.push _)[W.heap.size]? = _
      simp
    have hjl := (List.getElem?_eq_some_iff.1 hj).1
    have hj2 := (List.getElem?_eq_some_iff.1 hj).2
    obtain ⟨W1, hW1⟩ : ∃ W1, W.alloc (.cells (l.map (Value.int .u8)).toArray e fr) = W1 := ⟨_, rfl⟩
    rw [hW1] at hb ⊢
    rw [add_at, cell_of_row W1 _ _ _ e fr hb]
    simp [show (Kd.int .u8).sz = 1 from rfl, hjl, hj2]

theorem sz_one (a : UInt8) : (⟨#[a]⟩ : ByteArray).size = 1 := rfl
end Go.Proofs.YtjaolddgnijgiaaGreatDoorX
