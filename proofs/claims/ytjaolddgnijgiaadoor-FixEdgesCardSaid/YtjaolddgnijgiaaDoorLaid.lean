-- What the rows of the seat share: a world that holds the listed variables, and what the walks ask of the world, off the row's list.
import Derived.Test.YtjaolddgnijgiaaDoorRows
import Derived.Test.YtjaolddgnijgiaaDoorExt
import Derived.Deep.DeepHandedRow
import Derived.Deep.DeepWitnessRowRef
import Derived.Deep.DeepLaidRun
import Derived.Lib.LaidTab
import Derived.Lib.LaidU8
import Derived.Lib.LaidIn
import Derived.Stop.LaidErr
import Derived.Shelf.Strings.Shaped
namespace Go.Proofs.YtjaolddgnijgiaaDoor
open Go.ChangeShapes Go.WideShapes Go.ChangeAt Go.RowKit
set_option linter.unusedVariables false
noncomputable abbrev laidList : List (String × DataW Unit) := Rows.fixSumsRow.laid
def intsOf : DataW Unit → List Int
  | .agg l => l.filterMap fun | .lit (.int _ n) => some n | _ => none
  | _ => []
/-- THE WITNESS: the settled world with the two errors' blocks, and the seven variables holding what their initialisers lay. -/
noncomputable def laidWorld (os : Os) : World :=
  let N := (World.settled Tryd.prog os).heap.size
  let w0 := World.holding Tryd.prog os ⟨#[
    .cells #[.string ⟨#[118, 97, 108, 117, 101, 32, 111, 117, 116, 32, 111, 102, 32, 114, 97, 110, 103, 101]⟩] 133, .cells #[.string ⟨#[105, 110, 118, 97, 108, 105, 100, 32, 115, 121, 110, 116, 97, 120]⟩] 133], #[], []⟩
  let put (h : Array Obj) (g : Nat) (cs : Array Value) : Array Obj := h.modify g fun
    | .cells _ t frozen => .cells cs t frozen
    | o => o
  let h0 := put (put w0.heap 4 #[.iface 131 (.pointer (some ⟨N, 0, none⟩))]) 3 #[.iface 131 (.pointer (some ⟨N + 1, 0, none⟩))]
  let h1 := put h0 8 (Lib.firstTab.map fun z => Value.int .u8 z).toArray
  let h2 := put h1 9 ((List.range 16).flatMap fun i => [Value.int .u8 (Lib.accLo i), Value.int .u8 (Lib.accHi i)]).toArray
  let h3 := put h2 6 ((intsOf Rows.laid_math_bits_deBruijn32tab).map fun z => Value.int .u8 z).toArray
  let h4 := put h3 7 ((intsOf Rows.laid_math_bits_deBruijn64tab).map fun z => Value.int .u8 z).toArray
  let h5 := put h4 5 (Lib.pow10Tab.map fun z => Value.int .u64 z).toArray
  { w0 with heap := h5 }
theorem laid_met (os : Os) (args : Array Value) : laidMet Tryd.prog laidList ((laidWorld os).forCall (fun _ _ => 0) ⟨#[], args, []⟩).memory :=
  laidMet_of_run3 10 (by kernel_rfl) (by kernel_rfl) (by kernel_rfl)
/-- What the walks ask. -/
theorem laidW {W : World} (hL : laidMetH Tryd.prog laidList W) (hS : W.ShapedOpen Tryd.prog) : Print.LaidW W := by
  have hL' : laidMet Tryd.prog laidList W := hL
  refine ⟨Tryd.laysM145.s1_3 W hS, ?_⟩
  exact Lib.tabIs_of_head (g := 5) (t := 125) (e := 47) (n := 20) (by kernel_rfl) (by kernel_rfl) (by kernel_rfl) (by kernel_rfl) (by kernel_rfl) (by kernel_rfl) hL'.tail.tail
end Go.Proofs.YtjaolddgnijgiaaDoor
