-- How a number that came in is opened.
import Derived.Test.YtjaolddgnijgiaaDoorPureNum
import Derived.Test.YtjaolddgnijgiaaDoorLaid
import Derived.WalkKit
import Derived.ProofKit
import Derived.OpenShut
import Derived.Below
namespace Go.Proofs.YtjaolddgnijgiaaDoor.Open
open Go.ChangeShapes Go.WideShapes Go.ChangeAt Go.RowKit
open Go.Proofs.YtjaolddgnijgiaaDoorW.PrintWords
set_option linter.unusedVariables false
set_option maxRecDepth 100000 in
/-- A number that came in. -/
theorem open_num {H : Type} {enc : TypeId × Value → H} {W : World} {base b0 : Nat} {r : Reach} {sp : Nat → Bool} {held : Bool} {v : Value} {d : DataW H} {ps : List MemPlace} (hok : Value.okWide Tryd.prog W r b0 25 v) (h : DataW.Trod enc Tryd.prog W base sp held 25 v d ps) :
    ∃ (b : Bool) (n : Int), v = .agg #[.bool b, .int .i64 n] ∧ PureN.R n := by
  obtain ⟨xs, rfl⟩ : ∃ xs, v = .agg xs := by
    simp only [Value.okWide, Tryd.underlying25] at hok
    obtain ⟨cs, h1, _⟩ := hok
    exact ⟨cs, h1⟩
  obtain ⟨fuel, hf⟩ := h
  simp only [Value.cells] at hf
  obtain ⟨ys, k, hk, hxy, hlen, hxl, hg⟩ := DataW.trod_struct Tryd.underlying25 hf
  have hl2 : xs.toList.length = 2 := hlen.trans (by kernel_rfl)
  have c4 : Tryd.prog.cellsOf 4 = 1 := by kernel_rfl
  have c2 : Tryd.prog.cellsOf 2 = 1 := by kernel_rfl
  obtain ⟨xs⟩ := xs
  match xs, hl2, ys, hxl with
  | [v0, v1], _, [y0, y1], _ =>
    have g0 := hg 0 _ rfl
    have g1 := hg 1 _ rfl
    simp [c4, c2] at g0 g1
    obtain ⟨b, e0, _⟩ := DataW.trod_bool Tryd.underlying4 g0
    obtain ⟨n, e1, _, w1⟩ := DataW.trod_int Tryd.underlying2 g1
    simp at e0 e1
    subst e0 e1
    exact ⟨b, n, rfl, by simpa [PureN.R, Lit.wf, IntKind.min, IntKind.max, IntKind.signed, IntKind.bits] using w1⟩

end Go.Proofs.YtjaolddgnijgiaaDoor.Open
