/- A part of the proof of LexBuilt: what the functions that the law reaches come to. -/
import Derived.Test.YtnjobjogddjelaaGreatDoorProg
import Derived.Below
import Derived.Deep.Draws
import Derived.Deep.AppendLies
import Derived.Maps.AppendAt
import Derived.OwnWalk
import Derived.Laws.BytesArg
import Derived.Laws.MakeOwn
import Derived.Laws.OwnMore
import Derived.Deep.OwnRows
import Derived.Tactics
import Derived.Lib.ConvBytes
import Derived.Laws.Slices
import Derived.WalkKit
import Derived.KernelRfl
import Derived.RowKit3
import Derived.Deep.LoopGhost
import Derived.Deep.QuietTactic
import Derived.BigQuiet
import Derived.WideLaws
import Derived.Deep.DeepCutAuto
import Derived.Deep.CutBlock
import Derived.Deep.RegionHeld3
import Derived.Laws.Rows
import Derived.Lib.AppendStr
import Derived.ArgAppend
import Derived.Laws.IdiomCopy
import Derived.OrdersHeld
import Derived.Laws.BitsLemmas
import Derived.RowKit
import Derived.Test.YtnjobjogddjelaaGreatDoorC00
import Derived.Shelf.Strings.Builder1
import Derived.Shelf.Strings.Builder2
import Derived.Shelf.Strings.OnBuilder
import Derived.Shelf.Strings.Trim
import Derived.Shelf.Small.Utf8
import Derived.Shelf.Small.Bits
import Derived.Shelf.Small.Strs
import Derived.Shelf.Small.Wraps
import Derived.Shelf.Strings.BuilderF
import Derived.Shelf.Strings.BuilderK
import Derived.Shelf.Strconv.Atoi
import Derived.Shelf.Strconv.Itoa0
import Derived.Shelf.Strconv.Itoa1
import Derived.Shelf.LaysM
import Derived.Shelf.Strconv.Itoa2
import Derived.Shelf.Strconv.Itoa3
import Derived.Shelf.Strconv.AtoiErrFast
import Derived.Shelf.Strconv.ParseIntEmpty
import Derived.Shelf.Strconv.AtoiFail
import Derived.Shelf.Strconv.Clone
import Derived.Shelf.Strconv.SyntaxError
import Derived.Shelf.LaysC
import Derived.Shelf.Strconv.ToError
import Derived.Shelf.Strconv.AtoiErr
import Derived.Shelf.Strconv.ErrVar
import Derived.Shelf.Strconv.Lower
import Derived.Shelf.Strconv.ParseUint10
import Derived.Shelf.Strconv.ParseUint10Empty
import Derived.Shelf.Strconv.ParseUint10Any
import Derived.Shelf.Strconv.ParseInt10
import Derived.Shelf.Strconv.AtoiLong
import Derived.Shelf.Strconv.AtoiInnerAll
import Derived.Shelf.Strconv.RangeError
import Derived.Shelf.Strconv.ToErrorRange
import Derived.Shelf.Strconv.AtoiAll
import Derived.Shelf.Strconv.ErrVarAll
import Derived.Shelf.Strconv.ParseUintEmpty
import Derived.Shelf.Strconv.ParseUint10b64
import Derived.Shelf.Strconv.ParseUint10b32
import Derived.Shelf.Strconv.ParseUint10b16
import Derived.Shelf.Strconv.ParseUint10b8
import Derived.Shelf.Strconv.ParseUint10At
import Derived.Ground.MpProg
import Derived.Shelf.Pu.ParseUintPublic10
import Derived.Shelf.Pu.ErrVarParseUint
import Derived.Shelf.Strings.Search1
import Derived.Shelf.Strings.Search2
import Derived.Shelf.Strings.Cut
import Derived.Shelf.Strings.Shaped
import Derived.Shelf.Strings.Prefix
import Derived.Shelf.Strings.Runes
import Derived.Shelf.Strings.AsciiSet
import Derived.Shelf.Bits.Mul64
import Derived.Shelf.Strings.Repeat
import Derived.Shelf.Unicode.DecodeSlow
import Derived.Lib.ItoaMem
import Derived.Laws.Externs
import Derived.Lib.AppendIntMem
import Derived.Test.YtnjobjogddjelaaGreatDoorRows
import Derived.Deep.DeepHandedRow
import Derived.Deep.DeepWitnessRowRef
import Derived.Deep.DeepLaidRun
import Derived.Lib.LaidTab
import Derived.Lib.LaidU8
import Derived.Lib.LaidIn
import Derived.Stop.LaidErr
import Derived.Lib.ItoaNum
set_option linter.unusedVariables false
set_option linter.unusedSimpArgs false
section
namespace Go.Proofs.YtnjobjogddjelaaGreatDoor.Print
open Go.RowKit Go.Proofs.YtnjobjogddjelaaGreatDoorX Go.Proofs.YtnjobjogddjelaaGreatDoorW.PrintWords Go.Proofs.YtnjobjogddjelaaGreatDoorW.PrintLast Go.Proofs.YtnjobjogddjelaaGreatDoorW.PrintMore
attribute [local go_sem] max2_int min2_int max_two min_two max_three min_three max_four min_four



def errW : Option Int → Value
 | none => .nilIface
 | some c => .iface 0 (.int .i64 c)
theorem errW_none : errW none = .nilIface := rfl
theorem errW_some (c : Int) : errW (some c) = .iface 0 (.int .i64 c) := rfl

theorem info5 : (Tryz.prog.info? 5).map (fun i => (i.zero, i.size, i.bytes)) = some (some (.int .u8 0), 1, 1) := by kernel_rfl
theorem info9 : (Tryz.prog.info? 9).map (fun i => (i.zero, i.size, i.bytes)) = some (some (.string ⟨#[]⟩), 1, 16) := by kernel_rfl
theorem info36 : (Tryz.prog.info? 36).map (fun i => (i.zero, i.size, i.bytes)) = some (some (.agg #[(.int .i64 0), (.int .i64 0), (.string ⟨#[]⟩), (.bool false), (.int .i64 0), (.int .i64 0)]), 6, 56) := by kernel_rfl
-- the values' own types
/-! #### struct type 34 -/
structure S34 where
 f0 : Bool
 f1 : Int
def z34 : S34 := ⟨false, (0 : Int)⟩
def k34 : Kd S34 := Kd.iso (Kd.pair Kd.bool (Kd.int .i64)) (fun x : S34 => (x.f0, x.f1))
theorem k34_open {w : World} {x : S34} {cs : List Value} (h : k34.K w x cs) : cs = [.bool x.f0, .int .i64 x.f1] := by
 obtain ⟨_, _, rfl, rfl, rfl⟩ := h
 exact rfl
theorem k34_openM {w : World} {base : Nat} {ok : Nat → Prop} {x : S34} {cs : List Value} (h : k34.M w base ok x cs) : cs = [.bool x.f0, .int .i64 x.f1] := by
 obtain ⟨_, _, rfl, rfl, rfl⟩ := h
 exact rfl
theorem k34_mk (w : World) (x : S34)  : k34.K w x [.bool x.f0, .int .i64 x.f1] := ⟨[.bool x.f0], [.int .i64 x.f1], rfl, rfl, rfl⟩
theorem k34_mkM (w : World) (base : Nat) (ok : Nat → Prop) (x : S34)  : k34.M w base ok x [.bool x.f0, .int .i64 x.f1] := ⟨[.bool x.f0], [.int .i64 x.f1], rfl, rfl, rfl⟩
def rd_T34 (xs : List S34) (i : Int) : S34 := xs.getD i.toNat z34
theorem at_T34 {w : World} {A : Option Addr} {n : Nat} {xs : List S34} (h : Kd.C k34 w A n xs) (i : Int) (h0 : 0 ≤ i) (h1 : i < n) : ∃ ad , A = some ad ∧ w.cell? (ad.add (i.toNat * 2)) = some (.bool (rd_T34 xs i).f0) ∧ w.cell? ⟨(ad.add (i.toNat * 2)).block, (ad.add (i.toNat * 2)).off + 1, none⟩ = some (.int .i64 (rd_T34 xs i).f1) := by
 obtain ⟨ad, c, e, _, hK, hc0⟩ := Kd.C_get h z34 i h0 h1
 have hc : ∀ j u, c[j]? = some u → w.cell? (ad.add (i.toNat * 2 + j)) = some u := hc0
 obtain rfl := k34_open hK
 exact ⟨ad, e, hc 0 _ rfl, by rw [← add_field _ _ 1 (by omega)]; exact hc 1 _ rfl⟩

/-! #### struct type 36 -/
structure S36 where
 f0 : Int
 f1 : Int
 f2 : ByteArray
 f3 : S34
 f4 : Int
def z36 : S36 := ⟨(0 : Int), (0 : Int), (⟨#[]⟩ : ByteArray), z34, (0 : Int)⟩
def k36 : Kd S36 := Kd.iso (Kd.pair (Kd.int .i64) (Kd.pair (Kd.int .i64) (Kd.pair Kd.string (Kd.pair k34 (Kd.int .i64))))) (fun x : S36 => (x.f0, x.f1, x.f2, x.f3, x.f4))
theorem k36_open {w : World} {x : S36} {cs : List Value} (h : k36.K w x cs) : cs = [.int .i64 x.f0, .int .i64 x.f1, .string x.f2, .bool x.f3.f0, .int .i64 x.f3.f1, .int .i64 x.f4] := by
 obtain ⟨_, _, rfl, rfl, ⟨_, _, rfl, rfl, ⟨_, _, rfl, rfl, ⟨_, _, rfl, s3, rfl⟩⟩⟩⟩ := h
 obtain rfl := k34_open s3
 exact rfl
theorem k36_openM {w : World} {base : Nat} {ok : Nat → Prop} {x : S36} {cs : List Value} (h : k36.M w base ok x cs) : cs = [.int .i64 x.f0, .int .i64 x.f1, .string x.f2, .bool x.f3.f0, .int .i64 x.f3.f1, .int .i64 x.f4] := by
 obtain ⟨_, _, rfl, rfl, ⟨_, _, rfl, rfl, ⟨_, _, rfl, rfl, ⟨_, _, rfl, s3, rfl⟩⟩⟩⟩ := h
 obtain rfl := k34_openM s3
 exact rfl
theorem k36_mk (w : World) (x : S36)  : k36.K w x [.int .i64 x.f0, .int .i64 x.f1, .string x.f2, .bool x.f3.f0, .int .i64 x.f3.f1, .int .i64 x.f4] := ⟨[.int .i64 x.f0], [.int .i64 x.f1, .string x.f2, .bool x.f3.f0, .int .i64 x.f3.f1, .int .i64 x.f4], rfl, rfl, ⟨[.int .i64 x.f1], [.string x.f2, .bool x.f3.f0, .int .i64 x.f3.f1, .int .i64 x.f4], rfl, rfl, ⟨[.string x.f2], [.bool x.f3.f0, .int .i64 x.f3.f1, .int .i64 x.f4], rfl, rfl, ⟨[.bool x.f3.f0, .int .i64 x.f3.f1], [.int .i64 x.f4], rfl, (k34_mk w x.f3 ), rfl⟩⟩⟩⟩
theorem k36_mkM (w : World) (base : Nat) (ok : Nat → Prop) (x : S36)  : k36.M w base ok x [.int .i64 x.f0, .int .i64 x.f1, .string x.f2, .bool x.f3.f0, .int .i64 x.f3.f1, .int .i64 x.f4] := ⟨[.int .i64 x.f0], [.int .i64 x.f1, .string x.f2, .bool x.f3.f0, .int .i64 x.f3.f1, .int .i64 x.f4], rfl, rfl, ⟨[.int .i64 x.f1], [.string x.f2, .bool x.f3.f0, .int .i64 x.f3.f1, .int .i64 x.f4], rfl, rfl, ⟨[.string x.f2], [.bool x.f3.f0, .int .i64 x.f3.f1, .int .i64 x.f4], rfl, rfl, ⟨[.bool x.f3.f0, .int .i64 x.f3.f1], [.int .i64 x.f4], rfl, (k34_mkM w base ok x.f3 ), rfl⟩⟩⟩⟩
def rd_T36 (xs : List S36) (i : Int) : S36 := xs.getD i.toNat z36
theorem at_T36 {w : World} {A : Option Addr} {n : Nat} {xs : List S36} (h : Kd.C k36 w A n xs) (i : Int) (h0 : 0 ≤ i) (h1 : i < n) : ∃ ad , A = some ad ∧ w.cell? (ad.add (i.toNat * 6)) = some (.int .i64 (rd_T36 xs i).f0) ∧ w.cell? ⟨(ad.add (i.toNat * 6)).block, (ad.add (i.toNat * 6)).off + 1, none⟩ = some (.int .i64 (rd_T36 xs i).f1) ∧ w.cell? ⟨(ad.add (i.toNat * 6)).block, (ad.add (i.toNat * 6)).off + 2, none⟩ = some (.string (rd_T36 xs i).f2) ∧ w.cell? ⟨(ad.add (i.toNat * 6)).block, (ad.add (i.toNat * 6)).off + 3, none⟩ = some (.bool (rd_T36 xs i).f3.f0) ∧ w.cell? ⟨(ad.add (i.toNat * 6)).block, (ad.add (i.toNat * 6)).off + 4, none⟩ = some (.int .i64 (rd_T36 xs i).f3.f1) ∧ w.cell? ⟨(ad.add (i.toNat * 6)).block, (ad.add (i.toNat * 6)).off + 5, none⟩ = some (.int .i64 (rd_T36 xs i).f4) := by
 obtain ⟨ad, c, e, _, hK, hc0⟩ := Kd.C_get h z36 i h0 h1
 have hc : ∀ j u, c[j]? = some u → w.cell? (ad.add (i.toNat * 6 + j)) = some u := hc0
 obtain rfl := k36_open hK
 exact ⟨ad, e, hc 0 _ rfl, by rw [← add_field _ _ 1 (by omega)]; exact hc 1 _ rfl, by rw [← add_field _ _ 2 (by omega)]; exact hc 2 _ rfl, by rw [← add_field _ _ 3 (by omega)]; exact hc 3 _ rfl, by rw [← add_field _ _ 4 (by omega)]; exact hc 4 _ rfl, by rw [← add_field _ _ 5 (by omega)]; exact hc 5 _ rfl⟩

def rd_L5 (xs : List (List ByteArray)) (i : Int) : (List ByteArray) := xs.getD i.toNat ([] : List ByteArray)
theorem at_L5 {w : World} {A : Option Addr} {n : Nat} {xs : List (List ByteArray)} (h : Kd.C (Kd.slice 9 Kd.string) w A n xs) (i : Int) (h0 : 0 ≤ i) (h1 : i < n) : ∃ ad A0 c0, A = some ad ∧ w.cell? (ad.add i.toNat) = some (.slice A0 (rd_L5 xs i).length c0) ∧ (rd_L5 xs i).length ≤ c0 ∧ Kd.string.C w A0 (rd_L5 xs i).length (rd_L5 xs i) := by
 obtain ⟨ad, c, e, _, hK, hc0⟩ := Kd.C_get h ([] : List ByteArray) i h0 h1
 have hc : ∀ j u, c[j]? = some u → w.cell? (ad.add (i.toNat * 1 + j)) = some u := hc0
 obtain ⟨A0, c0, rfl, l0, g0⟩ := hK
 exact ⟨ad, A0, c0, e, by have hq := hc 0 _ rfl; rwa [Nat.mul_one, Nat.add_zero] at hq, l0, g0⟩

end Go.Proofs.YtnjobjogddjelaaGreatDoor.Print
end

section
namespace Go.Proofs
open Go.Shelf
def Tryz.lays169_ren : Go.Shelf.Ren := ⟨fun | 169 => 38 | n => n, fun | 70 => 58 | 9 => 9 | 0 => 0 | 72 => 60 | 37 => 44 | 127 => 82 | 3 => 3 | 5 => 5 | n => n, fun | n => n⟩
theorem Tryz.lays169 : Go.Proofs.Lays.n169 Tryz.prog Tryz.lays169_ren := {
  mixed := by kernel_rfl
  f169 := Tryz.func38.trans (congrArg some (by kernel_rfl))
  t0 := Tryz.underlying0
  a0 := Tryz.isAgg0
  z0 := Tryz.sizeOf0
  v0 := Tryz.zeroValue0
  t3 := Tryz.underlying3
  a3 := Tryz.isAgg3
  z3 := Tryz.sizeOf3
  v3 := Tryz.zeroValue3
  t9 := Tryz.underlying9
  a9 := Tryz.isAgg9
  z9 := Tryz.sizeOf9
  v9 := Tryz.zeroValue9
  t37 := Tryz.underlying44
  a37 := Tryz.isAgg44
  z37 := Tryz.sizeOf44
  v37 := Tryz.zeroValue44
  t70 := Tryz.underlying58
  a70 := Tryz.isAgg58
  z70 := Tryz.sizeOf58
  v70 := Tryz.zeroValue58
  t72 := Tryz.underlying60
  a72 := Tryz.isAgg60
  z72 := Tryz.sizeOf60
  v72 := Tryz.zeroValue60
  t127 := Tryz.underlying82
  a127 := Tryz.isAgg82
  z127 := Tryz.sizeOf82
  v127 := Tryz.zeroValue82 }
theorem Tryz.Builder_Extra_169 : Builder.Extra Tryz.prog Tryz.lays169_ren := {
  sizeBuilder := by kernel_rfl
  liesBuilder := by kernel_rfl
  t5 := Tryz.underlying5
  a5 := Tryz.isAgg5
  z5 := Tryz.sizeOf5
  v5 := Tryz.zeroValue5
  infoByte := by kernel_rfl
  cellsByte := by kernel_rfl
  sizeByte := by kernel_rfl
  neB5 := by decide }
def Tryz.lays156_ren : Go.Shelf.Ren := ⟨fun | 156 => 21 | 165 => 36 | 166 => 37 | 169 => 38 | 240 => 55 | 241 => 56 | 276 => 75 | 277 => 76 | n => n, fun | 31 => 50 | 9 => 9 | 3 => 3 | 4 => 4 | 0 => 0 | 20 => 20 | 72 => 60 | 76 => 64 | 70 => 58 | 37 => 44 | 75 => 63 | 127 => 82 | 164 => 102 | 5 => 5 | 80 => 66 | n => n, fun | n => n⟩
theorem Tryz.lays156 : Go.Proofs.Lays.n156 Tryz.prog Tryz.lays156_ren := {
  mixed := by kernel_rfl
  f156 := Tryz.func21.trans (congrArg some (by kernel_rfl))
  f165 := Tryz.func36.trans (congrArg some (by kernel_rfl))
  f166 := Tryz.func37.trans (congrArg some (by kernel_rfl))
  f169 := Tryz.func38.trans (congrArg some (by kernel_rfl))
  f240 := Tryz.func55.trans (congrArg some (by kernel_rfl))
  f241 := Tryz.func56.trans (congrArg some (by kernel_rfl))
  f276 := Tryz.func75.trans (congrArg some (by kernel_rfl))
  f277 := Tryz.func76.trans (congrArg some (by kernel_rfl))
  t0 := Tryz.underlying0
  a0 := Tryz.isAgg0
  z0 := Tryz.sizeOf0
  v0 := Tryz.zeroValue0
  t3 := Tryz.underlying3
  a3 := Tryz.isAgg3
  z3 := Tryz.sizeOf3
  v3 := Tryz.zeroValue3
  t4 := Tryz.underlying4
  a4 := Tryz.isAgg4
  z4 := Tryz.sizeOf4
  v4 := Tryz.zeroValue4
  t9 := Tryz.underlying9
  a9 := Tryz.isAgg9
  z9 := Tryz.sizeOf9
  v9 := Tryz.zeroValue9
  t20 := Tryz.underlying20
  a20 := Tryz.isAgg20
  z20 := Tryz.sizeOf20
  v20 := Tryz.zeroValue20
  t31 := Tryz.underlying50
  a31 := Tryz.isAgg50
  z31 := Tryz.sizeOf50
  v31 := Tryz.zeroValue50
  t37 := Tryz.underlying44
  a37 := Tryz.isAgg44
  z37 := Tryz.sizeOf44
  v37 := Tryz.zeroValue44
  t70 := Tryz.underlying58
  a70 := Tryz.isAgg58
  z70 := Tryz.sizeOf58
  v70 := Tryz.zeroValue58
  t72 := Tryz.underlying60
  a72 := Tryz.isAgg60
  z72 := Tryz.sizeOf60
  v72 := Tryz.zeroValue60
  t75 := Tryz.underlying63
  a75 := Tryz.isAgg63
  z75 := Tryz.sizeOf63
  v75 := Tryz.zeroValue63
  t76 := Tryz.underlying64
  a76 := Tryz.isAgg64
  z76 := Tryz.sizeOf64
  v76 := Tryz.zeroValue64
  t127 := Tryz.underlying82
  a127 := Tryz.isAgg82
  z127 := Tryz.sizeOf82
  v127 := Tryz.zeroValue82
  t164 := Tryz.underlying102
  a164 := Tryz.isAgg102
  z164 := Tryz.sizeOf102
  v164 := Tryz.zeroValue102 }
theorem Tryz.Builder_Extra_156 : Builder.Extra Tryz.prog Tryz.lays156_ren := {
  sizeBuilder := by kernel_rfl
  liesBuilder := by kernel_rfl
  t5 := Tryz.underlying5
  a5 := Tryz.isAgg5
  z5 := Tryz.sizeOf5
  v5 := Tryz.zeroValue5
  infoByte := by kernel_rfl
  cellsByte := by kernel_rfl
  sizeByte := by kernel_rfl
  neB5 := by decide }
open Go.RowKit in
theorem Tryz.strings_Join_none (a : Option Addr) (c : Nat) (sep : ByteArray) (w : World) :
    Calls Tryz.prog 21 #[.slice a 0 c, .string sep] w fun e w' => e = .returned (.string ⟨#[]⟩) ∧ w' = w := Any.strings_Join_none Tryz.lays156 Tryz.Builder_Extra_156 a c sep w
open Go.RowKit in
theorem Tryz.strings_Join (bk o c : Nat) (xs : List ByteArray) (sep : ByteArray) (w : World) (hcells : ∀ (j : Nat) x, xs[j]? = some x → w.cell? ⟨bk, o + j, none⟩ = some (.string x)) (hbk : bk < w.heap.size) (hN : xs.length ≤ 140737488355328) (hcap : xs.length ≤ c) (hlen : (Lib.join (xs.map (·.data.toList)) sep.data.toList).length ≤ 140737488355328) :
    Calls Tryz.prog 21 #[.slice (some ⟨bk, o, none⟩) xs.length c, .string sep] w fun e w' => e = .returned (.string ⟨(Lib.join (xs.map (·.data.toList)) sep.data.toList).toArray⟩) ∧ Below w.heap.size w w' := Any.strings_Join Tryz.lays156 Tryz.Builder_Extra_156 bk o c xs sep w hcells hbk hN hcap hlen
def Tryz.lays162_ren : Go.Shelf.Ren := ⟨fun | 162 => 52 | 232 => 70 | 227 => 71 | 234 => 72 | 236 => 73 | 228 => 92 | 271 => 93 | 151 => 94 | 120 => 111 | 197 => 112 | 152 => 113 | 260 => 121 | 137 => 46 | 119 => 122 | 224 => 117 | 225 => 116 | 217 => 65 | 266 => 87 | n => n, fun | 9 => 9 | 4 => 4 | 3 => 3 | 5 => 5 | 117 => 97 | 116 => 96 | 0 => 0 | 124 => 100 | 21 => 21 | 105 => 118 | 46 => 106 | 119 => 149 | 139 => 152 | 138 => 151 | n => n, fun | 3 => 8 | 4 => 9 | n => n⟩
theorem Tryz.lays162 : Go.Proofs.Lays.n162 Tryz.prog Tryz.lays162_ren := {
  mixed := by kernel_rfl
  f119 := Tryz.func122.trans (congrArg some (by kernel_rfl))
  f120 := Tryz.func111.trans (congrArg some (by kernel_rfl))
  f137 := Tryz.func46.trans (congrArg some (by kernel_rfl))
  f151 := Tryz.func94.trans (congrArg some (by kernel_rfl))
  f152 := Tryz.func113.trans (congrArg some (by kernel_rfl))
  f162 := Tryz.func52.trans (congrArg some (by kernel_rfl))
  f197 := Tryz.func112.trans (congrArg some (by kernel_rfl))
  f217 := Tryz.func65.trans (congrArg some (by kernel_rfl))
  f224 := Tryz.func117.trans (congrArg some (by kernel_rfl))
  f225 := Tryz.func116.trans (congrArg some (by kernel_rfl))
  f227 := Tryz.func71.trans (congrArg some (by kernel_rfl))
  f228 := Tryz.func92.trans (congrArg some (by kernel_rfl))
  f232 := Tryz.func70.trans (congrArg some (by kernel_rfl))
  f234 := Tryz.func72.trans (congrArg some (by kernel_rfl))
  f236 := Tryz.func73.trans (congrArg some (by kernel_rfl))
  f260 := Tryz.func121.trans (congrArg some (by kernel_rfl))
  f266 := Tryz.func87.trans (congrArg some (by kernel_rfl))
  f271 := Tryz.func93.trans (congrArg some (by kernel_rfl))
  t0 := Tryz.underlying0
  a0 := Tryz.isAgg0
  z0 := Tryz.sizeOf0
  v0 := Tryz.zeroValue0
  t3 := Tryz.underlying3
  a3 := Tryz.isAgg3
  z3 := Tryz.sizeOf3
  v3 := Tryz.zeroValue3
  t4 := Tryz.underlying4
  a4 := Tryz.isAgg4
  z4 := Tryz.sizeOf4
  v4 := Tryz.zeroValue4
  t5 := Tryz.underlying5
  a5 := Tryz.isAgg5
  z5 := Tryz.sizeOf5
  v5 := Tryz.zeroValue5
  t9 := Tryz.underlying9
  a9 := Tryz.isAgg9
  z9 := Tryz.sizeOf9
  v9 := Tryz.zeroValue9
  t21 := Tryz.underlying21
  a21 := Tryz.isAgg21
  z21 := Tryz.sizeOf21
  v21 := Tryz.zeroValue21
  t46 := Tryz.underlying106
  a46 := Tryz.isAgg106
  z46 := Tryz.sizeOf106
  v46 := Tryz.zeroValue106
  t105 := Tryz.underlying118
  a105 := Tryz.isAgg118
  z105 := Tryz.sizeOf118
  v105 := Tryz.zeroValue118
  t116 := Tryz.underlying96
  a116 := Tryz.isAgg96
  z116 := Tryz.sizeOf96
  t117 := Tryz.underlying97
  a117 := Tryz.isAgg97
  z117 := Tryz.sizeOf97
  v117 := Tryz.zeroValue97
  t119 := Tryz.underlying149
  a119 := Tryz.isAgg149
  z119 := Tryz.sizeOf149
  t124 := Tryz.underlying100
  a124 := Tryz.isAgg100
  z124 := Tryz.sizeOf100
  v124 := Tryz.zeroValue100
  t138 := Tryz.underlying151
  a138 := Tryz.isAgg151
  z138 := Tryz.sizeOf151
  v138 := Tryz.zeroValue151
  t139 := Tryz.underlying152
  a139 := Tryz.isAgg152
  z139 := Tryz.sizeOf152
  v139 := Tryz.zeroValue152
  g3 := by kernel_rfl
  g4 := by kernel_rfl }
open Go.RowKit in
theorem Tryz.strings_TrimRight_one (s : ByteArray) (c : UInt8) (hc : c.toNat < 128) (w : World) (hs : s.size ≤ 9223372036854775807) :
    Calls Tryz.prog 52 #[.string s, .string ⟨#[c]⟩] w fun e w' => e = .returned (.string ⟨(Lib.trimRightB s.data.toList c).toArray⟩) ∧ w' = w := Any.strings_TrimRight_one Tryz.lays162 s c hc w hs
def Tryz.lays134_ren : Go.Shelf.Ren := ⟨fun | 134 => 105 | 129 => 107 | n => n, fun | 53 => 41 | 3 => 3 | 4 => 4 | 46 => 106 | 5 => 5 | 9 => 9 | n => n, fun | n => n⟩
theorem Tryz.lays134 : Go.Proofs.Lays.n134 Tryz.prog Tryz.lays134_ren := {
  mixed := by kernel_rfl
  f129 := Tryz.func107.trans (congrArg some (by kernel_rfl))
  f134 := Tryz.func105.trans (congrArg some (by kernel_rfl))
  t3 := Tryz.underlying3
  a3 := Tryz.isAgg3
  z3 := Tryz.sizeOf3
  v3 := Tryz.zeroValue3
  t4 := Tryz.underlying4
  a4 := Tryz.isAgg4
  z4 := Tryz.sizeOf4
  v4 := Tryz.zeroValue4
  t5 := Tryz.underlying5
  a5 := Tryz.isAgg5
  z5 := Tryz.sizeOf5
  v5 := Tryz.zeroValue5
  t9 := Tryz.underlying9
  a9 := Tryz.isAgg9
  z9 := Tryz.sizeOf9
  v9 := Tryz.zeroValue9
  t46 := Tryz.underlying106
  a46 := Tryz.isAgg106
  z46 := Tryz.sizeOf106
  v46 := Tryz.zeroValue106
  t53 := Tryz.underlying41
  a53 := Tryz.isAgg41
  z53 := Tryz.sizeOf41
  v53 := Tryz.zeroValue41 }
theorem Tryz.bits_LeadingZeros64 (x : Int) (w : World) (h0 : 0 ≤ x) (h1 : x ≤ 18446744073709551615) :
    Calls Tryz.prog 105 #[.int .u64 x] w fun e w' => e = .returned (.int .i64 (64 - (Lib.bitLen x.toNat : Int))) ∧ w' = w := Any.bits_LeadingZeros64 Tryz.lays134 x w h0 h1
def Tryz.lays137_ren : Go.Shelf.Ren := ⟨fun | 137 => 46 | 217 => 65 | 266 => 87 | n => n, fun | 9 => 9 | 5 => 5 | 3 => 3 | n => n, fun | n => n⟩
theorem Tryz.lays137 : Go.Proofs.Lays.n137 Tryz.prog Tryz.lays137_ren := {
  mixed := by kernel_rfl
  f137 := Tryz.func46.trans (congrArg some (by kernel_rfl))
  f217 := Tryz.func65.trans (congrArg some (by kernel_rfl))
  f266 := Tryz.func87.trans (congrArg some (by kernel_rfl))
  t3 := Tryz.underlying3
  a3 := Tryz.isAgg3
  z3 := Tryz.sizeOf3
  v3 := Tryz.zeroValue3
  t5 := Tryz.underlying5
  a5 := Tryz.isAgg5
  z5 := Tryz.sizeOf5
  v5 := Tryz.zeroValue5
  t9 := Tryz.underlying9
  a9 := Tryz.isAgg9
  z9 := Tryz.sizeOf9
  v9 := Tryz.zeroValue9 }
open Go.RowKit in
theorem Tryz.strings_IndexByte (s : ByteArray) (c : Int) (w : World) :
    Calls Tryz.prog 46 #[.string s, .int .u8 c] w fun e w' => e = .returned (.int .i64 (Lib.indexByte s.data.toList c.toNat.toUInt8)) ∧ w' = w := Any.strings_IndexByte Tryz.lays137 s c w
def Tryz.lays103_ren : Go.Shelf.Ren := ⟨fun | 103 => 59 | 210 => 79 | 206 => 100 | n => n, fun | 9 => 9 | 4 => 4 | 24 => 84 | 3 => 3 | n => n, fun | n => n⟩
theorem Tryz.lays103 : Go.Proofs.Lays.n103 Tryz.prog Tryz.lays103_ren := {
  mixed := by kernel_rfl
  f103 := Tryz.func59.trans (congrArg some (by kernel_rfl))
  f206 := Tryz.func100.trans (congrArg some (by kernel_rfl))
  f210 := Tryz.func79.trans (congrArg some (by kernel_rfl))
  t3 := Tryz.underlying3
  a3 := Tryz.isAgg3
  z3 := Tryz.sizeOf3
  v3 := Tryz.zeroValue3
  t4 := Tryz.underlying4
  a4 := Tryz.isAgg4
  z4 := Tryz.sizeOf4
  v4 := Tryz.zeroValue4
  t9 := Tryz.underlying9
  a9 := Tryz.isAgg9
  z9 := Tryz.sizeOf9
  v9 := Tryz.zeroValue9
  t24 := Tryz.underlying84
  a24 := Tryz.isAgg84
  z24 := Tryz.sizeOf84
  v24 := Tryz.zeroValue84 }
open Go.RowKit in
theorem Tryz.strings_CutPrefix (s p : ByteArray) (w : World) :
    Calls Tryz.prog 59 #[.string s, .string p] w fun e w' => e = .returned (.tuple #[.string ⟨(Lib.trimPrefix s.data.toList p.data.toList).toArray⟩, .bool (Lib.hasPrefix s.data.toList p.data.toList)]) ∧ w' = w := Any.strings_CutPrefix Tryz.lays103 s p w
open Go.RowKit in
theorem Tryz.Builder_String_any_k (B b : Nat) (l : List UInt8) (w : World) (h : Lib.IsBuilderF 60 5 B b (Lib.byteCells l) w) (hBw : B ≤ w.heap.size) :
    Calls Tryz.prog 38 #[.pointer (some ⟨b, 0, none⟩)] w fun e w' => e = .returned (.string ⟨l.toArray⟩) ∧ (Lib.IsBuilderF 60 5 B b (Lib.byteCells l) w' ∧ Below B w w' ∧ Lib.OthersKept 5 (some b) w w') := Any.Builder_String_any_k Tryz.lays169 Tryz.Builder_Extra_169 B b l w h hBw
def Tryz.lays283_ren : Go.Shelf.Ren := ⟨fun | 283 => 88 | n => n, fun | 3 => 3 | 9 => 9 | 4 => 4 | n => n, fun | n => n⟩
theorem Tryz.lays283 : Go.Proofs.Lays.n283 Tryz.prog Tryz.lays283_ren := {
  mixed := by kernel_rfl
  f283 := Tryz.func88.trans (congrArg some (by kernel_rfl))
  t3 := Tryz.underlying3
  a3 := Tryz.isAgg3
  z3 := Tryz.sizeOf3
  v3 := Tryz.zeroValue3
  t4 := Tryz.underlying4
  a4 := Tryz.isAgg4
  z4 := Tryz.sizeOf4
  v4 := Tryz.zeroValue4
  t9 := Tryz.underlying9
  a9 := Tryz.isAgg9
  z9 := Tryz.sizeOf9
  v9 := Tryz.zeroValue9 }
open Go.Lib in
theorem Tryz.internal_strconv_small (i : Nat) (h : i < 100) (w : World) :
    Calls Tryz.prog 88 #[.int .i64 i] w fun e w' => e = .returned (.string ⟨(Lib.decDigits i).toArray⟩) ∧ w' = w := Any.internal_strconv_small Tryz.lays283 i h w
def Tryz.laysM284_ren : Go.Shelf.Ren := ⟨fun | 284 => 89 | 129 => 107 | 317 => 106 | 318 => 108 | n => n, fun | 53 => 41 | 3 => 3 | 212 => 133 | 0 => 0 | 4 => 4 | 46 => 106 | 5 => 5 | 9 => 9 | n => n, fun | 17 => 3 | n => n⟩
theorem Tryz.laysM284 : Go.Proofs.LaysM.n284 Tryz.prog Tryz.laysM284_ren := {
  mixed := by kernel_rfl
  f129 := Tryz.func107.trans (congrArg some (by kernel_rfl))
  f284 := Tryz.func89.trans (congrArg some (by kernel_rfl))
  f317 := Tryz.func106.trans (congrArg some (by kernel_rfl))
  f318 := Tryz.func108.trans (congrArg some (by kernel_rfl))
  t0 := Tryz.underlying0
  a0 := Tryz.isAgg0
  z0 := Tryz.sizeOf0
  v0 := Tryz.zeroValue0
  t3 := Tryz.underlying3
  a3 := Tryz.isAgg3
  z3 := Tryz.sizeOf3
  v3 := Tryz.zeroValue3
  t4 := Tryz.underlying4
  a4 := Tryz.isAgg4
  z4 := Tryz.sizeOf4
  v4 := Tryz.zeroValue4
  t5 := Tryz.underlying5
  a5 := Tryz.isAgg5
  z5 := Tryz.sizeOf5
  v5 := Tryz.zeroValue5
  t9 := Tryz.underlying9
  a9 := Tryz.isAgg9
  z9 := Tryz.sizeOf9
  v9 := Tryz.zeroValue9
  t46 := Tryz.underlying106
  a46 := Tryz.isAgg106
  z46 := Tryz.sizeOf106
  v46 := Tryz.zeroValue106
  t53 := Tryz.underlying41
  a53 := Tryz.isAgg41
  z53 := Tryz.sizeOf41
  v53 := Tryz.zeroValue41
  t212 := Tryz.underlying133
  a212 := Tryz.isAgg133
  z212 := Tryz.sizeOf133
  v212 := Tryz.zeroValue133
  g17 := by kernel_rfl
  i0 := by kernel_rfl
  i3 := by kernel_rfl
  i4 := by kernel_rfl
  i5 := by kernel_rfl
  i9 := by kernel_rfl
  i46 := by kernel_rfl
  i53 := by kernel_rfl
  i212 := by kernel_rfl
  m17 := by kernel_rfl }
open Go.Lib in
theorem Tryz.internal_strconv_numDigits (u : Nat) (h1 : 1 ≤ u) (h2 : u < 18446744073709551616) (w : World) (htab : Lib.TabIs Tryz.prog w "internal/strconv.uint64pow10" .u64 Lib.pow10Tab) :
    Calls Tryz.prog 89 #[.int .u64 u] w fun e w' => e = .returned (.int .i64 (Lib.nDigits u)) ∧ w' = w := Any.internal_strconv_numDigits Tryz.laysM284 u h1 h2 w htab
def Tryz.lays285_ren : Go.Shelf.Ren := ⟨fun | 285 => 90 | n => n, fun | 37 => 44 | 53 => 41 | 3 => 3 | 4 => 4 | 51 => 38 | 9 => 9 | 5 => 5 | 0 => 0 | n => n, fun | n => n⟩
theorem Tryz.lays285 : Go.Proofs.Lays.n285 Tryz.prog Tryz.lays285_ren := {
  mixed := by kernel_rfl
  f285 := Tryz.func90.trans (congrArg some (by kernel_rfl))
  t0 := Tryz.underlying0
  a0 := Tryz.isAgg0
  z0 := Tryz.sizeOf0
  v0 := Tryz.zeroValue0
  t3 := Tryz.underlying3
  a3 := Tryz.isAgg3
  z3 := Tryz.sizeOf3
  v3 := Tryz.zeroValue3
  t4 := Tryz.underlying4
  a4 := Tryz.isAgg4
  z4 := Tryz.sizeOf4
  v4 := Tryz.zeroValue4
  t5 := Tryz.underlying5
  a5 := Tryz.isAgg5
  z5 := Tryz.sizeOf5
  v5 := Tryz.zeroValue5
  t9 := Tryz.underlying9
  a9 := Tryz.isAgg9
  z9 := Tryz.sizeOf9
  v9 := Tryz.zeroValue9
  t37 := Tryz.underlying44
  a37 := Tryz.isAgg44
  z37 := Tryz.sizeOf44
  v37 := Tryz.zeroValue44
  t51 := Tryz.underlying38
  a51 := Tryz.isAgg38
  z51 := Tryz.sizeOf38
  v51 := Tryz.zeroValue38
  t53 := Tryz.underlying41
  a53 := Tryz.isAgg41
  z53 := Tryz.sizeOf41
  v53 := Tryz.zeroValue41 }
open Go.RowKit Go.Sort Go.Lib in
theorem Tryz.internal_strconv_formatBase10 (blk off cap : Nat) (u : Nat) (d : Array UInt8) (w : World) (hH : Holds (fun (b : UInt8) => Value.int .u8 (b.toNat : Int)) w blk off d) (hu : u < 10 ^ d.size) (hu64 : u < 18446744073709551616) (hsz : d.size < 4611686018427387904) :
    Calls Tryz.prog 90 #[.slice (some ⟨blk, off, none⟩) d.size cap, .int .u64 u] w fun e w' =>
      e = .returned (.tuple #[]) ∧ ∃ (n v' : Nat) (dk : Array UInt8), w' = (putRow (fun (b : UInt8) => Value.int .u8 (b.toNat : Int)) w blk off dk).drewN n ∧ FmtInv d.size u 0 v' dk := Any.internal_strconv_formatBase10 Tryz.lays285 blk off cap u d w hH hu hu64 hsz
def Tryz.laysM171_ren : Go.Shelf.Ren := ⟨fun | 171 => 34 | 243 => 53 | 246 => 74 | 283 => 88 | 284 => 89 | 285 => 90 | 286 => 91 | 129 => 107 | 317 => 106 | 318 => 108 | 319 => 109 | 320 => 110 | 337 => 119 | 338 => 120 | n => n, fun | 3 => 3 | 9 => 9 | 2 => 2 | 4 => 4 | 171 => 113 | 0 => 0 | 53 => 41 | 37 => 44 | 5 => 5 | 173 => 116 | 212 => 133 | 51 => 38 | 20 => 20 | 213 => 134 | 46 => 106 | 232 => 147 | 233 => 148 | n => n, fun | 17 => 3 | 18 => 6 | 19 => 7 | n => n⟩
theorem Tryz.laysM171 : Go.Proofs.LaysM.n171 Tryz.prog Tryz.laysM171_ren := {
  mixed := by kernel_rfl
  f129 := Tryz.func107.trans (congrArg some (by kernel_rfl))
  f171 := Tryz.func34.trans (congrArg some (by kernel_rfl))
  f243 := Tryz.func53.trans (congrArg some (by kernel_rfl))
  f246 := Tryz.func74.trans (congrArg some (by kernel_rfl))
  f283 := Tryz.func88.trans (congrArg some (by kernel_rfl))
  f284 := Tryz.func89.trans (congrArg some (by kernel_rfl))
  f285 := Tryz.func90.trans (congrArg some (by kernel_rfl))
  f286 := Tryz.func91.trans (congrArg some (by kernel_rfl))
  f317 := Tryz.func106.trans (congrArg some (by kernel_rfl))
  f318 := Tryz.func108.trans (congrArg some (by kernel_rfl))
  f319 := Tryz.func109.trans (congrArg some (by kernel_rfl))
  f320 := Tryz.func110.trans (congrArg some (by kernel_rfl))
  f337 := Tryz.func119.trans (congrArg some (by kernel_rfl))
  f338 := Tryz.func120.trans (congrArg some (by kernel_rfl))
  t0 := Tryz.underlying0
  a0 := Tryz.isAgg0
  z0 := Tryz.sizeOf0
  v0 := Tryz.zeroValue0
  t2 := Tryz.underlying2
  a2 := Tryz.isAgg2
  z2 := Tryz.sizeOf2
  v2 := Tryz.zeroValue2
  t3 := Tryz.underlying3
  a3 := Tryz.isAgg3
  z3 := Tryz.sizeOf3
  v3 := Tryz.zeroValue3
  t4 := Tryz.underlying4
  a4 := Tryz.isAgg4
  z4 := Tryz.sizeOf4
  v4 := Tryz.zeroValue4
  t5 := Tryz.underlying5
  a5 := Tryz.isAgg5
  z5 := Tryz.sizeOf5
  v5 := Tryz.zeroValue5
  t9 := Tryz.underlying9
  a9 := Tryz.isAgg9
  z9 := Tryz.sizeOf9
  v9 := Tryz.zeroValue9
  t20 := Tryz.underlying20
  a20 := Tryz.isAgg20
  z20 := Tryz.sizeOf20
  v20 := Tryz.zeroValue20
  t37 := Tryz.underlying44
  a37 := Tryz.isAgg44
  z37 := Tryz.sizeOf44
  v37 := Tryz.zeroValue44
  t46 := Tryz.underlying106
  a46 := Tryz.isAgg106
  z46 := Tryz.sizeOf106
  v46 := Tryz.zeroValue106
  t51 := Tryz.underlying38
  a51 := Tryz.isAgg38
  z51 := Tryz.sizeOf38
  v51 := Tryz.zeroValue38
  t53 := Tryz.underlying41
  a53 := Tryz.isAgg41
  z53 := Tryz.sizeOf41
  v53 := Tryz.zeroValue41
  t171 := Tryz.underlying113
  a171 := Tryz.isAgg113
  z171 := Tryz.sizeOf113
  v171 := Tryz.zeroValue113
  t173 := Tryz.underlying116
  a173 := Tryz.isAgg116
  z173 := Tryz.sizeOf116
  v173 := Tryz.zeroValue116
  t212 := Tryz.underlying133
  a212 := Tryz.isAgg133
  z212 := Tryz.sizeOf133
  v212 := Tryz.zeroValue133
  t213 := Tryz.underlying134
  a213 := Tryz.isAgg134
  z213 := Tryz.sizeOf134
  t232 := Tryz.underlying147
  a232 := Tryz.isAgg147
  z232 := Tryz.sizeOf147
  v232 := Tryz.zeroValue147
  t233 := Tryz.underlying148
  a233 := Tryz.isAgg148
  z233 := Tryz.sizeOf148
  v233 := Tryz.zeroValue148
  g17 := by kernel_rfl
  g18 := by kernel_rfl
  g19 := by kernel_rfl
  i0 := by kernel_rfl
  i2 := by kernel_rfl
  i3 := by kernel_rfl
  i4 := by kernel_rfl
  i5 := by kernel_rfl
  i9 := by kernel_rfl
  i20 := by kernel_rfl
  i37 := by kernel_rfl
  i46 := by kernel_rfl
  i51 := by kernel_rfl
  i53 := by kernel_rfl
  i171 := by kernel_rfl
  i173 := by kernel_rfl
  i212 := by kernel_rfl
  i232 := by kernel_rfl
  i233 := by kernel_rfl
  m17 := by kernel_rfl
  m18 := by kernel_rfl
  m19 := by kernel_rfl }
open Go.RowKit Go.Sort Go.Lib in
theorem Tryz.strconv_Itoa (n : Int) (h0 : -9223372036854775808 ≤ n) (h1 : n ≤ 9223372036854775807) (w : World) (htab : Lib.TabIs Tryz.prog w "internal/strconv.uint64pow10" .u64 Lib.pow10Tab) :
    Calls Tryz.prog 34 #[.int .i64 n] w fun e w' => e = .returned (.string ⟨(Lib.itoa n).toArray⟩) ∧ ∃ k os, w' = grow (w.drewN k) os := Any.strconv_Itoa Tryz.laysM171 n h0 h1 w htab
def Tryz.laysC172_ren : Go.Shelf.Ren := ⟨fun | 172 => 57 | 244 => 77 | 245 => 78 | 247 => 95 | 279 => 96 | 280 => 97 | 281 => 98 | 282 => 99 | 287 => 81 | 316 => 114 | 171 => 34 | 205 => 115 | 321 => 102 | 322 => 103 | 243 => 53 | 246 => 74 | 283 => 88 | 284 => 89 | 285 => 90 | 286 => 91 | 129 => 107 | 317 => 106 | 318 => 108 | 319 => 109 | 320 => 110 | 337 => 119 | 338 => 120 | n => n, fun | 9 => 9 | 3 => 3 | 75 => 63 | 76 => 64 | 4 => 4 | 5 => 5 | 167 => 121 | 37 => 44 | 0 => 0 | 85 => 122 | 2 => 2 | 168 => 124 | 53 => 41 | 175 => 88 | 46 => 106 | 210 => 139 | 127 => 82 | 145 => 145 | 143 => 143 | 21 => 21 | 171 => 113 | 173 => 116 | 212 => 133 | 51 => 38 | 20 => 20 | 213 => 134 | 232 => 147 | 233 => 148 | 80 => 66 | n => n, fun | 15 => 4 | 16 => 5 | 17 => 3 | 18 => 6 | 19 => 7 | n => n⟩
theorem Tryz.laysC172 : Go.Proofs.LaysC.n172 Tryz.prog Tryz.laysC172_ren := {
  mixed := by kernel_rfl
  f129 := Tryz.func107.trans (congrArg some (by kernel_rfl))
  f171 := Tryz.func34.trans (congrArg some (by kernel_rfl))
  f172 := Tryz.func57.trans (congrArg some (by kernel_rfl))
  f205 := Tryz.func115.trans (congrArg some (by kernel_rfl))
  f243 := Tryz.func53.trans (congrArg some (by kernel_rfl))
  f244 := Tryz.func77.trans (congrArg some (by kernel_rfl))
  f245 := Tryz.func78.trans (congrArg some (by kernel_rfl))
  f246 := Tryz.func74.trans (congrArg some (by kernel_rfl))
  f247 := Tryz.func95.trans (congrArg some (by kernel_rfl))
  f279 := Tryz.func96.trans (congrArg some (by kernel_rfl))
  f280 := Tryz.func97.trans (congrArg some (by kernel_rfl))
  f281 := Tryz.func98.trans (congrArg some (by kernel_rfl))
  f282 := Tryz.func99.trans (congrArg some (by kernel_rfl))
  f283 := Tryz.func88.trans (congrArg some (by kernel_rfl))
  f284 := Tryz.func89.trans (congrArg some (by kernel_rfl))
  f285 := Tryz.func90.trans (congrArg some (by kernel_rfl))
  f286 := Tryz.func91.trans (congrArg some (by kernel_rfl))
  f287 := Tryz.func81.trans (congrArg some (by kernel_rfl))
  f316 := Tryz.func114.trans (congrArg some (by kernel_rfl))
  f317 := Tryz.func106.trans (congrArg some (by kernel_rfl))
  f318 := Tryz.func108.trans (congrArg some (by kernel_rfl))
  f319 := Tryz.func109.trans (congrArg some (by kernel_rfl))
  f320 := Tryz.func110.trans (congrArg some (by kernel_rfl))
  f321 := Tryz.func102.trans (congrArg some (by kernel_rfl))
  f322 := Tryz.func103.trans (congrArg some (by kernel_rfl))
  f337 := Tryz.func119.trans (congrArg some (by kernel_rfl))
  f338 := Tryz.func120.trans (congrArg some (by kernel_rfl))
  t0 := Tryz.underlying0
  a0 := Tryz.isAgg0
  z0 := Tryz.sizeOf0
  v0 := Tryz.zeroValue0
  t2 := Tryz.underlying2
  a2 := Tryz.isAgg2
  z2 := Tryz.sizeOf2
  v2 := Tryz.zeroValue2
  t3 := Tryz.underlying3
  a3 := Tryz.isAgg3
  z3 := Tryz.sizeOf3
  v3 := Tryz.zeroValue3
  t4 := Tryz.underlying4
  a4 := Tryz.isAgg4
  z4 := Tryz.sizeOf4
  v4 := Tryz.zeroValue4
  t5 := Tryz.underlying5
  a5 := Tryz.isAgg5
  z5 := Tryz.sizeOf5
  v5 := Tryz.zeroValue5
  t9 := Tryz.underlying9
  a9 := Tryz.isAgg9
  z9 := Tryz.sizeOf9
  v9 := Tryz.zeroValue9
  t20 := Tryz.underlying20
  a20 := Tryz.isAgg20
  z20 := Tryz.sizeOf20
  v20 := Tryz.zeroValue20
  t21 := Tryz.underlying21
  a21 := Tryz.isAgg21
  z21 := Tryz.sizeOf21
  v21 := Tryz.zeroValue21
  t37 := Tryz.underlying44
  a37 := Tryz.isAgg44
  z37 := Tryz.sizeOf44
  v37 := Tryz.zeroValue44
  t46 := Tryz.underlying106
  a46 := Tryz.isAgg106
  z46 := Tryz.sizeOf106
  v46 := Tryz.zeroValue106
  t51 := Tryz.underlying38
  a51 := Tryz.isAgg38
  z51 := Tryz.sizeOf38
  v51 := Tryz.zeroValue38
  t53 := Tryz.underlying41
  a53 := Tryz.isAgg41
  z53 := Tryz.sizeOf41
  v53 := Tryz.zeroValue41
  t75 := Tryz.underlying63
  a75 := Tryz.isAgg63
  z75 := Tryz.sizeOf63
  v75 := Tryz.zeroValue63
  t76 := Tryz.underlying64
  a76 := Tryz.isAgg64
  z76 := Tryz.sizeOf64
  v76 := Tryz.zeroValue64
  t85 := Tryz.underlying122
  a85 := Tryz.isAgg122
  z85 := Tryz.sizeOf122
  v85 := Tryz.zeroValue122
  t127 := Tryz.underlying82
  a127 := Tryz.isAgg82
  z127 := Tryz.sizeOf82
  v127 := Tryz.zeroValue82
  t143 := Tryz.underlying143
  a143 := Tryz.isAgg143
  z143 := Tryz.sizeOf143
  v143 := Tryz.zeroValue143
  t145 := Tryz.underlying145
  a145 := Tryz.isAgg145
  z145 := Tryz.sizeOf145
  v145 := Tryz.zeroValue145
  t167 := Tryz.underlying121
  a167 := Tryz.isAgg121
  z167 := Tryz.sizeOf121
  v167 := Tryz.zeroValue121
  t168 := Tryz.underlying124
  a168 := Tryz.isAgg124
  z168 := Tryz.sizeOf124
  v168 := Tryz.zeroValue124
  t171 := Tryz.underlying113
  a171 := Tryz.isAgg113
  z171 := Tryz.sizeOf113
  v171 := Tryz.zeroValue113
  t173 := Tryz.underlying116
  a173 := Tryz.isAgg116
  z173 := Tryz.sizeOf116
  v173 := Tryz.zeroValue116
  t175 := Tryz.underlying88
  a175 := Tryz.isAgg88
  z175 := Tryz.sizeOf88
  v175 := Tryz.zeroValue88
  t210 := Tryz.underlying139
  a210 := Tryz.isAgg139
  z210 := Tryz.sizeOf139
  v210 := Tryz.zeroValue139
  t212 := Tryz.underlying133
  a212 := Tryz.isAgg133
  z212 := Tryz.sizeOf133
  v212 := Tryz.zeroValue133
  t213 := Tryz.underlying134
  a213 := Tryz.isAgg134
  z213 := Tryz.sizeOf134
  t232 := Tryz.underlying147
  a232 := Tryz.isAgg147
  z232 := Tryz.sizeOf147
  v232 := Tryz.zeroValue147
  t233 := Tryz.underlying148
  a233 := Tryz.isAgg148
  z233 := Tryz.sizeOf148
  v233 := Tryz.zeroValue148
  g15 := by kernel_rfl
  g16 := by kernel_rfl
  g17 := by kernel_rfl
  g18 := by kernel_rfl
  g19 := by kernel_rfl
  t80 := Tryz.underlying66
  a80 := Tryz.isAgg66
  z80 := Tryz.sizeOf66
  v80 := Tryz.zeroValue66
  i0 := by kernel_rfl
  i2 := by kernel_rfl
  i3 := by kernel_rfl
  i4 := by kernel_rfl
  i5 := by kernel_rfl
  i9 := by kernel_rfl
  i20 := by kernel_rfl
  i21 := by kernel_rfl
  i37 := by kernel_rfl
  i46 := by kernel_rfl
  i51 := by kernel_rfl
  i53 := by kernel_rfl
  i75 := by kernel_rfl
  i76 := by kernel_rfl
  i80 := by kernel_rfl
  i85 := by kernel_rfl
  i127 := by kernel_rfl
  i143 := by kernel_rfl
  i145 := by kernel_rfl
  i167 := by kernel_rfl
  i168 := by kernel_rfl
  i171 := by kernel_rfl
  i173 := by kernel_rfl
  i175 := by kernel_rfl
  i210 := by kernel_rfl
  i212 := by kernel_rfl
  i232 := by kernel_rfl
  i233 := by kernel_rfl
  m15 := by kernel_rfl
  m16 := by kernel_rfl
  m17 := by kernel_rfl
  m18 := by kernel_rfl
  m19 := by kernel_rfl
  c0 := by kernel_rfl
  c2 := by kernel_rfl
  c3 := by kernel_rfl
  c4 := by kernel_rfl
  c5 := by kernel_rfl
  c9 := by kernel_rfl
  c20 := by kernel_rfl
  c21 := by kernel_rfl
  c37 := by kernel_rfl
  c46 := by kernel_rfl
  c51 := by kernel_rfl
  c53 := by kernel_rfl
  c75 := by kernel_rfl
  c76 := by kernel_rfl
  c80 := by kernel_rfl
  c85 := by kernel_rfl
  c127 := by kernel_rfl
  c143 := by kernel_rfl
  c145 := by kernel_rfl
  c167 := by kernel_rfl
  c168 := by kernel_rfl
  c171 := by kernel_rfl
  c173 := by kernel_rfl
  c175 := by kernel_rfl
  c210 := by kernel_rfl
  c212 := by kernel_rfl
  c213 := by kernel_rfl
  c232 := by kernel_rfl
  c233 := by kernel_rfl }
open Go.RowKit in
theorem Tryz.strconv_Atoi_ok (s : ByteArray) (hmax : s.size ≤ 9223372036854775806) (v : Int) (h : Lib.atoiAll s.data.toList = .ok v) (w : World) :
    Calls Tryz.prog 57 #[.string s] w fun e w' => e = .returned (.tuple #[.int .i64 v, .nilIface]) ∧ (w' = w ∨ ∃ t, w' = Lib.bytesWorld w 5 t) := Any.strconv_Atoi_ok Tryz.laysC172 s hmax v h w
open Go.RowKit in
theorem Tryz.strconv_Atoi_range (s : ByteArray) (hlim : s.size ≤ 281474976710656) (h : Lib.atoiAll s.data.toList = .range) (ev : Value) (w : World) (hv : w.cell? ⟨5, 0, none⟩ = some ev) (hev : ev = .nilIface ∨ ∃ te pe, ev = .iface te pe) :
    Calls Tryz.prog 57 #[.string s] w fun e w' => ∃ N, e = .returned (.tuple #[.int .i64 (Lib.atoiSat s.data.toList), .iface 124 (.pointer (some ⟨N, 0, none⟩))]) ∧ w.heap.size ≤ N ∧ w'.heap[N]? = some (.cells #[.string ⟨#[65, 116, 111, 105]⟩, .string s, ev] 139 (0, 0)) ∧ Below w.heap.size w w' := Any.strconv_Atoi_range Tryz.laysC172 s hlim h ev w hv hev
def Tryz.laysPu14_ren : Go.Shelf.Ren := ⟨fun | 14 => 62 | 16 => 81 | 17 => 78 | 19 => 102 | 20 => 103 | 21 => 96 | 22 => 97 | 23 => 98 | 24 => 99 | 25 => 114 | 27 => 34 | 26 => 115 | 28 => 53 | 29 => 74 | 30 => 88 | 31 => 89 | 32 => 90 | 33 => 91 | 35 => 107 | 34 => 106 | 36 => 108 | 37 => 109 | 38 => 110 | 39 => 119 | 40 => 120 | n => n, fun | 9 => 9 | 3 => 3 | 22 => 41 | 24 => 63 | 25 => 88 | 4 => 4 | 34 => 121 | 5 => 5 | 36 => 106 | 37 => 44 | 0 => 0 | 39 => 124 | 21 => 21 | 44 => 139 | 47 => 82 | 50 => 145 | 48 => 143 | 2 => 2 | 52 => 113 | 55 => 116 | 59 => 133 | 60 => 38 | 20 => 20 | 61 => 134 | 65 => 147 | 66 => 148 | 67 => 66 | n => n, fun | 0 => 4 | 1 => 5 | 2 => 3 | 3 => 6 | 4 => 7 | n => n⟩
theorem Tryz.laysPu14 : Go.Proofs.LaysPu.n14 Tryz.prog Tryz.laysPu14_ren := {
  mixed := by kernel_rfl
  f14 := Tryz.func62.trans (congrArg some (by kernel_rfl))
  f16 := Tryz.func81.trans (congrArg some (by kernel_rfl))
  f17 := Tryz.func78.trans (congrArg some (by kernel_rfl))
  f19 := Tryz.func102.trans (congrArg some (by kernel_rfl))
  f20 := Tryz.func103.trans (congrArg some (by kernel_rfl))
  f21 := Tryz.func96.trans (congrArg some (by kernel_rfl))
  f22 := Tryz.func97.trans (congrArg some (by kernel_rfl))
  f23 := Tryz.func98.trans (congrArg some (by kernel_rfl))
  f24 := Tryz.func99.trans (congrArg some (by kernel_rfl))
  f25 := Tryz.func114.trans (congrArg some (by kernel_rfl))
  f26 := Tryz.func115.trans (congrArg some (by kernel_rfl))
  f27 := Tryz.func34.trans (congrArg some (by kernel_rfl))
  f28 := Tryz.func53.trans (congrArg some (by kernel_rfl))
  f29 := Tryz.func74.trans (congrArg some (by kernel_rfl))
  f30 := Tryz.func88.trans (congrArg some (by kernel_rfl))
  f31 := Tryz.func89.trans (congrArg some (by kernel_rfl))
  f32 := Tryz.func90.trans (congrArg some (by kernel_rfl))
  f33 := Tryz.func91.trans (congrArg some (by kernel_rfl))
  f34 := Tryz.func106.trans (congrArg some (by kernel_rfl))
  f35 := Tryz.func107.trans (congrArg some (by kernel_rfl))
  f36 := Tryz.func108.trans (congrArg some (by kernel_rfl))
  f37 := Tryz.func109.trans (congrArg some (by kernel_rfl))
  f38 := Tryz.func110.trans (congrArg some (by kernel_rfl))
  f39 := Tryz.func119.trans (congrArg some (by kernel_rfl))
  f40 := Tryz.func120.trans (congrArg some (by kernel_rfl))
  t0 := Tryz.underlying0
  a0 := Tryz.isAgg0
  z0 := Tryz.sizeOf0
  v0 := Tryz.zeroValue0
  i0 := by kernel_rfl
  t2 := Tryz.underlying2
  a2 := Tryz.isAgg2
  z2 := Tryz.sizeOf2
  v2 := Tryz.zeroValue2
  i2 := by kernel_rfl
  t3 := Tryz.underlying3
  a3 := Tryz.isAgg3
  z3 := Tryz.sizeOf3
  v3 := Tryz.zeroValue3
  i3 := by kernel_rfl
  t4 := Tryz.underlying4
  a4 := Tryz.isAgg4
  z4 := Tryz.sizeOf4
  v4 := Tryz.zeroValue4
  i4 := by kernel_rfl
  t5 := Tryz.underlying5
  a5 := Tryz.isAgg5
  z5 := Tryz.sizeOf5
  v5 := Tryz.zeroValue5
  i5 := by kernel_rfl
  t9 := Tryz.underlying9
  a9 := Tryz.isAgg9
  z9 := Tryz.sizeOf9
  v9 := Tryz.zeroValue9
  i9 := by kernel_rfl
  t20 := Tryz.underlying20
  a20 := Tryz.isAgg20
  z20 := Tryz.sizeOf20
  v20 := Tryz.zeroValue20
  i20 := by kernel_rfl
  t21 := Tryz.underlying21
  a21 := Tryz.isAgg21
  z21 := Tryz.sizeOf21
  v21 := Tryz.zeroValue21
  i21 := by kernel_rfl
  t22 := Tryz.underlying41
  a22 := Tryz.isAgg41
  z22 := Tryz.sizeOf41
  v22 := Tryz.zeroValue41
  i22 := by kernel_rfl
  t24 := Tryz.underlying63
  a24 := Tryz.isAgg63
  z24 := Tryz.sizeOf63
  v24 := Tryz.zeroValue63
  i24 := by kernel_rfl
  t25 := Tryz.underlying88
  a25 := Tryz.isAgg88
  z25 := Tryz.sizeOf88
  v25 := Tryz.zeroValue88
  i25 := by kernel_rfl
  t34 := Tryz.underlying121
  a34 := Tryz.isAgg121
  z34 := Tryz.sizeOf121
  v34 := Tryz.zeroValue121
  i34 := by kernel_rfl
  c34 := by kernel_rfl
  t36 := Tryz.underlying106
  a36 := Tryz.isAgg106
  z36 := Tryz.sizeOf106
  v36 := Tryz.zeroValue106
  i36 := by kernel_rfl
  t37 := Tryz.underlying44
  a37 := Tryz.isAgg44
  z37 := Tryz.sizeOf44
  v37 := Tryz.zeroValue44
  i37 := by kernel_rfl
  t39 := Tryz.underlying124
  a39 := Tryz.isAgg124
  z39 := Tryz.sizeOf124
  v39 := Tryz.zeroValue124
  i39 := by kernel_rfl
  t44 := Tryz.underlying139
  a44 := Tryz.isAgg139
  z44 := Tryz.sizeOf139
  v44 := Tryz.zeroValue139
  i44 := by kernel_rfl
  t47 := Tryz.underlying82
  a47 := Tryz.isAgg82
  z47 := Tryz.sizeOf82
  v47 := Tryz.zeroValue82
  i47 := by kernel_rfl
  t48 := Tryz.underlying143
  a48 := Tryz.isAgg143
  z48 := Tryz.sizeOf143
  v48 := Tryz.zeroValue143
  i48 := by kernel_rfl
  t50 := Tryz.underlying145
  a50 := Tryz.isAgg145
  z50 := Tryz.sizeOf145
  v50 := Tryz.zeroValue145
  i50 := by kernel_rfl
  t52 := Tryz.underlying113
  a52 := Tryz.isAgg113
  z52 := Tryz.sizeOf113
  v52 := Tryz.zeroValue113
  i52 := by kernel_rfl
  t55 := Tryz.underlying116
  a55 := Tryz.isAgg116
  z55 := Tryz.sizeOf116
  v55 := Tryz.zeroValue116
  i55 := by kernel_rfl
  t59 := Tryz.underlying133
  a59 := Tryz.isAgg133
  z59 := Tryz.sizeOf133
  v59 := Tryz.zeroValue133
  i59 := by kernel_rfl
  t60 := Tryz.underlying38
  a60 := Tryz.isAgg38
  z60 := Tryz.sizeOf38
  v60 := Tryz.zeroValue38
  i60 := by kernel_rfl
  t61 := Tryz.underlying134
  a61 := Tryz.isAgg134
  z61 := Tryz.sizeOf134
  t65 := Tryz.underlying147
  a65 := Tryz.isAgg147
  z65 := Tryz.sizeOf147
  v65 := Tryz.zeroValue147
  i65 := by kernel_rfl
  t66 := Tryz.underlying148
  a66 := Tryz.isAgg148
  z66 := Tryz.sizeOf148
  v66 := Tryz.zeroValue148
  i66 := by kernel_rfl
  t67 := Tryz.underlying66
  a67 := Tryz.isAgg66
  z67 := Tryz.sizeOf66
  v67 := Tryz.zeroValue66
  i67 := by kernel_rfl
  g0 := by kernel_rfl
  m0 := by kernel_rfl
  g1 := by kernel_rfl
  m1 := by kernel_rfl
  g2 := by kernel_rfl
  m2 := by kernel_rfl
  g3 := by kernel_rfl
  m3 := by kernel_rfl
  g4 := by kernel_rfl
  m4 := by kernel_rfl }
open Go.RowKit in
theorem Tryz.strconv_ParseUint_10_at64_ok (s : ByteArray) (hmax : s.size ≤ 9223372036854775806) (u : Nat) (h : Lib.parseUintB 64 s.data.toList = .ok u) (w : World) :
    Calls Tryz.prog 62 #[.string s, .int .i64 10, .int .i64 64] w fun e w' => e = .returned (.tuple #[.int .u64 u, .nilIface]) ∧ (w' = w ∨ w' = Lib.bytesWorld w 5 s) := Any.strconv_ParseUint_10_at64_ok Tryz.laysPu14 s hmax u h w
def Tryz.lays145_ren : Go.Shelf.Ren := ⟨fun | 145 => 60 | 220 => 80 | 219 => 101 | 217 => 65 | 225 => 116 | 224 => 117 | 267 => 118 | 266 => 87 | 314 => 123 | n => n, fun | 9 => 9 | 4 => 4 | 59 => 73 | 3 => 3 | 5 => 5 | 46 => 106 | 146 => 129 | 51 => 38 | n => n, fun | 1 => 0 | n => n⟩
theorem Tryz.lays145 : Go.Proofs.Lays.n145 Tryz.prog Tryz.lays145_ren := {
  mixed := by kernel_rfl
  f145 := Tryz.func60.trans (congrArg some (by kernel_rfl))
  f217 := Tryz.func65.trans (congrArg some (by kernel_rfl))
  f219 := Tryz.func101.trans (congrArg some (by kernel_rfl))
  f220 := Tryz.func80.trans (congrArg some (by kernel_rfl))
  f224 := Tryz.func117.trans (congrArg some (by kernel_rfl))
  f225 := Tryz.func116.trans (congrArg some (by kernel_rfl))
  f266 := Tryz.func87.trans (congrArg some (by kernel_rfl))
  f267 := Tryz.func118.trans (congrArg some (by kernel_rfl))
  f314 := Tryz.func123.trans (congrArg some (by kernel_rfl))
  t3 := Tryz.underlying3
  a3 := Tryz.isAgg3
  z3 := Tryz.sizeOf3
  v3 := Tryz.zeroValue3
  t4 := Tryz.underlying4
  a4 := Tryz.isAgg4
  z4 := Tryz.sizeOf4
  v4 := Tryz.zeroValue4
  t5 := Tryz.underlying5
  a5 := Tryz.isAgg5
  z5 := Tryz.sizeOf5
  v5 := Tryz.zeroValue5
  t9 := Tryz.underlying9
  a9 := Tryz.isAgg9
  z9 := Tryz.sizeOf9
  v9 := Tryz.zeroValue9
  t46 := Tryz.underlying106
  a46 := Tryz.isAgg106
  z46 := Tryz.sizeOf106
  v46 := Tryz.zeroValue106
  t51 := Tryz.underlying38
  a51 := Tryz.isAgg38
  z51 := Tryz.sizeOf38
  v51 := Tryz.zeroValue38
  t59 := Tryz.underlying73
  a59 := Tryz.isAgg73
  z59 := Tryz.sizeOf73
  v59 := Tryz.zeroValue73
  t146 := Tryz.underlying129
  a146 := Tryz.isAgg129
  z146 := Tryz.sizeOf129
  v146 := Tryz.zeroValue129
  g1 := by kernel_rfl }
open Go.RowKit Go.Lib in
theorem Tryz.strings_Cut (s sep : ByteArray) (m : Int) (w : World) (hs : s.size < 4294967281) (hm : w.cell? ⟨0, 0, none⟩ = some (.int .i64 m)) :
    Calls Tryz.prog 60 #[.string s, .string sep] w fun e w' => e = .returned (.tuple #[.string ⟨(Lib.cut s.data.toList sep.data.toList).1.toArray⟩, .string ⟨(Lib.cut s.data.toList sep.data.toList).2.1.toArray⟩, .bool (Lib.cut s.data.toList sep.data.toList).2.2]) ∧ ∃ n, w' = w.drewN n := Any.strings_Cut Tryz.lays145 s sep m w hs hm
def Tryz.laysM145_ren : Go.Shelf.Ren := ⟨fun | 145 => 60 | 220 => 80 | 219 => 101 | 217 => 65 | 225 => 116 | 224 => 117 | 267 => 118 | 266 => 87 | 314 => 123 | n => n, fun | 9 => 9 | 4 => 4 | 59 => 73 | 3 => 3 | 5 => 5 | 46 => 106 | 146 => 129 | 51 => 38 | n => n, fun | 1 => 0 | n => n⟩
theorem Tryz.laysM145 : Go.Proofs.LaysM.n145 Tryz.prog Tryz.laysM145_ren := {
  mixed := by kernel_rfl
  f145 := Tryz.func60.trans (congrArg some (by kernel_rfl))
  f217 := Tryz.func65.trans (congrArg some (by kernel_rfl))
  f219 := Tryz.func101.trans (congrArg some (by kernel_rfl))
  f220 := Tryz.func80.trans (congrArg some (by kernel_rfl))
  f224 := Tryz.func117.trans (congrArg some (by kernel_rfl))
  f225 := Tryz.func116.trans (congrArg some (by kernel_rfl))
  f266 := Tryz.func87.trans (congrArg some (by kernel_rfl))
  f267 := Tryz.func118.trans (congrArg some (by kernel_rfl))
  f314 := Tryz.func123.trans (congrArg some (by kernel_rfl))
  t3 := Tryz.underlying3
  a3 := Tryz.isAgg3
  z3 := Tryz.sizeOf3
  v3 := Tryz.zeroValue3
  t4 := Tryz.underlying4
  a4 := Tryz.isAgg4
  z4 := Tryz.sizeOf4
  v4 := Tryz.zeroValue4
  t5 := Tryz.underlying5
  a5 := Tryz.isAgg5
  z5 := Tryz.sizeOf5
  v5 := Tryz.zeroValue5
  t9 := Tryz.underlying9
  a9 := Tryz.isAgg9
  z9 := Tryz.sizeOf9
  v9 := Tryz.zeroValue9
  t46 := Tryz.underlying106
  a46 := Tryz.isAgg106
  z46 := Tryz.sizeOf106
  v46 := Tryz.zeroValue106
  t51 := Tryz.underlying38
  a51 := Tryz.isAgg38
  z51 := Tryz.sizeOf38
  v51 := Tryz.zeroValue38
  t59 := Tryz.underlying73
  a59 := Tryz.isAgg73
  z59 := Tryz.sizeOf73
  v59 := Tryz.zeroValue73
  t146 := Tryz.underlying129
  a146 := Tryz.isAgg129
  z146 := Tryz.sizeOf129
  v146 := Tryz.zeroValue129
  g1 := by kernel_rfl
  i3 := by kernel_rfl
  i4 := by kernel_rfl
  i5 := by kernel_rfl
  i9 := by kernel_rfl
  i46 := by kernel_rfl
  i51 := by kernel_rfl
  i59 := by kernel_rfl
  i146 := by kernel_rfl
  m1 := by kernel_rfl
  s1_3 := fun w h => Go.Proofs.cell_of_shapedOpen_int (zero := #[.int .i64 0]) (t := 3) h (of_decide_eq_true (by kernel_rfl)) (by kernel_rfl) rfl (by kernel_rfl) (by kernel_rfl) Tryz.underlying3 }
def Tryz.lays264_ren : Go.Shelf.Ren := ⟨fun | 264 => 85 | n => n, fun | 53 => 41 | 46 => 106 | n => n, fun | n => n⟩
theorem Tryz.lays264 : Go.Proofs.Lays.n264 Tryz.prog Tryz.lays264_ren := {
  mixed := by kernel_rfl
  f264 := Tryz.func85.trans (congrArg some (by kernel_rfl))
  t46 := Tryz.underlying106
  a46 := Tryz.isAgg106
  z46 := Tryz.sizeOf106
  v46 := Tryz.zeroValue106
  t53 := Tryz.underlying41
  a53 := Tryz.isAgg41
  z53 := Tryz.sizeOf41
  v53 := Tryz.zeroValue41 }
open Go.RowKit Go.Lib in
theorem Tryz.bits_Mul64 (x y : Nat) (hx : x < 18446744073709551616) (hy : y < 18446744073709551616) (w : World) :
    Calls Tryz.prog 85 #[.int .u64 x, .int .u64 y] w fun e w' => e = .returned (.tuple #[.int .u64 ((x * y / 18446744073709551616 : Nat) : Int), .int .u64 ((x * y % 18446744073709551616 : Nat) : Int)]) ∧ w' = w := Any.bits_Mul64 Tryz.lays264 x y hx hy w
def Tryz.lays105_ren : Go.Shelf.Ren := ⟨fun | 105 => 63 | 212 => 82 | 99 => 83 | 165 => 36 | 166 => 37 | 170 => 84 | 169 => 38 | 263 => 104 | 264 => 85 | 206 => 100 | 240 => 55 | 241 => 56 | 276 => 75 | 277 => 76 | n => n, fun | 9 => 9 | 3 => 3 | 4 => 4 | 20 => 20 | 0 => 0 | 46 => 106 | 109 => 107 | 5 => 5 | 72 => 60 | 76 => 64 | 51 => 38 | 146 => 129 | 53 => 41 | 148 => 110 | 70 => 58 | 37 => 44 | 75 => 63 | 127 => 82 | 164 => 102 | 80 => 66 | n => n, fun | n => n⟩
theorem Tryz.lays105 : Go.Proofs.Lays.n105 Tryz.prog Tryz.lays105_ren := {
  mixed := by kernel_rfl
  f99 := Tryz.func83.trans (congrArg some (by kernel_rfl))
  f105 := Tryz.func63.trans (congrArg some (by kernel_rfl))
  f165 := Tryz.func36.trans (congrArg some (by kernel_rfl))
  f166 := Tryz.func37.trans (congrArg some (by kernel_rfl))
  f169 := Tryz.func38.trans (congrArg some (by kernel_rfl))
  f170 := Tryz.func84.trans (congrArg some (by kernel_rfl))
  f206 := Tryz.func100.trans (congrArg some (by kernel_rfl))
  f212 := Tryz.func82.trans (congrArg some (by kernel_rfl))
  f240 := Tryz.func55.trans (congrArg some (by kernel_rfl))
  f241 := Tryz.func56.trans (congrArg some (by kernel_rfl))
  f263 := Tryz.func104.trans (congrArg some (by kernel_rfl))
  f264 := Tryz.func85.trans (congrArg some (by kernel_rfl))
  f276 := Tryz.func75.trans (congrArg some (by kernel_rfl))
  f277 := Tryz.func76.trans (congrArg some (by kernel_rfl))
  t0 := Tryz.underlying0
  a0 := Tryz.isAgg0
  z0 := Tryz.sizeOf0
  v0 := Tryz.zeroValue0
  t3 := Tryz.underlying3
  a3 := Tryz.isAgg3
  z3 := Tryz.sizeOf3
  v3 := Tryz.zeroValue3
  t4 := Tryz.underlying4
  a4 := Tryz.isAgg4
  z4 := Tryz.sizeOf4
  v4 := Tryz.zeroValue4
  t5 := Tryz.underlying5
  a5 := Tryz.isAgg5
  z5 := Tryz.sizeOf5
  v5 := Tryz.zeroValue5
  t9 := Tryz.underlying9
  a9 := Tryz.isAgg9
  z9 := Tryz.sizeOf9
  v9 := Tryz.zeroValue9
  t20 := Tryz.underlying20
  a20 := Tryz.isAgg20
  z20 := Tryz.sizeOf20
  v20 := Tryz.zeroValue20
  t37 := Tryz.underlying44
  a37 := Tryz.isAgg44
  z37 := Tryz.sizeOf44
  v37 := Tryz.zeroValue44
  t46 := Tryz.underlying106
  a46 := Tryz.isAgg106
  z46 := Tryz.sizeOf106
  v46 := Tryz.zeroValue106
  t51 := Tryz.underlying38
  a51 := Tryz.isAgg38
  z51 := Tryz.sizeOf38
  v51 := Tryz.zeroValue38
  t53 := Tryz.underlying41
  a53 := Tryz.isAgg41
  z53 := Tryz.sizeOf41
  v53 := Tryz.zeroValue41
  t70 := Tryz.underlying58
  a70 := Tryz.isAgg58
  z70 := Tryz.sizeOf58
  v70 := Tryz.zeroValue58
  t72 := Tryz.underlying60
  a72 := Tryz.isAgg60
  z72 := Tryz.sizeOf60
  v72 := Tryz.zeroValue60
  t75 := Tryz.underlying63
  a75 := Tryz.isAgg63
  z75 := Tryz.sizeOf63
  v75 := Tryz.zeroValue63
  t76 := Tryz.underlying64
  a76 := Tryz.isAgg64
  z76 := Tryz.sizeOf64
  v76 := Tryz.zeroValue64
  t109 := Tryz.underlying107
  a109 := Tryz.isAgg107
  z109 := Tryz.sizeOf107
  v109 := Tryz.zeroValue107
  t127 := Tryz.underlying82
  a127 := Tryz.isAgg82
  z127 := Tryz.sizeOf82
  v127 := Tryz.zeroValue82
  t146 := Tryz.underlying129
  a146 := Tryz.isAgg129
  z146 := Tryz.sizeOf129
  v146 := Tryz.zeroValue129
  t148 := Tryz.underlying110
  a148 := Tryz.isAgg110
  z148 := Tryz.sizeOf110
  v148 := Tryz.zeroValue110
  t164 := Tryz.underlying102
  a164 := Tryz.isAgg102
  z164 := Tryz.sizeOf102
  v164 := Tryz.zeroValue102 }
theorem Tryz.Builder_Extra_105 : Builder.Extra Tryz.prog Tryz.lays105_ren := {
  sizeBuilder := by kernel_rfl
  liesBuilder := by kernel_rfl
  t5 := Tryz.underlying5
  a5 := Tryz.isAgg5
  z5 := Tryz.sizeOf5
  v5 := Tryz.zeroValue5
  infoByte := by kernel_rfl
  cellsByte := by kernel_rfl
  sizeByte := by kernel_rfl
  neB5 := by decide }
open Go.RowKit Go.Lib in
theorem Tryz.strings_Repeat (s : ByteArray) (c : Nat) (w : World) (hc : c ≤ 9223372036854775807) (hlen : s.size * c ≤ 140737488355328) :
    Calls Tryz.prog 63 #[.string s, .int .i64 c] w fun e w' => e = .returned (.string ⟨(Lib.repeatL s.data.toList c).toArray⟩) ∧ Below w.heap.size w w' := Any.strings_Repeat Tryz.lays105 Tryz.Builder_Extra_105 s c w hc hlen
end Go.Proofs
end

section
namespace Go.Proofs.YtnjobjogddjelaaGreatDoor.Print
open Go.Sort Go.Shelf
open Go.RowKit Go.Proofs.YtnjobjogddjelaaGreatDoorX Go.Proofs.YtnjobjogddjelaaGreatDoorW.PrintWords Go.Proofs.YtnjobjogddjelaaGreatDoorW.PrintLast Go.Proofs.YtnjobjogddjelaaGreatDoorW.PrintMore

/-! ### strings.IndexByte, strings.Join -/
def strings_IndexByte.f (s : ByteArray) (c : Int) : Option Int := some (Lib.indexByte s.data.toList c.toNat.toUInt8)
theorem strings_IndexByte.calls (s : ByteArray) (c r : Int) (w : World) (h : strings_IndexByte.f s c = some r) :
  Calls Tryz.prog 46 #[.string s, .int .u8 c] w fun e w' => e = .returned (.int .i64 r) ∧ Drawn0 w w' := by
 obtain rfl := Option.some.inj h
 exact (Tryz.strings_IndexByte s c w).mono fun e w' hh => ⟨hh.1, 0, by rw [hh.2, World.drewN_zero]⟩
def strings_Join.f (xs : List ByteArray) (sep : ByteArray) : Option ByteArray :=
 if xs.length ≤ 140737488355328 ∧ (Lib.join (xs.map fun x => x.data.toList) sep.data.toList).length ≤ 140737488355328 then some ⟨(Lib.join (xs.map fun x => x.data.toList) sep.data.toList).toArray⟩ else none
theorem strings_Join.calls (A : Option Addr) (c : Nat) (xs : List ByteArray) (sep r : ByteArray) (w : World) (hr : Kd.C Kd.string w A xs.length xs) (hc : xs.length ≤ c) (h : strings_Join.f xs sep = some r) :
  Calls Tryz.prog 21 #[.slice A xs.length c, .string sep] w fun e w' => e = .returned (.string r) ∧ Below w.heap.size w w' := by
 unfold strings_Join.f at h
 by_cases g : xs.length ≤ 140737488355328 ∧ (Lib.join (xs.map fun x => x.data.toList) sep.data.toList).length ≤ 140737488355328
 ·rw [if_pos g] at h
  obtain rfl := Option.some.inj h
  obtain ⟨_, _, hr⟩ := hr
  cases xs with
  | nil => exact (Tryz.strings_Join_none A c sep w).mono fun e w' hh => ⟨hh.1, hh.2 ▸ Below.refl _ _⟩
  | cons x xs =>
   obtain ⟨⟨bk, o, p⟩, rfl, hcell⟩ := hr (by simp)
   have hall : ∀ (j : Nat) (y : ByteArray), (x :: xs)[j]? = some y → w.cell? (Addr.add ⟨bk, o, p⟩ j) = some (.string y) := by
    intro j y hj
    obtain ⟨cs, h1, h2, h3⟩ := hcell j y hj
    have h2 : cs = [.string y] := h2
    subst h2
    have := h3 0 (.string y) rfl
    rw [show j * Kd.string.sz + 0 = j from by show j * 1 + 0 = j; omega] at this
    exact this
   have h0 := hall 0 x rfl
   have hp : p = none := by
    cases p with
    | none => rfl
    | some q =>
     exfalso
     unfold World.cell? at h0
     simp only [Addr.add] at h0
     revert h0
     repeat' split
     all_goals simp_all
   subst hp
   have h0 : w.cell? ⟨bk, o, none⟩ = some (.string x) := h0
   have hb := World.block_lt_of_cell? w _ h0
   exact Tryz.strings_Join bk o c (x :: xs) sep w (fun j y hj => by have := hall j y hj; by_cases hz : j = 0; (subst hz; simpa [Addr.add] using this); (simpa [Addr.add, hz] using this)) hb g.1 hc g.2
 ·rw [if_neg g] at h
  exact absurd h (by simp)
end Go.Proofs.YtnjobjogddjelaaGreatDoor.Print
end

section
namespace Go.Proofs.YtnjobjogddjelaaGreatDoor.Print
open Go.Sort Go.Shelf
open Go.RowKit Go.Proofs.YtnjobjogddjelaaGreatDoorX Go.Proofs.YtnjobjogddjelaaGreatDoorW.PrintWords Go.Proofs.YtnjobjogddjelaaGreatDoorW.PrintLast Go.Proofs.YtnjobjogddjelaaGreatDoorW.PrintMore
attribute [local go_sem] max2_int min2_int max_two min_two max_three min_three max_four min_four

/-! What is asked of the world: a variable that is a number, a table. -/
structure LaidW (w : World) : Prop where
 most : ∃ m, w.cell? ⟨0, 0, none⟩ = some (.int .i64 m)
 syn : ∃ ev, w.cell? ⟨4, 0, none⟩ = some ev ∧ (ev = Value.nilIface ∨ ∃ te pe, ev = Value.iface te pe)
 rng : ∃ ev, w.cell? ⟨5, 0, none⟩ = some ev ∧ (ev = Value.nilIface ∨ ∃ te pe, ev = Value.iface te pe)
 pow : Lib.TabIs Tryz.prog w "internal/strconv.uint64pow10" .u64 Lib.pow10Tab
theorem LaidW.below {w w' : World} (h : LaidW w) (hb : Below w.heap.size w w') : LaidW w' := by
 obtain ⟨⟨m, hm⟩, ⟨es, hs, hs2⟩, ⟨er, hr, hr2⟩, hp⟩ := h
 refine ⟨⟨m, (hb.cell (World.block_lt_of_cell? w _ hm)).trans hm⟩, ⟨es, (hb.cell (World.block_lt_of_cell? w _ hs)).trans hs, hs2⟩, ⟨er, (hb.cell (World.block_lt_of_cell? w _ hr)).trans hr, hr2⟩, ?_⟩
 unfold Lib.TabIs World.var? at *
 cases hg : Tryz.prog.globalNamed "internal/strconv.uint64pow10" with
 | none => simp [hg] at hp
 | some g =>
  simp only [hg, Option.bind_some] at hp ⊢
  have hlt : g < w.heap.size := by
   rcases Nat.lt_or_ge g w.heap.size with h' | h'
   ·exact h'
   ·rw [Array.getElem?_eq_none h'] at hp; simp at hp
  rw [hb.block g hlt]
  exact hp

/-! ### strconv.Itoa -/
theorem grow_below {w : World} (k : Nat) (os : Array Obj) : Below w.heap.size w («Sort».grow (w.drewN k) os) :=
 Lib.below_grow w.heap.size w (Nat.le_refl _) k os
def strconv_Itoa.f (n : Int) : Option ByteArray := if -9223372036854775808 ≤ n ∧ n ≤ 9223372036854775807 then some ⟨(Lib.itoa n).toArray⟩ else none
theorem strconv_Itoa.calls (n : Int) (r : ByteArray) (w : World) (hg_ : LaidW w) (h : strconv_Itoa.f n = some r) :
  Calls Tryz.prog 34 #[.int .i64 n] w fun e w' => e = .returned (.string r) ∧ Below w.heap.size w w' := by
 unfold strconv_Itoa.f at h
 by_cases g : -9223372036854775808 ≤ n ∧ n ≤ 9223372036854775807
 ·rw [if_pos g] at h
  obtain rfl := Option.some.inj h
  refine (Tryz.strconv_Itoa n g.1 g.2 w hg_.pow).mono fun e w' hh => ⟨hh.1, ?_⟩
  obtain ⟨k, os, e2⟩ := hh.2
  rw [e2]
  exact grow_below k os
 ·rw [if_neg g] at h
  exact absurd h (by simp)

/-! ### strings.CutPrefix, strings.Cut, strings.TrimRight, strings.Repeat -/
def strings_CutPrefix.f (s p : ByteArray) : Option (ByteArray × Bool) := some (⟨(Lib.trimPrefix s.data.toList p.data.toList).toArray⟩, Lib.hasPrefix s.data.toList p.data.toList)
theorem strings_CutPrefix.calls (s p : ByteArray) (r1 : ByteArray) (r2 : Bool) (w : World) (h : strings_CutPrefix.f s p = some (r1, r2)) :
  Calls Tryz.prog 59 #[.string s, .string p] w fun e w' => e = .returned (.tuple #[.string r1, .bool r2]) ∧ Drawn0 w w' := by
 obtain ⟨rfl, rfl⟩ := Prod.mk.inj (Option.some.inj h)
 exact (Tryz.strings_CutPrefix s p w).mono fun e w' hh => ⟨hh.1, 0, by rw [hh.2, World.drewN_zero]⟩
def strings_Cut.f (s p : ByteArray) : Option (ByteArray × ByteArray × Bool) :=
 if s.size < 4294967281 then some (⟨(Lib.cut s.data.toList p.data.toList).1.toArray⟩, ⟨(Lib.cut s.data.toList p.data.toList).2.1.toArray⟩, (Lib.cut s.data.toList p.data.toList).2.2) else none
theorem strings_Cut.calls (s p : ByteArray) (r1 r2 : ByteArray) (r3 : Bool) (w : World) (hg_ : LaidW w) (h : strings_Cut.f s p = some (r1, r2, r3)) :
  Calls Tryz.prog 60 #[.string s, .string p] w fun e w' => e = .returned (.tuple #[.string r1, .string r2, .bool r3]) ∧ Below w.heap.size w w' := by
 unfold strings_Cut.f at h
 by_cases c : s.size < 4294967281
 ·rw [if_pos c] at h
  obtain ⟨rfl, h2⟩ := Prod.mk.inj (Option.some.inj h)
  obtain ⟨rfl, rfl⟩ := Prod.mk.inj h2
  obtain ⟨m, hm⟩ := hg_.most
  refine (Tryz.strings_Cut s p m w c hm).mono fun e w' hh => ⟨hh.1, ?_⟩
  obtain ⟨n, e2⟩ := hh.2
  rw [e2]
  exact pw_below_drewN (Below.refl _ _) n
 ·rw [if_neg c] at h
  exact absurd h (by simp)
def strings_TrimRight.f (s p : ByteArray) : Option ByteArray :=
 match p.data.toList with
 | [c] => if c.toNat < 128 ∧ s.size ≤ 9223372036854775807 then some ⟨(Lib.trimRightB s.data.toList c).toArray⟩ else none
 | _ => none
theorem strings_TrimRight.calls (s p : ByteArray) (r : ByteArray) (w : World) (h : strings_TrimRight.f s p = some r) :
  Calls Tryz.prog 52 #[.string s, .string p] w fun e w' => e = .returned (.string r) ∧ Below w.heap.size w w' := by
 obtain ⟨⟨p⟩⟩ := p
 match p, h with
 | [c], h =>
  have h : (if c.toNat < 128 ∧ s.size ≤ 9223372036854775807 then some (⟨(Lib.trimRightB s.data.toList c).toArray⟩ : ByteArray) else none) = some r := h
  by_cases g : c.toNat < 128 ∧ s.size ≤ 9223372036854775807
  ·rw [if_pos g] at h
   obtain rfl := Option.some.inj h
   exact (Tryz.strings_TrimRight_one s c g.1 w g.2).mono fun e w' hh => ⟨hh.1, hh.2 ▸ Below.refl _ _⟩
  ·rw [if_neg g] at h
   exact absurd h (by simp)
def strings_Repeat.f (s : ByteArray) (c : Int) : Option ByteArray :=
 if 0 ≤ c ∧ c ≤ 9223372036854775807 ∧ s.size * c.toNat ≤ 140737488355328 then some ⟨(Lib.repeatL s.data.toList c.toNat).toArray⟩ else none
theorem strings_Repeat.calls (s : ByteArray) (c : Int) (r : ByteArray) (w : World) (h : strings_Repeat.f s c = some r) :
  Calls Tryz.prog 63 #[.string s, .int .i64 c] w fun e w' => e = .returned (.string r) ∧ Below w.heap.size w w' := by
 unfold strings_Repeat.f at h
 by_cases g : 0 ≤ c ∧ c ≤ 9223372036854775807 ∧ s.size * c.toNat ≤ 140737488355328
 ·rw [if_pos g] at h
  obtain rfl := Option.some.inj h
  have hx := Tryz.strings_Repeat s c.toNat w (by omega) g.2.2
  rw [show ((c.toNat : Nat) : Int) = c by omega] at hx
  exact hx
 ·rw [if_neg g] at h
  exact absurd h (by simp)

/-! ### strconv.ParseUint -/
theorem conv_below (w : World) (s : ByteArray) : Below w.heap.size w (Lib.bytesWorld w 5 s) :=
 ⟨rfl, rfl, rfl, by rw [Lib.bytesWorld_size]; omega, fun k hk => Lib.bytesWorld_at_old w 5 s k hk⟩
def strconv_ParseUint.f (s : ByteArray) (b z : Int) : Option (Int × Option Int) :=
 if b = 10 ∧ z = 64 ∧ s.size ≤ 9223372036854775806 then
  match Lib.parseUintB 64 s.data.toList with
  | .ok u => some ((u : Int), none)
  | _ => none
 else none
theorem strconv_ParseUint.calls (s : ByteArray) (b z : Int) (r1 : Int) (r2 : Option Int) (w : World) (h : strconv_ParseUint.f s b z = some (r1, r2)) :
  Calls Tryz.prog 62 #[.string s, .int .i64 b, .int .i64 z] w fun e w' => e = .returned (.tuple #[.int .u64 r1, errW r2]) ∧ Below w.heap.size w w' := by
 unfold strconv_ParseUint.f at h
 by_cases g : b = 10 ∧ z = 64 ∧ s.size ≤ 9223372036854775806
 ·rw [if_pos g] at h
  obtain ⟨rfl, rfl, hs⟩ := g
  split at h
  ·rename_i u hp
   obtain ⟨rfl, rfl⟩ := Prod.mk.inj (Option.some.inj h)
   refine (Tryz.strconv_ParseUint_10_at64_ok s hs u hp w).mono fun e w' hh => ⟨hh.1, ?_⟩
   rcases hh.2 with rfl | rfl
   ·exact Below.refl _ _
   ·exact conv_below w s
  ·exact absurd h (by simp)
 ·rw [if_neg g] at h
  exact absurd h (by simp)

/-! ### strconv.FormatUint -/
theorem holds_zero20 (w : World) (T : TypeId) (nd : Nat) (hs : nd ≤ 24) : Holds (fun (b : UInt8) => Value.int .u8 (b.toNat : Int)) (w.alloc (.cells Lib.zeros24 T)) w.heap.size 0 (Array.replicate nd (0 : UInt8)) := fun j hj => by
 have hj' : j < nd := by simpa using hj
 refine ⟨?_, World.frozen?_alloc_new _ _ _ _⟩
 rw [World.cell?_alloc_new, Lib.zeros24_at _ (by omega), getElem!_pos _ j hj]
 simp
theorem fin20 (w : World) (o : Obj) (dk : Array UInt8) (k : Nat) : Below w.heap.size w ((putRow (fun (b : UInt8) => Value.int .u8 (b.toNat : Int)) (w.alloc o) w.heap.size 0 dk).drewN k) := by
 rw [alloc_eq_grow]
 obtain ⟨os', _, e⟩ := putRow_grow_new (fun (b : UInt8) => Value.int .u8 (b.toNat : Int)) w #[o] w.heap.size 0 dk (Nat.le_refl _)
 rw [e]
 exact Lib.below_grow w.heap.size w (Nat.le_refl _) k os'
def strconv_FormatUint.f (u b : Int) : Option ByteArray := if b = 10 ∧ 0 ≤ u ∧ u < 18446744073709551616 then some ⟨(Lib.decDigits u.toNat).toArray⟩ else none
set_option maxRecDepth 100000 in
theorem internal_FormatUint.calls (u : Nat) (hu64 : u < 18446744073709551616) (w : World) (hg_ : LaidW w) :
  Calls Tryz.prog 69 #[.int .u64 u, .int .i64 10] w fun e w' => e = .returned (.string ⟨(Lib.decDigits u).toArray⟩) ∧ Below w.heap.size w w' := by
 by_cases hs : u < 100
 ·have hi : ((u : Int) < 100) = True := eq_true (by omega)
  have hw : wrap64 (u : Int) = (u : Int) := by unfold wrap64; omega
  go_enter Tryz.func69, Tryz.ntmps69
  go_wp2_with (go_at_call 88; refine (Tryz.internal_strconv_small u hs _).mono ?_; rintro e w' ⟨rfl, rfl⟩)
  go_ret
  exact ⟨rfl, Below.refl _ _⟩
 ·have hi : ((u : Int) < 100) = False := eq_false (by omega)
  have hu1 : 1 ≤ u := by omega
  have hnd20 : Lib.nDigits u ≤ 20 := by have := Lib.numDigits_eq u hu1 hu64; split at this <;> omega
  have hal : Tryz.prog.arrayLen 113 = 24 := by kernel_rfl
  have hsl1 : ∀ W, (Instr.sliceAt 113 (.pointer (some ⟨w.heap.size, 0, none⟩)) none (some (.int .i64 (Lib.nDigits u : Int))) none).run Tryz.prog W = .ok (.slice (some ⟨w.heap.size, 0, none⟩) (Lib.nDigits u) 24) W := fun W => by
   rw [run_sliceAt_array_h W 113 ⟨w.heap.size, 0, none⟩ (by kernel_rfl) .i64 (Lib.nDigits u : Int) (by omega) (by rw [hal]; omega), hal]
   go_simp
  have hH0 := holds_zero20 w 113 (Lib.nDigits u) (by omega)
  have hfmt := Tryz.internal_strconv_formatBase10 w.heap.size 0 24 u (Array.replicate (Lib.nDigits u) 0) (w.alloc (.cells Lib.zeros24 113)) hH0 (by rw [Array.size_replicate]; exact Lib.lt_pow_nDigits u) hu64 (by rw [Array.size_replicate]; omega)
  rw [Array.size_replicate] at hfmt
  have HH0 := Lib.hid hH0
  clear hH0 hal
  go_enter Tryz.func69, Tryz.ntmps69
  go_wp2_with (first
   | (go_at_call 89; refine (Tryz.internal_strconv_numDigits u hu1 hu64 _ (Lib.tabIs_alloc hg_.pow _)).mono ?_; rintro e w' ⟨rfl, rfl⟩))
  go_at_call 90
  refine hfmt.mono ?_
  rintro e w' ⟨rfl, k, v', dk, rfl, hF⟩
  have hcv : (convert 44 9 (.slice (some ⟨w.heap.size, 0, none⟩) (Lib.nDigits u) 24)).run Tryz.prog ((putRow (fun (b : UInt8) => Value.int .u8 (b.toNat : Int)) (w.alloc (.cells Lib.zeros24 113)) w.heap.size 0 dk).drewN k) = .ok (.string ⟨(Lib.decDigits u).toArray⟩) ((putRow (fun (b : UInt8) => Value.int .u8 (b.toNat : Int)) (w.alloc (.cells Lib.zeros24 113)) w.heap.size 0 dk).drewN k) := by
   have h := run_convert_bytes_back (P := Tryz.prog) ((putRow (fun (b : UInt8) => Value.int .u8 (b.toNat : Int)) (w.alloc (.cells Lib.zeros24 113)) w.heap.size 0 dk).drewN k) 44 9 5 ⟨w.heap.size, 0, none⟩ 24 (Lib.decDigits u) (by kernel_rfl) (by kernel_rfl) (by kernel_rfl) (fun j hj => by
    rw [Lib.row_is_numeral hF j hj, Lib.add_plain, World.cell?_drewN]
    exact cell?_putRow (fun (b : UInt8) => Value.int .u8 (b.toNat : Int)) _ w.heap.size 0 _ dk HH0.out (by rw [hF.size, Array.size_replicate]) j (by rw [hF.size]; rw [Lib.decDigits_length] at hj; exact hj))
   rw [Lib.decDigits_length] at h
   exact h
  go_wp2
  go_ret
  exact ⟨rfl, fin20 w _ dk k⟩
theorem strconv_FormatUint.calls (u b : Int) (r : ByteArray) (w : World) (hg_ : LaidW w) (h : strconv_FormatUint.f u b = some r) :
  Calls Tryz.prog 51 #[.int .u64 u, .int .i64 b] w fun e w' => e = .returned (.string r) ∧ Below w.heap.size w w' := by
 unfold strconv_FormatUint.f at h
 by_cases g : b = 10 ∧ 0 ≤ u ∧ u < 18446744073709551616
 ·rw [if_pos g] at h
  obtain ⟨rfl, h0, h1⟩ := g
  obtain ⟨u, rfl⟩ : ∃ n : Nat, u = n := ⟨u.toNat, by omega⟩
  obtain rfl := Option.some.inj h
  go_enter Tryz.func51, Tryz.ntmps51
  go_wp2_with (go_at_call 69; refine (internal_FormatUint.calls u (by omega) _ hg_).mono ?_; rintro e w' ⟨rfl, hb⟩)
  go_ret
  exact ⟨rfl, hb⟩
 ·rw [if_neg g] at h
  exact absurd h (by simp)

/-! ### math/bits -/
def bits_Mul64.f (a b : Int) : Option (Int × Int) := if 0 ≤ a ∧ a < 18446744073709551616 ∧ 0 ≤ b ∧ b < 18446744073709551616 then some (a * b / 18446744073709551616, a * b % 18446744073709551616) else none
theorem bits_Mul64.calls (a b : Int) (r1 r2 : Int) (w : World) (h : bits_Mul64.f a b = some (r1, r2)) :
  Calls Tryz.prog 85 #[.int .u64 a, .int .u64 b] w fun e w' => e = .returned (.tuple #[.int .u64 r1, .int .u64 r2]) ∧ Drawn0 w w' := by
 unfold bits_Mul64.f at h
 by_cases g : 0 ≤ a ∧ a < 18446744073709551616 ∧ 0 ≤ b ∧ b < 18446744073709551616
 ·rw [if_pos g] at h
  obtain ⟨h0, h1, h2, h3⟩ := g
  obtain ⟨a, rfl⟩ : ∃ n : Nat, a = n := ⟨a.toNat, by omega⟩
  obtain ⟨b, rfl⟩ : ∃ n : Nat, b = n := ⟨b.toNat, by omega⟩
  obtain ⟨rfl, rfl⟩ := Prod.mk.inj (Option.some.inj h)
  refine (Tryz.bits_Mul64 a b (by omega) (by omega) w).mono fun e w' hh => ⟨?_, 0, by rw [hh.2, World.drewN_zero]⟩
  rw [hh.1]
  rfl
 ·rw [if_neg g] at h
  exact absurd h (by simp)
def bits_LeadingZeros64.f (x : Int) : Option Int := if 0 ≤ x ∧ x ≤ 18446744073709551615 then some (64 - (Lib.bitLen x.toNat : Int)) else none
theorem bits_LeadingZeros64.calls (x : Int) (r : Int) (w : World) (h : bits_LeadingZeros64.f x = some r) :
  Calls Tryz.prog 105 #[.int .u64 x] w fun e w' => e = .returned (.int .i64 r) ∧ Drawn0 w w' := by
 unfold bits_LeadingZeros64.f at h
 by_cases g : 0 ≤ x ∧ x ≤ 18446744073709551615
 ·rw [if_pos g] at h
  obtain rfl := Option.some.inj h
  exact (Tryz.bits_LeadingZeros64 x w g.1 g.2).mono fun e w' hh => ⟨hh.1, 0, by rw [hh.2, World.drewN_zero]⟩
 ·rw [if_neg g] at h
  exact absurd h (by simp)
end Go.Proofs.YtnjobjogddjelaaGreatDoor.Print
end

section
namespace Go.Proofs.YtnjobjogddjelaaGreatDoor
open Go.ChangeShapes Go.WideShapes Go.ChangeAt Go.RowKit
noncomputable abbrev laidList : List (String × DataW Unit) := Rows.lexTellsRow.laid
def intsOf : DataW Unit → List Int
 | .agg l => l.filterMap fun | .lit (.int _ n) => some n | _ => none
 | _ => []
/-- THE WITNESS: the settled world with the two errors' blocks, and the seven variables holding what their initialisers lay. -/
noncomputable def laidWorld (os : Os) : World :=
 let N := (World.settled Tryz.prog os).heap.size
 let w0 := World.holding Tryz.prog os ⟨#[
  .cells #[.string ⟨#[118, 97, 108, 117, 101, 32, 111, 117, 116, 32, 111, 102, 32, 114, 97, 110, 103, 101]⟩] 145, .cells #[.string ⟨#[105, 110, 118, 97, 108, 105, 100, 32, 115, 121, 110, 116, 97, 120]⟩] 145], #[], []⟩
 let put (h : Array Obj) (g : Nat) (cs : Array Value) : Array Obj := h.modify g fun
  | .cells _ t frozen => .cells cs t frozen
  | o => o
 let h0 := put (put w0.heap 5 #[.iface 143 (.pointer (some ⟨N, 0, none⟩))]) 4 #[.iface 143 (.pointer (some ⟨N + 1, 0, none⟩))]
 let h1 := put h0 8 (Lib.firstTab.map fun z => Value.int .u8 z).toArray
 let h2 := put h1 9 ((List.range 16).flatMap fun i => [Value.int .u8 (Lib.accLo i), Value.int .u8 (Lib.accHi i)]).toArray
 let h3 := put h2 6 ((intsOf Rows.laid_math_bits_deBruijn32tab).map fun z => Value.int .u8 z).toArray
 let h4 := put h3 7 ((intsOf Rows.laid_math_bits_deBruijn64tab).map fun z => Value.int .u8 z).toArray
 let h5 := put h4 3 (Lib.pow10Tab.map fun z => Value.int .u64 z).toArray
 { w0 with heap := h5 }
theorem laid_met (os : Os) (args : Array Value) : laidMet Tryz.prog laidList ((laidWorld os).forCall (fun _ _ => 0) ⟨#[], args, []⟩).memory :=
 laidMet_of_run3 10 (by kernel_rfl) (by kernel_rfl) (by kernel_rfl)
theorem star : "*" ++ "errors.errorString" = "*errors.errorString" := by decide
theorem row143 (u : TypeId) (h : Tryz.prog.typeName? 3 u = some "*errors.errorString") : u = 143 :=
 typeName_ptr_named (nm := "errors.errorString") (by rw [star]; kernel_rfl) (by kernel_rfl) (by decide) u (by rw [star]; exact h)
/-- What the walks ask. -/
theorem laidW {W : World} (hL : laidMetH Tryz.prog laidList W) (hS : W.ShapedOpen Tryz.prog) : Print.LaidW W := by
 have hL' : laidMet Tryz.prog laidList W := hL
 have h2 := hL'.tail.tail
 have h4 := h2.tail.tail
 have h5 := h4.tail
 refine ⟨Tryz.laysM145.s1_3 W hS, ?_, ?_, ?_⟩
 ·obtain ⟨a, s, hv, _⟩ := laid_sentinel (g := 4) (ti := 63) (tp := 143) (te := 145) (ts := 9) (f := { name := "s", type := 9, offset := 0, embedded := false, tag := "", pkgPath := "errors", byteOffset := 0 }) h5 (by kernel_rfl) (by kernel_rfl) Tryz.underlying63 row143 (by kernel_rfl) (by kernel_rfl) rfl rfl (by kernel_rfl) (by kernel_rfl) (by kernel_rfl)
  exact ⟨_, World.var?_cell (by kernel_rfl) hv 0, Or.inr ⟨_, _, rfl⟩⟩
 ·obtain ⟨a, s, hv, _⟩ := laid_sentinel (g := 5) (ti := 63) (tp := 143) (te := 145) (ts := 9) (f := { name := "s", type := 9, offset := 0, embedded := false, tag := "", pkgPath := "errors", byteOffset := 0 }) h4 (by kernel_rfl) (by kernel_rfl) Tryz.underlying63 row143 (by kernel_rfl) (by kernel_rfl) rfl rfl (by kernel_rfl) (by kernel_rfl) (by kernel_rfl)
  exact ⟨_, World.var?_cell (by kernel_rfl) hv 0, Or.inr ⟨_, _, rfl⟩⟩
 ·exact Lib.tabIs_of_head (g := 3) (t := 133) (e := 41) (n := 20) (by kernel_rfl) (by kernel_rfl) (by kernel_rfl) (by kernel_rfl) (by kernel_rfl) (by kernel_rfl) h2
end Go.Proofs.YtnjobjogddjelaaGreatDoor
end

section
namespace Go.Proofs.YtnjobjogddjelaaGreatDoor.Print
open Go.RowKit Go.Proofs.YtnjobjogddjelaaGreatDoorX Go.Proofs.YtnjobjogddjelaaGreatDoorW.PrintWords Go.Proofs.YtnjobjogddjelaaGreatDoorW.PrintLast Go.Proofs.YtnjobjogddjelaaGreatDoorW.PrintMore
attribute [local go_sem] max2_int min2_int max_two min_two max_three min_three max_four min_four

/-! ### bits_Div64: function 86 -/
mutual
def bits_Div64.j2 : Nat → Int → Int → Int → Int → Int → Int → Int → Int → Option (Int × Int)
 | 0, _, _, _, _, _, _, _, _ => none
 | k + 1, x2, x8, x9, x10, x11, x13, x14, x15 => if x9 = 0 then (none) else (bits_Div64.l1 k x2 x8 x9 x10 x14 x15 (IntKind.u64.wrap ((IntKind.u64.wrap ((IntKind.u64.wrap ((IntKind.u64.wrap (x11 * 4294967296)) + x13)) - (IntKind.u64.wrap (x15 * x2)))) - (IntKind.u64.wrap ((IntKind.u64.wrap (Int.tdiv (IntKind.u64.wrap ((IntKind.u64.wrap ((IntKind.u64.wrap (x11 * 4294967296)) + x13)) - (IntKind.u64.wrap (x15 * x2)))) x9)) * x9)))) (IntKind.u64.wrap ((IntKind.u64.wrap ((IntKind.u64.wrap (x11 * 4294967296)) + x13)) - (IntKind.u64.wrap (x15 * x2)))) (IntKind.u64.wrap (Int.tdiv (IntKind.u64.wrap ((IntKind.u64.wrap ((IntKind.u64.wrap (x11 * 4294967296)) + x13)) - (IntKind.u64.wrap (x15 * x2)))) x9)))
def bits_Div64.l1 : Nat → Int → Int → Int → Int → Int → Int → Int → Int → Int → Option (Int × Int)
 | 0, _, _, _, _, _, _, _, _, _ => none
 | k + 1, x2, x8, x9, x10, x14, x15, x16, x17, x18 => if x18 ≥ 4294967296 then (bits_Div64.j4 k x2 x8 x9 x10 x14 x15 x16 x17 x18 true) else (bits_Div64.j4 k x2 x8 x9 x10 x14 x15 x16 x17 x18 (decide ((IntKind.u64.wrap (x18 * x10)) > (IntKind.u64.wrap ((IntKind.u64.wrap (4294967296 * x16)) + x14)))))
def bits_Div64.j4 : Nat → Int → Int → Int → Int → Int → Int → Int → Int → Int → Bool → Option (Int × Int)
 | 0, _, _, _, _, _, _, _, _, _, _ => none
 | k + 1, x2, x8, x9, x10, x14, x15, x16, x17, x18, x113 => if x113 = true then (if (IntKind.u64.wrap (x16 + x9)) ≥ 4294967296 then (if 0 ≤ x8 then (some (IntKind.u64.wrap ((IntKind.u64.wrap (x15 * 4294967296)) + (IntKind.u64.wrap (x18 - 1))), shr .u64 (IntKind.u64.wrap ((IntKind.u64.wrap ((IntKind.u64.wrap (x17 * 4294967296)) + x14)) - (IntKind.u64.wrap ((IntKind.u64.wrap (x18 - 1)) * x2)))) x8)) else (none)) else (bits_Div64.l1 k x2 x8 x9 x10 x14 x15 (IntKind.u64.wrap (x16 + x9)) x17 (IntKind.u64.wrap (x18 - 1)))) else (if 0 ≤ x8 then (some (IntKind.u64.wrap ((IntKind.u64.wrap (x15 * 4294967296)) + x18), shr .u64 (IntKind.u64.wrap ((IntKind.u64.wrap ((IntKind.u64.wrap (x17 * 4294967296)) + x14)) - (IntKind.u64.wrap (x18 * x2)))) x8)) else (none))
def bits_Div64.l0 : Nat → Int → Int → Int → Int → Int → Int → Int → Int → Int → Option (Int × Int)
 | 0, _, _, _, _, _, _, _, _, _ => none
 | k + 1, x2, x8, x9, x10, x11, x13, x14, x15, x16 => if x15 ≥ 4294967296 then (bits_Div64.j1 k x2 x8 x9 x10 x11 x13 x14 x15 x16 true) else (bits_Div64.j1 k x2 x8 x9 x10 x11 x13 x14 x15 x16 (decide ((IntKind.u64.wrap (x15 * x10)) > (IntKind.u64.wrap ((IntKind.u64.wrap (4294967296 * x16)) + x13)))))
def bits_Div64.j1 : Nat → Int → Int → Int → Int → Int → Int → Int → Int → Int → Bool → Option (Int × Int)
 | 0, _, _, _, _, _, _, _, _, _, _ => none
 | k + 1, x2, x8, x9, x10, x11, x13, x14, x15, x16, x78 => if x78 = true then (if (IntKind.u64.wrap (x16 + x9)) ≥ 4294967296 then (bits_Div64.j2 k x2 x8 x9 x10 x11 x13 x14 (IntKind.u64.wrap (x15 - 1))) else (bits_Div64.l0 k x2 x8 x9 x10 x11 x13 x14 (IntKind.u64.wrap (x15 - 1)) (IntKind.u64.wrap (x16 + x9)))) else (bits_Div64.j2 k x2 x8 x9 x10 x11 x13 x14 x15)
end
def bits_Div64.f (k : Nat) (a0 : Int) (a1 : Int) (a2 : Int) : Option (Int × Int) := if a2 = 0 then (none) else (if a2 ≤ a0 then (none) else (if a0 = 0 then (some (IntKind.u64.wrap (Int.tdiv a1 a2), Int.tmod a1 a2)) else ((bits_LeadingZeros64.f a2).bind fun t104 => (if 0 ≤ (IntKind.u64.wrap (t104)) then (if 0 ≤ (IntKind.u64.wrap (64 - (IntKind.u64.wrap (t104)))) then (if ((shl .u64 a2 (IntKind.u64.wrap (t104))) / 4294967296) = 0 then (none) else (bits_Div64.l0 k (shl .u64 a2 (IntKind.u64.wrap (t104))) (IntKind.u64.wrap (t104)) ((shl .u64 a2 (IntKind.u64.wrap (t104))) / 4294967296) (Go.bits .and .u64 (shl .u64 a2 (IntKind.u64.wrap (t104))) 4294967295) (Go.bits .or .u64 (shl .u64 a0 (IntKind.u64.wrap (t104))) (shr .u64 a1 (IntKind.u64.wrap (64 - (IntKind.u64.wrap (t104)))))) ((shl .u64 a1 (IntKind.u64.wrap (t104))) / 4294967296) (Go.bits .and .u64 (shl .u64 a1 (IntKind.u64.wrap (t104))) 4294967295) (IntKind.u64.wrap (Int.tdiv (Go.bits .or .u64 (shl .u64 a0 (IntKind.u64.wrap (t104))) (shr .u64 a1 (IntKind.u64.wrap (64 - (IntKind.u64.wrap (t104)))))) ((shl .u64 a2 (IntKind.u64.wrap (t104))) / 4294967296))) (IntKind.u64.wrap ((Go.bits .or .u64 (shl .u64 a0 (IntKind.u64.wrap (t104))) (shr .u64 a1 (IntKind.u64.wrap (64 - (IntKind.u64.wrap (t104)))))) - (IntKind.u64.wrap ((IntKind.u64.wrap (Int.tdiv (Go.bits .or .u64 (shl .u64 a0 (IntKind.u64.wrap (t104))) (shr .u64 a1 (IntKind.u64.wrap (64 - (IntKind.u64.wrap (t104)))))) ((shl .u64 a2 (IntKind.u64.wrap (t104))) / 4294967296))) * ((shl .u64 a2 (IntKind.u64.wrap (t104))) / 4294967296))))))) else (none)) else (none)))))
theorem bits_Div64.mono_l : ∀ k, (∀ y0 y1 y2 y3 y4 y5 y6 y7, LeO (bits_Div64.j2 k y0 y1 y2 y3 y4 y5 y6 y7) (bits_Div64.j2 (k + 1) y0 y1 y2 y3 y4 y5 y6 y7)) ∧ (∀ y0 y1 y2 y3 y4 y5 y6 y7 y8, LeO (bits_Div64.l1 k y0 y1 y2 y3 y4 y5 y6 y7 y8) (bits_Div64.l1 (k + 1) y0 y1 y2 y3 y4 y5 y6 y7 y8)) ∧ (∀ y0 y1 y2 y3 y4 y5 y6 y7 y8 y9, LeO (bits_Div64.j4 k y0 y1 y2 y3 y4 y5 y6 y7 y8 y9) (bits_Div64.j4 (k + 1) y0 y1 y2 y3 y4 y5 y6 y7 y8 y9)) ∧ (∀ y0 y1 y2 y3 y4 y5 y6 y7 y8, LeO (bits_Div64.l0 k y0 y1 y2 y3 y4 y5 y6 y7 y8) (bits_Div64.l0 (k + 1) y0 y1 y2 y3 y4 y5 y6 y7 y8)) ∧ (∀ y0 y1 y2 y3 y4 y5 y6 y7 y8 y9, LeO (bits_Div64.j1 k y0 y1 y2 y3 y4 y5 y6 y7 y8 y9) (bits_Div64.j1 (k + 1) y0 y1 y2 y3 y4 y5 y6 y7 y8 y9))
 | 0 => ⟨fun _ _ _ _ _ _ _ _ r h => by simp [bits_Div64.j2] at h, fun _ _ _ _ _ _ _ _ _ r h => by simp [bits_Div64.l1] at h, fun _ _ _ _ _ _ _ _ _ _ r h => by simp [bits_Div64.j4] at h, fun _ _ _ _ _ _ _ _ _ r h => by simp [bits_Div64.l0] at h, fun _ _ _ _ _ _ _ _ _ _ r h => by simp [bits_Div64.j1] at h⟩
 | k + 1 => by
  obtain ⟨ih0, ih1, ih2, ih3, ih4⟩ := bits_Div64.mono_l k
  refine ⟨?_, ?_, ?_, ?_, ?_⟩
  ·intro y0 y1 y2 y3 y4 y5 y6 y7
   unfold bits_Div64.j2
   repeat' first
   | (with_reducible exact ih0 _ _ _ _ _ _ _ _)
   | (with_reducible exact ih1 _ _ _ _ _ _ _ _ _)
   | (with_reducible exact ih2 _ _ _ _ _ _ _ _ _ _)
   | (with_reducible exact ih3 _ _ _ _ _ _ _ _ _)
   | (with_reducible exact ih4 _ _ _ _ _ _ _ _ _ _)
   | (with_reducible exact LeO.refl _)
   | (with_reducible exact LeO.none _)
   | (with_reducible refine LeO.ite ?_ ?_)
   | (with_reducible refine LeO.bind ?_ (fun _ => ?_))
   | exact ih0 _ _ _ _ _ _ _ _
   | exact ih1 _ _ _ _ _ _ _ _ _
   | exact ih2 _ _ _ _ _ _ _ _ _ _
   | exact ih3 _ _ _ _ _ _ _ _ _
   | exact ih4 _ _ _ _ _ _ _ _ _ _
   | exact LeO.none _
   | refine LeO.ite ?_ ?_
   | refine LeO.bind ?_ (fun _ => ?_)
  ·intro y0 y1 y2 y3 y4 y5 y6 y7 y8
   unfold bits_Div64.l1
   repeat' first
   | (with_reducible exact ih0 _ _ _ _ _ _ _ _)
   | (with_reducible exact ih1 _ _ _ _ _ _ _ _ _)
   | (with_reducible exact ih2 _ _ _ _ _ _ _ _ _ _)
   | (with_reducible exact ih3 _ _ _ _ _ _ _ _ _)
   | (with_reducible exact ih4 _ _ _ _ _ _ _ _ _ _)
   | (with_reducible exact LeO.refl _)
   | (with_reducible exact LeO.none _)
   | (with_reducible refine LeO.ite ?_ ?_)
   | (with_reducible refine LeO.bind ?_ (fun _ => ?_))
   | exact ih0 _ _ _ _ _ _ _ _
   | exact ih1 _ _ _ _ _ _ _ _ _
   | exact ih2 _ _ _ _ _ _ _ _ _ _
   | exact ih3 _ _ _ _ _ _ _ _ _
   | exact ih4 _ _ _ _ _ _ _ _ _ _
   | exact LeO.none _
   | refine LeO.ite ?_ ?_
   | refine LeO.bind ?_ (fun _ => ?_)
  ·intro y0 y1 y2 y3 y4 y5 y6 y7 y8 y9
   unfold bits_Div64.j4
   repeat' first
   | (with_reducible exact ih0 _ _ _ _ _ _ _ _)
   | (with_reducible exact ih1 _ _ _ _ _ _ _ _ _)
   | (with_reducible exact ih2 _ _ _ _ _ _ _ _ _ _)
   | (with_reducible exact ih3 _ _ _ _ _ _ _ _ _)
   | (with_reducible exact ih4 _ _ _ _ _ _ _ _ _ _)
   | (with_reducible exact LeO.refl _)
   | (with_reducible exact LeO.none _)
   | (with_reducible refine LeO.ite ?_ ?_)
   | (with_reducible refine LeO.bind ?_ (fun _ => ?_))
   | exact ih0 _ _ _ _ _ _ _ _
   | exact ih1 _ _ _ _ _ _ _ _ _
   | exact ih2 _ _ _ _ _ _ _ _ _ _
   | exact ih3 _ _ _ _ _ _ _ _ _
   | exact ih4 _ _ _ _ _ _ _ _ _ _
   | exact LeO.none _
   | refine LeO.ite ?_ ?_
   | refine LeO.bind ?_ (fun _ => ?_)
  ·intro y0 y1 y2 y3 y4 y5 y6 y7 y8
   unfold bits_Div64.l0
   repeat' first
   | (with_reducible exact ih0 _ _ _ _ _ _ _ _)
   | (with_reducible exact ih1 _ _ _ _ _ _ _ _ _)
   | (with_reducible exact ih2 _ _ _ _ _ _ _ _ _ _)
   | (with_reducible exact ih3 _ _ _ _ _ _ _ _ _)
   | (with_reducible exact ih4 _ _ _ _ _ _ _ _ _ _)
   | (with_reducible exact LeO.refl _)
   | (with_reducible exact LeO.none _)
   | (with_reducible refine LeO.ite ?_ ?_)
   | (with_reducible refine LeO.bind ?_ (fun _ => ?_))
   | exact ih0 _ _ _ _ _ _ _ _
   | exact ih1 _ _ _ _ _ _ _ _ _
   | exact ih2 _ _ _ _ _ _ _ _ _ _
   | exact ih3 _ _ _ _ _ _ _ _ _
   | exact ih4 _ _ _ _ _ _ _ _ _ _
   | exact LeO.none _
   | refine LeO.ite ?_ ?_
   | refine LeO.bind ?_ (fun _ => ?_)
  ·intro y0 y1 y2 y3 y4 y5 y6 y7 y8 y9
   unfold bits_Div64.j1
   repeat' first
   | (with_reducible exact ih0 _ _ _ _ _ _ _ _)
   | (with_reducible exact ih1 _ _ _ _ _ _ _ _ _)
   | (with_reducible exact ih2 _ _ _ _ _ _ _ _ _ _)
   | (with_reducible exact ih3 _ _ _ _ _ _ _ _ _)
   | (with_reducible exact ih4 _ _ _ _ _ _ _ _ _ _)
   | (with_reducible exact LeO.refl _)
   | (with_reducible exact LeO.none _)
   | (with_reducible refine LeO.ite ?_ ?_)
   | (with_reducible refine LeO.bind ?_ (fun _ => ?_))
   | exact ih0 _ _ _ _ _ _ _ _
   | exact ih1 _ _ _ _ _ _ _ _ _
   | exact ih2 _ _ _ _ _ _ _ _ _ _
   | exact ih3 _ _ _ _ _ _ _ _ _
   | exact ih4 _ _ _ _ _ _ _ _ _ _
   | exact LeO.none _
   | refine LeO.ite ?_ ?_
   | refine LeO.bind ?_ (fun _ => ?_)
theorem bits_Div64.mono : ∀ a0 a1 a2 k, LeO (bits_Div64.f k a0 a1 a2) (bits_Div64.f (k + 1) a0 a1 a2) := by
 intro a0 a1 a2 k
 obtain ⟨ih0, ih1, ih2, ih3, ih4⟩ := bits_Div64.mono_l k
 unfold bits_Div64.f
 repeat' first
   | (with_reducible exact ih0 _ _ _ _ _ _ _ _)
   | (with_reducible exact ih1 _ _ _ _ _ _ _ _ _)
   | (with_reducible exact ih2 _ _ _ _ _ _ _ _ _ _)
   | (with_reducible exact ih3 _ _ _ _ _ _ _ _ _)
   | (with_reducible exact ih4 _ _ _ _ _ _ _ _ _ _)
   | (with_reducible exact LeO.refl _)
   | (with_reducible exact LeO.none _)
   | (with_reducible refine LeO.ite ?_ ?_)
   | (with_reducible refine LeO.bind ?_ (fun _ => ?_))
   | exact ih0 _ _ _ _ _ _ _ _
   | exact ih1 _ _ _ _ _ _ _ _ _
   | exact ih2 _ _ _ _ _ _ _ _ _ _
   | exact ih3 _ _ _ _ _ _ _ _ _
   | exact ih4 _ _ _ _ _ _ _ _ _ _
   | exact LeO.none _
   | refine LeO.ite ?_ ?_
   | refine LeO.bind ?_ (fun _ => ?_)
set_option maxHeartbeats 8000000 in
set_option maxRecDepth 100000 in
theorem bits_Div64.calls (k : Nat) (a0 : Int) (a1 : Int) (a2 : Int) (r1 : Int) (r2 : Int) (w : World) (h : bits_Div64.f k a0 a1 a2 = some (r1, r2)) :
  Calls Tryz.prog 86 #[.int .u64 a0, .int .u64 a1, .int .u64 a2] w fun e w' => e = .returned (.tuple #[.int .u64 r1, .int .u64 r2]) ∧ Drawn0 w w' := by
 have H : (if a2 = 0 then (none) else (if a2 ≤ a0 then (none) else (if a0 = 0 then (some (IntKind.u64.wrap (Int.tdiv a1 a2), Int.tmod a1 a2)) else ((bits_LeadingZeros64.f a2).bind fun t104 => (if 0 ≤ (IntKind.u64.wrap (t104)) then (if 0 ≤ (IntKind.u64.wrap (64 - (IntKind.u64.wrap (t104)))) then (if ((shl .u64 a2 (IntKind.u64.wrap (t104))) / 4294967296) = 0 then (none) else (bits_Div64.l0 k (shl .u64 a2 (IntKind.u64.wrap (t104))) (IntKind.u64.wrap (t104)) ((shl .u64 a2 (IntKind.u64.wrap (t104))) / 4294967296) (Go.bits .and .u64 (shl .u64 a2 (IntKind.u64.wrap (t104))) 4294967295) (Go.bits .or .u64 (shl .u64 a0 (IntKind.u64.wrap (t104))) (shr .u64 a1 (IntKind.u64.wrap (64 - (IntKind.u64.wrap (t104)))))) ((shl .u64 a1 (IntKind.u64.wrap (t104))) / 4294967296) (Go.bits .and .u64 (shl .u64 a1 (IntKind.u64.wrap (t104))) 4294967295) (IntKind.u64.wrap (Int.tdiv (Go.bits .or .u64 (shl .u64 a0 (IntKind.u64.wrap (t104))) (shr .u64 a1 (IntKind.u64.wrap (64 - (IntKind.u64.wrap (t104)))))) ((shl .u64 a2 (IntKind.u64.wrap (t104))) / 4294967296))) (IntKind.u64.wrap ((Go.bits .or .u64 (shl .u64 a0 (IntKind.u64.wrap (t104))) (shr .u64 a1 (IntKind.u64.wrap (64 - (IntKind.u64.wrap (t104)))))) - (IntKind.u64.wrap ((IntKind.u64.wrap (Int.tdiv (Go.bits .or .u64 (shl .u64 a0 (IntKind.u64.wrap (t104))) (shr .u64 a1 (IntKind.u64.wrap (64 - (IntKind.u64.wrap (t104)))))) ((shl .u64 a2 (IntKind.u64.wrap (t104))) / 4294967296))) * ((shl .u64 a2 (IntKind.u64.wrap (t104))) / 4294967296))))))) else (none)) else (none)))))) = some (r1, r2) := h
 clear h
 by_cases c4 : a2 = 0
 ·rw [if_pos c4] at H
  exact absurd H (by simp)
 ·rw [if_neg c4] at H
  have c4b0 : (a2 == 0) = false := beq_eq_false_iff_ne.mpr c4
  have c4b1 : (a2 != 0) = true := bne_iff_ne.mpr c4
  by_cases c5 : a2 ≤ a0
  ·rw [if_pos c5] at H
   exact absurd H (by simp)
  ·rw [if_neg c5] at H
   have c5b0 : decide (a2 ≤ a0) = false := decide_eq_false c5
   clear c5
   by_cases c6 : a0 = 0
   ·rw [if_pos c6] at H
    have c6b0 : (a0 == 0) = true := beq_iff_eq.mpr c6
    have c6b1 : (a0 != 0) = false := bne_eq_false_iff_eq.mpr c6
    clear c6
    simp only [Option.some.injEq, Prod.mk.injEq] at H
    obtain ⟨rfl, rfl⟩ := H
    go_enter Tryz.func86, Tryz.ntmps86
    go_wp2
    repeat (go_quiet (fail); try go_wp2)
    go_ret2
    exact ⟨by first | rfl | (simp; done) | (simp [*]; done), by repeat (first | exact Drawn0.refl _ | apply Drawn0.step)⟩
   ·rw [if_neg c6] at H
    have c6b0 : (a0 == 0) = false := beq_eq_false_iff_ne.mpr c6
    have c6b1 : (a0 != 0) = true := bne_iff_ne.mpr c6
    replace H := Option.bind_eq_some_iff.mp H
    obtain ⟨t104, A70, H⟩ := H
    replace H : (if 0 ≤ (IntKind.u64.wrap (t104)) then (if 0 ≤ (IntKind.u64.wrap (64 - (IntKind.u64.wrap (t104)))) then (if ((shl .u64 a2 (IntKind.u64.wrap (t104))) / 4294967296) = 0 then (none) else (bits_Div64.l0 k (shl .u64 a2 (IntKind.u64.wrap (t104))) (IntKind.u64.wrap (t104)) ((shl .u64 a2 (IntKind.u64.wrap (t104))) / 4294967296) (Go.bits .and .u64 (shl .u64 a2 (IntKind.u64.wrap (t104))) 4294967295) (Go.bits .or .u64 (shl .u64 a0 (IntKind.u64.wrap (t104))) (shr .u64 a1 (IntKind.u64.wrap (64 - (IntKind.u64.wrap (t104)))))) ((shl .u64 a1 (IntKind.u64.wrap (t104))) / 4294967296) (Go.bits .and .u64 (shl .u64 a1 (IntKind.u64.wrap (t104))) 4294967295) (IntKind.u64.wrap (Int.tdiv (Go.bits .or .u64 (shl .u64 a0 (IntKind.u64.wrap (t104))) (shr .u64 a1 (IntKind.u64.wrap (64 - (IntKind.u64.wrap (t104)))))) ((shl .u64 a2 (IntKind.u64.wrap (t104))) / 4294967296))) (IntKind.u64.wrap ((Go.bits .or .u64 (shl .u64 a0 (IntKind.u64.wrap (t104))) (shr .u64 a1 (IntKind.u64.wrap (64 - (IntKind.u64.wrap (t104)))))) - (IntKind.u64.wrap ((IntKind.u64.wrap (Int.tdiv (Go.bits .or .u64 (shl .u64 a0 (IntKind.u64.wrap (t104))) (shr .u64 a1 (IntKind.u64.wrap (64 - (IntKind.u64.wrap (t104)))))) ((shl .u64 a2 (IntKind.u64.wrap (t104))) / 4294967296))) * ((shl .u64 a2 (IntKind.u64.wrap (t104))) / 4294967296))))))) else (none)) else (none)) = some (r1, r2) := H
    have A7 := Aside0.mk A70
    clear A70
    obtain ⟨ji8, hji8⟩ : ∃ j_ : Int, (IntKind.u64.wrap (t104)) = j_ := ⟨_, rfl⟩
    replace H : (if 0 ≤ (ji8) then (if 0 ≤ (IntKind.u64.wrap (64 - (ji8))) then (if ((shl .u64 a2 (ji8)) / 4294967296) = 0 then (none) else (bits_Div64.l0 k (shl .u64 a2 (ji8)) ji8 ((shl .u64 a2 (ji8)) / 4294967296) (Go.bits .and .u64 (shl .u64 a2 (ji8)) 4294967295) (Go.bits .or .u64 (shl .u64 a0 (ji8)) (shr .u64 a1 (IntKind.u64.wrap (64 - (ji8))))) ((shl .u64 a1 (ji8)) / 4294967296) (Go.bits .and .u64 (shl .u64 a1 (ji8)) 4294967295) (IntKind.u64.wrap (Int.tdiv (Go.bits .or .u64 (shl .u64 a0 (ji8)) (shr .u64 a1 (IntKind.u64.wrap (64 - (ji8))))) ((shl .u64 a2 (ji8)) / 4294967296))) (IntKind.u64.wrap ((Go.bits .or .u64 (shl .u64 a0 (ji8)) (shr .u64 a1 (IntKind.u64.wrap (64 - (ji8))))) - (IntKind.u64.wrap ((IntKind.u64.wrap (Int.tdiv (Go.bits .or .u64 (shl .u64 a0 (ji8)) (shr .u64 a1 (IntKind.u64.wrap (64 - (ji8))))) ((shl .u64 a2 (ji8)) / 4294967296))) * ((shl .u64 a2 (ji8)) / 4294967296))))))) else (none)) else (none)) = some (r1, r2) := by first | (rw [hji8] at H; exact H) | (simp only [hji8] at H ⊢; exact H)
    (try rw [hji8] at A7)
    by_cases c9 : 0 ≤ (ji8)
    ·rw [if_pos c9] at H
     have c9b0 := eq_true c9
     have c9b1 : decide (0 ≤ (ji8)) = true := decide_eq_true c9
     clear c9
     obtain ⟨ji10, hji10⟩ : ∃ j_ : Int, (shl .u64 a2 (ji8)) = j_ := ⟨_, rfl⟩
     replace H : (if 0 ≤ (IntKind.u64.wrap (64 - (ji8))) then (if ((ji10) / 4294967296) = 0 then (none) else (bits_Div64.l0 k ji10 ji8 ((ji10) / 4294967296) (Go.bits .and .u64 (ji10) 4294967295) (Go.bits .or .u64 (shl .u64 a0 (ji8)) (shr .u64 a1 (IntKind.u64.wrap (64 - (ji8))))) ((shl .u64 a1 (ji8)) / 4294967296) (Go.bits .and .u64 (shl .u64 a1 (ji8)) 4294967295) (IntKind.u64.wrap (Int.tdiv (Go.bits .or .u64 (shl .u64 a0 (ji8)) (shr .u64 a1 (IntKind.u64.wrap (64 - (ji8))))) ((ji10) / 4294967296))) (IntKind.u64.wrap ((Go.bits .or .u64 (shl .u64 a0 (ji8)) (shr .u64 a1 (IntKind.u64.wrap (64 - (ji8))))) - (IntKind.u64.wrap ((IntKind.u64.wrap (Int.tdiv (Go.bits .or .u64 (shl .u64 a0 (ji8)) (shr .u64 a1 (IntKind.u64.wrap (64 - (ji8))))) ((ji10) / 4294967296))) * ((ji10) / 4294967296))))))) else (none)) = some (r1, r2) := by first | (rw [hji10] at H; exact H) | (simp only [hji10] at H ⊢; exact H)
     (try rw [hji10] at A7)
     have hji10_ : (IntKind.u64.wrap (a2 * 2 ^ min (ji8).toNat 64)) = ji10 := hji10
     have hji10z : (ji8) ≤ 64 → (IntKind.u64.wrap (a2 * 2 ^ (ji8).toNat)) = ji10 := shl_small hji10
     have c11b0 := eq_true (of_decide_eq_true (by first | (with_reducible assumption) | assumption) : 0 ≤ (ji8))
     obtain ⟨ji12, hji12⟩ : ∃ j_ : Int, (shl .u64 a0 (ji8)) = j_ := ⟨_, rfl⟩
     replace H : (if 0 ≤ (IntKind.u64.wrap (64 - (ji8))) then (if ((ji10) / 4294967296) = 0 then (none) else (bits_Div64.l0 k ji10 ji8 ((ji10) / 4294967296) (Go.bits .and .u64 (ji10) 4294967295) (Go.bits .or .u64 (ji12) (shr .u64 a1 (IntKind.u64.wrap (64 - (ji8))))) ((shl .u64 a1 (ji8)) / 4294967296) (Go.bits .and .u64 (shl .u64 a1 (ji8)) 4294967295) (IntKind.u64.wrap (Int.tdiv (Go.bits .or .u64 (ji12) (shr .u64 a1 (IntKind.u64.wrap (64 - (ji8))))) ((ji10) / 4294967296))) (IntKind.u64.wrap ((Go.bits .or .u64 (ji12) (shr .u64 a1 (IntKind.u64.wrap (64 - (ji8))))) - (IntKind.u64.wrap ((IntKind.u64.wrap (Int.tdiv (Go.bits .or .u64 (ji12) (shr .u64 a1 (IntKind.u64.wrap (64 - (ji8))))) ((ji10) / 4294967296))) * ((ji10) / 4294967296))))))) else (none)) = some (r1, r2) := by first | (rw [hji12] at H; exact H) | (simp only [hji12] at H ⊢; exact H)
     (try rw [hji12] at A7)
     have hji12_ : (IntKind.u64.wrap (a0 * 2 ^ min (ji8).toNat 64)) = ji12 := hji12
     have hji12z : (ji8) ≤ 64 → (IntKind.u64.wrap (a0 * 2 ^ (ji8).toNat)) = ji12 := shl_small hji12
     obtain ⟨ji13, hji13⟩ : ∃ j_ : Int, (IntKind.u64.wrap (64 - (ji8))) = j_ := ⟨_, rfl⟩
     replace H : (if 0 ≤ (ji13) then (if ((ji10) / 4294967296) = 0 then (none) else (bits_Div64.l0 k ji10 ji8 ((ji10) / 4294967296) (Go.bits .and .u64 (ji10) 4294967295) (Go.bits .or .u64 (ji12) (shr .u64 a1 (ji13))) ((shl .u64 a1 (ji8)) / 4294967296) (Go.bits .and .u64 (shl .u64 a1 (ji8)) 4294967295) (IntKind.u64.wrap (Int.tdiv (Go.bits .or .u64 (ji12) (shr .u64 a1 (ji13))) ((ji10) / 4294967296))) (IntKind.u64.wrap ((Go.bits .or .u64 (ji12) (shr .u64 a1 (ji13))) - (IntKind.u64.wrap ((IntKind.u64.wrap (Int.tdiv (Go.bits .or .u64 (ji12) (shr .u64 a1 (ji13))) ((ji10) / 4294967296))) * ((ji10) / 4294967296))))))) else (none)) = some (r1, r2) := by first | (rw [hji13] at H; exact H) | (simp only [hji13] at H ⊢; exact H)
     (try rw [hji13] at A7)
     by_cases c14 : 0 ≤ (ji13)
     ·rw [if_pos c14] at H
      have c14b0 := eq_true c14
      have c14b1 : decide (0 ≤ (ji13)) = true := decide_eq_true c14
      clear c14
      obtain ⟨ji15, hji15⟩ : ∃ j_ : Int, (shr .u64 a1 (ji13)) = j_ := ⟨_, rfl⟩
      replace H : (if ((ji10) / 4294967296) = 0 then (none) else (bits_Div64.l0 k ji10 ji8 ((ji10) / 4294967296) (Go.bits .and .u64 (ji10) 4294967295) (Go.bits .or .u64 (ji12) (ji15)) ((shl .u64 a1 (ji8)) / 4294967296) (Go.bits .and .u64 (shl .u64 a1 (ji8)) 4294967295) (IntKind.u64.wrap (Int.tdiv (Go.bits .or .u64 (ji12) (ji15)) ((ji10) / 4294967296))) (IntKind.u64.wrap ((Go.bits .or .u64 (ji12) (ji15)) - (IntKind.u64.wrap ((IntKind.u64.wrap (Int.tdiv (Go.bits .or .u64 (ji12) (ji15)) ((ji10) / 4294967296))) * ((ji10) / 4294967296))))))) = some (r1, r2) := by first | (rw [hji15] at H; exact H) | (simp only [hji15] at H ⊢; exact H)
      (try rw [hji15] at A7)
      have hji15_ : (a1 / 2 ^ min (ji13).toNat 64) = ji15 := hji15
      have hji15z : (ji13) ≤ 64 → (a1 / 2 ^ (ji13).toNat) = ji15 := shr_small hji15
      have c16b0 := eq_true (of_decide_eq_true (by first | (with_reducible assumption) | assumption) : 0 ≤ (ji8))
      obtain ⟨ji17, hji17⟩ : ∃ j_ : Int, (shl .u64 a1 (ji8)) = j_ := ⟨_, rfl⟩
      replace H : (if ((ji10) / 4294967296) = 0 then (none) else (bits_Div64.l0 k ji10 ji8 ((ji10) / 4294967296) (Go.bits .and .u64 (ji10) 4294967295) (Go.bits .or .u64 (ji12) (ji15)) ((ji17) / 4294967296) (Go.bits .and .u64 (ji17) 4294967295) (IntKind.u64.wrap (Int.tdiv (Go.bits .or .u64 (ji12) (ji15)) ((ji10) / 4294967296))) (IntKind.u64.wrap ((Go.bits .or .u64 (ji12) (ji15)) - (IntKind.u64.wrap ((IntKind.u64.wrap (Int.tdiv (Go.bits .or .u64 (ji12) (ji15)) ((ji10) / 4294967296))) * ((ji10) / 4294967296))))))) = some (r1, r2) := by first | (rw [hji17] at H; exact H) | (simp only [hji17] at H ⊢; exact H)
      (try rw [hji17] at A7)
      have hji17_ : (IntKind.u64.wrap (a1 * 2 ^ min (ji8).toNat 64)) = ji17 := hji17
      have hji17z : (ji8) ≤ 64 → (IntKind.u64.wrap (a1 * 2 ^ (ji8).toNat)) = ji17 := shl_small hji17
      by_cases c18 : ((ji10) / 4294967296) = 0
      ·rw [if_pos c18] at H
       exact absurd H (by simp)
      ·rw [if_neg c18] at H
       have c18b0 : (((ji10) / 4294967296) == 0) = false := beq_eq_false_iff_ne.mpr c18
       have c18b1 : (((ji10) / 4294967296) != 0) = true := bne_iff_ne.mpr c18
       have HC19 := Aside0.mk H
       clear H
       go_enter Tryz.func86, Tryz.ntmps86
       go_upto_block 0 with (first | (go_at_call 105; (with_reducible refine (bits_LeadingZeros64.calls a2 t104 _ A7.out).mono ?_); rintro e w' ⟨rfl, ⟨nd, rfl⟩⟩; (try first | exact ⟨rfl, _, World.drewN_drewN _ _ _⟩ | exact ⟨rfl, _, Eq.trans (World.drewN_drewN _ _ _) (congrArg (World.drewN _) (Nat.add_assoc _ _ _))⟩)))
       repeat (go_quiet (first | (go_at_call 105; (with_reducible refine (bits_LeadingZeros64.calls a2 t104 _ A7.out).mono ?_); rintro e w' ⟨rfl, ⟨nd, rfl⟩⟩; (try first | exact ⟨rfl, _, World.drewN_drewN _ _ _⟩ | exact ⟨rfl, _, Eq.trans (World.drewN_drewN _ _ _) (congrArg (World.drewN _) (Nat.add_assoc _ _ _))⟩))); go_upto_block 0 with (first | (go_at_call 105; (with_reducible refine (bits_LeadingZeros64.calls a2 t104 _ A7.out).mono ?_); rintro e w' ⟨rfl, ⟨nd, rfl⟩⟩; (try first | exact ⟨rfl, _, World.drewN_drewN _ _ _⟩ | exact ⟨rfl, _, Eq.trans (World.drewN_drewN _ _ _) (congrArg (World.drewN _) (Nat.add_assoc _ _ _))⟩))))
       (try simp only [Act.put, List.setIfInBounds_toArray, List.set_cons_zero, List.set_cons_succ])
       go_cut [15] (fun v15 wc => ∃ (kq : Nat) (x15_18 : Int), v15 = .int .u64 x15_18 ∧ Aside0 (bits_Div64.j2 kq ji10 ji8 ((ji10) / 4294967296) (Go.bits .and .u64 (ji10) 4294967295) (Go.bits .or .u64 (ji12) (ji15)) ((ji17) / 4294967296) (Go.bits .and .u64 (ji17) 4294967295) x15_18 = some (r1, r2)) ∧ Aside0 (kq ≤ k) ∧ Drawn0 w wc)
       case first =>
        have H := HC19.out
        clear HC19
        have H' := Aside0.mk H
        clear H
        go_wp2
        repeat (go_quiet (fail); try go_wp2)
        go_loopg [15, 16] k (fun kq v15 v16 w' => ∃ (x15_1 : Int) (x16_1 : Int), v15 = .int .u64 x15_1 ∧ v16 = .int .u64 x16_1 ∧ Aside0 (bits_Div64.l0 kq ji10 ji8 ((ji10) / 4294967296) (Go.bits .and .u64 (ji10) 4294967295) (Go.bits .or .u64 (ji12) (ji15)) ((ji17) / 4294967296) (Go.bits .and .u64 (ji17) 4294967295) x15_1 x16_1 = some (r1, r2)) ∧ Aside0 (kq ≤ k) ∧ Drawn0 w w')
        case atStart => exact ⟨(IntKind.u64.wrap (Int.tdiv (Go.bits .or .u64 (ji12) (ji15)) ((ji10) / 4294967296))), (IntKind.u64.wrap ((Go.bits .or .u64 (ji12) (ji15)) - (IntKind.u64.wrap ((IntKind.u64.wrap (Int.tdiv (Go.bits .or .u64 (ji12) (ji15)) ((ji10) / 4294967296))) * ((ji10) / 4294967296))))), (by first | rfl | (simp; done) | (simp only [← hji10, ← hji12, ← hji15] <;> (first | rfl | simp)) | (simp [*]; done)), (by first | rfl | (simp; done) | (simp only [← hji10, ← hji12, ← hji15] <;> (first | rfl | simp)) | (simp [*]; done)), H', ⟨Nat.le_refl _⟩, by repeat (first | exact Drawn0.refl _ | apply Drawn0.step)⟩
        case round =>
         clear H'
         try clear c1
         try clear p2
         try clear c4
         try clear c4b0
         try clear c4b1
         try clear c5
         try clear c5b0
         try clear c6
         try clear c6b0
         try clear c6b1
         try clear c8
         try clear c9
         try clear c9b0
         try clear c9b1
         try clear c11
         try clear c11b0
         try clear c14
         try clear c14b0
         try clear c14b1
         try clear c16
         try clear c16b0
         try clear c18
         try clear c18b0
         try clear c18b1
         obtain ⟨x15_1, x16_1, rfl, rfl, HA, HK1, ⟨m1, rfl⟩⟩ := hrel
         cases gk with
         | zero => exact absurd HA.out (by simp [bits_Div64.l0])
         | succ k1 =>
          have H := HA.out
          clear HA
          simp only [bits_Div64.l0] at H
          have HC20 := Aside0.mk H
          clear H
          go_upto_region 17 with (fail)
          repeat (go_quiet (fail); go_upto_region 17 with (fail))
          go_cut [78] (fun v78 wc => ∃ (kq : Nat) (x78_19 : Bool), v78 = .bool x78_19 ∧ Aside0 (bits_Div64.j1 kq ji10 ji8 ((ji10) / 4294967296) (Go.bits .and .u64 (ji10) 4294967295) (Go.bits .or .u64 (ji12) (ji15)) ((ji17) / 4294967296) (Go.bits .and .u64 (ji17) 4294967295) x15_1 x16_1 x78_19 = some (r1, r2)) ∧ Aside0 (kq ≤ k1) ∧ Drawn0 w wc)
          case first =>
           have H := HC20.out
           clear HC20
           by_cases c21 : x15_1 ≥ 4294967296
           ·rw [if_pos c21] at H
            have c21b0 : decide (4294967296 ≤ x15_1) = true := decide_eq_true c21
            clear c21
            (first | rw [c21b0] | (simp only [i64_w, i32_w]; rw [c21b0]) | skip)
            have H' := Aside0.mk H
            clear H
            go_wp2
            repeat (go_quiet (fail); try go_wp2)
            go_meet
            case rel => exact ⟨_, (true), (by first | rfl | (simp; done) | (simp [*]; done)), H', ⟨by have := HK1.out; first | omega | exact Nat.le_refl _⟩, by repeat (first | exact Drawn0.refl _ | apply Drawn0.step)⟩
           ·rw [if_neg c21] at H
            have c21b0 : decide (4294967296 ≤ x15_1) = false := decide_eq_false c21
            clear c21
            (first | rw [c21b0] | (simp only [i64_w, i32_w]; rw [c21b0]) | skip)
            have H' := Aside0.mk H
            clear H
            go_wp2
            repeat (go_quiet (fail); try go_wp2)
            go_meet
            case rel => exact ⟨_, (decide ((IntKind.u64.wrap (x15_1 * (Go.bits .and .u64 (ji10) 4294967295))) > (IntKind.u64.wrap ((IntKind.u64.wrap (4294967296 * x16_1)) + ((ji17) / 4294967296))))), (by first | rfl | (simp; done) | (simp only [← hji10, ← hji17] <;> (first | rfl | simp)) | (simp [*]; done)), H', ⟨by have := HK1.out; first | omega | exact Nat.le_refl _⟩, by repeat (first | exact Drawn0.refl _ | apply Drawn0.step)⟩
          case rest =>
           clear HC20
           try clear c1
           try clear c2
           try clear p2
           try clear c4
           try clear c4b0
           try clear c4b1
           try clear c5
           try clear c5b0
           try clear c6
           try clear c6b0
           try clear c6b1
           try clear c8
           try clear c9
           try clear c9b0
           try clear c9b1
           try clear c11
           try clear c11b0
           try clear c14
           try clear c14b0
           try clear c14b1
           try clear c16
           try clear c16b0
           try clear c18
           try clear c18b0
           try clear c18b1
           try clear c21
           try clear c21b0
           try clear p2
           obtain ⟨kq, x78_19, rfl, HA, HJ19, ⟨mc19, rfl⟩⟩ := hcut
           cases kq with
           | zero => exact absurd HA.out (by simp [bits_Div64.j1])
           | succ kj19 =>
            have H := HA.out
            clear HA
            simp only [bits_Div64.j1] at H
            by_cases c22 : x78_19 = true
            ·subst c22
             have H1 : (if (IntKind.u64.wrap (x16_1 + ((ji10) / 4294967296))) ≥ 4294967296 then (bits_Div64.j2 kj19 ji10 ji8 ((ji10) / 4294967296) (Go.bits .and .u64 (ji10) 4294967295) (Go.bits .or .u64 (ji12) (ji15)) ((ji17) / 4294967296) (Go.bits .and .u64 (ji17) 4294967295) (IntKind.u64.wrap (x15_1 - 1))) else (bits_Div64.l0 kj19 ji10 ji8 ((ji10) / 4294967296) (Go.bits .and .u64 (ji10) 4294967295) (Go.bits .or .u64 (ji12) (ji15)) ((ji17) / 4294967296) (Go.bits .and .u64 (ji17) 4294967295) (IntKind.u64.wrap (x15_1 - 1)) (IntKind.u64.wrap (x16_1 + ((ji10) / 4294967296))))) = some (r1, r2) := by rw [if_pos rfl] at H; exact H
             clear H
             have H := H1
             clear H1
             by_cases c23 : (IntKind.u64.wrap (x16_1 + ((ji10) / 4294967296))) ≥ 4294967296
             ·rw [if_pos c23] at H
              have c23b0 : decide (4294967296 ≤ (IntKind.u64.wrap (x16_1 + ((ji10) / 4294967296)))) = true := decide_eq_true c23
              clear c23
              have H' := Aside0.mk H
              clear H
              go_wp2
              repeat (go_quiet (fail); try go_wp2)
              go_meet
              case rel => exact ⟨_, (IntKind.u64.wrap (x15_1 - 1)), (by first | rfl | (simp; done) | (simp [*]; done)), H', ⟨by have := HK1.out; have := HJ19.out; first | omega | exact Nat.le_refl _⟩, by repeat (first | exact Drawn0.refl _ | apply Drawn0.step)⟩
             ·rw [if_neg c23] at H
              have c23b0 : decide (4294967296 ≤ (IntKind.u64.wrap (x16_1 + ((ji10) / 4294967296)))) = false := decide_eq_false c23
              clear c23
              have H' := Aside0.mk H
              clear H
              go_wp2
              repeat (go_quiet (fail); try go_wp2)
              go_roundg kj19
              case measure => have := HK1.out; have := HJ19.out; omega
              case rel => exact ⟨(IntKind.u64.wrap (x15_1 - 1)), (IntKind.u64.wrap (x16_1 + ((ji10) / 4294967296))), (by first | rfl | (simp; done) | (simp [*]; done)), (by first | rfl | (simp; done) | (simp only [← hji10] <;> (first | rfl | simp)) | (simp [*]; done)), H', ⟨by have := HK1.out; have := HJ19.out; omega⟩, by repeat (first | exact Drawn0.refl _ | apply Drawn0.step)⟩
            ·replace c22 := Bool.eq_false_iff.mpr c22
             subst c22
             have H1 : (bits_Div64.j2 kj19 ji10 ji8 ((ji10) / 4294967296) (Go.bits .and .u64 (ji10) 4294967295) (Go.bits .or .u64 (ji12) (ji15)) ((ji17) / 4294967296) (Go.bits .and .u64 (ji17) 4294967295) x15_1) = some (r1, r2) := by rw [if_neg (show ¬ (false = true) by decide)] at H; exact H
             clear H
             have H := H1
             clear H1
             have H' := Aside0.mk H
             clear H
             go_wp2
             repeat (go_quiet (fail); try go_wp2)
             go_meet
             case rel => exact ⟨_, (x15_1), (by first | rfl | (simp; done) | (simp [*]; done)), H', ⟨by have := HK1.out; have := HJ19.out; first | omega | exact Nat.le_refl _⟩, by repeat (first | exact Drawn0.refl _ | apply Drawn0.step)⟩
       case rest =>
        clear HC19
        try clear c1
        try clear c2
        try clear p2
        try clear c4
        try clear c4b0
        try clear c4b1
        try clear c5
        try clear c5b0
        try clear c6
        try clear c6b0
        try clear c6b1
        try clear c8
        try clear c9
        try clear c9b0
        try clear c9b1
        try clear c11
        try clear c11b0
        try clear c14
        try clear c14b0
        try clear c14b1
        try clear c16
        try clear c16b0
        try clear c18
        try clear c18b0
        try clear c18b1
        try clear c19
        try clear c21
        try clear c21b0
        try clear c22
        try clear c23
        try clear c23b0
        try clear p2
        obtain ⟨kq, x15_18, rfl, HA, HJ18, ⟨mc18, rfl⟩⟩ := hcut
        cases kq with
        | zero => exact absurd HA.out (by simp [bits_Div64.j2])
        | succ kj18 =>
         have H := HA.out
         clear HA
         simp only [bits_Div64.j2] at H
         by_cases c24 : ((ji10) / 4294967296) = 0
         ·rw [if_pos c24] at H
          exact absurd H (by simp)
         ·rw [if_neg c24] at H
          have c24b0 : (((ji10) / 4294967296) == 0) = false := beq_eq_false_iff_ne.mpr c24
          have c24b1 : (((ji10) / 4294967296) != 0) = true := bne_iff_ne.mpr c24
          have H' := Aside0.mk H
          clear H
          go_wp2
          repeat (go_quiet (fail); try go_wp2)
          go_loopg [16, 18] kj18 (fun kq v16 v18 w' => ∃ (x16_2 : Int) (x18_2 : Int), v16 = .int .u64 x16_2 ∧ v18 = .int .u64 x18_2 ∧ Aside0 (bits_Div64.l1 kq ji10 ji8 ((ji10) / 4294967296) (Go.bits .and .u64 (ji10) 4294967295) (Go.bits .and .u64 (ji17) 4294967295) x15_18 x16_2 (IntKind.u64.wrap ((IntKind.u64.wrap ((IntKind.u64.wrap ((Go.bits .or .u64 (ji12) (ji15)) * 4294967296)) + ((ji17) / 4294967296))) - (IntKind.u64.wrap (x15_18 * ji10)))) x18_2 = some (r1, r2)) ∧ Aside0 (kq ≤ kj18) ∧ Drawn0 w w')
          case atStart => exact ⟨(IntKind.u64.wrap ((IntKind.u64.wrap ((IntKind.u64.wrap ((IntKind.u64.wrap ((Go.bits .or .u64 (ji12) (ji15)) * 4294967296)) + ((ji17) / 4294967296))) - (IntKind.u64.wrap (x15_18 * ji10)))) - (IntKind.u64.wrap ((IntKind.u64.wrap (Int.tdiv (IntKind.u64.wrap ((IntKind.u64.wrap ((IntKind.u64.wrap ((Go.bits .or .u64 (ji12) (ji15)) * 4294967296)) + ((ji17) / 4294967296))) - (IntKind.u64.wrap (x15_18 * ji10)))) ((ji10) / 4294967296))) * ((ji10) / 4294967296))))), (IntKind.u64.wrap (Int.tdiv (IntKind.u64.wrap ((IntKind.u64.wrap ((IntKind.u64.wrap ((Go.bits .or .u64 (ji12) (ji15)) * 4294967296)) + ((ji17) / 4294967296))) - (IntKind.u64.wrap (x15_18 * ji10)))) ((ji10) / 4294967296))), (by first | rfl | (simp; done) | (simp only [← hji10, ← hji12, ← hji15, ← hji17] <;> (first | rfl | simp)) | (simp [*]; done)), (by first | rfl | (simp; done) | (simp only [← hji10, ← hji12, ← hji15, ← hji17] <;> (first | rfl | simp)) | (simp [*]; done)), H', ⟨Nat.le_refl _⟩, by repeat (first | exact Drawn0.refl _ | apply Drawn0.step)⟩
          case round =>
           clear H'
           try clear c1
           try clear c2
           try clear p2
           try clear c4
           try clear c4b0
           try clear c4b1
           try clear c5
           try clear c5b0
           try clear c6
           try clear c6b0
           try clear c6b1
           try clear c8
           try clear c9
           try clear c9b0
           try clear c9b1
           try clear c11
           try clear c11b0
           try clear c14
           try clear c14b0
           try clear c14b1
           try clear c16
           try clear c16b0
           try clear c18
           try clear c18b0
           try clear c18b1
           try clear c19
           try clear c21
           try clear c21b0
           try clear c22
           try clear c23
           try clear c23b0
           try clear c24
           try clear c24b0
           try clear c24b1
           try clear p2
           obtain ⟨x16_2, x18_2, rfl, rfl, HA, HK2, ⟨m2, rfl⟩⟩ := hrel
           cases gk with
           | zero => exact absurd HA.out (by simp [bits_Div64.l1])
           | succ k2 =>
            have H := HA.out
            clear HA
            simp only [bits_Div64.l1] at H
            have HC25 := Aside0.mk H
            clear H
            go_upto_region 24 with (fail)
            repeat (go_quiet (fail); go_upto_region 24 with (fail))
            go_cut [113] (fun v113 wc => ∃ (kq : Nat) (x113_24 : Bool), v113 = .bool x113_24 ∧ Aside0 (bits_Div64.j4 kq ji10 ji8 ((ji10) / 4294967296) (Go.bits .and .u64 (ji10) 4294967295) (Go.bits .and .u64 (ji17) 4294967295) x15_18 x16_2 (IntKind.u64.wrap ((IntKind.u64.wrap ((IntKind.u64.wrap ((Go.bits .or .u64 (ji12) (ji15)) * 4294967296)) + ((ji17) / 4294967296))) - (IntKind.u64.wrap (x15_18 * ji10)))) x18_2 x113_24 = some (r1, r2)) ∧ Aside0 (kq ≤ k2) ∧ Drawn0 w wc)
            case first =>
             have H := HC25.out
             clear HC25
             by_cases c26 : x18_2 ≥ 4294967296
             ·rw [if_pos c26] at H
              have c26b0 : decide (4294967296 ≤ x18_2) = true := decide_eq_true c26
              clear c26
              (first | rw [c26b0] | (simp only [i64_w, i32_w]; rw [c26b0]) | skip)
              have H' := Aside0.mk H
              clear H
              go_wp2
              repeat (go_quiet (fail); try go_wp2)
              go_meet
              case rel => exact ⟨_, (true), (by first | rfl | (simp; done) | (simp [*]; done)), H', ⟨by have := HJ18.out; have := HK2.out; first | omega | exact Nat.le_refl _⟩, by repeat (first | exact Drawn0.refl _ | apply Drawn0.step)⟩
             ·rw [if_neg c26] at H
              have c26b0 : decide (4294967296 ≤ x18_2) = false := decide_eq_false c26
              clear c26
              (first | rw [c26b0] | (simp only [i64_w, i32_w]; rw [c26b0]) | skip)
              have H' := Aside0.mk H
              clear H
              go_wp2
              repeat (go_quiet (fail); try go_wp2)
              go_meet
              case rel => exact ⟨_, (decide ((IntKind.u64.wrap (x18_2 * (Go.bits .and .u64 (ji10) 4294967295))) > (IntKind.u64.wrap ((IntKind.u64.wrap (4294967296 * x16_2)) + (Go.bits .and .u64 (ji17) 4294967295))))), (by first | rfl | (simp; done) | (simp only [← hji10, ← hji17] <;> (first | rfl | simp)) | (simp [*]; done)), H', ⟨by have := HJ18.out; have := HK2.out; first | omega | exact Nat.le_refl _⟩, by repeat (first | exact Drawn0.refl _ | apply Drawn0.step)⟩
            case rest =>
             clear HC25
             try clear c1
             try clear c2
             try clear p2
             try clear c4
             try clear c4b0
             try clear c4b1
             try clear c5
             try clear c5b0
             try clear c6
             try clear c6b0
             try clear c6b1
             try clear c8
             try clear c9
             try clear c9b0
             try clear c9b1
             try clear c11
             try clear c11b0
             try clear c14
             try clear c14b0
             try clear c14b1
             try clear c16
             try clear c16b0
             try clear c18
             try clear c18b0
             try clear c18b1
             try clear c19
             try clear c21
             try clear c21b0
             try clear c22
             try clear c23
             try clear c23b0
             try clear c24
             try clear c24b0
             try clear c24b1
             try clear c26
             try clear c26b0
             try clear p2
             obtain ⟨kq, x113_24, rfl, HA, HJ24, ⟨mc24, rfl⟩⟩ := hcut
             cases kq with
             | zero => exact absurd HA.out (by simp [bits_Div64.j4])
             | succ kj24 =>
              have H := HA.out
              clear HA
              simp only [bits_Div64.j4] at H
              by_cases c27 : x113_24 = true
              ·subst c27
               have H1 : (if (IntKind.u64.wrap (x16_2 + ((ji10) / 4294967296))) ≥ 4294967296 then (if 0 ≤ ji8 then (some (IntKind.u64.wrap ((IntKind.u64.wrap (x15_18 * 4294967296)) + (IntKind.u64.wrap (x18_2 - 1))), shr .u64 (IntKind.u64.wrap ((IntKind.u64.wrap ((IntKind.u64.wrap ((IntKind.u64.wrap ((IntKind.u64.wrap ((IntKind.u64.wrap ((Go.bits .or .u64 (ji12) (ji15)) * 4294967296)) + ((ji17) / 4294967296))) - (IntKind.u64.wrap (x15_18 * ji10)))) * 4294967296)) + (Go.bits .and .u64 (ji17) 4294967295))) - (IntKind.u64.wrap ((IntKind.u64.wrap (x18_2 - 1)) * ji10)))) ji8)) else (none)) else (bits_Div64.l1 kj24 ji10 ji8 ((ji10) / 4294967296) (Go.bits .and .u64 (ji10) 4294967295) (Go.bits .and .u64 (ji17) 4294967295) x15_18 (IntKind.u64.wrap (x16_2 + ((ji10) / 4294967296))) (IntKind.u64.wrap ((IntKind.u64.wrap ((IntKind.u64.wrap ((Go.bits .or .u64 (ji12) (ji15)) * 4294967296)) + ((ji17) / 4294967296))) - (IntKind.u64.wrap (x15_18 * ji10)))) (IntKind.u64.wrap (x18_2 - 1)))) = some (r1, r2) := by rw [if_pos rfl] at H; exact H
               clear H
               have H := H1
               clear H1
               by_cases c28 : (IntKind.u64.wrap (x16_2 + ((ji10) / 4294967296))) ≥ 4294967296
               ·rw [if_pos c28] at H
                have c28b0 : decide (4294967296 ≤ (IntKind.u64.wrap (x16_2 + ((ji10) / 4294967296)))) = true := decide_eq_true c28
                clear c28
                by_cases c29 : 0 ≤ ji8
                ·rw [if_pos c29] at H
                 have c29b0 := eq_true c29
                 have c29b1 : decide (0 ≤ ji8) = true := decide_eq_true c29
                 clear c29
                 obtain ⟨ji30, hji30⟩ : ∃ j_ : Int, (shr .u64 (IntKind.u64.wrap ((IntKind.u64.wrap ((IntKind.u64.wrap ((IntKind.u64.wrap ((IntKind.u64.wrap ((IntKind.u64.wrap ((Go.bits .or .u64 (ji12) (ji15)) * 4294967296)) + ((ji17) / 4294967296))) - (IntKind.u64.wrap (x15_18 * ji10)))) * 4294967296)) + (Go.bits .and .u64 (ji17) 4294967295))) - (IntKind.u64.wrap ((IntKind.u64.wrap (x18_2 - 1)) * ji10)))) ji8) = j_ := ⟨_, rfl⟩
                 replace H : (some (IntKind.u64.wrap ((IntKind.u64.wrap (x15_18 * 4294967296)) + (IntKind.u64.wrap (x18_2 - 1))), ji30)) = some (r1, r2) := by first | (rw [hji30] at H; exact H) | (simp only [hji30] at H ⊢; exact H)
                 have hji30_ : ((IntKind.u64.wrap ((IntKind.u64.wrap ((IntKind.u64.wrap ((IntKind.u64.wrap ((IntKind.u64.wrap ((IntKind.u64.wrap ((Go.bits .or .u64 (ji12) (ji15)) * 4294967296)) + ((ji17) / 4294967296))) - (IntKind.u64.wrap (x15_18 * ji10)))) * 4294967296)) + (Go.bits .and .u64 (ji17) 4294967295))) - (IntKind.u64.wrap ((IntKind.u64.wrap (x18_2 - 1)) * ji10)))) / 2 ^ min ji8.toNat 64) = ji30 := hji30
                 have hji30z : ji8 ≤ 64 → ((IntKind.u64.wrap ((IntKind.u64.wrap ((IntKind.u64.wrap ((IntKind.u64.wrap ((IntKind.u64.wrap ((IntKind.u64.wrap ((Go.bits .or .u64 (ji12) (ji15)) * 4294967296)) + ((ji17) / 4294967296))) - (IntKind.u64.wrap (x15_18 * ji10)))) * 4294967296)) + (Go.bits .and .u64 (ji17) 4294967295))) - (IntKind.u64.wrap ((IntKind.u64.wrap (x18_2 - 1)) * ji10)))) / 2 ^ ji8.toNat) = ji30 := shr_small hji30
                 simp only [Option.some.injEq, Prod.mk.injEq] at H
                 obtain ⟨rfl, rfl⟩ := H
                 go_wp2
                 repeat (go_quiet (fail); try go_wp2)
                 go_ret2
                 exact ⟨by first | rfl | (simp; done) | (simp only [← hji8, ← hji10, ← hji12, ← hji13, ← hji15, ← hji17, ← hji30] <;> (first | rfl | simp)) | (simp [*]; done), by repeat (first | exact Drawn0.refl _ | apply Drawn0.step)⟩
                ·rw [if_neg c29] at H
                 exact absurd H (by simp)
               ·rw [if_neg c28] at H
                have c28b0 : decide (4294967296 ≤ (IntKind.u64.wrap (x16_2 + ((ji10) / 4294967296)))) = false := decide_eq_false c28
                clear c28
                have H' := Aside0.mk H
                clear H
                go_wp2
                repeat (go_quiet (fail); try go_wp2)
                go_roundg kj24
                case measure => have := HJ18.out; have := HK2.out; have := HJ24.out; omega
                case rel => exact ⟨(IntKind.u64.wrap (x16_2 + ((ji10) / 4294967296))), (IntKind.u64.wrap (x18_2 - 1)), (by first | rfl | (simp; done) | (simp only [← hji10] <;> (first | rfl | simp)) | (simp [*]; done)), (by first | rfl | (simp; done) | (simp [*]; done)), H', ⟨by have := HJ18.out; have := HK2.out; have := HJ24.out; omega⟩, by repeat (first | exact Drawn0.refl _ | apply Drawn0.step)⟩
              ·replace c27 := Bool.eq_false_iff.mpr c27
               subst c27
               have H1 : (if 0 ≤ ji8 then (some (IntKind.u64.wrap ((IntKind.u64.wrap (x15_18 * 4294967296)) + x18_2), shr .u64 (IntKind.u64.wrap ((IntKind.u64.wrap ((IntKind.u64.wrap ((IntKind.u64.wrap ((IntKind.u64.wrap ((IntKind.u64.wrap ((Go.bits .or .u64 (ji12) (ji15)) * 4294967296)) + ((ji17) / 4294967296))) - (IntKind.u64.wrap (x15_18 * ji10)))) * 4294967296)) + (Go.bits .and .u64 (ji17) 4294967295))) - (IntKind.u64.wrap (x18_2 * ji10)))) ji8)) else (none)) = some (r1, r2) := by rw [if_neg (show ¬ (false = true) by decide)] at H; exact H
               clear H
               have H := H1
               clear H1
               by_cases c31 : 0 ≤ ji8
               ·rw [if_pos c31] at H
                have c31b0 := eq_true c31
                have c31b1 : decide (0 ≤ ji8) = true := decide_eq_true c31
                clear c31
                obtain ⟨ji32, hji32⟩ : ∃ j_ : Int, (shr .u64 (IntKind.u64.wrap ((IntKind.u64.wrap ((IntKind.u64.wrap ((IntKind.u64.wrap ((IntKind.u64.wrap ((IntKind.u64.wrap ((Go.bits .or .u64 (ji12) (ji15)) * 4294967296)) + ((ji17) / 4294967296))) - (IntKind.u64.wrap (x15_18 * ji10)))) * 4294967296)) + (Go.bits .and .u64 (ji17) 4294967295))) - (IntKind.u64.wrap (x18_2 * ji10)))) ji8) = j_ := ⟨_, rfl⟩
                replace H : (some (IntKind.u64.wrap ((IntKind.u64.wrap (x15_18 * 4294967296)) + x18_2), ji32)) = some (r1, r2) := by first | (rw [hji32] at H; exact H) | (simp only [hji32] at H ⊢; exact H)
                have hji32_ : ((IntKind.u64.wrap ((IntKind.u64.wrap ((IntKind.u64.wrap ((IntKind.u64.wrap ((IntKind.u64.wrap ((IntKind.u64.wrap ((Go.bits .or .u64 (ji12) (ji15)) * 4294967296)) + ((ji17) / 4294967296))) - (IntKind.u64.wrap (x15_18 * ji10)))) * 4294967296)) + (Go.bits .and .u64 (ji17) 4294967295))) - (IntKind.u64.wrap (x18_2 * ji10)))) / 2 ^ min ji8.toNat 64) = ji32 := hji32
                have hji32z : ji8 ≤ 64 → ((IntKind.u64.wrap ((IntKind.u64.wrap ((IntKind.u64.wrap ((IntKind.u64.wrap ((IntKind.u64.wrap ((IntKind.u64.wrap ((Go.bits .or .u64 (ji12) (ji15)) * 4294967296)) + ((ji17) / 4294967296))) - (IntKind.u64.wrap (x15_18 * ji10)))) * 4294967296)) + (Go.bits .and .u64 (ji17) 4294967295))) - (IntKind.u64.wrap (x18_2 * ji10)))) / 2 ^ ji8.toNat) = ji32 := shr_small hji32
                simp only [Option.some.injEq, Prod.mk.injEq] at H
                obtain ⟨rfl, rfl⟩ := H
                go_wp2
                repeat (go_quiet (fail); try go_wp2)
                go_ret2
                exact ⟨by first | rfl | (simp; done) | (simp only [← hji8, ← hji10, ← hji12, ← hji13, ← hji15, ← hji17, ← hji32] <;> (first | rfl | simp)) | (simp [*]; done), by repeat (first | exact Drawn0.refl _ | apply Drawn0.step)⟩
               ·rw [if_neg c31] at H
                exact absurd H (by simp)
     ·rw [if_neg c14] at H
      exact absurd H (by simp)
    ·rw [if_neg c9] at H
     exact absurd H (by simp)

end Go.Proofs.YtnjobjogddjelaaGreatDoor.Print
end

section
namespace Go.Proofs.YtnjobjogddjelaaGreatDoor.Pure
open Go.RowKit Go.Proofs.YtnjobjogddjelaaGreatDoor.Print Go.Proofs.YtnjobjogddjelaaGreatDoorW.PrintWords Go.Proofs.YtnjobjogddjelaaGreatDoorW.PrintLast Go.Proofs.YtnjobjogddjelaaGreatDoorW.PrintMore

/-! Division of two words by one, after Knuth: math/bits.Div64. -/
theorem kn_test {q y1 y0 u u1 r : Int} (h : q * y1 + r = u) : r * 4294967296 + u1 < q * y0 ↔ u * 4294967296 + u1 < q * (y1 * 4294967296 + y0) := by
 have e : q * (y1 * 4294967296 + y0) = (q * y1) * 4294967296 + q * y0 := by rw [Int.mul_add, Int.mul_assoc]
 rw [e]
 generalize q * y1 = a at *
 generalize q * y0 = c
 omega
theorem kn_gt {q y N : Int} (hy : 0 < y) : N < q * y ↔ N / y < q := (Int.ediv_lt_iff_lt_mul hy).symm
theorem kn_top {u y u1 : Int} (hu0 : 0 ≤ u) (hu : u < y) (h0 : 0 ≤ u1) (h1 : u1 < 4294967296) : 0 ≤ (u * 4294967296 + u1) / y ∧ (u * 4294967296 + u1) / y < 4294967296 :=
 ⟨Int.ediv_nonneg (by omega) (by omega), (Int.ediv_lt_iff_lt_mul (by omega)).2 (by omega)⟩
theorem kn_le {u y1 y0 u1 : Int} (hy1 : 0 < y1) (hy0 : 0 ≤ y0) (hu : 0 ≤ u) (h0 : 0 ≤ u1) (h1 : u1 < 4294967296) : (u * 4294967296 + u1) / (y1 * 4294967296 + y0) ≤ u / y1 := by
 rw [Int.le_ediv_iff_mul_le hy1]
 have hq : 0 ≤ (u * 4294967296 + u1) / (y1 * 4294967296 + y0) := Int.ediv_nonneg (by omega) (by omega)
 have hm := (Int.le_ediv_iff_mul_le (show 0 < y1 * 4294967296 + y0 by omega)).1 (Int.le_refl ((u * 4294967296 + u1) / (y1 * 4294967296 + y0)))
 generalize (u * 4294967296 + u1) / (y1 * 4294967296 + y0) = q at *
 have e : q * (y1 * 4294967296 + y0) = (q * y1) * 4294967296 + q * y0 := by rw [Int.mul_add, Int.mul_assoc]
 rw [e] at hm
 have h2 := Int.mul_nonneg hq hy0
 generalize q * y1 = a at *
 generalize q * y0 = c at *
 omega
theorem kn_hat {u y1 y0 : Int} (hy1 : 2147483648 ≤ y1) (h1 : y0 < 4294967296) (hu : u < y1 * 4294967296 + y0) : u / y1 ≤ 4294967297 := by
 have : u / y1 < 4294967298 := (Int.ediv_lt_iff_lt_mul (by omega)).2 (by omega)
 omega
/-- The test of a round asks whether the digit is still too great. -/
theorem kn_bool {q r u u1 y1 y0 : Int} (hy1 : 2147483648 ≤ y1) (hy0 : 0 ≤ y0) (hy02 : y0 < 4294967296) (hu0 : 0 ≤ u1) (hu1 : u1 < 4294967296) (hr0 : 0 ≤ r) (hr : r < 4294967296) (hq0 : 0 ≤ q) (hq : q < 4294967296) (h : q * y1 + r = u) :
  decide (IntKind.u64.wrap (q * y0) > IntKind.u64.wrap (IntKind.u64.wrap (4294967296 * r) + u1)) = decide ((u * 4294967296 + u1) / (y1 * 4294967296 + y0) < q) := by
 have b1 : q * y0 ≤ 4294967295 * 4294967295 := Int.mul_le_mul (by omega) (by omega) hy0 (by omega)
 have b0 := Int.mul_nonneg hq0 hy0
 have e := (kn_test (y0 := y0) (u1 := u1) h).trans (kn_gt (show 0 < y1 * 4294967296 + y0 by omega))
 rw [IntKind.wrap_u64, IntKind.wrap_u64, IntKind.wrap_u64]
 rw [show q * y0 % 18446744073709551616 = q * y0 by omega, show (4294967296 * r % 18446744073709551616 + u1) % 18446744073709551616 = r * 4294967296 + u1 by omega]
 exact decide_eq_decide.2 e
/-- Where the rest is past one word, the digit isn't too great. -/
theorem kn_end {q r u u1 y1 y0 : Int} (hy1 : 0 < y1) (hy0 : 0 ≤ y0) (hy02 : y0 < 4294967296) (hu0 : 0 ≤ u1) (hr : 4294967296 ≤ r) (hq0 : 0 ≤ q) (hq : q ≤ 4294967296) (h : q * y1 + r = u) : q ≤ (u * 4294967296 + u1) / (y1 * 4294967296 + y0) := by
 have e := (kn_test (y0 := y0) (u1 := u1) h).trans (kn_gt (show 0 < y1 * 4294967296 + y0 by omega))
 have b1 : q * y0 ≤ 4294967296 * 4294967295 := Int.mul_le_mul hq (by omega) hy0 (by omega)
 have : ¬ (u * 4294967296 + u1) / (y1 * 4294967296 + y0) < q := fun c => by
  have := e.2 c
  omega
 omega
theorem div_l0 (s u u1 y1 y0 un0 : Int) (hy1 : 2147483648 ≤ y1) (hy12 : y1 < 4294967296) (hy0 : 0 ≤ y0) (hy02 : y0 < 4294967296) (hu : 0 ≤ u) (hu2 : u < y1 * 4294967296 + y0) (hu0 : 0 ≤ u1) (hu1 : u1 < 4294967296) (d : Nat) :
  ∀ (k : Nat) (q r : Int), 4294967296 ≤ r + d * 2147483648 → 0 ≤ r → r < 4294967296 → q * y1 + r = u → (u * 4294967296 + u1) / (y1 * 4294967296 + y0) ≤ q → q ≤ 4294967297 → 2 * d < k →
   ∃ m, k ≤ m + 2 * d ∧ bits_Div64.l0 k (y1 * 4294967296 + y0) s y1 y0 u u1 un0 q r = bits_Div64.j2 m (y1 * 4294967296 + y0) s y1 y0 u u1 un0 ((u * 4294967296 + u1) / (y1 * 4294967296 + y0)) := by
 induction d with
 | zero => intro k q r h1 h2 h3; omega
 | succ d ih =>
  intro k q r h1 h2 h3 h4 h5 h6 hk
  obtain ⟨k, rfl⟩ : ∃ m, k = m + 2 := ⟨k - 2, by omega⟩
  have ht := kn_top hu hu2 hu0 hu1
  have ke := fun (hc : (u * 4294967296 + u1) / (y1 * 4294967296 + y0) < q) c => kn_end (q := q - 1) (r := r + y1) (u := u) (u1 := u1) (y1 := y1) (y0 := y0) (by omega) hy0 hy02 hu0 c (by omega) (by omega) (by rw [Int.sub_mul]; omega)
  have e1 : bits_Div64.l0 (k + 2) (y1 * 4294967296 + y0) s y1 y0 u u1 un0 q r = bits_Div64.j1 (k + 1) (y1 * 4294967296 + y0) s y1 y0 u u1 un0 q r (decide ((u * 4294967296 + u1) / (y1 * 4294967296 + y0) < q)) := by
   simp only [bits_Div64.l0]
   by_cases c : q ≥ 4294967296
   ·rw [if_pos c, show decide ((u * 4294967296 + u1) / (y1 * 4294967296 + y0) < q) = true from decide_eq_true (by omega)]
   ·rw [if_neg c, kn_bool hy1 hy0 hy02 hu0 hu1 h2 h3 (by omega) (by omega) h4]
  rw [e1]
  generalize (u * 4294967296 + u1) / (y1 * 4294967296 + y0) = Q at *
  simp only [bits_Div64.j1]
  by_cases c : Q < q
  ·rw [decide_eq_true c, if_pos rfl]
   have w1 : IntKind.u64.wrap (r + y1) = r + y1 := by rw [IntKind.wrap_u64]; omega
   have w2 : IntKind.u64.wrap (q - 1) = q - 1 := by rw [IntKind.wrap_u64]; omega
   rw [w1, w2]
   by_cases c2 : r + y1 ≥ 4294967296
   ·rw [if_pos c2]
    have := ke c c2
    obtain rfl : q = Q + 1 := by omega
    exact ⟨k, by omega, by rw [show Q + 1 - 1 = Q by omega]⟩
   ·rw [if_neg c2]
    obtain ⟨m, hm, e⟩ := ih k (q - 1) (r + y1) (by omega) (by omega) (by omega) (by rw [Int.sub_mul]; omega) (by omega) (by omega) (by omega)
    exact ⟨m, by omega, e⟩
  ·rw [decide_eq_false c, if_neg (by simp)]
   obtain rfl : q = Q := by omega
   exact ⟨k, by omega, rfl⟩
theorem div_l1 (s u u1 y1 y0 q1 : Int) (hs : 0 ≤ s) (hy1 : 2147483648 ≤ y1) (hy12 : y1 < 4294967296) (hy0 : 0 ≤ y0) (hy02 : y0 < 4294967296) (hu : 0 ≤ u) (hu2 : u < y1 * 4294967296 + y0) (hu0 : 0 ≤ u1) (hu1 : u1 < 4294967296) (d : Nat) :
  ∀ (k : Nat) (q r : Int), 4294967296 ≤ r + d * 2147483648 → 0 ≤ r → r < 4294967296 → q * y1 + r = u → (u * 4294967296 + u1) / (y1 * 4294967296 + y0) ≤ q → q ≤ 4294967297 → 2 * d < k →
   ∃ rem, bits_Div64.l1 k (y1 * 4294967296 + y0) s y1 y0 u1 q1 r u q = some (IntKind.u64.wrap (IntKind.u64.wrap (q1 * 4294967296) + (u * 4294967296 + u1) / (y1 * 4294967296 + y0)), rem) := by
 induction d with
 | zero => intro k q r h1 h2 h3; omega
 | succ d ih =>
  intro k q r h1 h2 h3 h4 h5 h6 hk
  obtain ⟨k, rfl⟩ : ∃ m, k = m + 2 := ⟨k - 2, by omega⟩
  have ht := kn_top hu hu2 hu0 hu1
  have ke := fun (hc : (u * 4294967296 + u1) / (y1 * 4294967296 + y0) < q) c => kn_end (q := q - 1) (r := r + y1) (u := u) (u1 := u1) (y1 := y1) (y0 := y0) (by omega) hy0 hy02 hu0 c (by omega) (by omega) (by rw [Int.sub_mul]; omega)
  have e1 : bits_Div64.l1 (k + 2) (y1 * 4294967296 + y0) s y1 y0 u1 q1 r u q = bits_Div64.j4 (k + 1) (y1 * 4294967296 + y0) s y1 y0 u1 q1 r u q (decide ((u * 4294967296 + u1) / (y1 * 4294967296 + y0) < q)) := by
   simp only [bits_Div64.l1]
   by_cases c : q ≥ 4294967296
   ·rw [if_pos c, show decide ((u * 4294967296 + u1) / (y1 * 4294967296 + y0) < q) = true from decide_eq_true (by omega)]
   ·rw [if_neg c, kn_bool hy1 hy0 hy02 hu0 hu1 h2 h3 (by omega) (by omega) h4]
  rw [e1]
  have ih := ih k (q - 1) (r + y1)
  generalize (u * 4294967296 + u1) / (y1 * 4294967296 + y0) = Q at *
  simp only [bits_Div64.j4]
  by_cases c : Q < q
  ·rw [decide_eq_true c, if_pos rfl]
   have w1 : IntKind.u64.wrap (r + y1) = r + y1 := by rw [IntKind.wrap_u64]; omega
   have w2 : IntKind.u64.wrap (q - 1) = q - 1 := by rw [IntKind.wrap_u64]; omega
   rw [w1, w2]
   by_cases c2 : r + y1 ≥ 4294967296
   ·rw [if_pos c2, if_pos hs]
    have := ke c c2
    obtain rfl : q = Q + 1 := by omega
    exact ⟨_, by rw [show Q + 1 - 1 = Q by omega]⟩
   ·rw [if_neg c2]
    exact ih (by omega) (by omega) (by omega) (by rw [Int.sub_mul]; omega) (by omega) (by omega) (by omega)
  ·rw [decide_eq_false c, if_neg (by simp), if_pos hs]
   obtain rfl : q = Q := by omega
   exact ⟨_, rfl⟩
/-- Both digits. -/
theorem div_two (k : Nat) (s u u1 u0 y1 y0 : Int) (hk : 20 < k) (hs : 0 ≤ s) (hy1 : 2147483648 ≤ y1) (hy12 : y1 < 4294967296) (hy0 : 0 ≤ y0) (hy02 : y0 < 4294967296) (hu : 0 ≤ u) (hu2 : u < y1 * 4294967296 + y0) (hu10 : 0 ≤ u1) (hu1 : u1 < 4294967296) (hu00 : 0 ≤ u0) (hu0 : u0 < 4294967296) :
  ∃ rem, bits_Div64.l0 k (y1 * 4294967296 + y0) s y1 y0 u u1 u0 (IntKind.u64.wrap (Int.tdiv u y1)) (IntKind.u64.wrap (u - IntKind.u64.wrap (IntKind.u64.wrap (Int.tdiv u y1) * y1))) =
   some ((u * 18446744073709551616 + u1 * 4294967296 + u0) / (y1 * 4294967296 + y0), rem) := by
 have start : ∀ u, 0 ≤ u → u < y1 * 4294967296 + y0 → IntKind.u64.wrap (Int.tdiv u y1) = u / y1 ∧ IntKind.u64.wrap (u - IntKind.u64.wrap (u / y1 * y1)) = u % y1 ∧ u / y1 * y1 + u % y1 = u ∧ 0 ≤ u % y1 ∧ u % y1 < y1 := by
  intro u hu hu2
  have h1 := kn_hat hy1 hy02 hu2
  have h0 : 0 ≤ u / y1 := Int.ediv_nonneg hu (by omega)
  have e := Int.mul_ediv_add_emod u y1
  have m0 := Int.emod_nonneg u (show y1 ≠ 0 by omega)
  have m1 := Int.emod_lt_of_pos u (show 0 < y1 by omega)
  rw [Int.mul_comm] at e
  have h2 := Int.mul_nonneg h0 (show 0 ≤ y1 by omega)
  rw [Int.tdiv_eq_ediv_of_nonneg hu, IntKind.wrap_u64, IntKind.wrap_u64, IntKind.wrap_u64]
  generalize u / y1 * y1 = p at *
  generalize u / y1 = a at *
  generalize u % y1 = b at *
  refine ⟨by omega, by omega, by omega, by omega, by omega⟩
 obtain ⟨a1, a2, a3, a4, a5⟩ := start u hu hu2
 rw [a1, a2]
 obtain ⟨m, hm, e⟩ := div_l0 s u u1 y1 y0 u0 hy1 hy12 hy0 hy02 hu hu2 hu10 hu1 2 k (u / y1) (u % y1) (by omega) a4 (by omega) a3 (kn_le (by omega) hy0 hu hu10 hu1) (kn_hat hy1 hy02 hu2) (by omega)
 rw [e]
 have ht := kn_top hu hu2 hu10 hu1
 have hme := Int.mul_ediv_add_emod (u * 4294967296 + u1) (y1 * 4294967296 + y0)
 have m0 := Int.emod_nonneg (u * 4294967296 + u1) (show y1 * 4294967296 + y0 ≠ 0 by omega)
 have m1 := Int.emod_lt_of_pos (u * 4294967296 + u1) (show 0 < y1 * 4294967296 + y0 by omega)
 obtain ⟨Q, hQ⟩ : ∃ Q, (u * 4294967296 + u1) / (y1 * 4294967296 + y0) = Q := ⟨_, rfl⟩
 obtain ⟨v, hv⟩ : ∃ v, (u * 4294967296 + u1) % (y1 * 4294967296 + y0) = v := ⟨_, rfl⟩
 rw [hQ] at ht hme ⊢
 rw [hv] at hme m0 m1
 obtain ⟨m, rfl⟩ : ∃ n, m = n + 1 := ⟨m - 1, by omega⟩
 simp only [bits_Div64.j2]
 rw [if_neg (by omega)]
 have hyy : y1 * 4294967296 + y0 < 18446744073709551616 := by omega
 have g : IntKind.u64.wrap (IntKind.u64.wrap (IntKind.u64.wrap (u * 4294967296) + u1) - IntKind.u64.wrap (Q * (y1 * 4294967296 + y0))) = v := by
  rw [IntKind.wrap_u64, IntKind.wrap_u64, IntKind.wrap_u64, IntKind.wrap_u64]
  rw [Int.mul_comm] at hme
  generalize Q * (y1 * 4294967296 + y0) = p at *
  omega
 rw [g]
 obtain ⟨b1, b2, b3, b4, b5⟩ := start v m0 m1
 rw [b1, b2]
 obtain ⟨rem, e2⟩ := div_l1 s v u0 y1 y0 Q hs hy1 hy12 hy0 hy02 m0 m1 hu00 hu0 2 m (v / y1) (v % y1) (by omega) b4 (by omega) b3 (kn_le (by omega) hy0 m0 hu00 hu0) (kn_hat hy1 hy02 m1) (by omega)
 refine ⟨rem, ?_⟩
 rw [e2]
 congr 2
 have ht2 := kn_top m0 m1 hu00 hu0
 have fin : (u * 18446744073709551616 + u1 * 4294967296 + u0) / (y1 * 4294967296 + y0) = Q * 4294967296 + (v * 4294967296 + u0) / (y1 * 4294967296 + y0) := by
  have : u * 18446744073709551616 + u1 * 4294967296 + u0 = (v * 4294967296 + u0) + (Q * 4294967296) * (y1 * 4294967296 + y0) := by
   have e3 : (Q * 4294967296) * (y1 * 4294967296 + y0) = ((y1 * 4294967296 + y0) * Q) * 4294967296 := by rw [Int.mul_right_comm, Int.mul_comm Q]
   rw [e3]
   generalize (y1 * 4294967296 + y0) * Q = p at *
   omega
  rw [this, Int.add_mul_ediv_right _ _ (by omega)]
  omega
 rw [fin, IntKind.wrap_u64, IntKind.wrap_u64]
 generalize (v * 4294967296 + u0) / (y1 * 4294967296 + y0) = b at *
 omega
theorem and_mask {n : Int} (h1 : 0 ≤ n) (h2 : n < 18446744073709551616) : Go.bits .and .u64 n 4294967295 = n % 4294967296 := by
 have e2 : BitVec.ofInt 64 4294967295 = BitVec.ofNat 64 4294967295 := by decide
 have hz : (BitVec.ofInt 64 n &&& BitVec.ofNat 64 4294967295).toNat = (n % 18446744073709551616).toNat % 4294967296 := by
  rw [BitVec.toNat_and, BitVec.toNat_ofInt, BitVec.toNat_ofNat, show 4294967295 % 2 ^ 64 = 2 ^ 32 - 1 from rfl, Nat.and_two_pow_sub_one_eq_mod]
  rfl
 show IntKind.u64.wrap (((BitVec.ofInt 64 n &&& BitVec.ofInt 64 4294967295).toNat : Nat) : Int) = _
 rw [e2, hz, IntKind.wrap_u64]
 omega
theorem or_disj {a b : Nat} (s : Nat) (ha : a * 2 ^ s < 18446744073709551616) (hb : b < 2 ^ s) (hb2 : b < 18446744073709551616) (hs : a * 2 ^ s + b < 18446744073709551616) :
  Go.bits .or .u64 ((a * 2 ^ s : Nat) : Int) (b : Int) = ((a * 2 ^ s + b : Nat) : Int) := by
 have hz : (BitVec.ofInt 64 ((a * 2 ^ s : Nat) : Int) ||| BitVec.ofInt 64 (b : Int)).toNat = a * 2 ^ s + b := by
  rw [BitVec.toNat_or, BitVec.toNat_ofInt, BitVec.toNat_ofInt]
  have a1 : (((a * 2 ^ s : Nat) : Int) % ((2 ^ 64 : Nat) : Int)).toNat = a <<< s := by rw [Nat.shiftLeft_eq]; omega
  have a2 : ((b : Int) % ((2 ^ 64 : Nat) : Int)).toNat = b := by omega
  rw [a1, a2, ← Nat.shiftLeft_add_eq_or_of_lt hb, Nat.shiftLeft_eq]
 show IntKind.u64.wrap (((BitVec.ofInt 64 ((a * 2 ^ s : Nat) : Int) ||| BitVec.ofInt 64 (b : Int)).toNat : Nat) : Int) = _
 rw [hz, IntKind.wrap_u64]
 omega
theorem shl_nat (x s : Nat) (hs : s ≤ 64) : shl .u64 (x : Int) (s : Int) = ((x * 2 ^ s % 18446744073709551616 : Nat) : Int) := by
 unfold shl
 rw [IntKind.wrap_u64, Int.toNat_natCast, show IntKind.u64.bits = 64 from rfl, Nat.min_eq_left hs, Int.natCast_emod, Int.natCast_mul, Int.natCast_pow]
 rfl
theorem shr_nat (x s : Nat) (hs : s ≤ 64) : shr .u64 (x : Int) (s : Int) = ((x / 2 ^ s : Nat) : Int) := by
 unfold shr
 rw [Int.toNat_natCast, show IntKind.u64.bits = 64 from rfl, Nat.min_eq_left hs, Int.natCast_ediv, Int.natCast_pow]
 rfl
theorem div64 (k : Nat) (hi lo c : Int) (hk : 20 < k) (h0 : 0 ≤ hi) (h1 : hi < c) (c1 : c < 18446744073709551616) (l0 : 0 ≤ lo) (l1 : lo < 18446744073709551616) :
  ∃ rem, bits_Div64.f k hi lo c = some ((hi * 18446744073709551616 + lo) / c, rem) := by
 unfold bits_Div64.f
 rw [if_neg (by omega), if_neg (by omega)]
 by_cases z : hi = 0
 ·rw [if_pos z, z]
  refine ⟨Int.tmod lo c, ?_⟩
  congr 2
  rw [Int.tdiv_eq_ediv_of_nonneg l0, IntKind.wrap_u64]
  have a := Int.ediv_nonneg l0 (show 0 ≤ c by omega)
  have b : lo / c ≤ lo := Int.ediv_le_self _ l0
  rw [show (0 : Int) * 18446744073709551616 + lo = lo by omega]
  omega
 ·rw [if_neg z]
  unfold bits_LeadingZeros64.f
  rw [if_pos ⟨by omega, by omega⟩, Option.bind_some]
  obtain ⟨hi, rfl⟩ : ∃ n : Nat, hi = n := ⟨hi.toNat, by omega⟩
  obtain ⟨lo, rfl⟩ : ∃ n : Nat, lo = n := ⟨lo.toNat, by omega⟩
  obtain ⟨c, rfl⟩ : ∃ n : Nat, c = n := ⟨c.toNat, by omega⟩
  rw [Int.toNat_natCast]
  have hb : 1 ≤ Lib.bitLen c ∧ 2 ^ (Lib.bitLen c - 1) ≤ c ∧ c < 2 ^ Lib.bitLen c := Lib.bitLenAux_bounds 64 c (by omega) (by omega)
  have hb2 : Lib.bitLen c ≤ 64 := Lib.bitLen_le c 64 (by omega) (by omega)
  obtain ⟨b, hbb⟩ : ∃ b, Lib.bitLen c = b := ⟨_, rfl⟩
  rw [hbb] at hb hb2 ⊢
  obtain ⟨s, hs⟩ : ∃ s : Nat, s = 64 - b := ⟨_, rfl⟩
  have w1 : IntKind.u64.wrap (64 - (b : Int)) = (s : Int) := by rw [IntKind.wrap_u64]; omega
  have w2 : IntKind.u64.wrap (64 - (s : Int)) = (b : Int) := by rw [IntKind.wrap_u64]; omega
  rw [w1, w2, if_pos (by omega), if_pos (by omega), shl_nat c s (by omega), shl_nat hi s (by omega), shl_nat lo s (by omega), shr_nat lo b (by omega)]
  obtain ⟨hb0, hb1, hb3⟩ := hb
  have hP : 2 ^ b * 2 ^ s = 18446744073709551616 := by
   rw [← Nat.pow_add, show b + s = 64 by omega]
  have hP2 : 2 ^ (b - 1) * 2 ^ s = 9223372036854775808 := by
   rw [← Nat.pow_add, show b - 1 + s = 63 by omega]
  have P0 : 0 < 2 ^ s := Nat.two_pow_pos s
  have R0 : 0 < 2 ^ b := Nat.two_pow_pos b
  have m1 : c * 2 ^ s < 18446744073709551616 := by rw [← hP]; exact Nat.mul_lt_mul_of_pos_right hb3 P0
  have m2 : 9223372036854775808 ≤ c * 2 ^ s := by rw [← hP2]; exact Nat.mul_le_mul_right _ hb1
  have m3 : hi * 2 ^ s < c * 2 ^ s := Nat.mul_lt_mul_of_pos_right (by omega) P0
  have m4 : lo / 2 ^ b < 2 ^ s := by
   rw [Nat.div_lt_iff_lt_mul R0, Nat.mul_comm, hP]
   omega
  have m5 : lo * 2 ^ s / 18446744073709551616 = lo / 2 ^ b := by rw [← hP, Nat.mul_div_mul_right _ _ P0]
  have m6 : hi * 2 ^ s + 2 ^ s ≤ c * 2 ^ s := by
   rw [← Nat.succ_mul]
   exact Nat.mul_le_mul_right _ (by omega)
  have m7 : (hi * 18446744073709551616 + lo) / c = ((hi * 18446744073709551616 + lo) * 2 ^ s) / (c * 2 ^ s) := (Nat.mul_div_mul_right _ _ P0).symm
  have m8 : (hi * 18446744073709551616 + lo) * 2 ^ s = hi * 2 ^ s * 18446744073709551616 + lo * 2 ^ s := by
   rw [Nat.add_mul, Nat.mul_right_comm]
  rw [Nat.mod_eq_of_lt m1, Nat.mod_eq_of_lt (show hi * 2 ^ s < 18446744073709551616 by omega), or_disj s (by omega) m4 (by omega) (by omega)]
  have e7 : ((hi : Int) * 18446744073709551616 + (lo : Int)) / (c : Int) = (((hi * 18446744073709551616 + lo) / c : Nat) : Int) := by rw [Int.natCast_ediv, Int.natCast_add, Int.natCast_mul]; rfl
  rw [e7, m7, m8]
  clear e7 m7 m8 hP hP2 hb1 hb3
  generalize c * 2 ^ s = Y at *
  generalize hi * 2 ^ s = H at *
  generalize hL : lo * 2 ^ s = L at *
  generalize lo / 2 ^ b = l at *
  generalize 2 ^ s = P at *
  rw [if_neg (by omega), and_mask (by omega) (by omega), and_mask (by omega) (by omega)]
  have e := div_two k s ((H + l : Nat) : Int) (((L % 18446744073709551616 : Nat) : Int) / 4294967296) (((L % 18446744073709551616 : Nat) : Int) % 4294967296) ((Y : Int) / 4294967296) ((Y : Int) % 4294967296) hk (by omega) (by omega) (by omega) (by omega) (by omega) (by omega) (by omega) (by omega) (by omega) (by omega) (by omega)
  rw [show (Y : Int) / 4294967296 * 4294967296 + (Y : Int) % 4294967296 = (Y : Int) by omega] at e
  obtain ⟨rem, e⟩ := e
  refine ⟨rem, e.trans (congrArg (fun x => some (x, rem)) ?_)⟩
  have : ((H + l : Nat) : Int) * 18446744073709551616 + ((L % 18446744073709551616 : Nat) : Int) / 4294967296 * 4294967296 + ((L % 18446744073709551616 : Nat) : Int) % 4294967296 = ((H * 18446744073709551616 + L : Nat) : Int) := by omega
  rw [this, ← Int.natCast_ediv]
end Go.Proofs.YtnjobjogddjelaaGreatDoor.Pure
end

section
namespace Go.Proofs.YtnjobjogddjelaaGreatDoor.Print
open Go.RowKit Go.Proofs.YtnjobjogddjelaaGreatDoorX Go.Proofs.YtnjobjogddjelaaGreatDoorW.PrintWords Go.Proofs.YtnjobjogddjelaaGreatDoorW.PrintLast Go.Proofs.YtnjobjogddjelaaGreatDoorW.PrintMore
attribute [local go_sem] max2_int min2_int max_two min_two max_three min_three max_four min_four

/-! ### fix_over: function 49 -/
def fix_over.f (a0_0 : Bool) (a0_1 : Int) : Option (Bool) := if a0_0 = true then (some true) else (some (a0_1 == (-9223372036854775808)))
set_option maxHeartbeats 8000000 in
set_option maxRecDepth 100000 in
theorem fix_over.calls (a0_0 : Bool) (a0_1 : Int) (r : Bool) (w : World) (h : fix_over.f a0_0 a0_1 = some r) :
  Calls Tryz.prog 49 #[.agg #[.bool a0_0, .int .i64 a0_1]] w fun e w' => e = .returned (.bool r) ∧ Below w.heap.size w w' := by
 have hu34 := Tryz.underlying34
 have HB := Aside0.mk (Below.refl w.heap.size w)
 have H : (if a0_0 = true then (some true) else (some (a0_1 == (-9223372036854775808)))) = some r := h
 clear h
 by_cases c2 : a0_0 = true
 ·subst c2
  have H1 : (some true) = some r := by rw [if_pos rfl] at H; exact H
  clear H
  have H := H1
  clear H1
  obtain rfl := Option.some.inj H
  go_enter Tryz.func49, Tryz.ntmps49
  go_wp2_with (first | ((with_reducible refine gate_dst (N := 1) rfl ?_); refine box_event ?hg (N := 1) ?hd (cs := #[.bool true, .int .i64 a0_1]) (t := 34) ?hr ?_; (case hd => rfl); (case hg => rfl); (case hr => first | (go_simp; done) | (go_simp; rfl)); intro gb208 hg w3 hbox hb; have n0_ := Aside0.mk (below_step (by repeat (first | (with_reducible first | exact HB.out | apply below_alloc | apply pw_below_drewN | apply below_drew1) | exact HB.out)) hb); have n1_ := Aside0.mk (hbox); have n2_ := Aside0.mk ((by rw [hg]; exact (below_size (by repeat (first | (with_reducible first | exact HB.out | apply below_alloc | apply pw_below_drewN | apply below_drew1) | exact HB.out))) : w.heap.size ≤ gb208)); have n3_ := Aside0.mk ((by rw [hg]; exact (below_size (by repeat (first | (with_reducible first | exact HB.out | apply below_alloc | apply pw_below_drewN | apply below_drew1) | exact HB.out))) : w.heap.size ≤ gb208)); clear HB; have HB := n0_; have BK208 := n1_; have GW208 := n2_; have GE208 := n3_; clear n0_ n1_ n2_ n3_; clear hb hbox hg; have hcz4_0 : w3.cell? ⟨gb208, 0, none⟩ = some (.bool true) := (blk_cell BK208.out 0).trans rfl; have hcz4_1 : w3.cell? ⟨gb208, 1, none⟩ = some (.int .i64 a0_1) := (blk_cell BK208.out 1).trans rfl; have hfz4_0 := blk_frozen BK208.out 0; have hfz4_1 := blk_frozen BK208.out 1))
  go_ret
  exact ⟨by first | rfl | (simp [errW_none, errW_some] <;> rfl) | (simp [*, errW_none, errW_some] <;> rfl), by repeat (first | (with_reducible first | exact HB.out | apply below_alloc | apply pw_below_drewN | apply below_drew1 | refine below_set ?_ GE208.out) | exact HB.out)⟩
 ·replace c2 := Bool.eq_false_iff.mpr c2
  subst c2
  have H1 : (some (a0_1 == (-9223372036854775808))) = some r := by rw [if_neg (show ¬ (false = true) by decide)] at H; exact H
  clear H
  have H := H1
  clear H1
  obtain rfl := Option.some.inj H
  go_enter Tryz.func49, Tryz.ntmps49
  go_wp2_with (first | ((with_reducible refine gate_dst (N := 1) rfl ?_); refine box_event ?hg (N := 1) ?hd (cs := #[.bool false, .int .i64 a0_1]) (t := 34) ?hr ?_; (case hd => rfl); (case hg => rfl); (case hr => first | (go_simp; done) | (go_simp; rfl)); intro gb208 hg w5 hbox hb; have n0_ := Aside0.mk (below_step (by repeat (first | (with_reducible first | exact HB.out | apply below_alloc | apply pw_below_drewN | apply below_drew1) | exact HB.out)) hb); have n1_ := Aside0.mk (hbox); have n2_ := Aside0.mk ((by rw [hg]; exact (below_size (by repeat (first | (with_reducible first | exact HB.out | apply below_alloc | apply pw_below_drewN | apply below_drew1) | exact HB.out))) : w.heap.size ≤ gb208)); have n3_ := Aside0.mk ((by rw [hg]; exact (below_size (by repeat (first | (with_reducible first | exact HB.out | apply below_alloc | apply pw_below_drewN | apply below_drew1) | exact HB.out))) : w.heap.size ≤ gb208)); clear HB; have HB := n0_; have BK208 := n1_; have GW208 := n2_; have GE208 := n3_; clear n0_ n1_ n2_ n3_; clear hb hbox hg; have hcz6_0 : w5.cell? ⟨gb208, 0, none⟩ = some (.bool false) := (blk_cell BK208.out 0).trans rfl; have hcz6_1 : w5.cell? ⟨gb208, 1, none⟩ = some (.int .i64 a0_1) := (blk_cell BK208.out 1).trans rfl; have hfz6_0 := blk_frozen BK208.out 0; have hfz6_1 := blk_frozen BK208.out 1))
  go_ret
  exact ⟨by first | rfl | (simp [errW_none, errW_some] <;> rfl) | (simp [*, errW_none, errW_some] <;> rfl), by repeat (first | (with_reducible first | exact HB.out | apply below_alloc | apply pw_below_drewN | apply below_drew1 | refine below_set ?_ GE208.out) | exact HB.out)⟩

end Go.Proofs.YtnjobjogddjelaaGreatDoor.Print
end

section
namespace Go.Proofs.YtnjobjogddjelaaGreatDoor.Pure
open Go.RowKit Go.Proofs.YtnjobjogddjelaaGreatDoor.Print Go.Proofs.YtnjobjogddjelaaGreatDoorW.PrintWords Go.Proofs.YtnjobjogddjelaaGreatDoorW.PrintLast Go.Proofs.YtnjobjogddjelaaGreatDoorW.PrintMore
theorem wrap_id {n : Int} (h1 : -9223372036854775808 ≤ n) (h2 : n ≤ 9223372036854775807) : wrap64 n = n := by unfold wrap64; omega
/-! The exact sum. -/
def isOver (a : S34) : Bool := a.f0 || a.f1 == -9223372036854775808
def told (s : Int) : Bool × Int := if -9223372036854775808 < s ∧ s < 9223372036854775808 then (false, s) else (true, 0)
end Go.Proofs.YtnjobjogddjelaaGreatDoor.Pure
end

section
namespace Go.Proofs.YtnjobjogddjelaaGreatDoor.Print
open Go.RowKit Go.Proofs.YtnjobjogddjelaaGreatDoorX Go.Proofs.YtnjobjogddjelaaGreatDoorW.PrintWords Go.Proofs.YtnjobjogddjelaaGreatDoorW.PrintLast Go.Proofs.YtnjobjogddjelaaGreatDoorW.PrintMore
attribute [local go_sem] max2_int min2_int max_two min_two max_three min_three max_four min_four

/-! ### fix_ovf: function 58 -/
def fix_ovf.f  : Option (Bool × Int) := some (true, 0)
set_option maxHeartbeats 8000000 in
set_option maxRecDepth 100000 in
theorem fix_ovf.calls  (r1 : Bool) (r2 : Int) (w : World) (h : fix_ovf.f  = some (r1, r2)) :
  Calls Tryz.prog 58 #[] w fun e w' => e = .returned (.agg #[.bool r1, .int .i64 r2]) ∧ Below w.heap.size w w' := by
 have hu34 := Tryz.underlying34
 have HB := Aside0.mk (Below.refl w.heap.size w)
 have H : (some (true, 0)) = some (r1, r2) := h
 clear h
 simp only [Option.some.injEq, Prod.mk.injEq] at H
 obtain ⟨rfl, rfl⟩ := H
 go_enter Tryz.func58, Tryz.ntmps58
 go_wp2_with (first | ((with_reducible refine gate_dst (N := 0) rfl ?_); refine box_event ?hg (N := 0) ?hd (cs := #[.bool false, .int .i64 0]) (t := 34) ?hr ?_; (case hd => rfl); (case hg => rfl); (case hr => first | (go_simp; done) | (go_simp; rfl)); intro gb103 hg w1 hbox hb; have n0_ := Aside0.mk (below_step (by repeat (first | (with_reducible first | exact HB.out | apply below_alloc | apply pw_below_drewN | apply below_drew1) | exact HB.out)) hb); have n1_ := Aside0.mk (hbox); have n2_ := Aside0.mk ((by rw [hg]; exact (below_size (by repeat (first | (with_reducible first | exact HB.out | apply below_alloc | apply pw_below_drewN | apply below_drew1) | exact HB.out))) : w.heap.size ≤ gb103)); have n3_ := Aside0.mk ((by rw [hg]; exact (below_size (by repeat (first | (with_reducible first | exact HB.out | apply below_alloc | apply pw_below_drewN | apply below_drew1) | exact HB.out))) : w.heap.size ≤ gb103)); clear HB; have HB := n0_; have BK103 := n1_; have GW103 := n2_; have GE103 := n3_; clear n0_ n1_ n2_ n3_; clear hb hbox hg; have hcz2_0 : w1.cell? ⟨gb103, 0, none⟩ = some (.bool false) := (blk_cell BK103.out 0).trans rfl; have hcz2_1 : w1.cell? ⟨gb103, 1, none⟩ = some (.int .i64 0) := (blk_cell BK103.out 1).trans rfl; have hfz2_0 := blk_frozen BK103.out 0; have hfz2_1 := blk_frozen BK103.out 1))
 refine bodyPost_ret (results_cell_row rfl _ _ gb103 34 #[.bool true, .int .i64 0] (0, 0) _ rfl (by (with_reducible repeat (first | refine blk_drewN ?_ _ | refine blk_drew ?_ | refine blk_alloc ?_ _)); refine blk_put (cs := #[.bool true, .int .i64 0]) ?_ 1 _ rfl; (with_reducible repeat (first | refine blk_drewN ?_ _ | refine blk_drew ?_ | refine blk_alloc ?_ _)); refine blk_put (cs := #[.bool false, .int .i64 0]) ?_ 0 _ rfl; (with_reducible repeat (first | refine blk_drewN ?_ _ | refine blk_drew ?_ | refine blk_alloc ?_ _)); exact BK103.out) Tryz.underlying34 rfl (by kernel_rfl)) rfl ?_
 exact ⟨by first | rfl | (simp [errW_none, errW_some] <;> rfl) | (simp [*, errW_none, errW_some] <;> rfl), by repeat (first | (with_reducible first | exact HB.out | apply below_alloc | apply pw_below_drewN | apply below_drew1 | refine below_set ?_ GE103.out) | exact HB.out)⟩

end Go.Proofs.YtnjobjogddjelaaGreatDoor.Print
end

section
namespace Go.Proofs.YtnjobjogddjelaaGreatDoor.Print
open Go.RowKit Go.Proofs.YtnjobjogddjelaaGreatDoorX Go.Proofs.YtnjobjogddjelaaGreatDoorW.PrintWords Go.Proofs.YtnjobjogddjelaaGreatDoorW.PrintLast Go.Proofs.YtnjobjogddjelaaGreatDoorW.PrintMore
attribute [local go_sem] max2_int min2_int max_two min_two max_three min_three max_four min_four

/-! ### fix_scaled: function 64 -/
def fix_scaled.f (k : Nat) (a0 : Bool) (a1 : Int) (a2 : Int) (a3 : Int) : Option (Bool × Int) := (bits_Mul64.f a1 a2).bind fun bt106 => (if bt106.1 ≥ a3 then ((fix_ovf.f).bind fun bt108 => (some (bt108.1, bt108.2))) else ((bits_Div64.f k bt106.1 bt106.2 a3).bind fun bt110 => (if bt110.1 > 9223372036854775807 then ((fix_ovf.f).bind fun bt112 => (some (bt112.1, bt112.2))) else (if a0 = true then (some (false, wrap64 (-(wrap64 (bt110.1))))) else (some (false, wrap64 (bt110.1)))))))
theorem fix_scaled.mono : ∀ a0 a1 a2 a3 k, LeO (fix_scaled.f k a0 a1 a2 a3) (fix_scaled.f (k + 1) a0 a1 a2 a3) := by
 intro a0 a1 a2 a3 k
 unfold fix_scaled.f
 repeat' first
   | (with_reducible exact bits_Div64.mono _ _ _ _)
   | (with_reducible exact LeO.refl _)
   | (with_reducible exact LeO.none _)
   | (with_reducible refine LeO.ite ?_ ?_)
   | (with_reducible refine LeO.bind ?_ (fun _ => ?_))
   | exact bits_Div64.mono _ _ _ _
   | exact LeO.none _
   | refine LeO.ite ?_ ?_
   | refine LeO.bind ?_ (fun _ => ?_)
set_option maxHeartbeats 8000000 in
set_option maxRecDepth 100000 in
theorem fix_scaled.calls (k : Nat) (a0 : Bool) (a1 : Int) (a2 : Int) (a3 : Int) (r1 : Bool) (r2 : Int) (w : World) (h : fix_scaled.f k a0 a1 a2 a3 = some (r1, r2)) :
  Calls Tryz.prog 64 #[.bool a0, .int .u64 a1, .int .u64 a2, .int .u64 a3] w fun e w' => e = .returned (.agg #[.bool r1, .int .i64 r2]) ∧ Below w.heap.size w w' := by
 have hu34 := Tryz.underlying34
 have HB := Aside0.mk (Below.refl w.heap.size w)
 have H : ((bits_Mul64.f a1 a2).bind fun bt106 => (if bt106.1 ≥ a3 then ((fix_ovf.f).bind fun bt108 => (some (bt108.1, bt108.2))) else ((bits_Div64.f k bt106.1 bt106.2 a3).bind fun bt110 => (if bt110.1 > 9223372036854775807 then ((fix_ovf.f).bind fun bt112 => (some (bt112.1, bt112.2))) else (if a0 = true then (some (false, wrap64 (-(wrap64 (bt110.1))))) else (some (false, wrap64 (bt110.1)))))))) = some (r1, r2) := h
 clear h
 replace H := Option.bind_eq_some_iff.mp H
 obtain ⟨⟨t106, t107⟩, A50, H⟩ := H
 replace H : (if t106 ≥ a3 then ((fix_ovf.f).bind fun bt108 => (some (bt108.1, bt108.2))) else ((bits_Div64.f k t106 t107 a3).bind fun bt110 => (if bt110.1 > 9223372036854775807 then ((fix_ovf.f).bind fun bt112 => (some (bt112.1, bt112.2))) else (if a0 = true then (some (false, wrap64 (-(wrap64 (bt110.1))))) else (some (false, wrap64 (bt110.1))))))) = some (r1, r2) := H
 have A5 := Aside0.mk A50
 clear A50
 by_cases c6 : t106 ≥ a3
 ·rw [if_pos c6] at H
  have c6b0 : decide (a3 ≤ t106) = true := decide_eq_true c6
  clear c6
  replace H := Option.bind_eq_some_iff.mp H
  obtain ⟨⟨t108, t109⟩, A70, H⟩ := H
  replace H : (some (t108, t109)) = some (r1, r2) := H
  have A7 := Aside0.mk A70
  clear A70
  simp only [Option.some.injEq, Prod.mk.injEq] at H
  obtain ⟨rfl, rfl⟩ := H
  go_enter Tryz.func64, Tryz.ntmps64
  go_wp2_with (first | ((with_reducible refine gate_dst (N := 8) rfl ?_); refine box_event ?hg (N := 8) ?hd (cs := #[.bool false, .int .i64 0]) (t := 34) ?hr ?_; (case hd => rfl); (case hg => rfl); (case hr => first | (go_simp; done) | (go_simp; rfl)); intro gb105 hg w8 hbox hb; have n0_ := Aside0.mk (below_step (by repeat (first | (with_reducible first | exact HB.out | apply below_alloc | apply pw_below_drewN | apply below_drew1) | exact HB.out)) hb); have n1_ := Aside0.mk (hbox); have n2_ := Aside0.mk ((by rw [hg]; exact (below_size (by repeat (first | (with_reducible first | exact HB.out | apply below_alloc | apply pw_below_drewN | apply below_drew1) | exact HB.out))) : w.heap.size ≤ gb105)); have n3_ := Aside0.mk ((by rw [hg]; exact (below_size (by repeat (first | (with_reducible first | exact HB.out | apply below_alloc | apply pw_below_drewN | apply below_drew1) | exact HB.out))) : w.heap.size ≤ gb105)); clear HB; have HB := n0_; have BK105 := n1_; have GW105 := n2_; have GE105 := n3_; clear n0_ n1_ n2_ n3_; clear hb hbox hg) | ((with_reducible refine gate_callee (f := 85) rfl ?_); refine goesL_ (some 16) rfl rfl Tryz.func85 (by kernel_rfl) rfl #[.int .u64 a1, .int .u64 a2] rfl (by (try simp only [List.map_toArray, List.map_cons, List.map_nil]); first | done | rfl | (simp only [List.length_drop, List.length_take]; rfl)) ?_; (with_reducible refine (bits_Mul64.calls a1 a2 t106 t107 _ A5.out).mono ?_); rintro e w' ⟨rfl, ⟨nd, rfl⟩⟩; refine ⟨_, rfl, ?_⟩; (try (rw [drewN_self w8]; generalize hq_ : World.drewN w8 _ = w8; have n0_ : Aside0 (w8.heap[gb105]? = some (.cells #[.bool false, .int .i64 0] 34 (0, 0))) := ⟨by rw [← hq_]; exact (by (with_reducible repeat (first | refine blk_drewN ?_ _ | refine blk_drew ?_ | refine blk_alloc ?_ _)); exact BK105.out)⟩; have n1_ : Aside0 (Below w.heap.size w w8) := ⟨by rw [← hq_]; exact (by repeat (first | (with_reducible first | exact HB.out | apply below_alloc | apply pw_below_drewN | apply below_drew1 | refine below_set ?_ GE105.out) | exact HB.out))⟩; clear BK105 HB hq_; have BK105 := n0_; have HB := n1_; clear n0_ n1_))) | ((with_reducible refine gate_callee (f := 58) rfl ?_); refine goesL_ (some 22) rfl rfl Tryz.func58 (by kernel_rfl) rfl #[] rfl (by (try simp only [List.map_toArray, List.map_cons, List.map_nil]); first | done | rfl | (simp only [List.length_drop, List.length_take]; rfl)) ?_; (with_reducible refine (fix_ovf.calls  t108 t109 _ A7.out).mono ?_); rintro e w9 ⟨rfl, hb⟩; refine ⟨_, rfl, ?_⟩; have n0_ := Aside0.mk (blk_below (g := gb105) (o := .cells #[.bool false, .int .i64 0] 34 (0, 0)) (by (with_reducible repeat (first | refine blk_drewN ?_ _ | refine blk_drew ?_ | refine blk_alloc ?_ _)); exact BK105.out) hb); have n1_ := Aside0.mk (below_step (by repeat (first | (with_reducible first | exact HB.out | apply below_alloc | apply pw_below_drewN | apply below_drew1 | refine below_set ?_ GE105.out) | exact HB.out)) hb); clear BK105; clear HB; have BK105 := n0_; have HB := n1_; clear n0_ n1_; (try clear hb); (try clear hb2); (try clear hk); (try clear hi); have hcz10_0 : w9.cell? ⟨gb105, 0, none⟩ = some (.bool false) := (blk_cell BK105.out 0).trans rfl; have hcz10_1 : w9.cell? ⟨gb105, 1, none⟩ = some (.int .i64 0) := (blk_cell BK105.out 1).trans rfl; have hfz10_0 := blk_frozen BK105.out 0; have hfz10_1 := blk_frozen BK105.out 1))
  refine bodyPost_ret (results_cell_row rfl _ _ gb105 34 #[.bool t108, .int .i64 t109] (0, 0) _ rfl (by (with_reducible repeat (first | refine blk_drewN ?_ _ | refine blk_drew ?_ | refine blk_alloc ?_ _)); refine blk_put (cs := #[.bool t108, .int .i64 0]) ?_ 1 _ rfl; (with_reducible repeat (first | refine blk_drewN ?_ _ | refine blk_drew ?_ | refine blk_alloc ?_ _)); refine blk_put (cs := #[.bool false, .int .i64 0]) ?_ 0 _ rfl; (with_reducible repeat (first | refine blk_drewN ?_ _ | refine blk_drew ?_ | refine blk_alloc ?_ _)); exact BK105.out) Tryz.underlying34 rfl (by kernel_rfl)) rfl ?_
  exact ⟨by first | rfl | (simp [errW_none, errW_some] <;> rfl) | (simp [*, errW_none, errW_some] <;> rfl), by repeat (first | (with_reducible first | exact HB.out | apply below_alloc | apply pw_below_drewN | apply below_drew1 | refine below_set ?_ GE105.out) | exact HB.out)⟩
 ·rw [if_neg c6] at H
  have c6b0 : decide (a3 ≤ t106) = false := decide_eq_false c6
  clear c6
  replace H := Option.bind_eq_some_iff.mp H
  obtain ⟨⟨t110, t111⟩, A110, H⟩ := H
  replace H : (if t110 > 9223372036854775807 then ((fix_ovf.f).bind fun bt112 => (some (bt112.1, bt112.2))) else (if a0 = true then (some (false, wrap64 (-(wrap64 (t110))))) else (some (false, wrap64 (t110))))) = some (r1, r2) := H
  have A11 := Aside0.mk A110
  clear A110
  by_cases c12 : t110 > 9223372036854775807
  ·rw [if_pos c12] at H
   have c12b0 : decide (9223372036854775807 < t110) = true := decide_eq_true c12
   clear c12
   replace H := Option.bind_eq_some_iff.mp H
   obtain ⟨⟨t112, t113⟩, A130, H⟩ := H
   replace H : (some (t112, t113)) = some (r1, r2) := H
   have A13 := Aside0.mk A130
   clear A130
   simp only [Option.some.injEq, Prod.mk.injEq] at H
   obtain ⟨rfl, rfl⟩ := H
   go_enter Tryz.func64, Tryz.ntmps64
   go_wp2_with (first | ((with_reducible refine gate_dst (N := 8) rfl ?_); refine box_event ?hg (N := 8) ?hd (cs := #[.bool false, .int .i64 0]) (t := 34) ?hr ?_; (case hd => rfl); (case hg => rfl); (case hr => first | (go_simp; done) | (go_simp; rfl)); intro gb105 hg w14 hbox hb; have n0_ := Aside0.mk (below_step (by repeat (first | (with_reducible first | exact HB.out | apply below_alloc | apply pw_below_drewN | apply below_drew1) | exact HB.out)) hb); have n1_ := Aside0.mk (hbox); have n2_ := Aside0.mk ((by rw [hg]; exact (below_size (by repeat (first | (with_reducible first | exact HB.out | apply below_alloc | apply pw_below_drewN | apply below_drew1) | exact HB.out))) : w.heap.size ≤ gb105)); have n3_ := Aside0.mk ((by rw [hg]; exact (below_size (by repeat (first | (with_reducible first | exact HB.out | apply below_alloc | apply pw_below_drewN | apply below_drew1) | exact HB.out))) : w.heap.size ≤ gb105)); clear HB; have HB := n0_; have BK105 := n1_; have GW105 := n2_; have GE105 := n3_; clear n0_ n1_ n2_ n3_; clear hb hbox hg) | ((with_reducible refine gate_callee (f := 85) rfl ?_); refine goesL_ (some 16) rfl rfl Tryz.func85 (by kernel_rfl) rfl #[.int .u64 a1, .int .u64 a2] rfl (by (try simp only [List.map_toArray, List.map_cons, List.map_nil]); first | done | rfl | (simp only [List.length_drop, List.length_take]; rfl)) ?_; (with_reducible refine (bits_Mul64.calls a1 a2 t106 t107 _ A5.out).mono ?_); rintro e w' ⟨rfl, ⟨nd, rfl⟩⟩; refine ⟨_, rfl, ?_⟩; (try (rw [drewN_self w14]; generalize hq_ : World.drewN w14 _ = w14; have n0_ : Aside0 (w14.heap[gb105]? = some (.cells #[.bool false, .int .i64 0] 34 (0, 0))) := ⟨by rw [← hq_]; exact (by (with_reducible repeat (first | refine blk_drewN ?_ _ | refine blk_drew ?_ | refine blk_alloc ?_ _)); exact BK105.out)⟩; have n1_ : Aside0 (Below w.heap.size w w14) := ⟨by rw [← hq_]; exact (by repeat (first | (with_reducible first | exact HB.out | apply below_alloc | apply pw_below_drewN | apply below_drew1 | refine below_set ?_ GE105.out) | exact HB.out))⟩; clear BK105 HB hq_; have BK105 := n0_; have HB := n1_; clear n0_ n1_))) | ((with_reducible refine gate_callee (f := 86) rfl ?_); refine goesL_ (some 27) rfl rfl Tryz.func86 (by kernel_rfl) rfl #[.int .u64 t106, .int .u64 t107, .int .u64 a3] rfl (by (try simp only [List.map_toArray, List.map_cons, List.map_nil]); first | done | rfl | (simp only [List.length_drop, List.length_take]; rfl)) ?_; (with_reducible refine (bits_Div64.calls k t106 t107 a3 t110 t111 _ A11.out).mono ?_); rintro e w' ⟨rfl, ⟨nd, rfl⟩⟩; refine ⟨_, rfl, ?_⟩; (try (rw [drewN_self w14]; generalize hq_ : World.drewN w14 _ = w14; have n0_ : Aside0 (w14.heap[gb105]? = some (.cells #[.bool false, .int .i64 0] 34 (0, 0))) := ⟨by rw [← hq_]; exact (by (with_reducible repeat (first | refine blk_drewN ?_ _ | refine blk_drew ?_ | refine blk_alloc ?_ _)); exact BK105.out)⟩; have n1_ : Aside0 (Below w.heap.size w w14) := ⟨by rw [← hq_]; exact (by repeat (first | (with_reducible first | exact HB.out | apply below_alloc | apply pw_below_drewN | apply below_drew1 | refine below_set ?_ GE105.out) | exact HB.out))⟩; clear BK105 HB hq_; have BK105 := n0_; have HB := n1_; clear n0_ n1_))) | ((with_reducible refine gate_callee (f := 58) rfl ?_); refine goesL_ (some 32) rfl rfl Tryz.func58 (by kernel_rfl) rfl #[] rfl (by (try simp only [List.map_toArray, List.map_cons, List.map_nil]); first | done | rfl | (simp only [List.length_drop, List.length_take]; rfl)) ?_; (with_reducible refine (fix_ovf.calls  t112 t113 _ A13.out).mono ?_); rintro e w15 ⟨rfl, hb⟩; refine ⟨_, rfl, ?_⟩; have n0_ := Aside0.mk (blk_below (g := gb105) (o := .cells #[.bool false, .int .i64 0] 34 (0, 0)) (by (with_reducible repeat (first | refine blk_drewN ?_ _ | refine blk_drew ?_ | refine blk_alloc ?_ _)); exact BK105.out) hb); have n1_ := Aside0.mk (below_step (by repeat (first | (with_reducible first | exact HB.out | apply below_alloc | apply pw_below_drewN | apply below_drew1 | refine below_set ?_ GE105.out) | exact HB.out)) hb); clear BK105; clear HB; have BK105 := n0_; have HB := n1_; clear n0_ n1_; (try clear hb); (try clear hb2); (try clear hk); (try clear hi); have hcz16_0 : w15.cell? ⟨gb105, 0, none⟩ = some (.bool false) := (blk_cell BK105.out 0).trans rfl; have hcz16_1 : w15.cell? ⟨gb105, 1, none⟩ = some (.int .i64 0) := (blk_cell BK105.out 1).trans rfl; have hfz16_0 := blk_frozen BK105.out 0; have hfz16_1 := blk_frozen BK105.out 1))
   refine bodyPost_ret (results_cell_row rfl _ _ gb105 34 #[.bool t112, .int .i64 t113] (0, 0) _ rfl (by (with_reducible repeat (first | refine blk_drewN ?_ _ | refine blk_drew ?_ | refine blk_alloc ?_ _)); refine blk_put (cs := #[.bool t112, .int .i64 0]) ?_ 1 _ rfl; (with_reducible repeat (first | refine blk_drewN ?_ _ | refine blk_drew ?_ | refine blk_alloc ?_ _)); refine blk_put (cs := #[.bool false, .int .i64 0]) ?_ 0 _ rfl; (with_reducible repeat (first | refine blk_drewN ?_ _ | refine blk_drew ?_ | refine blk_alloc ?_ _)); exact BK105.out) Tryz.underlying34 rfl (by kernel_rfl)) rfl ?_
   exact ⟨by first | rfl | (simp [errW_none, errW_some] <;> rfl) | (simp [*, errW_none, errW_some] <;> rfl), by repeat (first | (with_reducible first | exact HB.out | apply below_alloc | apply pw_below_drewN | apply below_drew1 | refine below_set ?_ GE105.out) | exact HB.out)⟩
  ·rw [if_neg c12] at H
   have c12b0 : decide (9223372036854775807 < t110) = false := decide_eq_false c12
   clear c12
   by_cases c17 : a0 = true
   ·subst c17
    have H1 : (some (false, wrap64 (-(wrap64 (t110))))) = some (r1, r2) := by rw [if_pos rfl] at H; exact H
    clear H
    have H := H1
    clear H1
    simp only [Option.some.injEq, Prod.mk.injEq] at H
    obtain ⟨rfl, rfl⟩ := H
    go_enter Tryz.func64, Tryz.ntmps64
    go_wp2_with (first | ((with_reducible refine gate_dst (N := 8) rfl ?_); refine box_event ?hg (N := 8) ?hd (cs := #[.bool false, .int .i64 0]) (t := 34) ?hr ?_; (case hd => rfl); (case hg => rfl); (case hr => first | (go_simp; done) | (go_simp; rfl)); intro gb105 hg w18 hbox hb; have n0_ := Aside0.mk (below_step (by repeat (first | (with_reducible first | exact HB.out | apply below_alloc | apply pw_below_drewN | apply below_drew1) | exact HB.out)) hb); have n1_ := Aside0.mk (hbox); have n2_ := Aside0.mk ((by rw [hg]; exact (below_size (by repeat (first | (with_reducible first | exact HB.out | apply below_alloc | apply pw_below_drewN | apply below_drew1) | exact HB.out))) : w.heap.size ≤ gb105)); have n3_ := Aside0.mk ((by rw [hg]; exact (below_size (by repeat (first | (with_reducible first | exact HB.out | apply below_alloc | apply pw_below_drewN | apply below_drew1) | exact HB.out))) : w.heap.size ≤ gb105)); clear HB; have HB := n0_; have BK105 := n1_; have GW105 := n2_; have GE105 := n3_; clear n0_ n1_ n2_ n3_; clear hb hbox hg) | ((with_reducible refine gate_callee (f := 85) rfl ?_); refine goesL_ (some 16) rfl rfl Tryz.func85 (by kernel_rfl) rfl #[.int .u64 a1, .int .u64 a2] rfl (by (try simp only [List.map_toArray, List.map_cons, List.map_nil]); first | done | rfl | (simp only [List.length_drop, List.length_take]; rfl)) ?_; (with_reducible refine (bits_Mul64.calls a1 a2 t106 t107 _ A5.out).mono ?_); rintro e w' ⟨rfl, ⟨nd, rfl⟩⟩; refine ⟨_, rfl, ?_⟩; (try (rw [drewN_self w18]; generalize hq_ : World.drewN w18 _ = w18; have n0_ : Aside0 (w18.heap[gb105]? = some (.cells #[.bool false, .int .i64 0] 34 (0, 0))) := ⟨by rw [← hq_]; exact (by (with_reducible repeat (first | refine blk_drewN ?_ _ | refine blk_drew ?_ | refine blk_alloc ?_ _)); exact BK105.out)⟩; have n1_ : Aside0 (Below w.heap.size w w18) := ⟨by rw [← hq_]; exact (by repeat (first | (with_reducible first | exact HB.out | apply below_alloc | apply pw_below_drewN | apply below_drew1 | refine below_set ?_ GE105.out) | exact HB.out))⟩; clear BK105 HB hq_; have BK105 := n0_; have HB := n1_; clear n0_ n1_))) | ((with_reducible refine gate_callee (f := 86) rfl ?_); refine goesL_ (some 27) rfl rfl Tryz.func86 (by kernel_rfl) rfl #[.int .u64 t106, .int .u64 t107, .int .u64 a3] rfl (by (try simp only [List.map_toArray, List.map_cons, List.map_nil]); first | done | rfl | (simp only [List.length_drop, List.length_take]; rfl)) ?_; (with_reducible refine (bits_Div64.calls k t106 t107 a3 t110 t111 _ A11.out).mono ?_); rintro e w' ⟨rfl, ⟨nd, rfl⟩⟩; refine ⟨_, rfl, ?_⟩; (try (rw [drewN_self w18]; generalize hq_ : World.drewN w18 _ = w18; have n0_ : Aside0 (w18.heap[gb105]? = some (.cells #[.bool false, .int .i64 0] 34 (0, 0))) := ⟨by rw [← hq_]; exact (by (with_reducible repeat (first | refine blk_drewN ?_ _ | refine blk_drew ?_ | refine blk_alloc ?_ _)); exact BK105.out)⟩; have n1_ : Aside0 (Below w.heap.size w w18) := ⟨by rw [← hq_]; exact (by repeat (first | (with_reducible first | exact HB.out | apply below_alloc | apply pw_below_drewN | apply below_drew1 | refine below_set ?_ GE105.out) | exact HB.out))⟩; clear BK105 HB hq_; have BK105 := n0_; have HB := n1_; clear n0_ n1_)); have hcz19_0 : w18.cell? ⟨gb105, 0, none⟩ = some (.bool false) := (blk_cell BK105.out 0).trans rfl; have hcz19_1 : w18.cell? ⟨gb105, 1, none⟩ = some (.int .i64 0) := (blk_cell BK105.out 1).trans rfl; have hfz19_0 := blk_frozen BK105.out 0; have hfz19_1 := blk_frozen BK105.out 1))
    refine bodyPost_ret (results_cell_row rfl _ _ gb105 34 #[.bool false, .int .i64 (wrap64 (-(wrap64 (t110))))] (0, 0) _ rfl (by (with_reducible repeat (first | refine blk_drewN ?_ _ | refine blk_drew ?_ | refine blk_alloc ?_ _)); refine blk_put (cs := #[.bool false, .int .i64 0]) ?_ 1 _ rfl; (with_reducible repeat (first | refine blk_drewN ?_ _ | refine blk_drew ?_ | refine blk_alloc ?_ _)); refine blk_put (cs := #[.bool false, .int .i64 0]) ?_ 0 _ rfl; (with_reducible repeat (first | refine blk_drewN ?_ _ | refine blk_drew ?_ | refine blk_alloc ?_ _)); exact BK105.out) Tryz.underlying34 rfl (by kernel_rfl)) rfl ?_
    exact ⟨by first | rfl | (simp [errW_none, errW_some] <;> rfl) | (simp [*, errW_none, errW_some] <;> rfl), by repeat (first | (with_reducible first | exact HB.out | apply below_alloc | apply pw_below_drewN | apply below_drew1 | refine below_set ?_ GE105.out) | exact HB.out)⟩
   ·replace c17 := Bool.eq_false_iff.mpr c17
    subst c17
    have H1 : (some (false, wrap64 (t110))) = some (r1, r2) := by rw [if_neg (show ¬ (false = true) by decide)] at H; exact H
    clear H
    have H := H1
    clear H1
    simp only [Option.some.injEq, Prod.mk.injEq] at H
    obtain ⟨rfl, rfl⟩ := H
    go_enter Tryz.func64, Tryz.ntmps64
    go_wp2_with (first | ((with_reducible refine gate_dst (N := 8) rfl ?_); refine box_event ?hg (N := 8) ?hd (cs := #[.bool false, .int .i64 0]) (t := 34) ?hr ?_; (case hd => rfl); (case hg => rfl); (case hr => first | (go_simp; done) | (go_simp; rfl)); intro gb105 hg w20 hbox hb; have n0_ := Aside0.mk (below_step (by repeat (first | (with_reducible first | exact HB.out | apply below_alloc | apply pw_below_drewN | apply below_drew1) | exact HB.out)) hb); have n1_ := Aside0.mk (hbox); have n2_ := Aside0.mk ((by rw [hg]; exact (below_size (by repeat (first | (with_reducible first | exact HB.out | apply below_alloc | apply pw_below_drewN | apply below_drew1) | exact HB.out))) : w.heap.size ≤ gb105)); have n3_ := Aside0.mk ((by rw [hg]; exact (below_size (by repeat (first | (with_reducible first | exact HB.out | apply below_alloc | apply pw_below_drewN | apply below_drew1) | exact HB.out))) : w.heap.size ≤ gb105)); clear HB; have HB := n0_; have BK105 := n1_; have GW105 := n2_; have GE105 := n3_; clear n0_ n1_ n2_ n3_; clear hb hbox hg) | ((with_reducible refine gate_callee (f := 85) rfl ?_); refine goesL_ (some 16) rfl rfl Tryz.func85 (by kernel_rfl) rfl #[.int .u64 a1, .int .u64 a2] rfl (by (try simp only [List.map_toArray, List.map_cons, List.map_nil]); first | done | rfl | (simp only [List.length_drop, List.length_take]; rfl)) ?_; (with_reducible refine (bits_Mul64.calls a1 a2 t106 t107 _ A5.out).mono ?_); rintro e w' ⟨rfl, ⟨nd, rfl⟩⟩; refine ⟨_, rfl, ?_⟩; (try (rw [drewN_self w20]; generalize hq_ : World.drewN w20 _ = w20; have n0_ : Aside0 (w20.heap[gb105]? = some (.cells #[.bool false, .int .i64 0] 34 (0, 0))) := ⟨by rw [← hq_]; exact (by (with_reducible repeat (first | refine blk_drewN ?_ _ | refine blk_drew ?_ | refine blk_alloc ?_ _)); exact BK105.out)⟩; have n1_ : Aside0 (Below w.heap.size w w20) := ⟨by rw [← hq_]; exact (by repeat (first | (with_reducible first | exact HB.out | apply below_alloc | apply pw_below_drewN | apply below_drew1 | refine below_set ?_ GE105.out) | exact HB.out))⟩; clear BK105 HB hq_; have BK105 := n0_; have HB := n1_; clear n0_ n1_))) | ((with_reducible refine gate_callee (f := 86) rfl ?_); refine goesL_ (some 27) rfl rfl Tryz.func86 (by kernel_rfl) rfl #[.int .u64 t106, .int .u64 t107, .int .u64 a3] rfl (by (try simp only [List.map_toArray, List.map_cons, List.map_nil]); first | done | rfl | (simp only [List.length_drop, List.length_take]; rfl)) ?_; (with_reducible refine (bits_Div64.calls k t106 t107 a3 t110 t111 _ A11.out).mono ?_); rintro e w' ⟨rfl, ⟨nd, rfl⟩⟩; refine ⟨_, rfl, ?_⟩; (try (rw [drewN_self w20]; generalize hq_ : World.drewN w20 _ = w20; have n0_ : Aside0 (w20.heap[gb105]? = some (.cells #[.bool false, .int .i64 0] 34 (0, 0))) := ⟨by rw [← hq_]; exact (by (with_reducible repeat (first | refine blk_drewN ?_ _ | refine blk_drew ?_ | refine blk_alloc ?_ _)); exact BK105.out)⟩; have n1_ : Aside0 (Below w.heap.size w w20) := ⟨by rw [← hq_]; exact (by repeat (first | (with_reducible first | exact HB.out | apply below_alloc | apply pw_below_drewN | apply below_drew1 | refine below_set ?_ GE105.out) | exact HB.out))⟩; clear BK105 HB hq_; have BK105 := n0_; have HB := n1_; clear n0_ n1_)); have hcz21_0 : w20.cell? ⟨gb105, 0, none⟩ = some (.bool false) := (blk_cell BK105.out 0).trans rfl; have hcz21_1 : w20.cell? ⟨gb105, 1, none⟩ = some (.int .i64 0) := (blk_cell BK105.out 1).trans rfl; have hfz21_0 := blk_frozen BK105.out 0; have hfz21_1 := blk_frozen BK105.out 1))
    refine bodyPost_ret (results_cell_row rfl _ _ gb105 34 #[.bool false, .int .i64 (wrap64 (t110))] (0, 0) _ rfl (by (with_reducible repeat (first | refine blk_drewN ?_ _ | refine blk_drew ?_ | refine blk_alloc ?_ _)); refine blk_put (cs := #[.bool false, .int .i64 0]) ?_ 1 _ rfl; (with_reducible repeat (first | refine blk_drewN ?_ _ | refine blk_drew ?_ | refine blk_alloc ?_ _)); refine blk_put (cs := #[.bool false, .int .i64 0]) ?_ 0 _ rfl; (with_reducible repeat (first | refine blk_drewN ?_ _ | refine blk_drew ?_ | refine blk_alloc ?_ _)); exact BK105.out) Tryz.underlying34 rfl (by kernel_rfl)) rfl ?_
    exact ⟨by first | rfl | (simp [errW_none, errW_some] <;> rfl) | (simp [*, errW_none, errW_some] <;> rfl), by repeat (first | (with_reducible first | exact HB.out | apply below_alloc | apply pw_below_drewN | apply below_drew1 | refine below_set ?_ GE105.out) | exact HB.out)⟩

end Go.Proofs.YtnjobjogddjelaaGreatDoor.Print
end

section
namespace Go.Proofs.YtnjobjogddjelaaGreatDoor.Print
open Go.RowKit Go.Proofs.YtnjobjogddjelaaGreatDoorX Go.Proofs.YtnjobjogddjelaaGreatDoorW.PrintWords Go.Proofs.YtnjobjogddjelaaGreatDoorW.PrintLast Go.Proofs.YtnjobjogddjelaaGreatDoorW.PrintMore
attribute [local go_sem] max2_int min2_int max_two min_two max_three min_three max_four min_four

/-! ### fix_size: function 50 -/
def fix_size.f (a0 : Int) : Option (Int) := if a0 < 0 then (some (IntKind.u64.wrap (-(IntKind.u64.wrap (a0))))) else (some (IntKind.u64.wrap (a0)))
set_option maxHeartbeats 8000000 in
set_option maxRecDepth 100000 in
theorem fix_size.calls (a0 : Int) (r : Int) (w : World) (h : fix_size.f a0 = some r) :
  Calls Tryz.prog 50 #[.int .i64 a0] w fun e w' => e = .returned (.int .u64 r) ∧ Drawn0 w w' := by
 have H : (if a0 < 0 then (some (IntKind.u64.wrap (-(IntKind.u64.wrap (a0))))) else (some (IntKind.u64.wrap (a0)))) = some r := h
 clear h
 by_cases c2 : a0 < 0
 ·rw [if_pos c2] at H
  have c2b0 : decide (a0 < 0) = true := decide_eq_true c2
  clear c2
  obtain rfl := Option.some.inj H
  go_enter Tryz.func50, Tryz.ntmps50
  go_wp2
  go_ret
  exact ⟨by first | rfl | (simp; done) | (simp [*]; done), by repeat (first | exact Drawn0.refl _ | apply Drawn0.step)⟩
 ·rw [if_neg c2] at H
  have c2b0 : decide (a0 < 0) = false := decide_eq_false c2
  clear c2
  obtain rfl := Option.some.inj H
  go_enter Tryz.func50, Tryz.ntmps50
  go_wp2
  go_ret
  exact ⟨by first | rfl | (simp; done) | (simp [*]; done), by repeat (first | exact Drawn0.refl _ | apply Drawn0.step)⟩

end Go.Proofs.YtnjobjogddjelaaGreatDoor.Print
end

section
namespace Go.Proofs.YtnjobjogddjelaaGreatDoor.PureN
open Go.RowKit Go.Proofs.YtnjobjogddjelaaGreatDoor.Print Go.Proofs.YtnjobjogddjelaaGreatDoor.Pure Go.Proofs.YtnjobjogddjelaaGreatDoorW.PrintWords Go.Proofs.YtnjobjogddjelaaGreatDoorW.PrintLast Go.Proofs.YtnjobjogddjelaaGreatDoorW.PrintMore

/-! What the number functions come to, in whole numbers. -/
def R (n : Int) : Prop := -9223372036854775808 ≤ n ∧ n ≤ 9223372036854775807
def ab (n : Int) : Int := if n < 0 then -n else n
def over (a : Bool) (n : Int) : Bool := isOver ⟨a, n⟩
/-- A quotient cut off, with a sign; overflow, if it is too great. -/
def sgn (neg : Bool) (q : Int) : Bool × Int := if 9223372036854775807 < q then (true, 0) else (false, if neg then -q else q)
theorem scaled_eq (k : Nat) (neg : Bool) (a b c : Int) (hk : 20 < k) (a0 : 0 ≤ a) (a1 : a < 18446744073709551616) (b0 : 0 ≤ b) (b1 : b < 18446744073709551616) (c0 : 0 < c) (c1 : c < 18446744073709551616) :
  fix_scaled.f k neg a b c = some (sgn neg (a * b / c)) := by
 have m0 : 0 ≤ a * b := Int.mul_nonneg a0 b0
 unfold fix_scaled.f bits_Mul64.f
 rw [if_pos ⟨a0, a1, b0, b1⟩, Option.bind_some]
 generalize a * b = p at *
 simp only
 by_cases h : p / 18446744073709551616 ≥ c
 ·rw [if_pos h]
  have : 18446744073709551616 ≤ p / c := by
   rw [Int.le_ediv_iff_mul_le c0]
   omega
  unfold sgn
  rw [if_pos (by omega)]
  rfl
 ·rw [if_neg h]
  obtain ⟨rem, e⟩ := div64 k (p / 18446744073709551616) (p % 18446744073709551616) c hk (by omega) (by omega) c1 (by omega) (by omega)
  rw [e, Option.bind_some, show p / 18446744073709551616 * 18446744073709551616 + p % 18446744073709551616 = p by omega]
  have q0 : 0 ≤ p / c := Int.ediv_nonneg m0 (by omega)
  generalize p / c = q at *
  unfold sgn
  simp only
  by_cases g : q > 9223372036854775807
  ·rw [if_pos g, if_pos (by omega)]
   rfl
  ·have w1 : wrap64 q = q := wrap_id (by omega) (by omega)
   have w2 : wrap64 (-q) = -q := wrap_id (by omega) (by omega)
   have g2 : ¬ 9223372036854775807 < q := by omega
   rw [if_neg g, if_neg g2, w1, w2]
   cases neg <;> rfl
theorem not_over {a : Bool} {n : Int} (h : over a n = false) : a = false ∧ n ≠ -9223372036854775808 := by
 unfold over isOver at h
 simpa using h
theorem ab0 (n : Int) : 0 ≤ ab n := by
 unfold ab
 split <;> omega
end Go.Proofs.YtnjobjogddjelaaGreatDoor.PureN
end

section
namespace Go.Proofs.YtnjobjogddjelaaGreatDoor.Print
open Go.RowKit Go.Proofs.YtnjobjogddjelaaGreatDoorX Go.Proofs.YtnjobjogddjelaaGreatDoorW.PrintWords Go.Proofs.YtnjobjogddjelaaGreatDoorW.PrintLast Go.Proofs.YtnjobjogddjelaaGreatDoorW.PrintMore
attribute [local go_sem] max2_int min2_int max_two min_two max_three min_three max_four min_four

/-! ### fix_digits: function 61 -/
def fix_digits.l0 : Nat → ByteArray → Int → Int → Int → Int → Option (Bool)
 | 0, _, _, _, _, _ => none
 | k + 1, x0, x1, x2, x9, x10 => if x10 < x9 then (if 0 ≤ x10 then (if x10 < (x0.size : Int) then (if (bt x0 x10) < 48 then (some false) else (if (bt x0 x10) > 57 then (some false) else (fix_digits.l0 k x0 x1 x2 x9 (wrap64 (x10 + 1))))) else (none)) else (none)) else (if (x0.size : Int) ≥ x1 then (some (decide ((x0.size : Int) ≤ x2))) else (some false))
def fix_digits.f (k : Nat) (a0 : ByteArray) (a1 : Int) (a2 : Int) : Option (Bool) := fix_digits.l0 k a0 a1 a2 (a0.size : Int) 0
theorem fix_digits.mono_l : ∀ k, (∀ y0 y1 y2 y3 y4, LeO (fix_digits.l0 k y0 y1 y2 y3 y4) (fix_digits.l0 (k + 1) y0 y1 y2 y3 y4))
 | 0 => fun _ _ _ _ _ r h => by simp [fix_digits.l0] at h
 | k + 1 => by
  have ih0 := fix_digits.mono_l k
  ·intro y0 y1 y2 y3 y4
   unfold fix_digits.l0
   repeat' first
   | (with_reducible exact ih0 _ _ _ _ _)
   | (with_reducible exact LeO.refl _)
   | (with_reducible exact LeO.none _)
   | (with_reducible refine LeO.ite ?_ ?_)
   | (with_reducible refine LeO.bind ?_ (fun _ => ?_))
   | exact ih0 _ _ _ _ _
   | exact LeO.none _
   | refine LeO.ite ?_ ?_
   | refine LeO.bind ?_ (fun _ => ?_)
theorem fix_digits.mono : ∀ a0 a1 a2 k, LeO (fix_digits.f k a0 a1 a2) (fix_digits.f (k + 1) a0 a1 a2) := by
 intro a0 a1 a2 k
 have ih0 := fix_digits.mono_l k
 unfold fix_digits.f
 repeat' first
   | (with_reducible exact ih0 _ _ _ _ _)
   | (with_reducible exact LeO.refl _)
   | (with_reducible exact LeO.none _)
   | (with_reducible refine LeO.ite ?_ ?_)
   | (with_reducible refine LeO.bind ?_ (fun _ => ?_))
   | exact ih0 _ _ _ _ _
   | exact LeO.none _
   | refine LeO.ite ?_ ?_
   | refine LeO.bind ?_ (fun _ => ?_)
set_option maxHeartbeats 8000000 in
set_option maxRecDepth 100000 in
theorem fix_digits.calls (k : Nat) (a0 : ByteArray) (a1 : Int) (a2 : Int) (r : Bool) (w : World) (h : fix_digits.f k a0 a1 a2 = some r) :
  Calls Tryz.prog 61 #[.string a0, .int .i64 a1, .int .i64 a2] w fun e w' => e = .returned (.bool r) ∧ Drawn0 w w' := by
 have H : (fix_digits.l0 k a0 a1 a2 (a0.size : Int) 0) = some r := h
 clear h
 have H' := Aside0.mk H
 clear H
 go_enter Tryz.func61, Tryz.ntmps61
 go_wp2
 go_loopg [10] k (fun kq v10 w' => ∃ (x10_1 : Int), v10 = .int .i64 x10_1 ∧ Aside0 (fix_digits.l0 kq a0 a1 a2 (a0.size : Int) x10_1 = some r) ∧ Aside0 (kq ≤ k) ∧ Drawn0 w w')
 case atStart => exact ⟨(0), (by first | rfl | (simp; done) | (simp [*]; done)), H', ⟨Nat.le_refl _⟩, by repeat (first | exact Drawn0.refl _ | apply Drawn0.step)⟩
 case round =>
  clear H'
  try clear p2
  obtain ⟨x10_1, rfl, HA, HK1, ⟨m1, rfl⟩⟩ := hrel
  cases gk with
  | zero => exact absurd HA.out (by simp [fix_digits.l0])
  | succ k1 =>
   have H := HA.out
   clear HA
   simp only [fix_digits.l0] at H
   by_cases c4 : x10_1 < (a0.size : Int)
   ·rw [if_pos c4] at H
    have c4b0 : decide (x10_1 < (a0.size : Int)) = true := decide_eq_true c4
    clear c4
    by_cases c5 : 0 ≤ x10_1
    ·rw [if_pos c5] at H
     have c5b0 : decide (0 ≤ x10_1) = true := decide_eq_true c5
     clear c5
     by_cases c6 : x10_1 < (a0.size : Int)
     ·rw [if_pos c6] at H
      have c6b0 : decide (x10_1 < (a0.size : Int)) = true := decide_eq_true c6
      clear c6
      by_cases c8 : (bt a0 x10_1) < 48
      ·rw [if_pos c8] at H
       have c8b0 : decide ((bt a0 x10_1) < 48) = true := decide_eq_true c8
       clear c8
       obtain rfl := Option.some.inj H
       have p7 : 0 ≤ (x10_1 : Int) := of_decide_eq_true (by first | (with_reducible assumption) | assumption)
       have q7 : x10_1 < (a0.size : Int) := of_decide_eq_true (by first | (with_reducible assumption) | assumption)
       have hx7 := bt_at a0 x10_1
       replace p7 := eq_true p7
       replace q7 := eq_true q7
       go_wp2
       go_ret
       exact ⟨by first | rfl | (simp; done) | (simp [*]; done), by repeat (first | exact Drawn0.refl _ | apply Drawn0.step)⟩
      ·rw [if_neg c8] at H
       have c8b0 : decide ((bt a0 x10_1) < 48) = false := decide_eq_false c8
       clear c8
       by_cases c10 : (bt a0 x10_1) > 57
       ·rw [if_pos c10] at H
        have c10b0 : decide (57 < (bt a0 x10_1)) = true := decide_eq_true c10
        clear c10
        obtain rfl := Option.some.inj H
        have p7 : 0 ≤ (x10_1 : Int) := of_decide_eq_true (by first | (with_reducible assumption) | assumption)
        have q7 : x10_1 < (a0.size : Int) := of_decide_eq_true (by first | (with_reducible assumption) | assumption)
        have hx7 := bt_at a0 x10_1
        replace p7 := eq_true p7
        replace q7 := eq_true q7
        have p9 : 0 ≤ (x10_1 : Int) := of_decide_eq_true (by first | (with_reducible assumption) | assumption)
        have q9 : x10_1 < (a0.size : Int) := of_decide_eq_true (by first | (with_reducible assumption) | assumption)
        have hx9 := bt_at a0 x10_1
        replace p9 := eq_true p9
        replace q9 := eq_true q9
        go_wp2
        go_ret
        exact ⟨by first | rfl | (simp; done) | (simp [*]; done), by repeat (first | exact Drawn0.refl _ | apply Drawn0.step)⟩
       ·rw [if_neg c10] at H
        have c10b0 : decide (57 < (bt a0 x10_1)) = false := decide_eq_false c10
        clear c10
        have H' := Aside0.mk H
        clear H
        have p7 : 0 ≤ (x10_1 : Int) := of_decide_eq_true (by first | (with_reducible assumption) | assumption)
        have q7 : x10_1 < (a0.size : Int) := of_decide_eq_true (by first | (with_reducible assumption) | assumption)
        have hx7 := bt_at a0 x10_1
        replace p7 := eq_true p7
        replace q7 := eq_true q7
        have p9 : 0 ≤ (x10_1 : Int) := of_decide_eq_true (by first | (with_reducible assumption) | assumption)
        have q9 : x10_1 < (a0.size : Int) := of_decide_eq_true (by first | (with_reducible assumption) | assumption)
        have hx9 := bt_at a0 x10_1
        replace p9 := eq_true p9
        replace q9 := eq_true q9
        go_wp2
        go_roundg k1
        case measure => have := HK1.out; omega
        case rel => exact ⟨(wrap64 (x10_1 + 1)), (by first | rfl | (simp; done) | (simp [*]; done)), H', ⟨by have := HK1.out; omega⟩, by repeat (first | exact Drawn0.refl _ | apply Drawn0.step)⟩
     ·rw [if_neg c6] at H
      exact absurd H (by simp)
    ·rw [if_neg c5] at H
     exact absurd H (by simp)
   ·rw [if_neg c4] at H
    have c4b0 : decide (x10_1 < (a0.size : Int)) = false := decide_eq_false c4
    clear c4
    by_cases c11 : (a0.size : Int) ≥ a1
    ·rw [if_pos c11] at H
     have c11b0 : decide (a1 ≤ (a0.size : Int)) = true := decide_eq_true c11
     clear c11
     obtain rfl := Option.some.inj H
     go_wp2
     go_ret
     exact ⟨by first | rfl | (simp; done) | (simp [*]; done), by repeat (first | exact Drawn0.refl _ | apply Drawn0.step)⟩
    ·rw [if_neg c11] at H
     have c11b0 : decide (a1 ≤ (a0.size : Int)) = false := decide_eq_false c11
     clear c11
     obtain rfl := Option.some.inj H
     go_wp2
     go_ret
     exact ⟨by first | rfl | (simp; done) | (simp [*]; done), by repeat (first | exact Drawn0.refl _ | apply Drawn0.step)⟩

end Go.Proofs.YtnjobjogddjelaaGreatDoor.Print
end

section
namespace Go.Proofs.YtnjobjogddjelaaGreatDoor.Print
open Go.RowKit Go.Proofs.YtnjobjogddjelaaGreatDoorX Go.Proofs.YtnjobjogddjelaaGreatDoorW.PrintWords Go.Proofs.YtnjobjogddjelaaGreatDoorW.PrintLast Go.Proofs.YtnjobjogddjelaaGreatDoorW.PrintMore
attribute [local go_sem] max2_int min2_int max_two min_two max_three min_three max_four min_four

/-! ### fix_Parse: function 44 -/
mutual
def fix_Parse.j0 : Nat → Bool → ByteArray → ByteArray → Int → Option (Bool × Int × Int)
 | 0, _, _, _, _ => none
 | k + 1, x5, x6, x7, x9 => (fix_digits.f k x6 1 13).bind fun t122 => (if t122 = true then (if (x6.size : Int) > 1 then (if 0 < (x6.size : Int) then (if (bt x6 0) = 48 then (fix_Parse.j1 k x5 x6 x7 true) else ((fix_digits.f k x7 x9 6).bind fun t123 => (fix_Parse.j1 k x5 x6 x7 (!t123)))) else (none)) else ((fix_digits.f k x7 x9 6).bind fun t124 => (fix_Parse.j1 k x5 x6 x7 (!t124)))) else (fix_Parse.j1 k x5 x6 x7 true))
def fix_Parse.j1 : Nat → Bool → ByteArray → ByteArray → Bool → Option (Bool × Int × Int)
 | 0, _, _, _, _ => none
 | k + 1, x5, x6, x7, x45 => if x45 = true then (some (false, 0, 20)) else (if x6.size + x7.size ≤ 9223372036854775807 then ((strings_Repeat.f (⟨#[48]⟩ : ByteArray) (wrap64 (6 - (x7.size : Int)))).bind fun t125 => (if (x6 ++ x7).size + t125.size ≤ 9223372036854775807 then ((strconv_ParseUint.f ((x6 ++ x7) ++ t125) 10 64).bind fun bt126 => (if bt126.2.isNone = true then (fix_Parse.j2 k x5 bt126.1 (decide (bt126.1 > 9223372036854775807))) else (fix_Parse.j2 k x5 bt126.1 true))) else (none))) else (none))
def fix_Parse.j2 : Nat → Bool → Int → Bool → Option (Bool × Int × Int)
 | 0, _, _, _ => none
 | k + 1, x5, x10, x64 => if x64 = true then ((fix_ovf.f).bind fun bt129 => (some (bt129.1, bt129.2, 0))) else ((fix_scaled.f k x5 x10 1 1).bind fun bt131 => (some (bt131.1, bt131.2, 0)))
end
def fix_Parse.f (k : Nat) (a0 : ByteArray) : Option (Bool × Int × Int) := if a0.toList = ([111, 118, 102] : List UInt8) then ((fix_ovf.f).bind fun bt115 => (some (bt115.1, bt115.2, 0))) else ((strings_CutPrefix.f a0 (⟨#[45]⟩ : ByteArray)).bind fun bt117 => ((strings_Cut.f bt117.1 (⟨#[46]⟩ : ByteArray)).bind fun bt119 => (if bt119.2.2 = true then (fix_Parse.j0 k bt117.2 bt119.1 bt119.2.1 1) else (fix_Parse.j0 k bt117.2 bt119.1 bt119.2.1 0))))
theorem fix_Parse.mono_l : ∀ k, (∀ y0 y1 y2 y3, LeO (fix_Parse.j0 k y0 y1 y2 y3) (fix_Parse.j0 (k + 1) y0 y1 y2 y3)) ∧ (∀ y0 y1 y2 y3, LeO (fix_Parse.j1 k y0 y1 y2 y3) (fix_Parse.j1 (k + 1) y0 y1 y2 y3)) ∧ (∀ y0 y1 y2, LeO (fix_Parse.j2 k y0 y1 y2) (fix_Parse.j2 (k + 1) y0 y1 y2))
 | 0 => ⟨fun _ _ _ _ r h => by simp [fix_Parse.j0] at h, fun _ _ _ _ r h => by simp [fix_Parse.j1] at h, fun _ _ _ r h => by simp [fix_Parse.j2] at h⟩
 | k + 1 => by
  obtain ⟨ih0, ih1, ih2⟩ := fix_Parse.mono_l k
  refine ⟨?_, ?_, ?_⟩
  ·intro y0 y1 y2 y3
   unfold fix_Parse.j0
   repeat' first
   | (with_reducible exact ih0 _ _ _ _)
   | (with_reducible exact ih1 _ _ _ _)
   | (with_reducible exact ih2 _ _ _)
   | (with_reducible exact fix_digits.mono _ _ _ _)
   | (with_reducible exact fix_scaled.mono _ _ _ _ _)
   | (with_reducible exact LeO.refl _)
   | (with_reducible exact LeO.none _)
   | (with_reducible refine LeO.ite ?_ ?_)
   | (with_reducible refine LeO.bind ?_ (fun _ => ?_))
   | exact ih0 _ _ _ _
   | exact ih1 _ _ _ _
   | exact ih2 _ _ _
   | exact fix_digits.mono _ _ _ _
   | exact fix_scaled.mono _ _ _ _ _
   | exact LeO.none _
   | refine LeO.ite ?_ ?_
   | refine LeO.bind ?_ (fun _ => ?_)
  ·intro y0 y1 y2 y3
   unfold fix_Parse.j1
   repeat' first
   | (with_reducible exact ih0 _ _ _ _)
   | (with_reducible exact ih1 _ _ _ _)
   | (with_reducible exact ih2 _ _ _)
   | (with_reducible exact fix_digits.mono _ _ _ _)
   | (with_reducible exact fix_scaled.mono _ _ _ _ _)
   | (with_reducible exact LeO.refl _)
   | (with_reducible exact LeO.none _)
   | (with_reducible refine LeO.ite ?_ ?_)
   | (with_reducible refine LeO.bind ?_ (fun _ => ?_))
   | exact ih0 _ _ _ _
   | exact ih1 _ _ _ _
   | exact ih2 _ _ _
   | exact fix_digits.mono _ _ _ _
   | exact fix_scaled.mono _ _ _ _ _
   | exact LeO.none _
   | refine LeO.ite ?_ ?_
   | refine LeO.bind ?_ (fun _ => ?_)
  ·intro y0 y1 y2
   unfold fix_Parse.j2
   repeat' first
   | (with_reducible exact ih0 _ _ _ _)
   | (with_reducible exact ih1 _ _ _ _)
   | (with_reducible exact ih2 _ _ _)
   | (with_reducible exact fix_digits.mono _ _ _ _)
   | (with_reducible exact fix_scaled.mono _ _ _ _ _)
   | (with_reducible exact LeO.refl _)
   | (with_reducible exact LeO.none _)
   | (with_reducible refine LeO.ite ?_ ?_)
   | (with_reducible refine LeO.bind ?_ (fun _ => ?_))
   | exact ih0 _ _ _ _
   | exact ih1 _ _ _ _
   | exact ih2 _ _ _
   | exact fix_digits.mono _ _ _ _
   | exact fix_scaled.mono _ _ _ _ _
   | exact LeO.none _
   | refine LeO.ite ?_ ?_
   | refine LeO.bind ?_ (fun _ => ?_)
theorem fix_Parse.mono : ∀ a0 k, LeO (fix_Parse.f k a0) (fix_Parse.f (k + 1) a0) := by
 intro a0 k
 obtain ⟨ih0, ih1, ih2⟩ := fix_Parse.mono_l k
 unfold fix_Parse.f
 repeat' first
   | (with_reducible exact ih0 _ _ _ _)
   | (with_reducible exact ih1 _ _ _ _)
   | (with_reducible exact ih2 _ _ _)
   | (with_reducible exact fix_digits.mono _ _ _ _)
   | (with_reducible exact fix_scaled.mono _ _ _ _ _)
   | (with_reducible exact LeO.refl _)
   | (with_reducible exact LeO.none _)
   | (with_reducible refine LeO.ite ?_ ?_)
   | (with_reducible refine LeO.bind ?_ (fun _ => ?_))
   | exact ih0 _ _ _ _
   | exact ih1 _ _ _ _
   | exact ih2 _ _ _
   | exact fix_digits.mono _ _ _ _
   | exact fix_scaled.mono _ _ _ _ _
   | exact LeO.none _
   | refine LeO.ite ?_ ?_
   | refine LeO.bind ?_ (fun _ => ?_)
set_option maxHeartbeats 8000000 in
set_option maxRecDepth 100000 in
theorem fix_Parse.calls (k : Nat) (a0 : ByteArray) (r1 : Bool) (r2 : Int) (r3 : Int) (w : World) (hg_ : LaidW w) (h : fix_Parse.f k a0 = some (r1, r2, r3)) :
  Calls Tryz.prog 44 #[.string a0] w fun e w' => e = .returned (.tuple #[.agg #[.bool r1, .int .i64 r2], .int .i64 r3]) ∧ Below w.heap.size w w' := by
 have HLW := Aside0.mk hg_
 clear hg_
 have hu34 := Tryz.underlying34
 have hu63 := Tryz.underlying63
 have HB := Aside0.mk (Below.refl w.heap.size w)
 have H : (if a0.toList = ([111, 118, 102] : List UInt8) then ((fix_ovf.f).bind fun bt115 => (some (bt115.1, bt115.2, 0))) else ((strings_CutPrefix.f a0 (⟨#[45]⟩ : ByteArray)).bind fun bt117 => ((strings_Cut.f bt117.1 (⟨#[46]⟩ : ByteArray)).bind fun bt119 => (if bt119.2.2 = true then (fix_Parse.j0 k bt117.2 bt119.1 bt119.2.1 1) else (fix_Parse.j0 k bt117.2 bt119.1 bt119.2.1 0))))) = some (r1, r2, r3) := h
 clear h
 by_cases c2 : a0.toList = ([111, 118, 102] : List UInt8)
 ·rw [if_pos c2] at H
  have c2b0 : (a0.toList == ([111, 118, 102] : List UInt8)) = true := beq_iff_eq.mpr c2
  have c2b1 : (a0.toList != ([111, 118, 102] : List UInt8)) = false := bne_eq_false_iff_eq.mpr c2
  clear c2
  replace H := Option.bind_eq_some_iff.mp H
  obtain ⟨⟨t115, t116⟩, A30, H⟩ := H
  replace H : (some (t115, t116, 0)) = some (r1, r2, r3) := H
  have A3 := Aside0.mk A30
  clear A30
  simp only [Option.some.injEq, Prod.mk.injEq] at H
  obtain ⟨rfl, rfl, rfl⟩ := H
  go_enter Tryz.func44, Tryz.ntmps44
  go_wp2_with (first | ((with_reducible refine gate_dst (N := 2) rfl ?_); (try (refine gate_guard (by rfl) ?_; dsimp only)); refine box_event ?hg (N := 2) ?hd (cs := #[.bool false, .int .i64 0]) (t := 34) ?hr ?_; (case hd => rfl); (case hg => rfl); (case hr => first | (go_simp; done) | (go_simp; rfl)); intro gb114 hg w4 hbox hb; have n0_ := Aside0.mk (below_step (by repeat (first | (with_reducible first | exact HB.out | apply below_alloc | apply pw_below_drewN | apply below_drew1) | exact HB.out)) hb); have n1_ := Aside0.mk (hbox); have n2_ := Aside0.mk ((by rw [hg]; exact (below_size (by repeat (first | (with_reducible first | exact HB.out | apply below_alloc | apply pw_below_drewN | apply below_drew1) | exact HB.out))) : w.heap.size ≤ gb114)); have n3_ := Aside0.mk ((by rw [hg]; exact (below_size (by repeat (first | (with_reducible first | exact HB.out | apply below_alloc | apply pw_below_drewN | apply below_drew1) | exact HB.out))) : w.heap.size ≤ gb114)); clear HB; have HB := n0_; have BK114 := n1_; have GW114 := n2_; have GE114 := n3_; clear n0_ n1_ n2_ n3_; clear hb hbox hg) | ((with_reducible refine gate_callee (f := 58) rfl ?_); refine goesL_ (some 14) rfl rfl Tryz.func58 (by kernel_rfl) rfl #[] rfl (by (try simp only [List.map_toArray, List.map_cons, List.map_nil]); first | done | rfl | (simp only [List.length_drop, List.length_take]; rfl)) ?_; (with_reducible refine (fix_ovf.calls  t115 t116 _ A3.out).mono ?_); rintro e w5 ⟨rfl, hb⟩; refine ⟨_, rfl, ?_⟩; have n0_ := Aside0.mk (blk_below (g := gb114) (o := .cells #[.bool false, .int .i64 0] 34 (0, 0)) (by (with_reducible repeat (first | refine blk_drewN ?_ _ | refine blk_drew ?_ | refine blk_alloc ?_ _)); exact BK114.out) hb); have n1_ := Aside0.mk (below_step (by repeat (first | (with_reducible first | exact HB.out | apply below_alloc | apply pw_below_drewN | apply below_drew1 | refine below_set ?_ GE114.out) | exact HB.out)) hb); clear BK114; clear HB; have BK114 := n0_; have HB := n1_; clear n0_ n1_; (try clear hb); (try clear hb2); (try clear hk); (try clear hi); have hcz6_0 : w5.cell? ⟨gb114, 0, none⟩ = some (.bool false) := (blk_cell BK114.out 0).trans rfl; have hcz6_1 : w5.cell? ⟨gb114, 1, none⟩ = some (.int .i64 0) := (blk_cell BK114.out 1).trans rfl; have hfz6_0 := blk_frozen BK114.out 0; have hfz6_1 := blk_frozen BK114.out 1))
  refine bodyPost_ret (results_ct rfl _ _ gb114 34 #[.bool t115, .int .i64 t116] (0, 0) _ rfl (by (with_reducible repeat (first | refine blk_drewN ?_ _ | refine blk_drew ?_ | refine blk_alloc ?_ _)); refine blk_put (cs := #[.bool t115, .int .i64 0]) ?_ 1 _ rfl; (with_reducible repeat (first | refine blk_drewN ?_ _ | refine blk_drew ?_ | refine blk_alloc ?_ _)); refine blk_put (cs := #[.bool false, .int .i64 0]) ?_ 0 _ rfl; (with_reducible repeat (first | refine blk_drewN ?_ _ | refine blk_drew ?_ | refine blk_alloc ?_ _)); exact BK114.out) Tryz.underlying34 rfl (by kernel_rfl)) rfl ?_
  exact ⟨by first | rfl | (simp [errW_none, errW_some] <;> rfl) | (simp [*, errW_none, errW_some] <;> rfl), by repeat (first | (with_reducible first | exact HB.out | apply below_alloc | apply pw_below_drewN | apply below_drew1 | refine below_set ?_ GE114.out) | exact HB.out)⟩
 ·rw [if_neg c2] at H
  have c2b0 : (a0.toList == ([111, 118, 102] : List UInt8)) = false := beq_eq_false_iff_ne.mpr c2
  have c2b1 : (a0.toList != ([111, 118, 102] : List UInt8)) = true := bne_iff_ne.mpr c2
  replace H := Option.bind_eq_some_iff.mp H
  obtain ⟨⟨t117, t118⟩, A70, H⟩ := H
  replace H : ((strings_Cut.f t117 (⟨#[46]⟩ : ByteArray)).bind fun bt119 => (if bt119.2.2 = true then (fix_Parse.j0 k t118 bt119.1 bt119.2.1 1) else (fix_Parse.j0 k t118 bt119.1 bt119.2.1 0))) = some (r1, r2, r3) := H
  have A7 := Aside0.mk A70
  clear A70
  replace H := Option.bind_eq_some_iff.mp H
  obtain ⟨⟨t119, t120, t121⟩, A80, H⟩ := H
  replace H : (if t121 = true then (fix_Parse.j0 k t118 t119 t120 1) else (fix_Parse.j0 k t118 t119 t120 0)) = some (r1, r2, r3) := H
  have A8 := Aside0.mk A80
  clear A80
  have HC9 := Aside0.mk H
  clear H
  go_enter Tryz.func44, Tryz.ntmps44
  go_upto_if 26 with (first | ((with_reducible refine gate_dst (N := 2) rfl ?_); (try (refine gate_guard (by rfl) ?_; dsimp only)); refine box_event ?hg (N := 2) ?hd (cs := #[.bool false, .int .i64 0]) (t := 34) ?hr ?_; (case hd => rfl); (case hg => rfl); (case hr => first | (go_simp; done) | (go_simp; rfl)); intro gb114 hg w10 hbox hb; have n0_ := Aside0.mk (below_step (by repeat (first | (with_reducible first | exact HB.out | apply below_alloc | apply pw_below_drewN | apply below_drew1) | exact HB.out)) hb); have n1_ := Aside0.mk (hbox); have n2_ := Aside0.mk ((by rw [hg]; exact (below_size (by repeat (first | (with_reducible first | exact HB.out | apply below_alloc | apply pw_below_drewN | apply below_drew1) | exact HB.out))) : w.heap.size ≤ gb114)); have n3_ := Aside0.mk ((by rw [hg]; exact (below_size (by repeat (first | (with_reducible first | exact HB.out | apply below_alloc | apply pw_below_drewN | apply below_drew1) | exact HB.out))) : w.heap.size ≤ gb114)); clear HB; have HB := n0_; have BK114 := n1_; have GW114 := n2_; have GE114 := n3_; clear n0_ n1_ n2_ n3_; clear hb hbox hg) | ((with_reducible refine gate_callee (f := 59) rfl ?_); refine goesL_ (some 17) rfl rfl Tryz.func59 (by kernel_rfl) rfl #[.string a0, .string (⟨#[45]⟩ : ByteArray)] rfl (by (try simp only [List.map_toArray, List.map_cons, List.map_nil]); first | done | rfl | (simp only [List.length_drop, List.length_take]; rfl)) ?_; (with_reducible refine (strings_CutPrefix.calls a0 (⟨#[45]⟩ : ByteArray) t117 t118 _ A7.out).mono ?_); rintro e w' ⟨rfl, ⟨nd, rfl⟩⟩; refine ⟨_, rfl, ?_⟩) | ((with_reducible refine gate_callee (f := 60) rfl ?_); refine goesL_ (some 22) rfl rfl Tryz.func60 (by kernel_rfl) rfl #[.string t117, .string (⟨#[46]⟩ : ByteArray)] rfl (by (try simp only [List.map_toArray, List.map_cons, List.map_nil]); first | done | rfl | (simp only [List.length_drop, List.length_take]; rfl)) ?_; (with_reducible refine (strings_Cut.calls t117 (⟨#[46]⟩ : ByteArray) t119 t120 t121 _ ?side1 A8.out).mono ?_); (case side1 => exact LaidW.below HLW.out (by repeat (first | (with_reducible first | exact HB.out | apply below_alloc | apply pw_below_drewN | apply below_drew1) | exact HB.out | (refine below_set ?_ (Aside0.out ?hge); (case hge => assumption))))); rintro e w11 ⟨rfl, hb⟩; refine ⟨_, rfl, ?_⟩; have n0_ := Aside0.mk (blk_below (g := gb114) (o := .cells #[.bool false, .int .i64 0] 34 (0, 0)) (by (with_reducible repeat (first | refine blk_drewN ?_ _ | refine blk_drew ?_ | refine blk_alloc ?_ _)); exact BK114.out) hb); have n1_ := Aside0.mk (below_step (by repeat (first | (with_reducible first | exact HB.out | apply below_alloc | apply pw_below_drewN | apply below_drew1 | refine below_set ?_ GE114.out) | exact HB.out)) hb); clear BK114; clear HB; have BK114 := n0_; have HB := n1_; clear n0_ n1_; (try clear hb); (try clear hb2); (try clear hk); (try clear hi)))
  (try simp only [Act.put, List.setIfInBounds_toArray, List.set_cons_zero, List.set_cons_succ])
  go_cut [9] (fun v9 wc => ∃ (kq : Nat) (x9_8 : Int), v9 = .int .i64 x9_8 ∧ Aside0 (fix_Parse.j0 kq t118 t119 t120 x9_8 = some (r1, r2, r3)) ∧ Aside0 (kq ≤ k) ∧ Aside0 (wc.heap[gb114]? = some (.cells #[.bool false, .int .i64 0] 34 (0, 0))) ∧ Aside0 (Below w.heap.size w wc))
  case first =>
   have H := HC9.out
   clear HC9
   by_cases c12 : t121 = true
   ·subst c12
    have H1 : (fix_Parse.j0 k t118 t119 t120 1) = some (r1, r2, r3) := by rw [if_pos rfl] at H; exact H
    clear H
    have H := H1
    clear H1
    have H' := Aside0.mk H
    clear H
    go_wp2
    go_meet
    case rel => exact ⟨_, (1), (by first | rfl | (simp; done) | (simp [*]; done)), H', ⟨by first | omega | exact Nat.le_refl _⟩, ⟨by (with_reducible repeat (first | refine blk_drewN ?_ _ | refine blk_drew ?_ | refine blk_alloc ?_ _)); exact BK114.out⟩, ⟨by repeat (first | (with_reducible first | exact HB.out | apply below_alloc | apply pw_below_drewN | apply below_drew1 | refine below_set ?_ GE114.out) | exact HB.out)⟩⟩
   ·replace c12 := Bool.eq_false_iff.mpr c12
    subst c12
    have H1 : (fix_Parse.j0 k t118 t119 t120 0) = some (r1, r2, r3) := by rw [if_neg (show ¬ (false = true) by decide)] at H; exact H
    clear H
    have H := H1
    clear H1
    have H' := Aside0.mk H
    clear H
    go_wp2
    go_meet
    case rel => exact ⟨_, (0), (by first | rfl | (simp; done) | (simp [*]; done)), H', ⟨by first | omega | exact Nat.le_refl _⟩, ⟨by (with_reducible repeat (first | refine blk_drewN ?_ _ | refine blk_drew ?_ | refine blk_alloc ?_ _)); exact BK114.out⟩, ⟨by repeat (first | (with_reducible first | exact HB.out | apply below_alloc | apply pw_below_drewN | apply below_drew1 | refine below_set ?_ GE114.out) | exact HB.out)⟩⟩
  case rest =>
   clear HC9
   try clear c1
   try clear c2
   try clear c2b0
   try clear c2b1
   try clear p2
   try clear c4
   try clear c5
   try clear c6
   try clear c12
   try clear hcz6_0
   try clear hcz6_1
   try clear hfz6_0
   try clear hfz6_1
   obtain ⟨kq, x9_8, rfl, HA, HJ8, BK114, HB⟩ := hcut
   cases kq with
   | zero => exact absurd HA.out (by simp [fix_Parse.j0])
   | succ kj8 =>
    have H := HA.out
    clear HA
    simp only [fix_Parse.j0] at H
    have HC13 := Aside0.mk H
    clear H
    go_upto_region 8 with (fail)
    go_cut [45] (fun v45 wc => ∃ (kq : Nat) (x45_12 : Bool), v45 = .bool x45_12 ∧ Aside0 (fix_Parse.j1 kq t118 t119 t120 x45_12 = some (r1, r2, r3)) ∧ Aside0 (kq ≤ kj8) ∧ Aside0 (wc.heap[gb114]? = some (.cells #[.bool false, .int .i64 0] 34 (0, 0))) ∧ Aside0 (Below w.heap.size w wc))
    case first =>
     have H := HC13.out
     clear HC13
     replace H := Option.bind_eq_some_iff.mp H
     obtain ⟨t122, A140, H⟩ := H
     replace H : (if t122 = true then (if (t119.size : Int) > 1 then (if 0 < (t119.size : Int) then (if (bt t119 0) = 48 then (fix_Parse.j1 kj8 t118 t119 t120 true) else ((fix_digits.f kj8 t120 x9_8 6).bind fun t123 => (fix_Parse.j1 kj8 t118 t119 t120 (!t123)))) else (none)) else ((fix_digits.f kj8 t120 x9_8 6).bind fun t124 => (fix_Parse.j1 kj8 t118 t119 t120 (!t124)))) else (fix_Parse.j1 kj8 t118 t119 t120 true)) = some (r1, r2, r3) := H
     have A14 := Aside0.mk A140
     clear A140
     by_cases c15 : t122 = true
     ·subst c15
      have H1 : (if (t119.size : Int) > 1 then (if 0 < (t119.size : Int) then (if (bt t119 0) = 48 then (fix_Parse.j1 kj8 t118 t119 t120 true) else ((fix_digits.f kj8 t120 x9_8 6).bind fun t123 => (fix_Parse.j1 kj8 t118 t119 t120 (!t123)))) else (none)) else ((fix_digits.f kj8 t120 x9_8 6).bind fun t124 => (fix_Parse.j1 kj8 t118 t119 t120 (!t124)))) = some (r1, r2, r3) := by rw [if_pos rfl] at H; exact H
      clear H
      have H := H1
      clear H1
      by_cases c16 : (t119.size : Int) > 1
      ·rw [if_pos c16] at H
       have c16b0 : decide (1 < (t119.size : Int)) = true := decide_eq_true c16
       have c16b1 : decide (1 < t119.size) = true := decide_eq_true (by omega)
       clear c16
       (first | rw [c16b0] | (simp only [i64_w, i32_w]; rw [c16b0]) | skip)
       by_cases c17 : 0 < (t119.size : Int)
       ·rw [if_pos c17] at H
        have c17b0 : decide (0 < (t119.size : Int)) = true := decide_eq_true c17
        have c17b1 : decide (0 < t119.size) = true := decide_eq_true (by omega)
        clear c17
        by_cases c19 : (bt t119 0) = 48
        ·rw [if_pos c19] at H
         have c19b0 : ((bt t119 0) == 48) = true := beq_iff_eq.mpr c19
         have c19b1 : ((bt t119 0) != 48) = false := bne_eq_false_iff_eq.mpr c19
         clear c19
         have H' := Aside0.mk H
         clear H
         go_wp2_with (first | ((with_reducible refine gate_callee (f := 61) rfl ?_); refine goesL_ (some 28) rfl rfl Tryz.func61 (by kernel_rfl) rfl #[.string t119, .int .i64 1, .int .i64 13] rfl (by (try simp only [List.map_toArray, List.map_cons, List.map_nil]); first | done | rfl | (simp only [List.length_drop, List.length_take]; rfl)) ?_; (with_reducible refine (fix_digits.calls kj8 t119 1 13 true _ A14.out).mono ?_); rintro e w' ⟨rfl, ⟨nd, rfl⟩⟩; refine ⟨_, rfl, ?_⟩; have p18 : 0 ≤ (0 : Int) := (by omega); have q18 : 0 < t119.size := (by have : (0 : Int) < (t119.size : Int) := of_decide_eq_true (by first | (with_reducible assumption) | assumption); omega); have hx18 : ∀ h : 0 < t119.size, ((t119[0]'h).toNat : Int) = bt t119 0 := bt_at t119 0; clear p18; have qi18 : (0 < (t119.size : Int)) = True := eq_true (of_decide_eq_true (by first | (with_reducible assumption) | assumption)); replace q18 := eq_true q18))
         go_meet
         case rel => exact ⟨_, (true), (by first | rfl | (simp; done) | (simp [*]; done)), H', ⟨by have := HJ8.out; first | omega | exact Nat.le_refl _⟩, ⟨by (with_reducible repeat (first | refine blk_drewN ?_ _ | refine blk_drew ?_ | refine blk_alloc ?_ _)); exact BK114.out⟩, ⟨by repeat (first | (with_reducible first | exact HB.out | apply below_alloc | apply pw_below_drewN | apply below_drew1 | refine below_set ?_ GE114.out) | exact HB.out)⟩⟩
        ·rw [if_neg c19] at H
         have c19b0 : ((bt t119 0) == 48) = false := beq_eq_false_iff_ne.mpr c19
         have c19b1 : ((bt t119 0) != 48) = true := bne_iff_ne.mpr c19
         replace H := Option.bind_eq_some_iff.mp H
         obtain ⟨t123, A200, H⟩ := H
         replace H : (fix_Parse.j1 kj8 t118 t119 t120 (!t123)) = some (r1, r2, r3) := H
         have A20 := Aside0.mk A200
         clear A200
         have H' := Aside0.mk H
         clear H
         go_wp2_with (first | ((with_reducible refine gate_callee (f := 61) rfl ?_); refine goesL_ (some 28) rfl rfl Tryz.func61 (by kernel_rfl) rfl #[.string t119, .int .i64 1, .int .i64 13] rfl (by (try simp only [List.map_toArray, List.map_cons, List.map_nil]); first | done | rfl | (simp only [List.length_drop, List.length_take]; rfl)) ?_; (with_reducible refine (fix_digits.calls kj8 t119 1 13 true _ A14.out).mono ?_); rintro e w' ⟨rfl, ⟨nd, rfl⟩⟩; refine ⟨_, rfl, ?_⟩; have p18 : 0 ≤ (0 : Int) := (by omega); have q18 : 0 < t119.size := (by have : (0 : Int) < (t119.size : Int) := of_decide_eq_true (by first | (with_reducible assumption) | assumption); omega); have hx18 : ∀ h : 0 < t119.size, ((t119[0]'h).toNat : Int) = bt t119 0 := bt_at t119 0; clear p18; have qi18 : (0 < (t119.size : Int)) = True := eq_true (of_decide_eq_true (by first | (with_reducible assumption) | assumption)); replace q18 := eq_true q18) | (go_at_call 61; (with_reducible refine (fix_digits.calls kj8 t120 x9_8 6 t123 _ A20.out).mono ?_); rintro e w' ⟨rfl, ⟨nd, rfl⟩⟩))
         go_meet
         case rel => exact ⟨_, (!t123), (by first | rfl | (simp; done) | (simp [*]; done)), H', ⟨by have := HJ8.out; first | omega | exact Nat.le_refl _⟩, ⟨by (with_reducible repeat (first | refine blk_drewN ?_ _ | refine blk_drew ?_ | refine blk_alloc ?_ _)); exact BK114.out⟩, ⟨by repeat (first | (with_reducible first | exact HB.out | apply below_alloc | apply pw_below_drewN | apply below_drew1 | refine below_set ?_ GE114.out) | exact HB.out)⟩⟩
       ·rw [if_neg c17] at H
        exact absurd H (by simp)
      ·rw [if_neg c16] at H
       have c16b0 : decide (1 < (t119.size : Int)) = false := decide_eq_false c16
       have c16b1 : decide (1 < t119.size) = false := decide_eq_false (by omega)
       clear c16
       (first | rw [c16b0] | (simp only [i64_w, i32_w]; rw [c16b0]) | skip)
       replace H := Option.bind_eq_some_iff.mp H
       obtain ⟨t124, A210, H⟩ := H
       replace H : (fix_Parse.j1 kj8 t118 t119 t120 (!t124)) = some (r1, r2, r3) := H
       have A21 := Aside0.mk A210
       clear A210
       have H' := Aside0.mk H
       clear H
       go_wp2_with (first | ((with_reducible refine gate_callee (f := 61) rfl ?_); refine goesL_ (some 28) rfl rfl Tryz.func61 (by kernel_rfl) rfl #[.string t119, .int .i64 1, .int .i64 13] rfl (by (try simp only [List.map_toArray, List.map_cons, List.map_nil]); first | done | rfl | (simp only [List.length_drop, List.length_take]; rfl)) ?_; (with_reducible refine (fix_digits.calls kj8 t119 1 13 true _ A14.out).mono ?_); rintro e w' ⟨rfl, ⟨nd, rfl⟩⟩; refine ⟨_, rfl, ?_⟩) | (go_at_call 61; (with_reducible refine (fix_digits.calls kj8 t120 x9_8 6 t124 _ A21.out).mono ?_); rintro e w' ⟨rfl, ⟨nd, rfl⟩⟩))
       go_meet
       case rel => exact ⟨_, (!t124), (by first | rfl | (simp; done) | (simp [*]; done)), H', ⟨by have := HJ8.out; first | omega | exact Nat.le_refl _⟩, ⟨by (with_reducible repeat (first | refine blk_drewN ?_ _ | refine blk_drew ?_ | refine blk_alloc ?_ _)); exact BK114.out⟩, ⟨by repeat (first | (with_reducible first | exact HB.out | apply below_alloc | apply pw_below_drewN | apply below_drew1 | refine below_set ?_ GE114.out) | exact HB.out)⟩⟩
     ·replace c15 := Bool.eq_false_iff.mpr c15
      subst c15
      have H1 : (fix_Parse.j1 kj8 t118 t119 t120 true) = some (r1, r2, r3) := by rw [if_neg (show ¬ (false = true) by decide)] at H; exact H
      clear H
      have H := H1
      clear H1
      have H' := Aside0.mk H
      clear H
      go_wp2_with (first | ((with_reducible refine gate_callee (f := 61) rfl ?_); refine goesL_ (some 28) rfl rfl Tryz.func61 (by kernel_rfl) rfl #[.string t119, .int .i64 1, .int .i64 13] rfl (by (try simp only [List.map_toArray, List.map_cons, List.map_nil]); first | done | rfl | (simp only [List.length_drop, List.length_take]; rfl)) ?_; (with_reducible refine (fix_digits.calls kj8 t119 1 13 false _ A14.out).mono ?_); rintro e w' ⟨rfl, ⟨nd, rfl⟩⟩; refine ⟨_, rfl, ?_⟩))
      go_meet
      case rel => exact ⟨_, (true), (by first | rfl | (simp; done) | (simp [*]; done)), H', ⟨by have := HJ8.out; first | omega | exact Nat.le_refl _⟩, ⟨by (with_reducible repeat (first | refine blk_drewN ?_ _ | refine blk_drew ?_ | refine blk_alloc ?_ _)); exact BK114.out⟩, ⟨by repeat (first | (with_reducible first | exact HB.out | apply below_alloc | apply pw_below_drewN | apply below_drew1 | refine below_set ?_ GE114.out) | exact HB.out)⟩⟩
    case rest =>
     clear HC13
     try clear c1
     try clear p1
     try clear q1
     try clear hx1
     try clear qi1
     try clear c2
     try clear c2b0
     try clear c2b1
     try clear p2
     try clear c4
     try clear c5
     try clear c6
     try clear c12
     try clear c15
     try clear c16
     try clear c16b0
     try clear c16b1
     try clear c17
     try clear c17b0
     try clear c17b1
     try clear p18
     try clear q18
     try clear hx18
     try clear qi18
     try clear c19
     try clear c19b0
     try clear c19b1
     try clear hcz6_0
     try clear hcz6_1
     try clear hfz6_0
     try clear hfz6_1
     try clear p18
     try clear p2
     try clear q18
     obtain ⟨kq, x45_12, rfl, HA, HJ12, BK114, HB⟩ := hcut
     cases kq with
     | zero => exact absurd HA.out (by simp [fix_Parse.j1])
     | succ kj12 =>
      have H := HA.out
      clear HA
      simp only [fix_Parse.j1] at H
      by_cases c22 : x45_12 = true
      ·subst c22
       have H1 : (some (false, 0, 20)) = some (r1, r2, r3) := by rw [if_pos rfl] at H; exact H
       clear H
       have H := H1
       clear H1
       simp only [Option.some.injEq, Prod.mk.injEq] at H
       obtain ⟨rfl, rfl, rfl⟩ := H
       have hcz23_0 : wc.cell? ⟨gb114, 0, none⟩ = some (.bool false) := (blk_cell BK114.out 0).trans rfl
       have hcz23_1 : wc.cell? ⟨gb114, 1, none⟩ = some (.int .i64 0) := (blk_cell BK114.out 1).trans rfl
       have hfz23_0 := blk_frozen BK114.out 0
       have hfz23_1 := blk_frozen BK114.out 1
       go_wp2
       refine bodyPost_ret (results_ct rfl _ _ gb114 34 #[.bool false, .int .i64 0] (0, 0) _ rfl (by (with_reducible repeat (first | refine blk_drewN ?_ _ | refine blk_drew ?_ | refine blk_alloc ?_ _)); refine blk_put (cs := #[.bool false, .int .i64 0]) ?_ 1 _ rfl; (with_reducible repeat (first | refine blk_drewN ?_ _ | refine blk_drew ?_ | refine blk_alloc ?_ _)); refine blk_put (cs := #[.bool false, .int .i64 0]) ?_ 0 _ rfl; (with_reducible repeat (first | refine blk_drewN ?_ _ | refine blk_drew ?_ | refine blk_alloc ?_ _)); exact BK114.out) Tryz.underlying34 rfl (by kernel_rfl)) rfl ?_
       exact ⟨by first | rfl | (simp [errW_none, errW_some] <;> rfl) | (simp [*, errW_none, errW_some] <;> rfl), by repeat (first | (with_reducible first | exact HB.out | apply below_alloc | apply pw_below_drewN | apply below_drew1 | refine below_set ?_ GE114.out) | exact HB.out)⟩
      ·replace c22 := Bool.eq_false_iff.mpr c22
       subst c22
       have H1 : (if t119.size + t120.size ≤ 9223372036854775807 then ((strings_Repeat.f (⟨#[48]⟩ : ByteArray) (wrap64 (6 - (t120.size : Int)))).bind fun t125 => (if (t119 ++ t120).size + t125.size ≤ 9223372036854775807 then ((strconv_ParseUint.f ((t119 ++ t120) ++ t125) 10 64).bind fun bt126 => (if bt126.2.isNone = true then (fix_Parse.j2 kj12 t118 bt126.1 (decide (bt126.1 > 9223372036854775807))) else (fix_Parse.j2 kj12 t118 bt126.1 true))) else (none))) else (none)) = some (r1, r2, r3) := by rw [if_neg (show ¬ (false = true) by decide)] at H; exact H
       clear H
       have H := H1
       clear H1
       by_cases c24 : t119.size + t120.size ≤ 9223372036854775807
       ·rw [if_pos c24] at H
        have c24b0 := eq_true c24
        have c24b1 : decide (t119.size + t120.size ≤ 9223372036854775807) = true := decide_eq_true c24
        try have c24b2 : (9223372036854775807 < t119.size + t120.size) = False := eq_false (Nat.not_lt.2 c24)
        replace H := Option.bind_eq_some_iff.mp H
        obtain ⟨t125, A250, H⟩ := H
        replace H : (if (t119 ++ t120).size + t125.size ≤ 9223372036854775807 then ((strconv_ParseUint.f ((t119 ++ t120) ++ t125) 10 64).bind fun bt126 => (if bt126.2.isNone = true then (fix_Parse.j2 kj12 t118 bt126.1 (decide (bt126.1 > 9223372036854775807))) else (fix_Parse.j2 kj12 t118 bt126.1 true))) else (none)) = some (r1, r2, r3) := H
        have A25 := Aside0.mk A250
        clear A250
        by_cases c26 : (t119 ++ t120).size + t125.size ≤ 9223372036854775807
        ·rw [if_pos c26] at H
         have c26b0 := eq_true c26
         have c26b1 : decide ((t119 ++ t120).size + t125.size ≤ 9223372036854775807) = true := decide_eq_true c26
         try have c26b2 : (9223372036854775807 < (t119 ++ t120).size + t125.size) = False := eq_false (Nat.not_lt.2 c26)
         try (have c26b3 := c26; simp only [ByteArray.size_append, sz_one] at c26b3; have c26b4 := eq_false (Nat.not_lt.2 c26b3); clear c26b3)
         replace H := Option.bind_eq_some_iff.mp H
         obtain ⟨⟨t126, t127⟩, A270, H⟩ := H
         replace H : (if t127.isNone = true then (fix_Parse.j2 kj12 t118 t126 (decide (t126 > 9223372036854775807))) else (fix_Parse.j2 kj12 t118 t126 true)) = some (r1, r2, r3) := H
         have A27 := Aside0.mk A270
         clear A270
         have HC28 := Aside0.mk H
         clear H
         have ew_ : wrap64 (6 - (t120.size : Int)) = 6 - (t120.size : Int) := by (have h_ := c26; rw [ByteArray.size_append] at h_; unfold wrap64; omega)
         go_upto_region 11 with (first | ((with_reducible refine gate_callee (f := 63) rfl ?_); refine goesL_ (some 54) rfl rfl Tryz.func63 (by kernel_rfl) rfl #[.string (⟨#[48]⟩ : ByteArray), .int .i64 (wrap64 (6 - (t120.size : Int)))] rfl (by (try simp only [List.map_toArray, List.map_cons, List.map_nil]); first | done | rfl | (rw [ew_]; rfl) | (simp only [List.length_drop, List.length_take]; rfl)) ?_; (with_reducible refine (strings_Repeat.calls (⟨#[48]⟩ : ByteArray) (wrap64 (6 - (t120.size : Int))) t125 _ A25.out).mono ?_); rintro e w29 ⟨rfl, hb⟩; refine ⟨_, rfl, ?_⟩; have n0_ := Aside0.mk (blk_below (g := gb114) (o := .cells #[.bool false, .int .i64 0] 34 (0, 0)) (by (with_reducible repeat (first | refine blk_drewN ?_ _ | refine blk_drew ?_ | refine blk_alloc ?_ _)); exact BK114.out) hb); have n1_ := Aside0.mk (below_step (by repeat (first | (with_reducible first | exact HB.out | apply below_alloc | apply pw_below_drewN | apply below_drew1 | refine below_set ?_ GE114.out) | exact HB.out)) hb); clear BK114; clear HB; have BK114 := n0_; have HB := n1_; clear n0_ n1_; (try clear hb); (try clear hb2); (try clear hk); (try clear hi)) | ((with_reducible refine gate_callee (f := 62) rfl ?_); refine goesL_ (some 56) rfl rfl Tryz.func62 (by kernel_rfl) rfl #[.string ((t119 ++ t120) ++ t125), .int .i64 10, .int .i64 64] rfl (by (try simp only [List.map_toArray, List.map_cons, List.map_nil]); first | done | rfl | (simp only [List.length_drop, List.length_take]; rfl)) ?_; (with_reducible refine (strconv_ParseUint.calls ((t119 ++ t120) ++ t125) 10 64 t126 t127 _ A27.out).mono ?_); rintro e w30 ⟨rfl, hb⟩; refine ⟨_, rfl, ?_⟩; have n0_ := Aside0.mk (blk_below (g := gb114) (o := .cells #[.bool false, .int .i64 0] 34 (0, 0)) (by (with_reducible repeat (first | refine blk_drewN ?_ _ | refine blk_drew ?_ | refine blk_alloc ?_ _)); exact BK114.out) hb); have n1_ := Aside0.mk (below_step (by repeat (first | (with_reducible first | exact HB.out | apply below_alloc | apply pw_below_drewN | apply below_drew1 | refine below_set ?_ GE114.out) | exact HB.out)) hb); clear BK114; clear HB; have BK114 := n0_; have HB := n1_; clear n0_ n1_; (try clear hb); (try clear hb2); (try clear hk); (try clear hi); (try simp only [errW_none, errW_some])))
         (try simp only [Act.put, List.setIfInBounds_toArray, List.set_cons_zero, List.set_cons_succ])
         go_cut [64] (fun v64 wc => ∃ (kq : Nat) (x64_27 : Bool), v64 = .bool x64_27 ∧ Aside0 (fix_Parse.j2 kq t118 t126 x64_27 = some (r1, r2, r3)) ∧ Aside0 (kq ≤ kj12) ∧ Aside0 (wc.heap[gb114]? = some (.cells #[.bool false, .int .i64 0] 34 (0, 0))) ∧ Aside0 (Below w.heap.size w wc))
         case first =>
          have H := HC28.out
          clear HC28
          rcases t127 with _ | q128
          ·have H1 : (fix_Parse.j2 kj12 t118 t126 (decide (t126 > 9223372036854775807))) = some (r1, r2, r3) := by rw [if_pos (show (none : Option Int).isNone = true by rfl)] at H; exact H
           clear H
           have H := H1
           clear H1
           try simp only [errW_none, errW_some]
           have H' := Aside0.mk H
           clear H
           go_wp2
           go_meet
           case rel => exact ⟨_, (decide (t126 > 9223372036854775807)), (by first | rfl | (simp; done) | (simp [*]; done)), H', ⟨by have := HJ8.out; have := HJ12.out; first | omega | exact Nat.le_refl _⟩, ⟨by (with_reducible repeat (first | refine blk_drewN ?_ _ | refine blk_drew ?_ | refine blk_alloc ?_ _)); exact BK114.out⟩, ⟨by repeat (first | (with_reducible first | exact HB.out | apply below_alloc | apply pw_below_drewN | apply below_drew1 | refine below_set ?_ GE114.out) | exact HB.out)⟩⟩
          ·have H1 : (fix_Parse.j2 kj12 t118 t126 true) = some (r1, r2, r3) := by rw [if_neg (show ¬ (some q128).isNone = true by simp)] at H; exact H
           clear H
           have H := H1
           clear H1
           try simp only [errW_none, errW_some]
           have H' := Aside0.mk H
           clear H
           go_wp2
           go_meet
           case rel => exact ⟨_, (true), (by first | rfl | (simp; done) | (simp [*]; done)), H', ⟨by have := HJ8.out; have := HJ12.out; first | omega | exact Nat.le_refl _⟩, ⟨by (with_reducible repeat (first | refine blk_drewN ?_ _ | refine blk_drew ?_ | refine blk_alloc ?_ _)); exact BK114.out⟩, ⟨by repeat (first | (with_reducible first | exact HB.out | apply below_alloc | apply pw_below_drewN | apply below_drew1 | refine below_set ?_ GE114.out) | exact HB.out)⟩⟩
         case rest =>
          clear HC28
          try clear c1
          try clear p1
          try clear q1
          try clear hx1
          try clear qi1
          try clear c2
          try clear c2b0
          try clear c2b1
          try clear p2
          try clear c4
          try clear c5
          try clear c6
          try clear p6
          try clear c12
          try clear q12
          try clear c15
          try clear c16
          try clear c16b0
          try clear c16b1
          try clear c17
          try clear c17b0
          try clear c17b1
          try clear p18
          try clear q18
          try clear hx18
          try clear qi18
          try clear c19
          try clear c19b0
          try clear c19b1
          try clear c22
          try clear c24
          try clear c24b0
          try clear c24b1
          try clear c24b2
          try clear c26
          try clear c26b0
          try clear c26b1
          try clear c26b2
          try clear hcz23_0
          try clear hcz23_1
          try clear hcz6_0
          try clear hcz6_1
          try clear hfz23_0
          try clear hfz23_1
          try clear hfz6_0
          try clear hfz6_1
          try clear p1
          try clear p18
          try clear p2
          try clear q1
          try clear q128
          try clear q18
          obtain ⟨kq, x64_27, rfl, HA, HJ27, BK114, HB⟩ := hcut
          cases kq with
          | zero => exact absurd HA.out (by simp [fix_Parse.j2])
          | succ kj27 =>
           have H := HA.out
           clear HA
           simp only [fix_Parse.j2] at H
           by_cases c31 : x64_27 = true
           ·subst c31
            have H1 : ((fix_ovf.f).bind fun bt129 => (some (bt129.1, bt129.2, 0))) = some (r1, r2, r3) := by rw [if_pos rfl] at H; exact H
            clear H
            have H := H1
            clear H1
            replace H := Option.bind_eq_some_iff.mp H
            obtain ⟨⟨t129, t130⟩, A320, H⟩ := H
            replace H : (some (t129, t130, 0)) = some (r1, r2, r3) := H
            have A32 := Aside0.mk A320
            clear A320
            simp only [Option.some.injEq, Prod.mk.injEq] at H
            obtain ⟨rfl, rfl, rfl⟩ := H
            go_wp2_with (first | ((with_reducible refine gate_callee (f := 58) rfl ?_); refine goesL_ (some 65) rfl rfl Tryz.func58 (by kernel_rfl) rfl #[] rfl (by (try simp only [List.map_toArray, List.map_cons, List.map_nil]); first | done | rfl | (simp only [List.length_drop, List.length_take]; rfl)) ?_; (with_reducible refine (fix_ovf.calls  t129 t130 _ A32.out).mono ?_); rintro e w33 ⟨rfl, hb⟩; refine ⟨_, rfl, ?_⟩; have n0_ := Aside0.mk (blk_below (g := gb114) (o := .cells #[.bool false, .int .i64 0] 34 (0, 0)) (by (with_reducible repeat (first | refine blk_drewN ?_ _ | refine blk_drew ?_ | refine blk_alloc ?_ _)); exact BK114.out) hb); have n1_ := Aside0.mk (below_step (by repeat (first | (with_reducible first | exact HB.out | apply below_alloc | apply pw_below_drewN | apply below_drew1 | refine below_set ?_ GE114.out) | exact HB.out)) hb); clear BK114; clear HB; have BK114 := n0_; have HB := n1_; clear n0_ n1_; (try clear hb); (try clear hb2); (try clear hk); (try clear hi); have hcz34_0 : w33.cell? ⟨gb114, 0, none⟩ = some (.bool false) := (blk_cell BK114.out 0).trans rfl; have hcz34_1 : w33.cell? ⟨gb114, 1, none⟩ = some (.int .i64 0) := (blk_cell BK114.out 1).trans rfl; have hfz34_0 := blk_frozen BK114.out 0; have hfz34_1 := blk_frozen BK114.out 1))
            refine bodyPost_ret (results_ct rfl _ _ gb114 34 #[.bool t129, .int .i64 t130] (0, 0) _ rfl (by (with_reducible repeat (first | refine blk_drewN ?_ _ | refine blk_drew ?_ | refine blk_alloc ?_ _)); refine blk_put (cs := #[.bool t129, .int .i64 0]) ?_ 1 _ rfl; (with_reducible repeat (first | refine blk_drewN ?_ _ | refine blk_drew ?_ | refine blk_alloc ?_ _)); refine blk_put (cs := #[.bool false, .int .i64 0]) ?_ 0 _ rfl; (with_reducible repeat (first | refine blk_drewN ?_ _ | refine blk_drew ?_ | refine blk_alloc ?_ _)); exact BK114.out) Tryz.underlying34 rfl (by kernel_rfl)) rfl ?_
            exact ⟨by first | rfl | (simp [errW_none, errW_some] <;> rfl) | (simp [*, errW_none, errW_some] <;> rfl), by repeat (first | (with_reducible first | exact HB.out | apply below_alloc | apply pw_below_drewN | apply below_drew1 | refine below_set ?_ GE114.out) | exact HB.out)⟩
           ·replace c31 := Bool.eq_false_iff.mpr c31
            subst c31
            have H1 : ((fix_scaled.f kj27 t118 t126 1 1).bind fun bt131 => (some (bt131.1, bt131.2, 0))) = some (r1, r2, r3) := by rw [if_neg (show ¬ (false = true) by decide)] at H; exact H
            clear H
            have H := H1
            clear H1
            replace H := Option.bind_eq_some_iff.mp H
            obtain ⟨⟨t131, t132⟩, A350, H⟩ := H
            replace H : (some (t131, t132, 0)) = some (r1, r2, r3) := H
            have A35 := Aside0.mk A350
            clear A350
            simp only [Option.some.injEq, Prod.mk.injEq] at H
            obtain ⟨rfl, rfl, rfl⟩ := H
            go_wp2_with (first | ((with_reducible refine gate_callee (f := 64) rfl ?_); refine goesL_ (some 68) rfl rfl Tryz.func64 (by kernel_rfl) rfl #[.bool t118, .int .u64 t126, .int .u64 1, .int .u64 1] rfl (by (try simp only [List.map_toArray, List.map_cons, List.map_nil]); first | done | rfl | (simp only [List.length_drop, List.length_take]; rfl)) ?_; (with_reducible refine (fix_scaled.calls kj27 t118 t126 1 1 t131 t132 _ A35.out).mono ?_); rintro e w36 ⟨rfl, hb⟩; refine ⟨_, rfl, ?_⟩; have n0_ := Aside0.mk (blk_below (g := gb114) (o := .cells #[.bool false, .int .i64 0] 34 (0, 0)) (by (with_reducible repeat (first | refine blk_drewN ?_ _ | refine blk_drew ?_ | refine blk_alloc ?_ _)); exact BK114.out) hb); have n1_ := Aside0.mk (below_step (by repeat (first | (with_reducible first | exact HB.out | apply below_alloc | apply pw_below_drewN | apply below_drew1 | refine below_set ?_ GE114.out) | exact HB.out)) hb); clear BK114; clear HB; have BK114 := n0_; have HB := n1_; clear n0_ n1_; (try clear hb); (try clear hb2); (try clear hk); (try clear hi); have hcz37_0 : w36.cell? ⟨gb114, 0, none⟩ = some (.bool false) := (blk_cell BK114.out 0).trans rfl; have hcz37_1 : w36.cell? ⟨gb114, 1, none⟩ = some (.int .i64 0) := (blk_cell BK114.out 1).trans rfl; have hfz37_0 := blk_frozen BK114.out 0; have hfz37_1 := blk_frozen BK114.out 1))
            refine bodyPost_ret (results_ct rfl _ _ gb114 34 #[.bool t131, .int .i64 t132] (0, 0) _ rfl (by (with_reducible repeat (first | refine blk_drewN ?_ _ | refine blk_drew ?_ | refine blk_alloc ?_ _)); refine blk_put (cs := #[.bool t131, .int .i64 0]) ?_ 1 _ rfl; (with_reducible repeat (first | refine blk_drewN ?_ _ | refine blk_drew ?_ | refine blk_alloc ?_ _)); refine blk_put (cs := #[.bool false, .int .i64 0]) ?_ 0 _ rfl; (with_reducible repeat (first | refine blk_drewN ?_ _ | refine blk_drew ?_ | refine blk_alloc ?_ _)); exact BK114.out) Tryz.underlying34 rfl (by kernel_rfl)) rfl ?_
            exact ⟨by first | rfl | (simp [errW_none, errW_some] <;> rfl) | (simp [*, errW_none, errW_some] <;> rfl), by repeat (first | (with_reducible first | exact HB.out | apply below_alloc | apply pw_below_drewN | apply below_drew1 | refine below_set ?_ GE114.out) | exact HB.out)⟩
        ·rw [if_neg c26] at H
         exact absurd H (by simp)
       ·rw [if_neg c24] at H
        exact absurd H (by simp)

end Go.Proofs.YtnjobjogddjelaaGreatDoor.Print
end
