/- A part of the proof of ExpoPrints: what the functions that the law reaches come to. -/
import Derived.Test.YtfgffjchphignaaGreatDoorProg
import Derived.Below
import Derived.Deep.Draws
import Derived.Deep.AppendLies
import Derived.Maps.AppendAt
import Derived.OwnWalk
import Derived.Laws.BytesArg
import Derived.Laws.MakeOwn
import Derived.Laws.OwnMore
import Derived.Deep.OwnRows
import Derived.Tactics
import Derived.Lib.ConvBytes
import Derived.Laws.Slices
import Derived.WalkKit
import Derived.KernelRfl
import Derived.RowKit3
import Derived.Deep.LoopGhost
import Derived.Deep.QuietTactic
import Derived.BigQuiet
import Derived.WideLaws
import Derived.Deep.DeepCutAuto
import Derived.Deep.CutBlock
import Derived.Deep.RegionHeld3
import Derived.Laws.Rows
import Derived.Lib.AppendStr
import Derived.ArgAppend
import Derived.Laws.IdiomCopy
import Derived.OrdersHeld
import Derived.Laws.BitsLemmas
import Derived.RowKit
import Derived.Test.YtfgffjchphignaaGreatDoorC00
import Derived.Shelf.Strings.Builder1
import Derived.Shelf.Strings.Builder2
import Derived.Shelf.Strings.OnBuilder
import Derived.Shelf.Strings.Trim
import Derived.Shelf.Small.Utf8
import Derived.Shelf.Small.Bits
import Derived.Shelf.Small.Strs
import Derived.Shelf.Small.Wraps
import Derived.Shelf.Strings.BuilderF
import Derived.Shelf.Strings.BuilderK
import Derived.Shelf.Utf8.RuneCount
import Derived.Shelf.Strings.Builder2Cap
import Derived.Shelf.Strconv.Atoi
import Derived.Shelf.Strconv.Itoa0
import Derived.Shelf.Strconv.Itoa1
import Derived.Shelf.LaysM
import Derived.Shelf.Strconv.Itoa2
import Derived.Shelf.Strconv.Itoa3
import Derived.Shelf.Strconv.AtoiErrFast
import Derived.Shelf.Strconv.ParseIntEmpty
import Derived.Shelf.Strconv.AtoiFail
import Derived.Shelf.Strconv.Clone
import Derived.Shelf.Strconv.SyntaxError
import Derived.Shelf.LaysC
import Derived.Shelf.Strconv.ToError
import Derived.Shelf.Strconv.AtoiErr
import Derived.Shelf.Strconv.ErrVar
import Derived.Shelf.Strconv.Lower
import Derived.Shelf.Strconv.ParseUint10
import Derived.Shelf.Strconv.ParseUint10Empty
import Derived.Shelf.Strconv.ParseUint10Any
import Derived.Shelf.Strconv.ParseInt10
import Derived.Shelf.Strconv.AtoiLong
import Derived.Shelf.Strconv.AtoiInnerAll
import Derived.Shelf.Strconv.RangeError
import Derived.Shelf.Strconv.ToErrorRange
import Derived.Shelf.Strconv.AtoiAll
import Derived.Shelf.Strconv.ErrVarAll
import Derived.Shelf.Strconv.ParseUintEmpty
import Derived.Shelf.Strconv.ParseUint10b64
import Derived.Shelf.Strconv.ParseUint10b32
import Derived.Shelf.Strconv.ParseUint10b16
import Derived.Shelf.Strconv.ParseUint10b8
import Derived.Shelf.Strconv.ParseUint10At
import Derived.Shelf.Strconv.ParseInt10At64
import Derived.Shelf.Strconv.ParseInt10At32
import Derived.Shelf.Strconv.ParseInt10At16
import Derived.Shelf.Strconv.ParseInt10At8
import Derived.Shelf.Strconv.ParseInt10All
import Derived.Ground.MpProg
import Derived.Shelf.Pu.ParseUintPublic10
import Derived.Shelf.Pu.ErrVarParseUint
import Derived.Shelf.Strings.Search1
import Derived.Shelf.Strings.Search2
import Derived.Shelf.Strings.Search3
import Derived.Shelf.Strings.Cut
import Derived.Shelf.Strings.Count
import Derived.Shelf.Strings.Shaped
import Derived.Shelf.Strings.Prefix
import Derived.Shelf.Strings.Split
import Derived.Shelf.Strings.SplitShaped
import Derived.Shelf.Unicode.Decode
import Derived.Shelf.Strings.Runes
import Derived.Shelf.Strings.RuneCount
import Derived.Shelf.Strings.AsciiSet
import Derived.Shelf.Strings.Explode
import Derived.Shelf.Bits.Mul64
import Derived.Shelf.Strings.Repeat
import Derived.Shelf.Unicode.DecodeSlow
import Derived.Shelf.Unicode.DecodeAny
import Derived.Shelf.Unicode.DecodeLast
import Derived.Shelf.Strings.BuilderCap
import Derived.Shelf.Slices.Turned
import Derived.Lib.ItoaMem
import Derived.Laws.Externs
import Derived.Lib.AppendIntMem
import Derived.Test.YtfgffjchphignaaGreatDoorRows
import Derived.Deep.DeepHandedRow
import Derived.Deep.DeepWitnessRowRef
import Derived.Deep.DeepLaidRun
import Derived.Lib.LaidTab
import Derived.Lib.LaidU8
import Derived.Lib.LaidIn
import Derived.Stop.LaidErr
import Derived.Shelf.SlGeneric
import Derived.Shelf.SlicesE.Clone
import Derived.Shelf.SlSortCmp.InsertionK
import Derived.Shelf.SlicesQ.IndexFunc
import Derived.Ground.SlgnProg
import Derived.Ground.SlsfProg
import Derived.Ground.SlgfProg
import Derived.Sort.OwnSorted
import Derived.Lib.SlKept
import Derived.Lib.SliceRun
import Derived.Sort.LotA
import Derived.Shelf.SlicesE.DeleteFunc
import Derived.Laws.Cover1
set_option linter.unusedVariables false
set_option linter.unusedSimpArgs false
section
namespace Go.Proofs.YtfgffjchphignaaGreatDoor.Print
open Go.RowKit Go.Proofs.YtfgffjchphignaaGreatDoorX Go.Proofs.YtfgffjchphignaaGreatDoorW.PrintWords Go.Proofs.YtfgffjchphignaaGreatDoorW.PrintLast Go.Proofs.YtfgffjchphignaaGreatDoorW.PrintMore
def errW : Option Int → Value
 | none=>.nilIface
 | some c=>.iface 0 (.int .i64 c)
theorem errW_none : errW none = .nilIface:=rfl
theorem errW_some (c : Int) : errW (some c) = .iface 0 (.int .i64 c):=rfl

theorem info3 : (Tryz.prog.info? 3).map (fun i=>(i.zero,i.size,i.bytes)) = some (some (.int .i64 0),1,8):=by kernel_rfl
theorem info9 : (Tryz.prog.info? 9).map (fun i=>(i.zero,i.size,i.bytes)) = some (some (.string ⟨#[]⟩),1,16):=by kernel_rfl
theorem info34 : (Tryz.prog.info? 34).map (fun i=>(i.zero,i.size,i.bytes)) = some (some (.agg #[(.slice none 0 0),(.bool false),(.int .i64 0),(.int .i64 0),(.bool false),(.int .i64 0)]),6,64):=by kernel_rfl
theorem info60 : (Tryz.prog.info? 60).map (fun i=>(i.zero,i.size,i.bytes)) = some (some (.agg #[(.string ⟨#[]⟩),(.string ⟨#[]⟩)]),2,32):=by kernel_rfl
-- the values' own types
/-! #### struct type 60 -/
structure S60 where
 f0 : ByteArray
 f1 : ByteArray
def z60 : S60:=⟨(⟨#[]⟩ : ByteArray),(⟨#[]⟩ : ByteArray)⟩
def k60 : Kd S60:=Kd.iso (Kd.pair Kd.string Kd.string) (fun x : S60=>(x.f0,x.f1))
theorem k60_open {w : World} {x : S60} {cs : List Value} (h : k60.K w x cs) : cs = [.string x.f0,.string x.f1]:=by
 obtain ⟨_,_,rfl,rfl,rfl⟩:=h
 exact rfl
theorem k60_mkM (w : World) (base : Nat) (ok : Nat → Prop) (x : S60)  : k60.M w base ok x [.string x.f0,.string x.f1]:=⟨[.string x.f0],[.string x.f1],rfl,rfl,rfl⟩
def rd_T60 (xs : List S60) (i : Int) : S60:=xs.getD i.toNat z60
theorem at_T60 {w : World} {A : Option Addr} {n : Nat} {xs : List S60} (h : Kd.C k60 w A n xs) (i : Int) (h0 : 0 ≤ i) (h1 : i < n) : ∃ ad ,A = some ad ∧ w.cell? (ad.add (i.toNat * 2)) = some (.string (rd_T60 xs i).f0) ∧ w.cell? ⟨(ad.add (i.toNat * 2)).block,(ad.add (i.toNat * 2)).off + 1,none⟩ = some (.string (rd_T60 xs i).f1):=by
 obtain ⟨ad,c,e,_,hK,hc0⟩:=Kd.C_get h z60 i h0 h1
 have hc : ∀ j u,c[j]? = some u → w.cell? (ad.add (i.toNat * 2 + j)) = some u:=hc0
 obtain rfl:=k60_open hK
 exact ⟨ad,e,hc 0 _ rfl,by rw [← add_field _ _ 1 (by omega)];exact hc 1 _ rfl⟩

/-! #### struct type 32 -/
structure S32 where
 f0 : Bool
 f1 : Int
def z32 : S32:=⟨false,(0 : Int)⟩
def k32 : Kd S32:=Kd.iso (Kd.pair Kd.bool (Kd.int .i64)) (fun x : S32=>(x.f0,x.f1))
theorem k32_open {w : World} {x : S32} {cs : List Value} (h : k32.K w x cs) : cs = [.bool x.f0,.int .i64 x.f1]:=by
 obtain ⟨_,_,rfl,rfl,rfl⟩:=h
 exact rfl
theorem k32_openM {w : World} {base : Nat} {ok : Nat → Prop} {x : S32} {cs : List Value} (h : k32.M w base ok x cs) : cs = [.bool x.f0,.int .i64 x.f1]:=by
 obtain ⟨_,_,rfl,rfl,rfl⟩:=h
 exact rfl
theorem k32_mkM (w : World) (base : Nat) (ok : Nat → Prop) (x : S32)  : k32.M w base ok x [.bool x.f0,.int .i64 x.f1]:=⟨[.bool x.f0],[.int .i64 x.f1],rfl,rfl,rfl⟩
/-! #### struct type 34 -/
structure S34 where
 f0 : (List S60)
 f1 : S32
 f2 : Int
 f3 : Bool
 f4 : Int
def z34 : S34:=⟨([] : List S60),z32,(0 : Int),false,(0 : Int)⟩
def k34 : Kd S34:=Kd.iso (Kd.pair (Kd.slice 60 k60) (Kd.pair k32 (Kd.pair (Kd.int .i64) (Kd.pair Kd.bool (Kd.int .i64))))) (fun x : S34=>(x.f0,x.f1,x.f2,x.f3,x.f4))
theorem k34_open {w : World} {x : S34} {cs : List Value} (h : k34.K w x cs) : ∃ A0 c0,cs = [.slice A0 x.f0.length c0,.bool x.f1.f0,.int .i64 x.f1.f1,.int .i64 x.f2,.bool x.f3,.int .i64 x.f4] ∧ x.f0.length ≤ c0 ∧ k60.C w A0 x.f0.length x.f0:=by
 obtain ⟨_,_,rfl,⟨A0,c0,rfl,l0,g0⟩,⟨_,_,rfl,s1,⟨_,_,rfl,rfl,⟨_,_,rfl,rfl,rfl⟩⟩⟩⟩:=h
 obtain rfl:=k32_open s1
 exact ⟨A0,c0,rfl,l0,g0⟩
theorem k34_openM {w : World} {base : Nat} {ok : Nat → Prop} {x : S34} {cs : List Value} (h : k34.M w base ok x cs) : ∃ v0,cs = [v0,.bool x.f1.f0,.int .i64 x.f1.f1,.int .i64 x.f2,.bool x.f3,.int .i64 x.f4] ∧ k60.R 60 w base ok v0 x.f0:=by
 obtain ⟨_,_,rfl,⟨v0,rfl,g0⟩,⟨_,_,rfl,s1,⟨_,_,rfl,rfl,⟨_,_,rfl,rfl,rfl⟩⟩⟩⟩:=h
 obtain rfl:=k32_openM s1
 exact ⟨v0,rfl,g0⟩
theorem k34_mkM (w : World) (base : Nat) (ok : Nat → Prop) (x : S34) {v0 : Value} (g0 : k60.R 60 w base ok v0 x.f0) : k34.M w base ok x [v0,.bool x.f1.f0,.int .i64 x.f1.f1,.int .i64 x.f2,.bool x.f3,.int .i64 x.f4]:=⟨[v0],[.bool x.f1.f0,.int .i64 x.f1.f1,.int .i64 x.f2,.bool x.f3,.int .i64 x.f4],rfl,⟨v0,rfl,g0⟩,⟨[.bool x.f1.f0,.int .i64 x.f1.f1],[.int .i64 x.f2,.bool x.f3,.int .i64 x.f4],rfl,(k32_mkM w base ok x.f1 ),⟨[.int .i64 x.f2],[.bool x.f3,.int .i64 x.f4],rfl,rfl,⟨[.bool x.f3],[.int .i64 x.f4],rfl,rfl,rfl⟩⟩⟩⟩
def rd_T34 (xs : List S34) (i : Int) : S34:=xs.getD i.toNat z34
theorem at_T34 {w : World} {A : Option Addr} {n : Nat} {xs : List S34} (h : Kd.C k34 w A n xs) (i : Int) (h0 : 0 ≤ i) (h1 : i < n) : ∃ ad A0 c0,A = some ad ∧ w.cell? (ad.add (i.toNat * 6)) = some (.slice A0 (rd_T34 xs i).f0.length c0) ∧ w.cell? ⟨(ad.add (i.toNat * 6)).block,(ad.add (i.toNat * 6)).off + 1,none⟩ = some (.bool (rd_T34 xs i).f1.f0) ∧ w.cell? ⟨(ad.add (i.toNat * 6)).block,(ad.add (i.toNat * 6)).off + 2,none⟩ = some (.int .i64 (rd_T34 xs i).f1.f1) ∧ w.cell? ⟨(ad.add (i.toNat * 6)).block,(ad.add (i.toNat * 6)).off + 3,none⟩ = some (.int .i64 (rd_T34 xs i).f2) ∧ w.cell? ⟨(ad.add (i.toNat * 6)).block,(ad.add (i.toNat * 6)).off + 4,none⟩ = some (.bool (rd_T34 xs i).f3) ∧ w.cell? ⟨(ad.add (i.toNat * 6)).block,(ad.add (i.toNat * 6)).off + 5,none⟩ = some (.int .i64 (rd_T34 xs i).f4) ∧ (rd_T34 xs i).f0.length ≤ c0 ∧ k60.C w A0 (rd_T34 xs i).f0.length (rd_T34 xs i).f0:=by
 obtain ⟨ad,c,e,_,hK,hc0⟩:=Kd.C_get h z34 i h0 h1
 have hc : ∀ j u,c[j]? = some u → w.cell? (ad.add (i.toNat * 6 + j)) = some u:=hc0
 obtain ⟨A0,c0,rfl,l0,g0⟩:=k34_open hK
 exact ⟨ad,A0,c0,e,hc 0 _ rfl,by rw [← add_field _ _ 1 (by omega)];exact hc 1 _ rfl,by rw [← add_field _ _ 2 (by omega)];exact hc 2 _ rfl,by rw [← add_field _ _ 3 (by omega)];exact hc 3 _ rfl,by rw [← add_field _ _ 4 (by omega)];exact hc 4 _ rfl,by rw [← add_field _ _ 5 (by omega)];exact hc 5 _ rfl,l0,g0⟩

/-! #### struct type 43 -/
structure S43 where
 f0 : Int
 f1 : Int
def z43 : S43:=⟨(0 : Int),(0 : Int)⟩
def k43 : Kd S43:=Kd.iso (Kd.pair (Kd.int .i64) (Kd.int .i64)) (fun x : S43=>(x.f0,x.f1))
theorem k43_open {w : World} {x : S43} {cs : List Value} (h : k43.K w x cs) : cs = [.int .i64 x.f0,.int .i64 x.f1]:=by
 obtain ⟨_,_,rfl,rfl,rfl⟩:=h
 exact rfl
theorem k43_mkM (w : World) (base : Nat) (ok : Nat → Prop) (x : S43)  : k43.M w base ok x [.int .i64 x.f0,.int .i64 x.f1]:=⟨[.int .i64 x.f0],[.int .i64 x.f1],rfl,rfl,rfl⟩
def rd_T43 (xs : List S43) (i : Int) : S43:=xs.getD i.toNat z43
theorem at_T43 {w : World} {A : Option Addr} {n : Nat} {xs : List S43} (h : Kd.C k43 w A n xs) (i : Int) (h0 : 0 ≤ i) (h1 : i < n) : ∃ ad ,A = some ad ∧ w.cell? (ad.add (i.toNat * 2)) = some (.int .i64 (rd_T43 xs i).f0) ∧ w.cell? ⟨(ad.add (i.toNat * 2)).block,(ad.add (i.toNat * 2)).off + 1,none⟩ = some (.int .i64 (rd_T43 xs i).f1):=by
 obtain ⟨ad,c,e,_,hK,hc0⟩:=Kd.C_get h z43 i h0 h1
 have hc : ∀ j u,c[j]? = some u → w.cell? (ad.add (i.toNat * 2 + j)) = some u:=hc0
 obtain rfl:=k43_open hK
 exact ⟨ad,e,hc 0 _ rfl,by rw [← add_field _ _ 1 (by omega)];exact hc 1 _ rfl⟩
end Go.Proofs.YtfgffjchphignaaGreatDoor.Print
end
section
namespace Go.Proofs
open Go.Shelf
def Tryz.lays169_ren : Go.Shelf.Ren:=⟨fun|169=>52|n=>n,fun|70=>100|9=>9|0=>0|72=>102|37=>47|127=>138|3=>3|5=>5|n=>n,fun|n=>n⟩
theorem Tryz.lays169 : Go.Proofs.Lays.n169 Tryz.prog Tryz.lays169_ren:={
  mixed:=by kernel_rfl
  f169:=Tryz.func52.trans (congrArg some (by kernel_rfl))
  t0:=Tryz.underlying0
  a0:=Tryz.isAgg0
  z0:=Tryz.sizeOf0
  v0:=Tryz.zeroValue0
  t3:=Tryz.underlying3
  a3:=Tryz.isAgg3
  z3:=Tryz.sizeOf3
  v3:=Tryz.zeroValue3
  t9:=Tryz.underlying9
  a9:=Tryz.isAgg9
  z9:=Tryz.sizeOf9
  v9:=Tryz.zeroValue9
  t37:=Tryz.underlying47
  a37:=Tryz.isAgg47
  z37:=Tryz.sizeOf47
  v37:=Tryz.zeroValue47
  t70:=Tryz.underlying100
  a70:=Tryz.isAgg100
  z70:=Tryz.sizeOf100
  v70:=Tryz.zeroValue100
  t72:=Tryz.underlying102
  a72:=Tryz.isAgg102
  z72:=Tryz.sizeOf102
  v72:=Tryz.zeroValue102
  t127:=Tryz.underlying138
  a127:=Tryz.isAgg138
  z127:=Tryz.sizeOf138
  v127:=Tryz.zeroValue138 }
theorem Tryz.Builder_Extra_169 : Builder.Extra Tryz.prog Tryz.lays169_ren:={
  sizeBuilder:=by kernel_rfl
  liesBuilder:=by kernel_rfl
  t5:=Tryz.underlying5
  a5:=Tryz.isAgg5
  z5:=Tryz.sizeOf5
  v5:=Tryz.zeroValue5
  infoByte:=by kernel_rfl
  cellsByte:=by kernel_rfl
  sizeByte:=by kernel_rfl
  neB5:=by decide }
def Tryz.lays156_ren : Go.Shelf.Ren:=⟨fun|156=>101|165=>107|166=>108|169=>52|240=>127|241=>142|276=>158|277=>166|n=>n,fun|31=>45|9=>9|3=>3|4=>4|0=>0|20=>20|72=>102|76=>122|70=>100|37=>47|75=>117|127=>138|164=>188|5=>5|80=>106|n=>n,fun|n=>n⟩
theorem Tryz.lays156 : Go.Proofs.Lays.n156 Tryz.prog Tryz.lays156_ren:={
  mixed:=by kernel_rfl
  f156:=Tryz.func101.trans (congrArg some (by kernel_rfl))
  f165:=Tryz.func107.trans (congrArg some (by kernel_rfl))
  f166:=Tryz.func108.trans (congrArg some (by kernel_rfl))
  f169:=Tryz.func52.trans (congrArg some (by kernel_rfl))
  f240:=Tryz.func127.trans (congrArg some (by kernel_rfl))
  f241:=Tryz.func142.trans (congrArg some (by kernel_rfl))
  f276:=Tryz.func158.trans (congrArg some (by kernel_rfl))
  f277:=Tryz.func166.trans (congrArg some (by kernel_rfl))
  t0:=Tryz.underlying0
  a0:=Tryz.isAgg0
  z0:=Tryz.sizeOf0
  v0:=Tryz.zeroValue0
  t3:=Tryz.underlying3
  a3:=Tryz.isAgg3
  z3:=Tryz.sizeOf3
  v3:=Tryz.zeroValue3
  t4:=Tryz.underlying4
  a4:=Tryz.isAgg4
  z4:=Tryz.sizeOf4
  v4:=Tryz.zeroValue4
  t9:=Tryz.underlying9
  a9:=Tryz.isAgg9
  z9:=Tryz.sizeOf9
  v9:=Tryz.zeroValue9
  t20:=Tryz.underlying20
  a20:=Tryz.isAgg20
  z20:=Tryz.sizeOf20
  v20:=Tryz.zeroValue20
  t31:=Tryz.underlying45
  a31:=Tryz.isAgg45
  z31:=Tryz.sizeOf45
  v31:=Tryz.zeroValue45
  t37:=Tryz.underlying47
  a37:=Tryz.isAgg47
  z37:=Tryz.sizeOf47
  v37:=Tryz.zeroValue47
  t70:=Tryz.underlying100
  a70:=Tryz.isAgg100
  z70:=Tryz.sizeOf100
  v70:=Tryz.zeroValue100
  t72:=Tryz.underlying102
  a72:=Tryz.isAgg102
  z72:=Tryz.sizeOf102
  v72:=Tryz.zeroValue102
  t75:=Tryz.underlying117
  a75:=Tryz.isAgg117
  z75:=Tryz.sizeOf117
  v75:=Tryz.zeroValue117
  t76:=Tryz.underlying122
  a76:=Tryz.isAgg122
  z76:=Tryz.sizeOf122
  v76:=Tryz.zeroValue122
  t127:=Tryz.underlying138
  a127:=Tryz.isAgg138
  z127:=Tryz.sizeOf138
  v127:=Tryz.zeroValue138
  t164:=Tryz.underlying188
  a164:=Tryz.isAgg188
  z164:=Tryz.sizeOf188
  v164:=Tryz.zeroValue188 }
theorem Tryz.Builder_Extra_156 : Builder.Extra Tryz.prog Tryz.lays156_ren:={
  sizeBuilder:=by kernel_rfl
  liesBuilder:=by kernel_rfl
  t5:=Tryz.underlying5
  a5:=Tryz.isAgg5
  z5:=Tryz.sizeOf5
  v5:=Tryz.zeroValue5
  infoByte:=by kernel_rfl
  cellsByte:=by kernel_rfl
  sizeByte:=by kernel_rfl
  neB5:=by decide }
open Go.RowKit in
theorem Tryz.strings_Join_none (a : Option Addr) (c : Nat) (sep : ByteArray) (w : World) :
    Calls Tryz.prog 101 #[.slice a 0 c,.string sep] w fun e w'=>e = .returned (.string ⟨#[]⟩) ∧ w' = w:=Any.strings_Join_none Tryz.lays156 Tryz.Builder_Extra_156 a c sep w
open Go.RowKit in
theorem Tryz.strings_Join (bk o c : Nat) (xs : List ByteArray) (sep : ByteArray) (w : World) (hcells : ∀ (j : Nat) x,xs[j]? = some x → w.cell? ⟨bk,o + j,none⟩ = some (.string x)) (hbk : bk < w.heap.size) (hN : xs.length ≤ 140737488355328) (hcap : xs.length ≤ c) (hlen : (Lib.join (xs.map (·.data.toList)) sep.data.toList).length ≤ 140737488355328) :
    Calls Tryz.prog 101 #[.slice (some ⟨bk,o,none⟩) xs.length c,.string sep] w fun e w'=>e = .returned (.string ⟨(Lib.join (xs.map (·.data.toList)) sep.data.toList).toArray⟩) ∧ Below w.heap.size w w':=Any.strings_Join Tryz.lays156 Tryz.Builder_Extra_156 bk o c xs sep w hcells hbk hN hcap hlen
def Tryz.lays162_ren : Go.Shelf.Ren:=⟨fun|162=>47|232=>79|227=>80|234=>81|236=>82|228=>119|271=>120|151=>121|120=>151|197=>124|152=>152|260=>154|137=>122|119=>169|224=>156|225=>155|217=>153|266=>170|n=>n,fun|9=>9|4=>4|3=>3|5=>5|117=>133|116=>132|0=>0|124=>136|21=>21|105=>163|46=>149|119=>199|139=>202|138=>201|n=>n,fun|3=>6|4=>7|n=>n⟩
theorem Tryz.lays162 : Go.Proofs.Lays.n162 Tryz.prog Tryz.lays162_ren:={
  mixed:=by kernel_rfl
  f119:=Tryz.func169.trans (congrArg some (by kernel_rfl))
  f120:=Tryz.func151.trans (congrArg some (by kernel_rfl))
  f137:=Tryz.func122.trans (congrArg some (by kernel_rfl))
  f151:=Tryz.func121.trans (congrArg some (by kernel_rfl))
  f152:=Tryz.func152.trans (congrArg some (by kernel_rfl))
  f162:=Tryz.func47.trans (congrArg some (by kernel_rfl))
  f197:=Tryz.func124.trans (congrArg some (by kernel_rfl))
  f217:=Tryz.func153.trans (congrArg some (by kernel_rfl))
  f224:=Tryz.func156.trans (congrArg some (by kernel_rfl))
  f225:=Tryz.func155.trans (congrArg some (by kernel_rfl))
  f227:=Tryz.func80.trans (congrArg some (by kernel_rfl))
  f228:=Tryz.func119.trans (congrArg some (by kernel_rfl))
  f232:=Tryz.func79.trans (congrArg some (by kernel_rfl))
  f234:=Tryz.func81.trans (congrArg some (by kernel_rfl))
  f236:=Tryz.func82.trans (congrArg some (by kernel_rfl))
  f260:=Tryz.func154.trans (congrArg some (by kernel_rfl))
  f266:=Tryz.func170.trans (congrArg some (by kernel_rfl))
  f271:=Tryz.func120.trans (congrArg some (by kernel_rfl))
  t0:=Tryz.underlying0
  a0:=Tryz.isAgg0
  z0:=Tryz.sizeOf0
  v0:=Tryz.zeroValue0
  t3:=Tryz.underlying3
  a3:=Tryz.isAgg3
  z3:=Tryz.sizeOf3
  v3:=Tryz.zeroValue3
  t4:=Tryz.underlying4
  a4:=Tryz.isAgg4
  z4:=Tryz.sizeOf4
  v4:=Tryz.zeroValue4
  t5:=Tryz.underlying5
  a5:=Tryz.isAgg5
  z5:=Tryz.sizeOf5
  v5:=Tryz.zeroValue5
  t9:=Tryz.underlying9
  a9:=Tryz.isAgg9
  z9:=Tryz.sizeOf9
  v9:=Tryz.zeroValue9
  t21:=Tryz.underlying21
  a21:=Tryz.isAgg21
  z21:=Tryz.sizeOf21
  v21:=Tryz.zeroValue21
  t46:=Tryz.underlying149
  a46:=Tryz.isAgg149
  z46:=Tryz.sizeOf149
  v46:=Tryz.zeroValue149
  t105:=Tryz.underlying163
  a105:=Tryz.isAgg163
  z105:=Tryz.sizeOf163
  v105:=Tryz.zeroValue163
  t116:=Tryz.underlying132
  a116:=Tryz.isAgg132
  z116:=Tryz.sizeOf132
  t117:=Tryz.underlying133
  a117:=Tryz.isAgg133
  z117:=Tryz.sizeOf133
  v117:=Tryz.zeroValue133
  t119:=Tryz.underlying199
  a119:=Tryz.isAgg199
  z119:=Tryz.sizeOf199
  t124:=Tryz.underlying136
  a124:=Tryz.isAgg136
  z124:=Tryz.sizeOf136
  v124:=Tryz.zeroValue136
  t138:=Tryz.underlying201
  a138:=Tryz.isAgg201
  z138:=Tryz.sizeOf201
  v138:=Tryz.zeroValue201
  t139:=Tryz.underlying202
  a139:=Tryz.isAgg202
  z139:=Tryz.sizeOf202
  v139:=Tryz.zeroValue202
  g3:=by kernel_rfl
  g4:=by kernel_rfl }
open Go.RowKit in
theorem Tryz.strings_TrimRight_one (s : ByteArray) (c : UInt8) (hc : c.toNat < 128) (w : World) (hs : s.size ≤ 9223372036854775807) :
    Calls Tryz.prog 47 #[.string s,.string ⟨#[c]⟩] w fun e w'=>e = .returned (.string ⟨(Lib.trimRightB s.data.toList c).toArray⟩) ∧ w' = w:=Any.strings_TrimRight_one Tryz.lays162 s c hc w hs
def Tryz.lays134_ren : Go.Shelf.Ren:=⟨fun|134=>143|129=>147|n=>n,fun|53=>58|3=>3|4=>4|46=>149|5=>5|9=>9|n=>n,fun|n=>n⟩
theorem Tryz.lays134 : Go.Proofs.Lays.n134 Tryz.prog Tryz.lays134_ren:={
  mixed:=by kernel_rfl
  f129:=Tryz.func147.trans (congrArg some (by kernel_rfl))
  f134:=Tryz.func143.trans (congrArg some (by kernel_rfl))
  t3:=Tryz.underlying3
  a3:=Tryz.isAgg3
  z3:=Tryz.sizeOf3
  v3:=Tryz.zeroValue3
  t4:=Tryz.underlying4
  a4:=Tryz.isAgg4
  z4:=Tryz.sizeOf4
  v4:=Tryz.zeroValue4
  t5:=Tryz.underlying5
  a5:=Tryz.isAgg5
  z5:=Tryz.sizeOf5
  v5:=Tryz.zeroValue5
  t9:=Tryz.underlying9
  a9:=Tryz.isAgg9
  z9:=Tryz.sizeOf9
  v9:=Tryz.zeroValue9
  t46:=Tryz.underlying149
  a46:=Tryz.isAgg149
  z46:=Tryz.sizeOf149
  v46:=Tryz.zeroValue149
  t53:=Tryz.underlying58
  a53:=Tryz.isAgg58
  z53:=Tryz.sizeOf58
  v53:=Tryz.zeroValue58 }
theorem Tryz.bits_LeadingZeros64 (x : Int) (w : World) (h0 : 0 ≤ x) (h1 : x ≤ 18446744073709551615) :
    Calls Tryz.prog 143 #[.int .u64 x] w fun e w'=>e = .returned (.int .i64 (64 - (Lib.bitLen x.toNat : Int))) ∧ w' = w:=Any.bits_LeadingZeros64 Tryz.lays134 x w h0 h1
def Tryz.lays106_ren : Go.Shelf.Ren:=⟨fun|106=>130|213=>161|265=>173|n=>n,fun|9=>9|3=>3|n=>n,fun|n=>n⟩
theorem Tryz.lays106 : Go.Proofs.Lays.n106 Tryz.prog Tryz.lays106_ren:={
  mixed:=by kernel_rfl
  f106:=Tryz.func130.trans (congrArg some (by kernel_rfl))
  f213:=Tryz.func161.trans (congrArg some (by kernel_rfl))
  f265:=Tryz.func173.trans (congrArg some (by kernel_rfl))
  t3:=Tryz.underlying3
  a3:=Tryz.isAgg3
  z3:=Tryz.sizeOf3
  v3:=Tryz.zeroValue3
  t9:=Tryz.underlying9
  a9:=Tryz.isAgg9
  z9:=Tryz.sizeOf9
  v9:=Tryz.zeroValue9 }
open Go.RowKit in
theorem Tryz.strings_Compare (a b : ByteArray) (w : World) :
    Calls Tryz.prog 130 #[.string a,.string b] w fun e w'=>e = .returned (.int .i64 (Lib.compareBytes a.data.toList b.data.toList)) ∧ w' = w:=Any.strings_Compare Tryz.lays106 a b w
def Tryz.lays137_ren : Go.Shelf.Ren:=⟨fun|137=>122|217=>153|266=>170|n=>n,fun|9=>9|5=>5|3=>3|n=>n,fun|n=>n⟩
theorem Tryz.lays137 : Go.Proofs.Lays.n137 Tryz.prog Tryz.lays137_ren:={
  mixed:=by kernel_rfl
  f137:=Tryz.func122.trans (congrArg some (by kernel_rfl))
  f217:=Tryz.func153.trans (congrArg some (by kernel_rfl))
  f266:=Tryz.func170.trans (congrArg some (by kernel_rfl))
  t3:=Tryz.underlying3
  a3:=Tryz.isAgg3
  z3:=Tryz.sizeOf3
  v3:=Tryz.zeroValue3
  t5:=Tryz.underlying5
  a5:=Tryz.isAgg5
  z5:=Tryz.sizeOf5
  v5:=Tryz.zeroValue5
  t9:=Tryz.underlying9
  a9:=Tryz.isAgg9
  z9:=Tryz.sizeOf9
  v9:=Tryz.zeroValue9 }
open Go.RowKit in
theorem Tryz.strings_IndexByte (s : ByteArray) (c : Int) (w : World) :
    Calls Tryz.prog 122 #[.string s,.int .u8 c] w fun e w'=>e = .returned (.int .i64 (Lib.indexByte s.data.toList c.toNat.toUInt8)) ∧ w' = w:=Any.strings_IndexByte Tryz.lays137 s c w
def Tryz.lays103_ren : Go.Shelf.Ren:=⟨fun|103=>64|210=>102|206=>128|n=>n,fun|9=>9|4=>4|24=>82|3=>3|n=>n,fun|n=>n⟩
theorem Tryz.lays103 : Go.Proofs.Lays.n103 Tryz.prog Tryz.lays103_ren:={
  mixed:=by kernel_rfl
  f103:=Tryz.func64.trans (congrArg some (by kernel_rfl))
  f206:=Tryz.func128.trans (congrArg some (by kernel_rfl))
  f210:=Tryz.func102.trans (congrArg some (by kernel_rfl))
  t3:=Tryz.underlying3
  a3:=Tryz.isAgg3
  z3:=Tryz.sizeOf3
  v3:=Tryz.zeroValue3
  t4:=Tryz.underlying4
  a4:=Tryz.isAgg4
  z4:=Tryz.sizeOf4
  v4:=Tryz.zeroValue4
  t9:=Tryz.underlying9
  a9:=Tryz.isAgg9
  z9:=Tryz.sizeOf9
  v9:=Tryz.zeroValue9
  t24:=Tryz.underlying82
  a24:=Tryz.isAgg82
  z24:=Tryz.sizeOf82
  v24:=Tryz.zeroValue82 }
open Go.RowKit in
theorem Tryz.strings_CutPrefix (s p : ByteArray) (w : World) :
    Calls Tryz.prog 64 #[.string s,.string p] w fun e w'=>e = .returned (.tuple #[.string ⟨(Lib.trimPrefix s.data.toList p.data.toList).toArray⟩,.bool (Lib.hasPrefix s.data.toList p.data.toList)]) ∧ w' = w:=Any.strings_CutPrefix Tryz.lays103 s p w
open Go.RowKit in
theorem Tryz.Builder_String_any_k (B b : Nat) (l : List UInt8) (w : World) (h : Lib.IsBuilderF 102 5 B b (Lib.byteCells l) w) (hBw : B ≤ w.heap.size) :
    Calls Tryz.prog 52 #[.pointer (some ⟨b,0,none⟩)] w fun e w'=>e = .returned (.string ⟨l.toArray⟩) ∧ (Lib.IsBuilderF 102 5 B b (Lib.byteCells l) w' ∧ Below B w w' ∧ Lib.OthersKept 5 (some b) w w'):=Any.Builder_String_any_k Tryz.lays169 Tryz.Builder_Extra_169 B b l w h hBw
def Tryz.lays283_ren : Go.Shelf.Ren:=⟨fun|283=>115|n=>n,fun|3=>3|9=>9|4=>4|n=>n,fun|n=>n⟩
theorem Tryz.lays283 : Go.Proofs.Lays.n283 Tryz.prog Tryz.lays283_ren:={
  mixed:=by kernel_rfl
  f283:=Tryz.func115.trans (congrArg some (by kernel_rfl))
  t3:=Tryz.underlying3
  a3:=Tryz.isAgg3
  z3:=Tryz.sizeOf3
  v3:=Tryz.zeroValue3
  t4:=Tryz.underlying4
  a4:=Tryz.isAgg4
  z4:=Tryz.sizeOf4
  v4:=Tryz.zeroValue4
  t9:=Tryz.underlying9
  a9:=Tryz.isAgg9
  z9:=Tryz.sizeOf9
  v9:=Tryz.zeroValue9 }
open Go.Lib in
theorem Tryz.internal_strconv_small (i : Nat) (h : i < 100) (w : World) :
    Calls Tryz.prog 115 #[.int .i64 i] w fun e w'=>e = .returned (.string ⟨(Lib.decDigits i).toArray⟩) ∧ w' = w:=Any.internal_strconv_small Tryz.lays283 i h w
def Tryz.laysM284_ren : Go.Shelf.Ren:=⟨fun|284=>116|129=>147|317=>146|318=>148|n=>n,fun|53=>58|3=>3|212=>183|0=>0|4=>4|46=>149|5=>5|9=>9|n=>n,fun|17=>2|n=>n⟩
theorem Tryz.laysM284 : Go.Proofs.LaysM.n284 Tryz.prog Tryz.laysM284_ren:={
  mixed:=by kernel_rfl
  f129:=Tryz.func147.trans (congrArg some (by kernel_rfl))
  f284:=Tryz.func116.trans (congrArg some (by kernel_rfl))
  f317:=Tryz.func146.trans (congrArg some (by kernel_rfl))
  f318:=Tryz.func148.trans (congrArg some (by kernel_rfl))
  t0:=Tryz.underlying0
  a0:=Tryz.isAgg0
  z0:=Tryz.sizeOf0
  v0:=Tryz.zeroValue0
  t3:=Tryz.underlying3
  a3:=Tryz.isAgg3
  z3:=Tryz.sizeOf3
  v3:=Tryz.zeroValue3
  t4:=Tryz.underlying4
  a4:=Tryz.isAgg4
  z4:=Tryz.sizeOf4
  v4:=Tryz.zeroValue4
  t5:=Tryz.underlying5
  a5:=Tryz.isAgg5
  z5:=Tryz.sizeOf5
  v5:=Tryz.zeroValue5
  t9:=Tryz.underlying9
  a9:=Tryz.isAgg9
  z9:=Tryz.sizeOf9
  v9:=Tryz.zeroValue9
  t46:=Tryz.underlying149
  a46:=Tryz.isAgg149
  z46:=Tryz.sizeOf149
  v46:=Tryz.zeroValue149
  t53:=Tryz.underlying58
  a53:=Tryz.isAgg58
  z53:=Tryz.sizeOf58
  v53:=Tryz.zeroValue58
  t212:=Tryz.underlying183
  a212:=Tryz.isAgg183
  z212:=Tryz.sizeOf183
  v212:=Tryz.zeroValue183
  g17:=by kernel_rfl
  i0:=by kernel_rfl
  i3:=by kernel_rfl
  i4:=by kernel_rfl
  i5:=by kernel_rfl
  i9:=by kernel_rfl
  i46:=by kernel_rfl
  i53:=by kernel_rfl
  i212:=by kernel_rfl
  m17:=by kernel_rfl }
open Go.Lib in
theorem Tryz.internal_strconv_numDigits (u : Nat) (h1 : 1 ≤ u) (h2 : u < 18446744073709551616) (w : World) (htab : Lib.TabIs Tryz.prog w "internal/strconv.uint64pow10" .u64 Lib.pow10Tab) :
    Calls Tryz.prog 116 #[.int .u64 u] w fun e w'=>e = .returned (.int .i64 (Lib.nDigits u)) ∧ w' = w:=Any.internal_strconv_numDigits Tryz.laysM284 u h1 h2 w htab
def Tryz.lays285_ren : Go.Shelf.Ren:=⟨fun|285=>117|n=>n,fun|37=>47|53=>58|3=>3|4=>4|51=>52|9=>9|5=>5|0=>0|n=>n,fun|n=>n⟩
theorem Tryz.lays285 : Go.Proofs.Lays.n285 Tryz.prog Tryz.lays285_ren:={
  mixed:=by kernel_rfl
  f285:=Tryz.func117.trans (congrArg some (by kernel_rfl))
  t0:=Tryz.underlying0
  a0:=Tryz.isAgg0
  z0:=Tryz.sizeOf0
  v0:=Tryz.zeroValue0
  t3:=Tryz.underlying3
  a3:=Tryz.isAgg3
  z3:=Tryz.sizeOf3
  v3:=Tryz.zeroValue3
  t4:=Tryz.underlying4
  a4:=Tryz.isAgg4
  z4:=Tryz.sizeOf4
  v4:=Tryz.zeroValue4
  t5:=Tryz.underlying5
  a5:=Tryz.isAgg5
  z5:=Tryz.sizeOf5
  v5:=Tryz.zeroValue5
  t9:=Tryz.underlying9
  a9:=Tryz.isAgg9
  z9:=Tryz.sizeOf9
  v9:=Tryz.zeroValue9
  t37:=Tryz.underlying47
  a37:=Tryz.isAgg47
  z37:=Tryz.sizeOf47
  v37:=Tryz.zeroValue47
  t51:=Tryz.underlying52
  a51:=Tryz.isAgg52
  z51:=Tryz.sizeOf52
  v51:=Tryz.zeroValue52
  t53:=Tryz.underlying58
  a53:=Tryz.isAgg58
  z53:=Tryz.sizeOf58
  v53:=Tryz.zeroValue58 }
open Go.RowKit Go.Sort Go.Lib in
theorem Tryz.internal_strconv_formatBase10 (blk off cap : Nat) (u : Nat) (d : Array UInt8) (w : World) (hH : Holds (fun (b : UInt8)=>Value.int .u8 (b.toNat : Int)) w blk off d) (hu : u < 10 ^ d.size) (hu64 : u < 18446744073709551616) (hsz : d.size < 4611686018427387904) :
    Calls Tryz.prog 117 #[.slice (some ⟨blk,off,none⟩) d.size cap,.int .u64 u] w fun e w' =>
      e = .returned (.tuple #[]) ∧ ∃ (n v' : Nat) (dk : Array UInt8),w' = (putRow (fun (b : UInt8)=>Value.int .u8 (b.toNat : Int)) w blk off dk).drewN n ∧ FmtInv d.size u 0 v' dk:=Any.internal_strconv_formatBase10 Tryz.lays285 blk off cap u d w hH hu hu64 hsz
def Tryz.laysM171_ren : Go.Shelf.Ren:=⟨fun|171=>70|243=>113|246=>145|283=>115|284=>116|285=>117|286=>118|129=>147|317=>146|318=>148|319=>149|320=>150|337=>167|338=>168|n=>n,fun|3=>3|9=>9|2=>2|4=>4|171=>157|0=>0|53=>58|37=>47|5=>5|173=>160|212=>183|51=>52|20=>20|213=>184|46=>149|232=>207|233=>208|n=>n,fun|17=>2|18=>8|19=>9|n=>n⟩
theorem Tryz.laysM171 : Go.Proofs.LaysM.n171 Tryz.prog Tryz.laysM171_ren:={
  mixed:=by kernel_rfl
  f129:=Tryz.func147.trans (congrArg some (by kernel_rfl))
  f171:=Tryz.func70.trans (congrArg some (by kernel_rfl))
  f243:=Tryz.func113.trans (congrArg some (by kernel_rfl))
  f246:=Tryz.func145.trans (congrArg some (by kernel_rfl))
  f283:=Tryz.func115.trans (congrArg some (by kernel_rfl))
  f284:=Tryz.func116.trans (congrArg some (by kernel_rfl))
  f285:=Tryz.func117.trans (congrArg some (by kernel_rfl))
  f286:=Tryz.func118.trans (congrArg some (by kernel_rfl))
  f317:=Tryz.func146.trans (congrArg some (by kernel_rfl))
  f318:=Tryz.func148.trans (congrArg some (by kernel_rfl))
  f319:=Tryz.func149.trans (congrArg some (by kernel_rfl))
  f320:=Tryz.func150.trans (congrArg some (by kernel_rfl))
  f337:=Tryz.func167.trans (congrArg some (by kernel_rfl))
  f338:=Tryz.func168.trans (congrArg some (by kernel_rfl))
  t0:=Tryz.underlying0
  a0:=Tryz.isAgg0
  z0:=Tryz.sizeOf0
  v0:=Tryz.zeroValue0
  t2:=Tryz.underlying2
  a2:=Tryz.isAgg2
  z2:=Tryz.sizeOf2
  v2:=Tryz.zeroValue2
  t3:=Tryz.underlying3
  a3:=Tryz.isAgg3
  z3:=Tryz.sizeOf3
  v3:=Tryz.zeroValue3
  t4:=Tryz.underlying4
  a4:=Tryz.isAgg4
  z4:=Tryz.sizeOf4
  v4:=Tryz.zeroValue4
  t5:=Tryz.underlying5
  a5:=Tryz.isAgg5
  z5:=Tryz.sizeOf5
  v5:=Tryz.zeroValue5
  t9:=Tryz.underlying9
  a9:=Tryz.isAgg9
  z9:=Tryz.sizeOf9
  v9:=Tryz.zeroValue9
  t20:=Tryz.underlying20
  a20:=Tryz.isAgg20
  z20:=Tryz.sizeOf20
  v20:=Tryz.zeroValue20
  t37:=Tryz.underlying47
  a37:=Tryz.isAgg47
  z37:=Tryz.sizeOf47
  v37:=Tryz.zeroValue47
  t46:=Tryz.underlying149
  a46:=Tryz.isAgg149
  z46:=Tryz.sizeOf149
  v46:=Tryz.zeroValue149
  t51:=Tryz.underlying52
  a51:=Tryz.isAgg52
  z51:=Tryz.sizeOf52
  v51:=Tryz.zeroValue52
  t53:=Tryz.underlying58
  a53:=Tryz.isAgg58
  z53:=Tryz.sizeOf58
  v53:=Tryz.zeroValue58
  t171:=Tryz.underlying157
  a171:=Tryz.isAgg157
  z171:=Tryz.sizeOf157
  v171:=Tryz.zeroValue157
  t173:=Tryz.underlying160
  a173:=Tryz.isAgg160
  z173:=Tryz.sizeOf160
  v173:=Tryz.zeroValue160
  t212:=Tryz.underlying183
  a212:=Tryz.isAgg183
  z212:=Tryz.sizeOf183
  v212:=Tryz.zeroValue183
  t213:=Tryz.underlying184
  a213:=Tryz.isAgg184
  z213:=Tryz.sizeOf184
  t232:=Tryz.underlying207
  a232:=Tryz.isAgg207
  z232:=Tryz.sizeOf207
  v232:=Tryz.zeroValue207
  t233:=Tryz.underlying208
  a233:=Tryz.isAgg208
  z233:=Tryz.sizeOf208
  v233:=Tryz.zeroValue208
  g17:=by kernel_rfl
  g18:=by kernel_rfl
  g19:=by kernel_rfl
  i0:=by kernel_rfl
  i2:=by kernel_rfl
  i3:=by kernel_rfl
  i4:=by kernel_rfl
  i5:=by kernel_rfl
  i9:=by kernel_rfl
  i20:=by kernel_rfl
  i37:=by kernel_rfl
  i46:=by kernel_rfl
  i51:=by kernel_rfl
  i53:=by kernel_rfl
  i171:=by kernel_rfl
  i173:=by kernel_rfl
  i212:=by kernel_rfl
  i232:=by kernel_rfl
  i233:=by kernel_rfl
  m17:=by kernel_rfl
  m18:=by kernel_rfl
  m19:=by kernel_rfl }
open Go.RowKit Go.Sort Go.Lib in
theorem Tryz.strconv_Itoa (n : Int) (h0 : -9223372036854775808 ≤ n) (h1 : n ≤ 9223372036854775807) (w : World) (htab : Lib.TabIs Tryz.prog w "internal/strconv.uint64pow10" .u64 Lib.pow10Tab) :
    Calls Tryz.prog 70 #[.int .i64 n] w fun e w'=>e = .returned (.string ⟨(Lib.itoa n).toArray⟩) ∧ ∃ k os,w' = grow (w.drewN k) os:=Any.strconv_Itoa Tryz.laysM171 n h0 h1 w htab
def Tryz.laysC172_ren : Go.Shelf.Ren:=⟨fun|172=>69|244=>112|245=>104|247=>144|279=>137|280=>138|281=>139|282=>140|287=>103|316=>164|171=>70|205=>165|321=>135|322=>136|243=>113|246=>145|283=>115|284=>116|285=>117|286=>118|129=>147|317=>146|318=>148|319=>149|320=>150|337=>167|338=>168|n=>n,fun|9=>9|3=>3|75=>117|76=>122|4=>4|5=>5|167=>171|37=>47|0=>0|85=>178|2=>2|168=>173|53=>58|175=>118|46=>149|210=>194|127=>138|145=>206|143=>204|21=>21|171=>157|173=>160|212=>183|51=>52|20=>20|213=>184|232=>207|233=>208|80=>106|n=>n,fun|15=>4|16=>5|17=>2|18=>8|19=>9|n=>n⟩
theorem Tryz.laysC172 : Go.Proofs.LaysC.n172 Tryz.prog Tryz.laysC172_ren:={
  mixed:=by kernel_rfl
  f129:=Tryz.func147.trans (congrArg some (by kernel_rfl))
  f171:=Tryz.func70.trans (congrArg some (by kernel_rfl))
  f172:=Tryz.func69.trans (congrArg some (by kernel_rfl))
  f205:=Tryz.func165.trans (congrArg some (by kernel_rfl))
  f243:=Tryz.func113.trans (congrArg some (by kernel_rfl))
  f244:=Tryz.func112.trans (congrArg some (by kernel_rfl))
  f245:=Tryz.func104.trans (congrArg some (by kernel_rfl))
  f246:=Tryz.func145.trans (congrArg some (by kernel_rfl))
  f247:=Tryz.func144.trans (congrArg some (by kernel_rfl))
  f279:=Tryz.func137.trans (congrArg some (by kernel_rfl))
  f280:=Tryz.func138.trans (congrArg some (by kernel_rfl))
  f281:=Tryz.func139.trans (congrArg some (by kernel_rfl))
  f282:=Tryz.func140.trans (congrArg some (by kernel_rfl))
  f283:=Tryz.func115.trans (congrArg some (by kernel_rfl))
  f284:=Tryz.func116.trans (congrArg some (by kernel_rfl))
  f285:=Tryz.func117.trans (congrArg some (by kernel_rfl))
  f286:=Tryz.func118.trans (congrArg some (by kernel_rfl))
  f287:=Tryz.func103.trans (congrArg some (by kernel_rfl))
  f316:=Tryz.func164.trans (congrArg some (by kernel_rfl))
  f317:=Tryz.func146.trans (congrArg some (by kernel_rfl))
  f318:=Tryz.func148.trans (congrArg some (by kernel_rfl))
  f319:=Tryz.func149.trans (congrArg some (by kernel_rfl))
  f320:=Tryz.func150.trans (congrArg some (by kernel_rfl))
  f321:=Tryz.func135.trans (congrArg some (by kernel_rfl))
  f322:=Tryz.func136.trans (congrArg some (by kernel_rfl))
  f337:=Tryz.func167.trans (congrArg some (by kernel_rfl))
  f338:=Tryz.func168.trans (congrArg some (by kernel_rfl))
  t0:=Tryz.underlying0
  a0:=Tryz.isAgg0
  z0:=Tryz.sizeOf0
  v0:=Tryz.zeroValue0
  t2:=Tryz.underlying2
  a2:=Tryz.isAgg2
  z2:=Tryz.sizeOf2
  v2:=Tryz.zeroValue2
  t3:=Tryz.underlying3
  a3:=Tryz.isAgg3
  z3:=Tryz.sizeOf3
  v3:=Tryz.zeroValue3
  t4:=Tryz.underlying4
  a4:=Tryz.isAgg4
  z4:=Tryz.sizeOf4
  v4:=Tryz.zeroValue4
  t5:=Tryz.underlying5
  a5:=Tryz.isAgg5
  z5:=Tryz.sizeOf5
  v5:=Tryz.zeroValue5
  t9:=Tryz.underlying9
  a9:=Tryz.isAgg9
  z9:=Tryz.sizeOf9
  v9:=Tryz.zeroValue9
  t20:=Tryz.underlying20
  a20:=Tryz.isAgg20
  z20:=Tryz.sizeOf20
  v20:=Tryz.zeroValue20
  t21:=Tryz.underlying21
  a21:=Tryz.isAgg21
  z21:=Tryz.sizeOf21
  v21:=Tryz.zeroValue21
  t37:=Tryz.underlying47
  a37:=Tryz.isAgg47
  z37:=Tryz.sizeOf47
  v37:=Tryz.zeroValue47
  t46:=Tryz.underlying149
  a46:=Tryz.isAgg149
  z46:=Tryz.sizeOf149
  v46:=Tryz.zeroValue149
  t51:=Tryz.underlying52
  a51:=Tryz.isAgg52
  z51:=Tryz.sizeOf52
  v51:=Tryz.zeroValue52
  t53:=Tryz.underlying58
  a53:=Tryz.isAgg58
  z53:=Tryz.sizeOf58
  v53:=Tryz.zeroValue58
  t75:=Tryz.underlying117
  a75:=Tryz.isAgg117
  z75:=Tryz.sizeOf117
  v75:=Tryz.zeroValue117
  t76:=Tryz.underlying122
  a76:=Tryz.isAgg122
  z76:=Tryz.sizeOf122
  v76:=Tryz.zeroValue122
  t85:=Tryz.underlying178
  a85:=Tryz.isAgg178
  z85:=Tryz.sizeOf178
  v85:=Tryz.zeroValue178
  t127:=Tryz.underlying138
  a127:=Tryz.isAgg138
  z127:=Tryz.sizeOf138
  v127:=Tryz.zeroValue138
  t143:=Tryz.underlying204
  a143:=Tryz.isAgg204
  z143:=Tryz.sizeOf204
  v143:=Tryz.zeroValue204
  t145:=Tryz.underlying206
  a145:=Tryz.isAgg206
  z145:=Tryz.sizeOf206
  v145:=Tryz.zeroValue206
  t167:=Tryz.underlying171
  a167:=Tryz.isAgg171
  z167:=Tryz.sizeOf171
  v167:=Tryz.zeroValue171
  t168:=Tryz.underlying173
  a168:=Tryz.isAgg173
  z168:=Tryz.sizeOf173
  v168:=Tryz.zeroValue173
  t171:=Tryz.underlying157
  a171:=Tryz.isAgg157
  z171:=Tryz.sizeOf157
  v171:=Tryz.zeroValue157
  t173:=Tryz.underlying160
  a173:=Tryz.isAgg160
  z173:=Tryz.sizeOf160
  v173:=Tryz.zeroValue160
  t175:=Tryz.underlying118
  a175:=Tryz.isAgg118
  z175:=Tryz.sizeOf118
  v175:=Tryz.zeroValue118
  t210:=Tryz.underlying194
  a210:=Tryz.isAgg194
  z210:=Tryz.sizeOf194
  v210:=Tryz.zeroValue194
  t212:=Tryz.underlying183
  a212:=Tryz.isAgg183
  z212:=Tryz.sizeOf183
  v212:=Tryz.zeroValue183
  t213:=Tryz.underlying184
  a213:=Tryz.isAgg184
  z213:=Tryz.sizeOf184
  t232:=Tryz.underlying207
  a232:=Tryz.isAgg207
  z232:=Tryz.sizeOf207
  v232:=Tryz.zeroValue207
  t233:=Tryz.underlying208
  a233:=Tryz.isAgg208
  z233:=Tryz.sizeOf208
  v233:=Tryz.zeroValue208
  g15:=by kernel_rfl
  g16:=by kernel_rfl
  g17:=by kernel_rfl
  g18:=by kernel_rfl
  g19:=by kernel_rfl
  t80:=Tryz.underlying106
  a80:=Tryz.isAgg106
  z80:=Tryz.sizeOf106
  v80:=Tryz.zeroValue106
  i0:=by kernel_rfl
  i2:=by kernel_rfl
  i3:=by kernel_rfl
  i4:=by kernel_rfl
  i5:=by kernel_rfl
  i9:=by kernel_rfl
  i20:=by kernel_rfl
  i21:=by kernel_rfl
  i37:=by kernel_rfl
  i46:=by kernel_rfl
  i51:=by kernel_rfl
  i53:=by kernel_rfl
  i75:=by kernel_rfl
  i76:=by kernel_rfl
  i80:=by kernel_rfl
  i85:=by kernel_rfl
  i127:=by kernel_rfl
  i143:=by kernel_rfl
  i145:=by kernel_rfl
  i167:=by kernel_rfl
  i168:=by kernel_rfl
  i171:=by kernel_rfl
  i173:=by kernel_rfl
  i175:=by kernel_rfl
  i210:=by kernel_rfl
  i212:=by kernel_rfl
  i232:=by kernel_rfl
  i233:=by kernel_rfl
  m15:=by kernel_rfl
  m16:=by kernel_rfl
  m17:=by kernel_rfl
  m18:=by kernel_rfl
  m19:=by kernel_rfl
  c0:=by kernel_rfl
  c2:=by kernel_rfl
  c3:=by kernel_rfl
  c4:=by kernel_rfl
  c5:=by kernel_rfl
  c9:=by kernel_rfl
  c20:=by kernel_rfl
  c21:=by kernel_rfl
  c37:=by kernel_rfl
  c46:=by kernel_rfl
  c51:=by kernel_rfl
  c53:=by kernel_rfl
  c75:=by kernel_rfl
  c76:=by kernel_rfl
  c80:=by kernel_rfl
  c85:=by kernel_rfl
  c127:=by kernel_rfl
  c143:=by kernel_rfl
  c145:=by kernel_rfl
  c167:=by kernel_rfl
  c168:=by kernel_rfl
  c171:=by kernel_rfl
  c173:=by kernel_rfl
  c175:=by kernel_rfl
  c210:=by kernel_rfl
  c212:=by kernel_rfl
  c213:=by kernel_rfl
  c232:=by kernel_rfl
  c233:=by kernel_rfl }
open Go.RowKit in
theorem Tryz.strconv_Atoi_ok (s : ByteArray) (hmax : s.size ≤ 9223372036854775806) (v : Int) (h : Lib.atoiAll s.data.toList = .ok v) (w : World) :
    Calls Tryz.prog 69 #[.string s] w fun e w'=>e = .returned (.tuple #[.int .i64 v,.nilIface]) ∧ (w' = w ∨ ∃ t,w' = Lib.bytesWorld w 5 t):=Any.strconv_Atoi_ok Tryz.laysC172 s hmax v h w
open Go.RowKit in
theorem Tryz.strconv_Atoi_syntax (s : ByteArray) (hlim : s.size ≤ 281474976710656) (h : Lib.atoiAll s.data.toList = .«syntax») (ev : Value) (w : World) (hv : w.cell? ⟨4,0,none⟩ = some ev) (hev : ev = .nilIface ∨ ∃ te pe,ev = .iface te pe) :
    Calls Tryz.prog 69 #[.string s] w fun e w'=>∃ N,e = .returned (.tuple #[.int .i64 (0),.iface 173 (.pointer (some ⟨N,0,none⟩))]) ∧ w.heap.size ≤ N ∧ w'.heap[N]? = some (.cells #[.string ⟨#[65,116,111,105]⟩,.string s,ev] 194 (0,0)) ∧ Below w.heap.size w w':=Any.strconv_Atoi_syntax Tryz.laysC172 s hlim h ev w hv hev
open Go.RowKit in
theorem Tryz.strconv_Atoi_range (s : ByteArray) (hlim : s.size ≤ 281474976710656) (h : Lib.atoiAll s.data.toList = .range) (ev : Value) (w : World) (hv : w.cell? ⟨5,0,none⟩ = some ev) (hev : ev = .nilIface ∨ ∃ te pe,ev = .iface te pe) :
    Calls Tryz.prog 69 #[.string s] w fun e w'=>∃ N,e = .returned (.tuple #[.int .i64 (Lib.atoiSat s.data.toList),.iface 173 (.pointer (some ⟨N,0,none⟩))]) ∧ w.heap.size ≤ N ∧ w'.heap[N]? = some (.cells #[.string ⟨#[65,116,111,105]⟩,.string s,ev] 194 (0,0)) ∧ Below w.heap.size w w':=Any.strconv_Atoi_range Tryz.laysC172 s hlim h ev w hv hev
def Tryz.laysPu14_ren : Go.Shelf.Ren:=⟨fun|14=>66|16=>103|17=>104|19=>135|20=>136|21=>137|22=>138|23=>139|24=>140|25=>164|27=>70|26=>165|28=>113|29=>145|30=>115|31=>116|32=>117|33=>118|35=>147|34=>146|36=>148|37=>149|38=>150|39=>167|40=>168|n=>n,fun|9=>9|3=>3|22=>58|24=>117|25=>118|4=>4|34=>171|5=>5|36=>149|37=>47|0=>0|39=>173|21=>21|44=>194|47=>138|50=>206|48=>204|2=>2|52=>157|55=>160|59=>183|60=>52|20=>20|61=>184|65=>207|66=>208|67=>106|n=>n,fun|0=>4|1=>5|2=>2|3=>8|4=>9|n=>n⟩
theorem Tryz.laysPu14 : Go.Proofs.LaysPu.n14 Tryz.prog Tryz.laysPu14_ren:={
  mixed:=by kernel_rfl
  f14:=Tryz.func66.trans (congrArg some (by kernel_rfl))
  f16:=Tryz.func103.trans (congrArg some (by kernel_rfl))
  f17:=Tryz.func104.trans (congrArg some (by kernel_rfl))
  f19:=Tryz.func135.trans (congrArg some (by kernel_rfl))
  f20:=Tryz.func136.trans (congrArg some (by kernel_rfl))
  f21:=Tryz.func137.trans (congrArg some (by kernel_rfl))
  f22:=Tryz.func138.trans (congrArg some (by kernel_rfl))
  f23:=Tryz.func139.trans (congrArg some (by kernel_rfl))
  f24:=Tryz.func140.trans (congrArg some (by kernel_rfl))
  f25:=Tryz.func164.trans (congrArg some (by kernel_rfl))
  f26:=Tryz.func165.trans (congrArg some (by kernel_rfl))
  f27:=Tryz.func70.trans (congrArg some (by kernel_rfl))
  f28:=Tryz.func113.trans (congrArg some (by kernel_rfl))
  f29:=Tryz.func145.trans (congrArg some (by kernel_rfl))
  f30:=Tryz.func115.trans (congrArg some (by kernel_rfl))
  f31:=Tryz.func116.trans (congrArg some (by kernel_rfl))
  f32:=Tryz.func117.trans (congrArg some (by kernel_rfl))
  f33:=Tryz.func118.trans (congrArg some (by kernel_rfl))
  f34:=Tryz.func146.trans (congrArg some (by kernel_rfl))
  f35:=Tryz.func147.trans (congrArg some (by kernel_rfl))
  f36:=Tryz.func148.trans (congrArg some (by kernel_rfl))
  f37:=Tryz.func149.trans (congrArg some (by kernel_rfl))
  f38:=Tryz.func150.trans (congrArg some (by kernel_rfl))
  f39:=Tryz.func167.trans (congrArg some (by kernel_rfl))
  f40:=Tryz.func168.trans (congrArg some (by kernel_rfl))
  t0:=Tryz.underlying0
  a0:=Tryz.isAgg0
  z0:=Tryz.sizeOf0
  v0:=Tryz.zeroValue0
  i0:=by kernel_rfl
  t2:=Tryz.underlying2
  a2:=Tryz.isAgg2
  z2:=Tryz.sizeOf2
  v2:=Tryz.zeroValue2
  i2:=by kernel_rfl
  t3:=Tryz.underlying3
  a3:=Tryz.isAgg3
  z3:=Tryz.sizeOf3
  v3:=Tryz.zeroValue3
  i3:=by kernel_rfl
  t4:=Tryz.underlying4
  a4:=Tryz.isAgg4
  z4:=Tryz.sizeOf4
  v4:=Tryz.zeroValue4
  i4:=by kernel_rfl
  t5:=Tryz.underlying5
  a5:=Tryz.isAgg5
  z5:=Tryz.sizeOf5
  v5:=Tryz.zeroValue5
  i5:=by kernel_rfl
  t9:=Tryz.underlying9
  a9:=Tryz.isAgg9
  z9:=Tryz.sizeOf9
  v9:=Tryz.zeroValue9
  i9:=by kernel_rfl
  t20:=Tryz.underlying20
  a20:=Tryz.isAgg20
  z20:=Tryz.sizeOf20
  v20:=Tryz.zeroValue20
  i20:=by kernel_rfl
  t21:=Tryz.underlying21
  a21:=Tryz.isAgg21
  z21:=Tryz.sizeOf21
  v21:=Tryz.zeroValue21
  i21:=by kernel_rfl
  t22:=Tryz.underlying58
  a22:=Tryz.isAgg58
  z22:=Tryz.sizeOf58
  v22:=Tryz.zeroValue58
  i22:=by kernel_rfl
  t24:=Tryz.underlying117
  a24:=Tryz.isAgg117
  z24:=Tryz.sizeOf117
  v24:=Tryz.zeroValue117
  i24:=by kernel_rfl
  t25:=Tryz.underlying118
  a25:=Tryz.isAgg118
  z25:=Tryz.sizeOf118
  v25:=Tryz.zeroValue118
  i25:=by kernel_rfl
  t34:=Tryz.underlying171
  a34:=Tryz.isAgg171
  z34:=Tryz.sizeOf171
  v34:=Tryz.zeroValue171
  i34:=by kernel_rfl
  c34:=by kernel_rfl
  t36:=Tryz.underlying149
  a36:=Tryz.isAgg149
  z36:=Tryz.sizeOf149
  v36:=Tryz.zeroValue149
  i36:=by kernel_rfl
  t37:=Tryz.underlying47
  a37:=Tryz.isAgg47
  z37:=Tryz.sizeOf47
  v37:=Tryz.zeroValue47
  i37:=by kernel_rfl
  t39:=Tryz.underlying173
  a39:=Tryz.isAgg173
  z39:=Tryz.sizeOf173
  v39:=Tryz.zeroValue173
  i39:=by kernel_rfl
  t44:=Tryz.underlying194
  a44:=Tryz.isAgg194
  z44:=Tryz.sizeOf194
  v44:=Tryz.zeroValue194
  i44:=by kernel_rfl
  t47:=Tryz.underlying138
  a47:=Tryz.isAgg138
  z47:=Tryz.sizeOf138
  v47:=Tryz.zeroValue138
  i47:=by kernel_rfl
  t48:=Tryz.underlying204
  a48:=Tryz.isAgg204
  z48:=Tryz.sizeOf204
  v48:=Tryz.zeroValue204
  i48:=by kernel_rfl
  t50:=Tryz.underlying206
  a50:=Tryz.isAgg206
  z50:=Tryz.sizeOf206
  v50:=Tryz.zeroValue206
  i50:=by kernel_rfl
  t52:=Tryz.underlying157
  a52:=Tryz.isAgg157
  z52:=Tryz.sizeOf157
  v52:=Tryz.zeroValue157
  i52:=by kernel_rfl
  t55:=Tryz.underlying160
  a55:=Tryz.isAgg160
  z55:=Tryz.sizeOf160
  v55:=Tryz.zeroValue160
  i55:=by kernel_rfl
  t59:=Tryz.underlying183
  a59:=Tryz.isAgg183
  z59:=Tryz.sizeOf183
  v59:=Tryz.zeroValue183
  i59:=by kernel_rfl
  t60:=Tryz.underlying52
  a60:=Tryz.isAgg52
  z60:=Tryz.sizeOf52
  v60:=Tryz.zeroValue52
  i60:=by kernel_rfl
  t61:=Tryz.underlying184
  a61:=Tryz.isAgg184
  z61:=Tryz.sizeOf184
  t65:=Tryz.underlying207
  a65:=Tryz.isAgg207
  z65:=Tryz.sizeOf207
  v65:=Tryz.zeroValue207
  i65:=by kernel_rfl
  t66:=Tryz.underlying208
  a66:=Tryz.isAgg208
  z66:=Tryz.sizeOf208
  v66:=Tryz.zeroValue208
  i66:=by kernel_rfl
  t67:=Tryz.underlying106
  a67:=Tryz.isAgg106
  z67:=Tryz.sizeOf106
  v67:=Tryz.zeroValue106
  i67:=by kernel_rfl
  g0:=by kernel_rfl
  m0:=by kernel_rfl
  g1:=by kernel_rfl
  m1:=by kernel_rfl
  g2:=by kernel_rfl
  m2:=by kernel_rfl
  g3:=by kernel_rfl
  m3:=by kernel_rfl
  g4:=by kernel_rfl
  m4:=by kernel_rfl }
open Go.RowKit in
theorem Tryz.strconv_ParseUint_10_at64_ok (s : ByteArray) (hmax : s.size ≤ 9223372036854775806) (u : Nat) (h : Lib.parseUintB 64 s.data.toList = .ok u) (w : World) :
    Calls Tryz.prog 66 #[.string s,.int .i64 10,.int .i64 64] w fun e w'=>e = .returned (.tuple #[.int .u64 u,.nilIface]) ∧ (w' = w ∨ w' = Lib.bytesWorld w 5 s):=Any.strconv_ParseUint_10_at64_ok Tryz.laysPu14 s hmax u h w
def Tryz.lays145_ren : Go.Shelf.Ren:=⟨fun|145=>57|220=>91|219=>126|217=>153|225=>155|224=>156|267=>157|266=>170|314=>171|n=>n,fun|9=>9|4=>4|59=>110|3=>3|5=>5|46=>149|146=>176|51=>52|n=>n,fun|1=>3|n=>n⟩
theorem Tryz.lays145 : Go.Proofs.Lays.n145 Tryz.prog Tryz.lays145_ren:={
  mixed:=by kernel_rfl
  f145:=Tryz.func57.trans (congrArg some (by kernel_rfl))
  f217:=Tryz.func153.trans (congrArg some (by kernel_rfl))
  f219:=Tryz.func126.trans (congrArg some (by kernel_rfl))
  f220:=Tryz.func91.trans (congrArg some (by kernel_rfl))
  f224:=Tryz.func156.trans (congrArg some (by kernel_rfl))
  f225:=Tryz.func155.trans (congrArg some (by kernel_rfl))
  f266:=Tryz.func170.trans (congrArg some (by kernel_rfl))
  f267:=Tryz.func157.trans (congrArg some (by kernel_rfl))
  f314:=Tryz.func171.trans (congrArg some (by kernel_rfl))
  t3:=Tryz.underlying3
  a3:=Tryz.isAgg3
  z3:=Tryz.sizeOf3
  v3:=Tryz.zeroValue3
  t4:=Tryz.underlying4
  a4:=Tryz.isAgg4
  z4:=Tryz.sizeOf4
  v4:=Tryz.zeroValue4
  t5:=Tryz.underlying5
  a5:=Tryz.isAgg5
  z5:=Tryz.sizeOf5
  v5:=Tryz.zeroValue5
  t9:=Tryz.underlying9
  a9:=Tryz.isAgg9
  z9:=Tryz.sizeOf9
  v9:=Tryz.zeroValue9
  t46:=Tryz.underlying149
  a46:=Tryz.isAgg149
  z46:=Tryz.sizeOf149
  v46:=Tryz.zeroValue149
  t51:=Tryz.underlying52
  a51:=Tryz.isAgg52
  z51:=Tryz.sizeOf52
  v51:=Tryz.zeroValue52
  t59:=Tryz.underlying110
  a59:=Tryz.isAgg110
  z59:=Tryz.sizeOf110
  v59:=Tryz.zeroValue110
  t146:=Tryz.underlying176
  a146:=Tryz.isAgg176
  z146:=Tryz.sizeOf176
  v146:=Tryz.zeroValue176
  g1:=by kernel_rfl }
open Go.RowKit Go.Lib in
theorem Tryz.strings_Cut (s sep : ByteArray) (m : Int) (w : World) (hs : s.size < 4294967281) (hm : w.cell? ⟨3,0,none⟩ = some (.int .i64 m)) :
    Calls Tryz.prog 57 #[.string s,.string sep] w fun e w'=>e = .returned (.tuple #[.string ⟨(Lib.cut s.data.toList sep.data.toList).1.toArray⟩,.string ⟨(Lib.cut s.data.toList sep.data.toList).2.1.toArray⟩,.bool (Lib.cut s.data.toList sep.data.toList).2.2]) ∧ ∃ n,w' = w.drewN n:=Any.strings_Cut Tryz.lays145 s sep m w hs hm
def Tryz.laysM145_ren : Go.Shelf.Ren:=⟨fun|145=>57|220=>91|219=>126|217=>153|225=>155|224=>156|267=>157|266=>170|314=>171|n=>n,fun|9=>9|4=>4|59=>110|3=>3|5=>5|46=>149|146=>176|51=>52|n=>n,fun|1=>3|n=>n⟩
theorem Tryz.laysM145 : Go.Proofs.LaysM.n145 Tryz.prog Tryz.laysM145_ren:={
  mixed:=by kernel_rfl
  f145:=Tryz.func57.trans (congrArg some (by kernel_rfl))
  f217:=Tryz.func153.trans (congrArg some (by kernel_rfl))
  f219:=Tryz.func126.trans (congrArg some (by kernel_rfl))
  f220:=Tryz.func91.trans (congrArg some (by kernel_rfl))
  f224:=Tryz.func156.trans (congrArg some (by kernel_rfl))
  f225:=Tryz.func155.trans (congrArg some (by kernel_rfl))
  f266:=Tryz.func170.trans (congrArg some (by kernel_rfl))
  f267:=Tryz.func157.trans (congrArg some (by kernel_rfl))
  f314:=Tryz.func171.trans (congrArg some (by kernel_rfl))
  t3:=Tryz.underlying3
  a3:=Tryz.isAgg3
  z3:=Tryz.sizeOf3
  v3:=Tryz.zeroValue3
  t4:=Tryz.underlying4
  a4:=Tryz.isAgg4
  z4:=Tryz.sizeOf4
  v4:=Tryz.zeroValue4
  t5:=Tryz.underlying5
  a5:=Tryz.isAgg5
  z5:=Tryz.sizeOf5
  v5:=Tryz.zeroValue5
  t9:=Tryz.underlying9
  a9:=Tryz.isAgg9
  z9:=Tryz.sizeOf9
  v9:=Tryz.zeroValue9
  t46:=Tryz.underlying149
  a46:=Tryz.isAgg149
  z46:=Tryz.sizeOf149
  v46:=Tryz.zeroValue149
  t51:=Tryz.underlying52
  a51:=Tryz.isAgg52
  z51:=Tryz.sizeOf52
  v51:=Tryz.zeroValue52
  t59:=Tryz.underlying110
  a59:=Tryz.isAgg110
  z59:=Tryz.sizeOf110
  v59:=Tryz.zeroValue110
  t146:=Tryz.underlying176
  a146:=Tryz.isAgg176
  z146:=Tryz.sizeOf176
  v146:=Tryz.zeroValue176
  g1:=by kernel_rfl
  i3:=by kernel_rfl
  i4:=by kernel_rfl
  i5:=by kernel_rfl
  i9:=by kernel_rfl
  i46:=by kernel_rfl
  i51:=by kernel_rfl
  i59:=by kernel_rfl
  i146:=by kernel_rfl
  m1:=by kernel_rfl
  s1_3:=fun w h=>Go.Proofs.cell_of_shapedOpen_int (zero:=#[.int .i64 0]) (t:=3) h (of_decide_eq_true (by kernel_rfl)) (by kernel_rfl) rfl (by kernel_rfl) (by kernel_rfl) Tryz.underlying3 }
def Tryz.lays101_ren : Go.Shelf.Ren:=⟨fun|101=>59|208=>93|206=>128|n=>n,fun|9=>9|4=>4|3=>3|n=>n,fun|n=>n⟩
theorem Tryz.lays101 : Go.Proofs.Lays.n101 Tryz.prog Tryz.lays101_ren:={
  mixed:=by kernel_rfl
  f101:=Tryz.func59.trans (congrArg some (by kernel_rfl))
  f206:=Tryz.func128.trans (congrArg some (by kernel_rfl))
  f208:=Tryz.func93.trans (congrArg some (by kernel_rfl))
  t3:=Tryz.underlying3
  a3:=Tryz.isAgg3
  z3:=Tryz.sizeOf3
  v3:=Tryz.zeroValue3
  t4:=Tryz.underlying4
  a4:=Tryz.isAgg4
  z4:=Tryz.sizeOf4
  v4:=Tryz.zeroValue4
  t9:=Tryz.underlying9
  a9:=Tryz.isAgg9
  z9:=Tryz.sizeOf9
  v9:=Tryz.zeroValue9 }
open Go.RowKit Go.Lib in
theorem Tryz.strings_TrimPrefix (s p : ByteArray) (w : World) :
    Calls Tryz.prog 59 #[.string s,.string p] w fun e w'=>e = .returned (.string ⟨(Lib.trimPrefix s.data.toList p.data.toList).toArray⟩) ∧ w' = w:=Any.strings_TrimPrefix Tryz.lays101 s p w
def Tryz.lays146_ren : Go.Shelf.Ren:=⟨fun|146=>25|221=>55|268=>87|138=>88|143=>89|195=>123|197=>124|218=>125|219=>126|260=>154|217=>153|225=>155|224=>156|267=>157|266=>170|314=>171|n=>n,fun|9=>9|31=>45|3=>3|4=>4|0=>0|105=>163|21=>21|5=>5|46=>149|119=>199|139=>202|138=>201|146=>176|51=>52|n=>n,fun|1=>3|3=>6|4=>7|n=>n⟩
theorem Tryz.lays146 : Go.Proofs.Lays.n146 Tryz.prog Tryz.lays146_ren:={
  mixed:=by kernel_rfl
  f138:=Tryz.func88.trans (congrArg some (by kernel_rfl))
  f143:=Tryz.func89.trans (congrArg some (by kernel_rfl))
  f146:=Tryz.func25.trans (congrArg some (by kernel_rfl))
  f195:=Tryz.func123.trans (congrArg some (by kernel_rfl))
  f197:=Tryz.func124.trans (congrArg some (by kernel_rfl))
  f217:=Tryz.func153.trans (congrArg some (by kernel_rfl))
  f218:=Tryz.func125.trans (congrArg some (by kernel_rfl))
  f219:=Tryz.func126.trans (congrArg some (by kernel_rfl))
  f221:=Tryz.func55.trans (congrArg some (by kernel_rfl))
  f224:=Tryz.func156.trans (congrArg some (by kernel_rfl))
  f225:=Tryz.func155.trans (congrArg some (by kernel_rfl))
  f260:=Tryz.func154.trans (congrArg some (by kernel_rfl))
  f266:=Tryz.func170.trans (congrArg some (by kernel_rfl))
  f267:=Tryz.func157.trans (congrArg some (by kernel_rfl))
  f268:=Tryz.func87.trans (congrArg some (by kernel_rfl))
  f314:=Tryz.func171.trans (congrArg some (by kernel_rfl))
  t0:=Tryz.underlying0
  a0:=Tryz.isAgg0
  z0:=Tryz.sizeOf0
  v0:=Tryz.zeroValue0
  t3:=Tryz.underlying3
  a3:=Tryz.isAgg3
  z3:=Tryz.sizeOf3
  v3:=Tryz.zeroValue3
  t4:=Tryz.underlying4
  a4:=Tryz.isAgg4
  z4:=Tryz.sizeOf4
  v4:=Tryz.zeroValue4
  t5:=Tryz.underlying5
  a5:=Tryz.isAgg5
  z5:=Tryz.sizeOf5
  v5:=Tryz.zeroValue5
  t9:=Tryz.underlying9
  a9:=Tryz.isAgg9
  z9:=Tryz.sizeOf9
  v9:=Tryz.zeroValue9
  t21:=Tryz.underlying21
  a21:=Tryz.isAgg21
  z21:=Tryz.sizeOf21
  v21:=Tryz.zeroValue21
  t31:=Tryz.underlying45
  a31:=Tryz.isAgg45
  z31:=Tryz.sizeOf45
  v31:=Tryz.zeroValue45
  t46:=Tryz.underlying149
  a46:=Tryz.isAgg149
  z46:=Tryz.sizeOf149
  v46:=Tryz.zeroValue149
  t51:=Tryz.underlying52
  a51:=Tryz.isAgg52
  z51:=Tryz.sizeOf52
  v51:=Tryz.zeroValue52
  t105:=Tryz.underlying163
  a105:=Tryz.isAgg163
  z105:=Tryz.sizeOf163
  v105:=Tryz.zeroValue163
  t119:=Tryz.underlying199
  a119:=Tryz.isAgg199
  z119:=Tryz.sizeOf199
  t138:=Tryz.underlying201
  a138:=Tryz.isAgg201
  z138:=Tryz.sizeOf201
  v138:=Tryz.zeroValue201
  t139:=Tryz.underlying202
  a139:=Tryz.isAgg202
  z139:=Tryz.sizeOf202
  v139:=Tryz.zeroValue202
  t146:=Tryz.underlying176
  a146:=Tryz.isAgg176
  z146:=Tryz.sizeOf176
  v146:=Tryz.zeroValue176
  g1:=by kernel_rfl
  g3:=by kernel_rfl
  g4:=by kernel_rfl }
open Go.RowKit Go.Lib in
theorem Tryz.strings_Split (s sep : ByteArray) (m : Int) (w : World) (hs : s.size < 4294967281) (hm : w.cell? ⟨3,0,none⟩ = some (.int .i64 m)) (h1 : 1 ≤ sep.size) :
    Calls Tryz.prog 25 #[.string s,.string sep] w fun e w' =>
      e = .returned (.slice (some ⟨w.heap.size,0,none⟩) (Lib.countB s sep + 1) (Lib.countB s sep + 1)) ∧ w' = w.alloc (.cells ((Lib.splitB sep 0 (Lib.countB s sep) s).map Value.string).toArray 9):=Any.strings_Split Tryz.lays146 (by kernel_rfl) s sep m w hs hm h1
def Tryz.lays264_ren : Go.Shelf.Ren:=⟨fun|264=>110|n=>n,fun|53=>58|46=>149|n=>n,fun|n=>n⟩
theorem Tryz.lays264 : Go.Proofs.Lays.n264 Tryz.prog Tryz.lays264_ren:={
  mixed:=by kernel_rfl
  f264:=Tryz.func110.trans (congrArg some (by kernel_rfl))
  t46:=Tryz.underlying149
  a46:=Tryz.isAgg149
  z46:=Tryz.sizeOf149
  v46:=Tryz.zeroValue149
  t53:=Tryz.underlying58
  a53:=Tryz.isAgg58
  z53:=Tryz.sizeOf58
  v53:=Tryz.zeroValue58 }
open Go.RowKit Go.Lib in
theorem Tryz.bits_Mul64 (x y : Nat) (hx : x < 18446744073709551616) (hy : y < 18446744073709551616) (w : World) :
    Calls Tryz.prog 110 #[.int .u64 x,.int .u64 y] w fun e w'=>e = .returned (.tuple #[.int .u64 ((x * y / 18446744073709551616 : Nat) : Int),.int .u64 ((x * y % 18446744073709551616 : Nat) : Int)]) ∧ w' = w:=Any.bits_Mul64 Tryz.lays264 x y hx hy w
def Tryz.lays105_ren : Go.Shelf.Ren:=⟨fun|105=>67|212=>105|99=>106|165=>107|166=>108|170=>109|169=>52|263=>141|264=>110|206=>128|240=>127|241=>142|276=>158|277=>166|n=>n,fun|9=>9|3=>3|4=>4|20=>20|0=>0|46=>149|109=>150|5=>5|72=>102|76=>122|51=>52|146=>176|53=>58|148=>154|70=>100|37=>47|75=>117|127=>138|164=>188|80=>106|n=>n,fun|n=>n⟩
theorem Tryz.lays105 : Go.Proofs.Lays.n105 Tryz.prog Tryz.lays105_ren:={
  mixed:=by kernel_rfl
  f99:=Tryz.func106.trans (congrArg some (by kernel_rfl))
  f105:=Tryz.func67.trans (congrArg some (by kernel_rfl))
  f165:=Tryz.func107.trans (congrArg some (by kernel_rfl))
  f166:=Tryz.func108.trans (congrArg some (by kernel_rfl))
  f169:=Tryz.func52.trans (congrArg some (by kernel_rfl))
  f170:=Tryz.func109.trans (congrArg some (by kernel_rfl))
  f206:=Tryz.func128.trans (congrArg some (by kernel_rfl))
  f212:=Tryz.func105.trans (congrArg some (by kernel_rfl))
  f240:=Tryz.func127.trans (congrArg some (by kernel_rfl))
  f241:=Tryz.func142.trans (congrArg some (by kernel_rfl))
  f263:=Tryz.func141.trans (congrArg some (by kernel_rfl))
  f264:=Tryz.func110.trans (congrArg some (by kernel_rfl))
  f276:=Tryz.func158.trans (congrArg some (by kernel_rfl))
  f277:=Tryz.func166.trans (congrArg some (by kernel_rfl))
  t0:=Tryz.underlying0
  a0:=Tryz.isAgg0
  z0:=Tryz.sizeOf0
  v0:=Tryz.zeroValue0
  t3:=Tryz.underlying3
  a3:=Tryz.isAgg3
  z3:=Tryz.sizeOf3
  v3:=Tryz.zeroValue3
  t4:=Tryz.underlying4
  a4:=Tryz.isAgg4
  z4:=Tryz.sizeOf4
  v4:=Tryz.zeroValue4
  t5:=Tryz.underlying5
  a5:=Tryz.isAgg5
  z5:=Tryz.sizeOf5
  v5:=Tryz.zeroValue5
  t9:=Tryz.underlying9
  a9:=Tryz.isAgg9
  z9:=Tryz.sizeOf9
  v9:=Tryz.zeroValue9
  t20:=Tryz.underlying20
  a20:=Tryz.isAgg20
  z20:=Tryz.sizeOf20
  v20:=Tryz.zeroValue20
  t37:=Tryz.underlying47
  a37:=Tryz.isAgg47
  z37:=Tryz.sizeOf47
  v37:=Tryz.zeroValue47
  t46:=Tryz.underlying149
  a46:=Tryz.isAgg149
  z46:=Tryz.sizeOf149
  v46:=Tryz.zeroValue149
  t51:=Tryz.underlying52
  a51:=Tryz.isAgg52
  z51:=Tryz.sizeOf52
  v51:=Tryz.zeroValue52
  t53:=Tryz.underlying58
  a53:=Tryz.isAgg58
  z53:=Tryz.sizeOf58
  v53:=Tryz.zeroValue58
  t70:=Tryz.underlying100
  a70:=Tryz.isAgg100
  z70:=Tryz.sizeOf100
  v70:=Tryz.zeroValue100
  t72:=Tryz.underlying102
  a72:=Tryz.isAgg102
  z72:=Tryz.sizeOf102
  v72:=Tryz.zeroValue102
  t75:=Tryz.underlying117
  a75:=Tryz.isAgg117
  z75:=Tryz.sizeOf117
  v75:=Tryz.zeroValue117
  t76:=Tryz.underlying122
  a76:=Tryz.isAgg122
  z76:=Tryz.sizeOf122
  v76:=Tryz.zeroValue122
  t109:=Tryz.underlying150
  a109:=Tryz.isAgg150
  z109:=Tryz.sizeOf150
  v109:=Tryz.zeroValue150
  t127:=Tryz.underlying138
  a127:=Tryz.isAgg138
  z127:=Tryz.sizeOf138
  v127:=Tryz.zeroValue138
  t146:=Tryz.underlying176
  a146:=Tryz.isAgg176
  z146:=Tryz.sizeOf176
  v146:=Tryz.zeroValue176
  t148:=Tryz.underlying154
  a148:=Tryz.isAgg154
  z148:=Tryz.sizeOf154
  v148:=Tryz.zeroValue154
  t164:=Tryz.underlying188
  a164:=Tryz.isAgg188
  z164:=Tryz.sizeOf188
  v164:=Tryz.zeroValue188 }
theorem Tryz.Builder_Extra_105 : Builder.Extra Tryz.prog Tryz.lays105_ren:={
  sizeBuilder:=by kernel_rfl
  liesBuilder:=by kernel_rfl
  t5:=Tryz.underlying5
  a5:=Tryz.isAgg5
  z5:=Tryz.sizeOf5
  v5:=Tryz.zeroValue5
  infoByte:=by kernel_rfl
  cellsByte:=by kernel_rfl
  sizeByte:=by kernel_rfl
  neB5:=by decide }
open Go.RowKit Go.Lib in
theorem Tryz.strings_Repeat (s : ByteArray) (c : Nat) (w : World) (hc : c ≤ 9223372036854775807) (hlen : s.size * c ≤ 140737488355328) :
    Calls Tryz.prog 67 #[.string s,.int .i64 c] w fun e w'=>e = .returned (.string ⟨(Lib.repeatL s.data.toList c).toArray⟩) ∧ Below w.heap.size w w':=Any.strings_Repeat Tryz.lays105 Tryz.Builder_Extra_105 s c w hc hlen
def Tryz.lays110_ren : Go.Shelf.Ren:=⟨fun|110=>134|109=>163|n=>n,fun|31=>45|9=>9|4=>4|3=>3|0=>0|n=>n,fun|n=>n⟩
theorem Tryz.lays110 : Go.Proofs.Lays.n110 Tryz.prog Tryz.lays110_ren:={
  mixed:=by kernel_rfl
  f109:=Tryz.func163.trans (congrArg some (by kernel_rfl))
  f110:=Tryz.func134.trans (congrArg some (by kernel_rfl))
  t0:=Tryz.underlying0
  a0:=Tryz.isAgg0
  z0:=Tryz.sizeOf0
  v0:=Tryz.zeroValue0
  t3:=Tryz.underlying3
  a3:=Tryz.isAgg3
  z3:=Tryz.sizeOf3
  v3:=Tryz.zeroValue3
  t4:=Tryz.underlying4
  a4:=Tryz.isAgg4
  z4:=Tryz.sizeOf4
  v4:=Tryz.zeroValue4
  t9:=Tryz.underlying9
  a9:=Tryz.isAgg9
  z9:=Tryz.sizeOf9
  v9:=Tryz.zeroValue9
  t31:=Tryz.underlying45
  a31:=Tryz.isAgg45
  z31:=Tryz.sizeOf45
  v31:=Tryz.zeroValue45 }
open Go.Lib in
theorem Tryz.slices_Contains_string_empty (a : Option Addr) (c : Nat) (x : ByteArray) (w : World) :
    Calls Tryz.prog 134 #[.slice a 0 c,.string x] w fun e w'=>e = .returned (.bool false) ∧ w' = w:=Any.slices_Contains_string_empty Tryz.lays110 a c x w
end Go.Proofs
end
section
namespace Go.Proofs.YtfgffjchphignaaGreatDoor.Print
open Go.Sort Go.Shelf
open Go.RowKit Go.Proofs.YtfgffjchphignaaGreatDoorX Go.Proofs.YtfgffjchphignaaGreatDoorW.PrintWords Go.Proofs.YtfgffjchphignaaGreatDoorW.PrintLast Go.Proofs.YtfgffjchphignaaGreatDoorW.PrintMore
/-! ### strings.IndexByte, strings.Join -/
def strings_IndexByte.f (s : ByteArray) (c : Int) : Option Int:=some (Lib.indexByte s.data.toList c.toNat.toUInt8)
theorem strings_IndexByte.calls (s : ByteArray) (c r : Int) (w : World) (h : strings_IndexByte.f s c = some r) :
  Calls Tryz.prog 122 #[.string s,.int .u8 c] w fun e w'=>e = .returned (.int .i64 r) ∧ Drawn0 w w':=by
 obtain rfl:=Option.some.inj h
 exact (Tryz.strings_IndexByte s c w).mono fun e w' hh=>⟨hh.1,0,by rw [hh.2,World.drewN_zero]⟩
def strings_Join.f (xs : List ByteArray) (sep : ByteArray) : Option ByteArray :=
 if xs.length ≤ 140737488355328 ∧ (Lib.join (xs.map fun x=>x.data.toList) sep.data.toList).length ≤ 140737488355328 then some ⟨(Lib.join (xs.map fun x=>x.data.toList) sep.data.toList).toArray⟩ else none
theorem strings_Join.calls (A : Option Addr) (c : Nat) (xs : List ByteArray) (sep r : ByteArray) (w : World) (hr : Kd.C Kd.string w A xs.length xs) (hc : xs.length ≤ c) (h : strings_Join.f xs sep = some r) :
  Calls Tryz.prog 101 #[.slice A xs.length c,.string sep] w fun e w'=>e = .returned (.string r) ∧ Below w.heap.size w w':=by
 unfold strings_Join.f at h
 by_cases g : xs.length ≤ 140737488355328 ∧ (Lib.join (xs.map fun x=>x.data.toList) sep.data.toList).length ≤ 140737488355328
 ·rw [if_pos g] at h
  obtain rfl:=Option.some.inj h
  obtain ⟨_,_,hr⟩:=hr
  cases xs with
  | nil=>exact (Tryz.strings_Join_none A c sep w).mono fun e w' hh=>⟨hh.1,hh.2 ▸ Below.refl _ _⟩
  | cons x xs =>
   obtain ⟨⟨bk,o,p⟩,rfl,hcell⟩:=hr (by simp)
   have hall : ∀ (j : Nat) (y : ByteArray),(x :: xs)[j]? = some y → w.cell? (Addr.add ⟨bk,o,p⟩ j) = some (.string y):=by
    intro j y hj
    obtain ⟨cs,h1,h2,h3⟩:=hcell j y hj
    have h2 : cs = [.string y]:=h2
    subst h2
    have:=h3 0 (.string y) rfl
    rw [show j * Kd.string.sz + 0 = j from by show j * 1 + 0 = j;omega] at this
    exact this
   have h0:=hall 0 x rfl
   have hp : p = none:=by
    cases p with
    | none=>rfl
    | some q =>
     exfalso
     unfold World.cell? at h0
     simp only [Addr.add] at h0
     revert h0
     repeat' split
     all_goals simp_all
   subst hp
   have h0 : w.cell? ⟨bk,o,none⟩ = some (.string x):=h0
   have hb:=World.block_lt_of_cell? w _ h0
   exact Tryz.strings_Join bk o c (x :: xs) sep w (fun j y hj=>by have:=hall j y hj;by_cases hz : j = 0;(subst hz;simpa [Addr.add] using this);(simpa [Addr.add,hz] using this)) hb g.1 hc g.2
 rw [if_neg g] at h
 exact absurd h (by simp)
/-! What is asked of the world: a variable that is a number, a table. -/
structure LaidW (w : World) : Prop where
 most : ∃ m,w.cell? ⟨3,0,none⟩ = some (.int .i64 m)
 syn : ∃ ev,w.cell? ⟨4,0,none⟩ = some ev ∧ (ev = Value.nilIface ∨ ∃ te pe,ev = Value.iface te pe)
 rng : ∃ ev,w.cell? ⟨5,0,none⟩ = some ev ∧ (ev = Value.nilIface ∨ ∃ te pe,ev = Value.iface te pe)
 pow : Lib.TabIs Tryz.prog w "internal/strconv.uint64pow10" .u64 Lib.pow10Tab
theorem LaidW.below {w w' : World} (h : LaidW w) (hb : Below w.heap.size w w') : LaidW w':=by
 obtain ⟨⟨m,hm⟩,⟨es,hs,hs2⟩,⟨er,hr,hr2⟩,hp⟩:=h
 refine ⟨⟨m,(hb.cell (World.block_lt_of_cell? w _ hm)).trans hm⟩,⟨es,(hb.cell (World.block_lt_of_cell? w _ hs)).trans hs,hs2⟩,⟨er,(hb.cell (World.block_lt_of_cell? w _ hr)).trans hr,hr2⟩,?_⟩
 unfold Lib.TabIs World.var? at *
 cases hg : Tryz.prog.globalNamed "internal/strconv.uint64pow10" with
 | none=>simp [hg] at hp
 | some g =>
  simp only [hg,Option.bind_some] at hp ⊢
  have hlt : g < w.heap.size:=by
   rcases Nat.lt_or_ge g w.heap.size with h'|h'
   ·exact h'
   rw [Array.getElem?_eq_none h'] at hp;simp at hp
  rw [hb.block g hlt]
  exact hp

/-! ### strconv.Itoa -/
theorem grow_below {w : World} (k : Nat) (os : Array Obj) : Below w.heap.size w («Sort».grow (w.drewN k) os) :=
 Lib.below_grow w.heap.size w (Nat.le_refl _) k os
def strconv_Itoa.f (n : Int) : Option ByteArray:=if -9223372036854775808 ≤ n ∧ n ≤ 9223372036854775807 then some ⟨(Lib.itoa n).toArray⟩ else none
theorem strconv_Itoa.calls (n : Int) (r : ByteArray) (w : World) (hg_ : LaidW w) (h : strconv_Itoa.f n = some r) :
  Calls Tryz.prog 70 #[.int .i64 n] w fun e w'=>e = .returned (.string r) ∧ Below w.heap.size w w':=by
 unfold strconv_Itoa.f at h
 by_cases g : -9223372036854775808 ≤ n ∧ n ≤ 9223372036854775807
 ·rw [if_pos g] at h
  obtain rfl:=Option.some.inj h
  refine (Tryz.strconv_Itoa n g.1 g.2 w hg_.pow).mono fun e w' hh=>⟨hh.1,?_⟩
  obtain ⟨k,os,e2⟩:=hh.2
  rw [e2]
  exact grow_below k os
 rw [if_neg g] at h
 exact absurd h (by simp)

/-! ### strings.CutPrefix, strings.Cut, strings.TrimRight, strings.Repeat -/
def strings_CutPrefix.f (s p : ByteArray) : Option (ByteArray × Bool):=some (⟨(Lib.trimPrefix s.data.toList p.data.toList).toArray⟩,Lib.hasPrefix s.data.toList p.data.toList)
theorem strings_CutPrefix.calls (s p : ByteArray) (r1 : ByteArray) (r2 : Bool) (w : World) (h : strings_CutPrefix.f s p = some (r1,r2)) :
  Calls Tryz.prog 64 #[.string s,.string p] w fun e w'=>e = .returned (.tuple #[.string r1,.bool r2]) ∧ Drawn0 w w':=by
 obtain ⟨rfl,rfl⟩:=Prod.mk.inj (Option.some.inj h)
 exact (Tryz.strings_CutPrefix s p w).mono fun e w' hh=>⟨hh.1,0,by rw [hh.2,World.drewN_zero]⟩
def strings_Cut.f (s p : ByteArray) : Option (ByteArray × ByteArray × Bool) :=
 if s.size < 4294967281 then some (⟨(Lib.cut s.data.toList p.data.toList).1.toArray⟩,⟨(Lib.cut s.data.toList p.data.toList).2.1.toArray⟩,(Lib.cut s.data.toList p.data.toList).2.2) else none
theorem strings_Cut.calls (s p : ByteArray) (r1 r2 : ByteArray) (r3 : Bool) (w : World) (hg_ : LaidW w) (h : strings_Cut.f s p = some (r1,r2,r3)) :
  Calls Tryz.prog 57 #[.string s,.string p] w fun e w'=>e = .returned (.tuple #[.string r1,.string r2,.bool r3]) ∧ Below w.heap.size w w':=by
 unfold strings_Cut.f at h
 by_cases c : s.size < 4294967281
 ·rw [if_pos c] at h
  obtain ⟨rfl,h2⟩:=Prod.mk.inj (Option.some.inj h)
  obtain ⟨rfl,rfl⟩:=Prod.mk.inj h2
  obtain ⟨m,hm⟩:=hg_.most
  refine (Tryz.strings_Cut s p m w c hm).mono fun e w' hh=>⟨hh.1,?_⟩
  obtain ⟨n,e2⟩:=hh.2
  rw [e2]
  exact pw_below_drewN (Below.refl _ _) n
 rw [if_neg c] at h
 exact absurd h (by simp)
def strings_TrimRight.f (s p : ByteArray) : Option ByteArray :=
 match p.data.toList with
 | [c]=>if c.toNat < 128 ∧ s.size ≤ 9223372036854775807 then some ⟨(Lib.trimRightB s.data.toList c).toArray⟩ else none
 | _=>none
theorem strings_TrimRight.calls (s p : ByteArray) (r : ByteArray) (w : World) (h : strings_TrimRight.f s p = some r) :
  Calls Tryz.prog 47 #[.string s,.string p] w fun e w'=>e = .returned (.string r) ∧ Below w.heap.size w w':=by
 obtain ⟨⟨p⟩⟩:=p
 match p,h with
 | [c],h =>
  have h : (if c.toNat < 128 ∧ s.size ≤ 9223372036854775807 then some (⟨(Lib.trimRightB s.data.toList c).toArray⟩ : ByteArray) else none) = some r:=h
  by_cases g : c.toNat < 128 ∧ s.size ≤ 9223372036854775807
  ·rw [if_pos g] at h
   obtain rfl:=Option.some.inj h
   exact (Tryz.strings_TrimRight_one s c g.1 w g.2).mono fun e w' hh=>⟨hh.1,hh.2 ▸ Below.refl _ _⟩
  rw [if_neg g] at h
  exact absurd h (by simp)
def strings_Repeat.f (s : ByteArray) (c : Int) : Option ByteArray :=
 if 0 ≤ c ∧ c ≤ 9223372036854775807 ∧ s.size * c.toNat ≤ 140737488355328 then some ⟨(Lib.repeatL s.data.toList c.toNat).toArray⟩ else none
theorem strings_Repeat.calls (s : ByteArray) (c : Int) (r : ByteArray) (w : World) (h : strings_Repeat.f s c = some r) :
  Calls Tryz.prog 67 #[.string s,.int .i64 c] w fun e w'=>e = .returned (.string r) ∧ Below w.heap.size w w':=by
 unfold strings_Repeat.f at h
 by_cases g : 0 ≤ c ∧ c ≤ 9223372036854775807 ∧ s.size * c.toNat ≤ 140737488355328
 ·rw [if_pos g] at h
  obtain rfl:=Option.some.inj h
  have hx:=Tryz.strings_Repeat s c.toNat w (by omega) g.2.2
  rw [show ((c.toNat : Nat) : Int) = c by omega] at hx
  exact hx
 rw [if_neg g] at h
 exact absurd h (by simp)

/-! ### strconv.ParseUint -/
theorem conv_below (w : World) (s : ByteArray) : Below w.heap.size w (Lib.bytesWorld w 5 s) :=
 ⟨rfl,rfl,rfl,by rw [Lib.bytesWorld_size];omega,fun k hk=>Lib.bytesWorld_at_old w 5 s k hk⟩
def strconv_ParseUint.f (s : ByteArray) (b z : Int) : Option (Int × Option Int) :=
 if b = 10 ∧ z = 64 ∧ s.size ≤ 9223372036854775806 then
  match Lib.parseUintB 64 s.data.toList with
  | .ok u=>some ((u : Int),none)
  | _=>none
 else none
theorem strconv_ParseUint.calls (s : ByteArray) (b z : Int) (r1 : Int) (r2 : Option Int) (w : World) (h : strconv_ParseUint.f s b z = some (r1,r2)) :
  Calls Tryz.prog 66 #[.string s,.int .i64 b,.int .i64 z] w fun e w'=>e = .returned (.tuple #[.int .u64 r1,errW r2]) ∧ Below w.heap.size w w':=by
 unfold strconv_ParseUint.f at h
 by_cases g : b = 10 ∧ z = 64 ∧ s.size ≤ 9223372036854775806
 ·rw [if_pos g] at h
  obtain ⟨rfl,rfl,hs⟩:=g
  split at h
  ·rename_i u hp
   obtain ⟨rfl,rfl⟩:=Prod.mk.inj (Option.some.inj h)
   refine (Tryz.strconv_ParseUint_10_at64_ok s hs u hp w).mono fun e w' hh=>⟨hh.1,?_⟩
   rcases hh.2 with rfl|rfl
   ·exact Below.refl _ _
   exact conv_below w s
  exact absurd h (by simp)
 rw [if_neg g] at h
 exact absurd h (by simp)

/-! ### strconv.FormatUint -/
theorem holds_zero20 (w : World) (T : TypeId) (nd : Nat) (hs : nd ≤ 24) : Holds (fun (b : UInt8)=>Value.int .u8 (b.toNat : Int)) (w.alloc (.cells Lib.zeros24 T)) w.heap.size 0 (Array.replicate nd (0 : UInt8)):=fun j hj=>by
 have hj' : j < nd:=by simpa using hj
 refine ⟨?_,World.frozen?_alloc_new _ _ _ _⟩
 rw [World.cell?_alloc_new,Lib.zeros24_at _ (by omega),getElem!_pos _ j hj]
 simp
theorem fin20 (w : World) (o : Obj) (dk : Array UInt8) (k : Nat) : Below w.heap.size w ((putRow (fun (b : UInt8)=>Value.int .u8 (b.toNat : Int)) (w.alloc o) w.heap.size 0 dk).drewN k):=by
 rw [alloc_eq_grow]
 obtain ⟨os',_,e⟩:=putRow_grow_new (fun (b : UInt8)=>Value.int .u8 (b.toNat : Int)) w #[o] w.heap.size 0 dk (Nat.le_refl _)
 rw [e]
 exact Lib.below_grow w.heap.size w (Nat.le_refl _) k os'
def strconv_FormatUint.f (u b : Int) : Option ByteArray:=if b = 10 ∧ 0 ≤ u ∧ u < 18446744073709551616 then some ⟨(Lib.decDigits u.toNat).toArray⟩ else none
set_option maxRecDepth 100000 in
theorem internal_FormatUint.calls (u : Nat) (hu64 : u < 18446744073709551616) (w : World) (hg_ : LaidW w) :
  Calls Tryz.prog 78 #[.int .u64 u,.int .i64 10] w fun e w'=>e = .returned (.string ⟨(Lib.decDigits u).toArray⟩) ∧ Below w.heap.size w w':=by
 by_cases hs : u < 100
 ·have hi : ((u : Int) < 100) = True:=eq_true (by omega)
  have hw : wrap64 (u : Int) = (u : Int):=by unfold wrap64;omega
  go_enter Tryz.func78,Tryz.ntmps78
  go_wp2_with (go_at_call 115;refine (Tryz.internal_strconv_small u hs _).mono ?_;rintro e w' ⟨rfl,rfl⟩)
  go_ret
  exact ⟨rfl,Below.refl _ _⟩
 have hi : ((u : Int) < 100) = False:=eq_false (by omega)
 have hu1 : 1 ≤ u:=by omega
 have hnd20 : Lib.nDigits u ≤ 20:=by have:=Lib.numDigits_eq u hu1 hu64;split at this <;> omega
 have hal : Tryz.prog.arrayLen 157 = 24:=by kernel_rfl
 have hsl1 : ∀ W,(Instr.sliceAt 157 (.pointer (some ⟨w.heap.size,0,none⟩)) none (some (.int .i64 (Lib.nDigits u : Int))) none).run Tryz.prog W = .ok (.slice (some ⟨w.heap.size,0,none⟩) (Lib.nDigits u) 24) W:=fun W=>by
  rw [run_sliceAt_array_h W 157 ⟨w.heap.size,0,none⟩ (by kernel_rfl) .i64 (Lib.nDigits u : Int) (by omega) (by rw [hal];omega),hal]
  go_simp
 have hH0:=holds_zero20 w 157 (Lib.nDigits u) (by omega)
 have hfmt:=Tryz.internal_strconv_formatBase10 w.heap.size 0 24 u (Array.replicate (Lib.nDigits u) 0) (w.alloc (.cells Lib.zeros24 157)) hH0 (by rw [Array.size_replicate];exact Lib.lt_pow_nDigits u) hu64 (by rw [Array.size_replicate];omega)
 rw [Array.size_replicate] at hfmt
 have HH0:=Lib.hid hH0
 clear hH0 hal
 go_enter Tryz.func78,Tryz.ntmps78
 go_wp2_with (first
  | (go_at_call 116;refine (Tryz.internal_strconv_numDigits u hu1 hu64 _ (Lib.tabIs_alloc hg_.pow _)).mono ?_;rintro e w' ⟨rfl,rfl⟩))
 go_at_call 117
 refine hfmt.mono ?_
 rintro e w' ⟨rfl,k,v',dk,rfl,hF⟩
 have hcv : (convert 47 9 (.slice (some ⟨w.heap.size,0,none⟩) (Lib.nDigits u) 24)).run Tryz.prog ((putRow (fun (b : UInt8)=>Value.int .u8 (b.toNat : Int)) (w.alloc (.cells Lib.zeros24 157)) w.heap.size 0 dk).drewN k) = .ok (.string ⟨(Lib.decDigits u).toArray⟩) ((putRow (fun (b : UInt8)=>Value.int .u8 (b.toNat : Int)) (w.alloc (.cells Lib.zeros24 157)) w.heap.size 0 dk).drewN k):=by
  have h:=run_convert_bytes_back (P:=Tryz.prog) ((putRow (fun (b : UInt8)=>Value.int .u8 (b.toNat : Int)) (w.alloc (.cells Lib.zeros24 157)) w.heap.size 0 dk).drewN k) 47 9 5 ⟨w.heap.size,0,none⟩ 24 (Lib.decDigits u) (by kernel_rfl) (by kernel_rfl) (by kernel_rfl) (fun j hj=>by
   rw [Lib.row_is_numeral hF j hj,Lib.add_plain,World.cell?_drewN]
   exact cell?_putRow (fun (b : UInt8)=>Value.int .u8 (b.toNat : Int)) _ w.heap.size 0 _ dk HH0.out (by rw [hF.size,Array.size_replicate]) j (by rw [hF.size];rw [Lib.decDigits_length] at hj;exact hj))
  rw [Lib.decDigits_length] at h
  exact h
 go_wp2
 go_ret
 exact ⟨rfl,fin20 w _ dk k⟩
theorem strconv_FormatUint.calls (u b : Int) (r : ByteArray) (w : World) (hg_ : LaidW w) (h : strconv_FormatUint.f u b = some r) :
  Calls Tryz.prog 46 #[.int .u64 u,.int .i64 b] w fun e w'=>e = .returned (.string r) ∧ Below w.heap.size w w':=by
 unfold strconv_FormatUint.f at h
 by_cases g : b = 10 ∧ 0 ≤ u ∧ u < 18446744073709551616
 ·rw [if_pos g] at h
  obtain ⟨rfl,h0,h1⟩:=g
  obtain ⟨u,rfl⟩ : ∃ n : Nat,u = n:=⟨u.toNat,by omega⟩
  obtain rfl:=Option.some.inj h
  go_enter Tryz.func46,Tryz.ntmps46
  go_wp2_with (go_at_call 78;refine (internal_FormatUint.calls u (by omega) _ hg_).mono ?_;rintro e w' ⟨rfl,hb⟩)
  go_ret
  exact ⟨rfl,hb⟩
 rw [if_neg g] at h
 exact absurd h (by simp)

/-! ### math/bits -/
def bits_Mul64.f (a b : Int) : Option (Int × Int):=if 0 ≤ a ∧ a < 18446744073709551616 ∧ 0 ≤ b ∧ b < 18446744073709551616 then some (a * b / 18446744073709551616,a * b % 18446744073709551616) else none
theorem bits_Mul64.calls (a b : Int) (r1 r2 : Int) (w : World) (h : bits_Mul64.f a b = some (r1,r2)) :
  Calls Tryz.prog 110 #[.int .u64 a,.int .u64 b] w fun e w'=>e = .returned (.tuple #[.int .u64 r1,.int .u64 r2]) ∧ Drawn0 w w':=by
 unfold bits_Mul64.f at h
 by_cases g : 0 ≤ a ∧ a < 18446744073709551616 ∧ 0 ≤ b ∧ b < 18446744073709551616
 ·rw [if_pos g] at h
  obtain ⟨h0,h1,h2,h3⟩:=g
  obtain ⟨a,rfl⟩ : ∃ n : Nat,a = n:=⟨a.toNat,by omega⟩
  obtain ⟨b,rfl⟩ : ∃ n : Nat,b = n:=⟨b.toNat,by omega⟩
  obtain ⟨rfl,rfl⟩:=Prod.mk.inj (Option.some.inj h)
  refine (Tryz.bits_Mul64 a b (by omega) (by omega) w).mono fun e w' hh=>⟨?_,0,by rw [hh.2,World.drewN_zero]⟩
  rw [hh.1]
  rfl
 rw [if_neg g] at h
 exact absurd h (by simp)
def bits_LeadingZeros64.f (x : Int) : Option Int:=if 0 ≤ x ∧ x ≤ 18446744073709551615 then some (64 - (Lib.bitLen x.toNat : Int)) else none
theorem bits_LeadingZeros64.calls (x : Int) (r : Int) (w : World) (h : bits_LeadingZeros64.f x = some r) :
  Calls Tryz.prog 143 #[.int .u64 x] w fun e w'=>e = .returned (.int .i64 r) ∧ Drawn0 w w':=by
 unfold bits_LeadingZeros64.f at h
 by_cases g : 0 ≤ x ∧ x ≤ 18446744073709551615
 ·rw [if_pos g] at h
  obtain rfl:=Option.some.inj h
  exact (Tryz.bits_LeadingZeros64 x w g.1 g.2).mono fun e w' hh=>⟨hh.1,0,by rw [hh.2,World.drewN_zero]⟩
 rw [if_neg g] at h
 exact absurd h (by simp)
end Go.Proofs.YtfgffjchphignaaGreatDoor.Print
end
section
namespace Go.Proofs.YtfgffjchphignaaGreatDoor
open Go.ChangeShapes Go.WideShapes Go.ChangeAt Go.RowKit
noncomputable abbrev laidList : List (String × DataW Unit):=Rows.expoTellsRow.laid
def intsOf : DataW Unit → List Int
 | .agg l=>l.filterMap fun|.lit (.int _ n)=>some n|_=>none
 | _=>[]
/-- THE WITNESS: the settled world with the two errors' blocks, and the seven variables holding what their initialisers lay. -/
noncomputable def laidWorld (os : Os) : World :=
 let N:=(World.settled Tryz.prog os).heap.size
 let w0:=World.holding Tryz.prog os ⟨#[
  .cells #[.string ⟨#[118,97,108,117,101,32,111,117,116,32,111,102,32,114,97,110,103,101]⟩] 206,.cells #[.string ⟨#[105,110,118,97,108,105,100,32,115,121,110,116,97,120]⟩] 206],#[],[]⟩
 let put (h : Array Obj) (g : Nat) (cs : Array Value) : Array Obj:=h.modify g fun
  | .cells _ t frozen=>.cells cs t frozen
  | o=>o
 let h0:=put (put w0.heap 5 #[.iface 204 (.pointer (some ⟨N,0,none⟩))]) 4 #[.iface 204 (.pointer (some ⟨N + 1,0,none⟩))]
 let h1:=put h0 6 (Lib.firstTab.map fun z=>Value.int .u8 z).toArray
 let h2:=put h1 7 ((List.range 16).flatMap fun i=>[Value.int .u8 (Lib.accLo i),Value.int .u8 (Lib.accHi i)]).toArray
 let h3:=put h2 8 ((intsOf Rows.laid_math_bits_deBruijn32tab).map fun z=>Value.int .u8 z).toArray
 let h4:=put h3 9 ((intsOf Rows.laid_math_bits_deBruijn64tab).map fun z=>Value.int .u8 z).toArray
 let h5:=put h4 2 (Lib.pow10Tab.map fun z=>Value.int .u64 z).toArray
 { w0 with heap:=h5 }
theorem laid_met (os : Os) (args : Array Value) : laidMet Tryz.prog laidList ((laidWorld os).forCall (fun _ _=>0) ⟨#[],args,[]⟩).memory :=
 laidMet_of_run3 10 (by kernel_rfl) (by kernel_rfl) (by kernel_rfl)
theorem star : "*" ++ "errors.errorString" = "*errors.errorString" := by decide
theorem row204 (u : TypeId) (h : Tryz.prog.typeName? 3 u = some "*errors.errorString") : u = 204 :=
 typeName_ptr_named (nm := "errors.errorString") (by rw [star]; kernel_rfl) (by kernel_rfl) (by decide) u (by rw [star]; exact h)
/-- What the walks ask. -/
theorem laidW {W : World} (hL : laidMetH Tryz.prog laidList W) (hS : W.ShapedOpen Tryz.prog) : Print.LaidW W:=by
 have hL' : laidMet Tryz.prog laidList W:=hL
 have h2:=hL'.tail.tail
 have h4:=h2.tail.tail
 have h5:=h4.tail
 refine ⟨Tryz.laysM145.s1_3 W hS,?_,?_,?_⟩
 ·obtain ⟨a, s, hv, _⟩ := laid_sentinel (g := 4) (ti := 117) (tp := 204) (te := 206) (ts := 9) (f := { name := "s", type := 9, offset := 0, embedded := false, tag := "", pkgPath := "errors", byteOffset := 0 }) h5 (by kernel_rfl) (by kernel_rfl) Tryz.underlying117 row204 (by kernel_rfl) (by kernel_rfl) rfl rfl (by kernel_rfl) (by kernel_rfl) (by kernel_rfl)
  exact ⟨_,World.var?_cell (by kernel_rfl) hv 0,Or.inr ⟨_,_,rfl⟩⟩
 ·obtain ⟨a, s, hv, _⟩ := laid_sentinel (g := 5) (ti := 117) (tp := 204) (te := 206) (ts := 9) (f := { name := "s", type := 9, offset := 0, embedded := false, tag := "", pkgPath := "errors", byteOffset := 0 }) h4 (by kernel_rfl) (by kernel_rfl) Tryz.underlying117 row204 (by kernel_rfl) (by kernel_rfl) rfl rfl (by kernel_rfl) (by kernel_rfl) (by kernel_rfl)
  exact ⟨_,World.var?_cell (by kernel_rfl) hv 0,Or.inr ⟨_,_,rfl⟩⟩
 exact Lib.tabIs_of_head (g:=2) (t:=183) (e:=58) (n:=20) (by kernel_rfl) (by kernel_rfl) (by kernel_rfl) (by kernel_rfl) (by kernel_rfl) (by kernel_rfl) h2
end Go.Proofs.YtfgffjchphignaaGreatDoor
end
section
namespace Go.Proofs
open Go.Shelf
def Tryz.lgClone_ren : Go.Shelf.Ren:=⟨fun|41=>94|n=>n,fun|22=>30|23=>60|4=>4|n=>n,fun|n=>n⟩
theorem Tryz.lgClone : Go.Proofs.SlLaysE0.n41 Tryz.prog Tryz.lgClone_ren:={
 mixed:=by kernel_rfl
 f41:=⟨Tryz.f94.name,by decide,Tryz.func94.trans (congrArg some (by kernel_rfl))⟩
 t4:=Tryz.underlying4
 a4:=Tryz.isAgg4
 z4:=Tryz.sizeOf4
 v4:=Tryz.zeroValue4
 t22:=Tryz.underlying30
 a22:=Tryz.isAgg30
 z22:=Tryz.sizeOf30
 v22:=Tryz.zeroValue30 }
def Tryz.lgIns_ren : Go.Shelf.Ren:=⟨fun|20=>159|n=>n,fun|24=>60|22=>30|3=>3|25=>143|4=>4|0=>0|n=>n,fun|n=>n⟩
theorem Tryz.lgIns : Go.Proofs.SlLaysF0.n20 Tryz.prog Tryz.lgIns_ren:={
 mixed:=by kernel_rfl
 f20:=⟨Tryz.f159.name,by decide,Tryz.func159.trans (congrArg some (by kernel_rfl))⟩
 t0:=Tryz.underlying0
 a0:=Tryz.isAgg0
 z0:=Tryz.sizeOf0
 v0:=Tryz.zeroValue0
 t3:=Tryz.underlying3
 a3:=Tryz.isAgg3
 z3:=Tryz.sizeOf3
 v3:=Tryz.zeroValue3
 t4:=Tryz.underlying4
 a4:=Tryz.isAgg4
 z4:=Tryz.sizeOf4
 v4:=Tryz.zeroValue4
 t22:=Tryz.underlying30
 a22:=Tryz.isAgg30
 z22:=Tryz.sizeOf30
 v22:=Tryz.zeroValue30
 t25:=Tryz.underlying143
 a25:=Tryz.isAgg143
 z25:=Tryz.sizeOf143
 v25:=Tryz.zeroValue143 }
def Tryz.lgIdx_ren : Go.Shelf.Ren:=⟨fun|6=>131|n=>n,fun|22=>30|23=>60|25=>145|3=>3|0=>0|4=>4|n=>n,fun|n=>n⟩
theorem Tryz.lgIdx : Go.Proofs.SlLaysH0.n6 Tryz.prog Tryz.lgIdx_ren:={
 mixed:=by kernel_rfl
 f6:=⟨Tryz.f131.name,by decide,Tryz.func131.trans (congrArg some (by kernel_rfl))⟩
 t0:=Tryz.underlying0
 a0:=Tryz.isAgg0
 z0:=Tryz.sizeOf0
 v0:=Tryz.zeroValue0
 t3:=Tryz.underlying3
 a3:=Tryz.isAgg3
 z3:=Tryz.sizeOf3
 v3:=Tryz.zeroValue3
 t4:=Tryz.underlying4
 a4:=Tryz.isAgg4
 z4:=Tryz.sizeOf4
 v4:=Tryz.zeroValue4
 t22:=Tryz.underlying30
 a22:=Tryz.isAgg30
 z22:=Tryz.sizeOf30
 v22:=Tryz.zeroValue30
 t25:=Tryz.underlying145
 a25:=Tryz.isAgg145
 z25:=Tryz.sizeOf145
 v25:=Tryz.zeroValue145 }
end Go.Proofs
end
section
namespace Go.Proofs.YtfgffjchphignaaGreatDoor.Print
open Go.Sort Go.Shelf
open Go.RowKit Go.Proofs.YtfgffjchphignaaGreatDoorX Go.Proofs.YtfgffjchphignaaGreatDoorW.PrintWords Go.Proofs.YtfgffjchphignaaGreatDoorW.PrintLast Go.Proofs.YtfgffjchphignaaGreatDoorW.PrintMore
/-! Rows of pairs, cell by cell. -/
instance : Inhabited S60:=⟨z60⟩
def encP (x : S60) : List Value:=[.string x.f0,.string x.f1]
theorem encP_len (x : S60) : (encP x).length = 2:=rfl
theorem encP_one (x : S60) : ∀ v ∈ encP x,v.oneCell' = true:=by
 intro v hv
 simp [encP] at hv
 rcases hv with rfl|rfl <;> rfl
def flatP (xs : List S60) : List Value:=xs.flatMap encP
theorem flatP_len : ∀ xs : List S60,(flatP xs).length = xs.length * 2
 | []=>rfl
 | x :: xs=>by
  have ih:=flatP_len xs
  unfold flatP at ih ⊢
  rw [List.flatMap_cons,List.length_append,ih,encP_len,List.length_cons]
  omega
theorem flatP_app (a b : List S60) : flatP (a ++ b) = flatP a ++ flatP b:=by simp [flatP]
theorem flatP_get : ∀ (xs : List S60) (j : Nat),j < xs.length → (flatP xs)[j * 2]? = some (.string (xs.getD j z60).f0) ∧ (flatP xs)[j * 2 + 1]? = some (.string (xs.getD j z60).f1)
 | [],j,h=>absurd h (Nat.not_lt_zero _)
 | x :: xs,0,_=>⟨rfl,rfl⟩
 | x :: xs,j + 1,h=>by
  have ih:=flatP_get xs j (by simpa using h)
  have e : flatP (x :: xs) = .string x.f0 :: .string x.f1 :: flatP xs:=rfl
  rw [e,show (j + 1) * 2 = j * 2 + 1 + 1 by omega,show j * 2 + 1 + 1 + 1 = (j * 2 + 1) + 1 + 1 by omega]
  simpa using ih
theorem flatK_list (xs : List S60) : flatK encP 2 xs.toArray = (flatP xs).toArray:=by
 apply Array.ext
 ·rw [size_flatK];simp [flatP_len]
 intro t h1 h2
 have h1' : t < xs.length * 2:=by simpa using h1
 have hj : t / 2 < xs.length:=by omega
 have hg:=flatP_get xs (t / 2) hj
 have e1 : (flatK encP 2 xs.toArray)[t]! = (encP xs.toArray[t / 2]!)[t % 2]!:=get_flatK _ _ _ t (by simpa using h1')
 rw [getElem!_pos _ t h1] at e1
 rw [e1]
 have e2 : xs.toArray[t / 2]! = xs.getD (t / 2) z60:=by
  rw [getElem!_pos xs.toArray (t / 2) (by simpa using hj)]
  simp [List.getD_eq_getElem?_getD,List.getElem?_eq_getElem hj]
 rw [e2]
 have h2' : t < (flatP xs).length:=by simpa using h2
 rw [List.getElem_toArray]
 rcases Nat.mod_two_eq_zero_or_one t with hm|hm
 ·have ht : t = t / 2 * 2:=by omega
  have:=hg.1
  rw [← ht,List.getElem?_eq_getElem h2'] at this
  rw [hm,Option.some.inj this]
  rfl
 have ht : t = t / 2 * 2 + 1:=by omega
 have:=hg.2
 rw [← ht,List.getElem?_eq_getElem h2'] at this
 rw [hm,Option.some.inj this]
 rfl
/-- A block that holds a row of pairs. -/
structure RowP (w : World) (blk cap : Nat) (xs : List S60) : Prop where
 ex : ∃ cur,w.heap[blk]? = some (.cells cur 60 (0,0)) ∧ cur.size = cap * 2 ∧ cur.toList.take (xs.length * 2) = flatP xs ∧ xs.length ≤ cap
theorem RowP.cell {w : World} {blk cap : Nat} {xs : List S60} (h : RowP w blk cap xs) (j : Nat) (hj : j < xs.length) :
  w.cell? ⟨blk,j * 2,none⟩ = some (.string (xs.getD j z60).f0) ∧ w.cell? ⟨blk,j * 2 + 1,none⟩ = some (.string (xs.getD j z60).f1):=by
 obtain ⟨cur,hb,hc,ht,_⟩:=h.ex
 have hg:=flatP_get xs j hj
 rw [blk_cell hb,blk_cell hb]
 rw [← ht] at hg
 rw [List.getElem?_take_of_lt (by omega),List.getElem?_take_of_lt (by omega),Array.getElem?_toList,Array.getElem?_toList] at hg
 exact hg
theorem RowP.frozen {w : World} {blk cap : Nat} {xs : List S60} (h : RowP w blk cap xs) (j : Nat) : w.frozen? ⟨blk,j,none⟩ = false:=by
 obtain ⟨cur,hb,_⟩:=h.ex
 exact blk_frozen hb j
theorem RowP.below {w w' : World} {blk cap : Nat} {xs : List S60} (h : RowP w blk cap xs) (hb : Below w.heap.size w w') : RowP w' blk cap xs:=by
 obtain ⟨cur,hc,hr⟩:=h.ex
 exact ⟨cur,(hb.block blk (blk_lt hc)).trans hc,hr⟩
theorem RowP.alloc {w : World} {blk cap : Nat} {xs : List S60} (h : RowP w blk cap xs) (o : Obj) : RowP (w.alloc o) blk cap xs:=h.below (below_alloc (Below.refl _ _) o)
theorem RowP.drewN {w : World} {blk cap : Nat} {xs : List S60} (h : RowP w blk cap xs) (n : Nat) : RowP (w.drewN n) blk cap xs:=⟨h.ex⟩
theorem RowP.lt {w : World} {blk cap : Nat} {xs : List S60} (h : RowP w blk cap xs) : blk < w.heap.size:=by
 obtain ⟨cur,hc,hr⟩:=h.ex
 exact blk_lt hc
theorem RowP.holds {w : World} {blk cap : Nat} {xs : List S60} (h : RowP w blk cap xs) : HoldsK encP 2 w blk 0 xs.toArray:=by
 unfold HoldsK
 rw [flatK_list]
 obtain ⟨cur,hc,hs,ht,hn⟩:=h.ex
 intro j hj
 have hj' : j < (flatP xs).length:=by simpa using hj
 rw [Nat.zero_add]
 refine ⟨?_,blk_frozen hc j⟩
 rw [blk_cell hc,getElem!_pos _ j hj,List.getElem_toArray]
 have h1 : (cur.toList.take (xs.length * 2))[j]? = (flatP xs)[j]?:=by rw [ht]
 rw [List.getElem?_take_of_lt (by rw [flatP_len] at hj';exact hj'),Array.getElem?_toList,List.getElem?_eq_getElem hj'] at h1
 exact h1
theorem take_putCells_id (cur : Array Value) (F : List Value) (h : F.length ≤ cur.size) : (putCells id 0 F.toArray cur).toList.take F.length = F:=by
 apply List.ext_getElem?
 intro j
 by_cases hj : j < F.length
 ·rw [List.getElem?_take_of_lt hj,Array.getElem?_toList]
  simp [putCells,hj,show j < cur.size by omega]
 rw [List.getElem?_take_eq_none (by omega),List.getElem?_eq_none (by omega)]
theorem RowP.sorted {w : World} {blk cap : Nat} {xs ts : List S60} (h : RowP w blk cap xs) (hl : ts.length = xs.length) (n : Nat) (os : Array Obj) :
  RowP (sortWorldK encP 2 w blk 0 n ts.toArray os) blk cap ts ∧ w.grownBy (sortWorldK encP 2 w blk 0 n ts.toArray os) (some blk):=by
 obtain ⟨cur,hc,hs,ht,hn⟩:=h.ex
 have hlt:=blk_lt hc
 unfold sortWorldK putRowK
 rw [flatK_list]
 refine ⟨⟨putCells id 0 (flatP ts).toArray cur,?_,by simp [putCells,hs],?_,by omega⟩,⟨rfl,rfl,rfl,by simp,fun k hk hne=>?_⟩⟩
 ·rw [heap_grow_old _ _ (by simpa using hlt)]
  simp [putRow,mapBlock,Sort.ahead,Array.getElem?_modify,hc,onCells]
 ·rw [← flatP_len]
  exact take_putCells_id cur _ (by rw [flatP_len];omega)
 rw [heap_grow_old _ _ (by simpa using hk)]
 have : blk ≠ k:=fun e=>hne (by rw [e])
 simp [putRow,mapBlock,Sort.ahead,Array.getElem?_modify,this]

/-! label.byName -/
theorem byName_calls (x y : S60) (W : World) : Calls Tryz.prog 96 #[.agg (encP x).toArray,.agg (encP y).toArray] W fun e w'=>e = .returned (.int .i64 (Lib.compareBytes x.f0.data.toList y.f0.data.toList)) ∧ ∃ q os',w' = grow (W.drewN q) os':=by
 obtain ⟨a,b⟩:=x
 obtain ⟨c,d⟩:=y
 have hcon:=fun W'=>Tryz.strings_Compare a c W'
 show Calls Tryz.prog 96 #[.agg #[.string a,.string b],.agg #[.string c,.string d]] W fun e w'=>e = .returned (.int .i64 (Lib.compareBytes a.data.toList c.data.toList)) ∧ ∃ q os',w' = grow (W.drewN q) os'
 generalize Lib.compareBytes a.data.toList c.data.toList = r at hcon ⊢
 go_enter Tryz.func96,Tryz.ntmps96
 go_wp2_with (go_at_call 130;refine (hcon _).mono ?_;rintro e w' ⟨rfl,rfl⟩)
 go_ret
 exact ⟨rfl,0,_,by rw [alloc_eq_grow,alloc_eq_grow,grow_grow];rfl⟩
def cfP (x y : S60) : Int:=Lib.compareBytes x.f0.data.toList y.f0.data.toList
theorem cmpLays (blk off size : Nat) (w : World) : CmpLays Tryz.prog 96 #[] encP 2 cfP blk off size w :=
 fun _ _ _ _ x y=>byName_calls x y _
/-! (*strings.Builder).copyCheck, WriteByte, by hand. -/
set_option maxHeartbeats 2000000 in
set_option maxRecDepth 100000 in
theorem copyCheck_fresh (b : Nat) (w : World) (h0 : w.cell? ⟨b,0,none⟩ = some (.pointer none)) (hsh : w.shape? b = some (102,2)) (hfz : w.frozen? ⟨b,0,none⟩ = false) :
  Calls Tryz.prog 127 #[.pointer (some ⟨b,0,none⟩)] w fun e w'=>e = .returned (.tuple #[]) ∧ w' = w.setCell ⟨b,0,none⟩ (.pointer (some ⟨b,0,none⟩)):=by
 obtain ⟨j,hj,hjs⟩ : ∃ j,Tryz.prog.info? 102 = some j ∧ j.size = 2:=Option.map_eq_some_iff.1 (by kernel_rfl : (Tryz.prog.info? 102).map (·.size) = some 2)
 have t70 : Tryz.prog.underlying 100 = some (.pointer 102):=by kernel_rfl
 have t164 : Tryz.prog.underlying 188 = some .unsafePointer:=by kernel_rfl
 have lies : liesAt Tryz.prog Tryz.prog.depth 102 (2 / Tryz.prog.cellsOf 102) 0 102 1 = true:=by kernel_rfl
 go_enter Tryz.func127,Tryz.ntmps127
 go_wp2
 rw [Lib.run_to_unsafe w ⟨b,0,none⟩ t70 t164 hj (by rw [hjs];decide) hsh (Nat.zero_lt_succ 1)]
 simp only [Result.andThen]
 rw [Oper.upon_value]
 go_wp2
 rw [run_callFunc_extern Tryz.func158 (by kernel_rfl) (by kernel_rfl) (by kernel_rfl) (e:=Extern.AbiNoEscape.same) (by kernel_rfl)]
 rw [Lib.run_noEscape]
 simp only [Result.andThen]
 rw [Oper.upon_value]
 go_wp2
 rw [Lib.run_from_unsafe w ⟨b,0,none⟩ t164 t70 hj hsh lies]
 simp only [Result.andThen]
 rw [Oper.upon_value]
 go_wp2
 go_end0
 exact ⟨rfl,rfl⟩
set_option maxHeartbeats 1000000 in
set_option maxRecDepth 100000 in
theorem copyCheck_used (b : Nat) (w : World) (h0 : w.cell? ⟨b,0,none⟩ = some (.pointer (some ⟨b,0,none⟩))) :
  Calls Tryz.prog 127 #[.pointer (some ⟨b,0,none⟩)] w fun e w'=>e = .returned (.tuple #[]) ∧ w' = w:=by
 obtain ⟨j,hj,_⟩ : ∃ j,Tryz.prog.info? 102 = some j ∧ j.size = 2:=Option.map_eq_some_iff.1 (by kernel_rfl : (Tryz.prog.info? 102).map (·.size) = some 2)
 have t70 : Tryz.prog.underlying 100 = some (.pointer 102):=by kernel_rfl
 go_enter Tryz.func127,Tryz.ntmps127
 go_wp2
 rw [Lib.run_neq_ptr_same w _ t70 hj]
 go_wp2
 go_end0
 exact ⟨rfl,rfl⟩
theorem copyCheck_k (B b : Nat) (bs : List Value) (w : World) (h : Lib.IsBuilderF 102 5 B b bs w) :
  Calls Tryz.prog 127 #[.pointer (some ⟨b,0,none⟩)] w fun e w'=>e = .returned (.tuple #[]) ∧ (Lib.BuilderAtF 102 5 B b (.pointer (some ⟨b,0,none⟩)) bs w' ∧ Below B w w' ∧ Lib.OthersKept 5 (some b) w w'):=by
 rcases h with h|h
 ·refine (copyCheck_fresh b w h.cell0 h.shape h.frozen0).mono ?_
  rintro e w' ⟨rfl,rfl⟩
  exact ⟨rfl,h.used _,(Below.refl B w).setCell (p:=⟨b,0,none⟩) h.1 _,(Lib.OthersKept.refl _ _ w).setCell ⟨b,0,none⟩ rfl _⟩
 refine (copyCheck_used b w h.cell0).mono ?_
 rintro e w' ⟨rfl,rfl⟩
 exact ⟨rfl,h,Below.refl B _,Lib.OthersKept.refl _ _ _⟩
set_option maxHeartbeats 2000000 in
set_option maxRecDepth 100000 in
theorem WriteByte_k (B b : Nat) (bs : List Value) (c : Int) (w : World) (h : Lib.IsBuilderF 102 5 B b bs w) (hlen : bs.length + 1 ≤ 140737488355328) (hBw : B ≤ w.heap.size) :
  Calls Tryz.prog 92 #[.pointer (some ⟨b,0,none⟩),.int .u8 c] w fun e w'=>e = .returned .nilIface ∧ (Lib.BuilderAtF 102 5 B b (.pointer (some ⟨b,0,none⟩)) (bs ++ [.int .u8 c]) w' ∧ Below B w w' ∧ Lib.OthersKept 5 (some b) w w'):=by
 obtain ⟨i0,hi,hz0,hz1,hz2⟩:=info_parts (P:=Tryz.prog) (e:=5) (z:=.int .u8 0) (size:=1) (bytes:=1) (by kernel_rfl)
 have t37 : Tryz.prog.underlying 47 = some (.slice 5):=by kernel_rfl
 have ne5 : (102 : TypeId) ≠ 5:=by decide
 go_enter Tryz.func92,Tryz.ntmps92
 go_wp2_with (go_at_call 127;refine (copyCheck_k B b bs _ h).mono ?_)
 rintro e w1 ⟨rfl,h1,hb1,hk1⟩
 obtain ⟨hB,v,hbk,hown,hne⟩:=h1
 have c0 : w1.cell? ⟨b,0,none⟩ = some (.pointer (some ⟨b,0,none⟩)):=by rw [Lib.cell_of_heap hbk];rfl
 have c1 : w1.cell? ⟨b,1,none⟩ = some v:=by rw [Lib.cell_of_heap hbk];rfl
 go_wp2_with (at_builtin;refine wpList_append_ownF _ rfl _ _ 47 rfl B 5 i0 (.int .u8 0) 1 1 t37 hi hz0 hz1 hz2 rfl (by decide) _ _ _ rfl (hown.alloc _) ⟨w1.heap.size,0,none⟩ 1 1 [.int .u8 c] rfl rfl ?c1 ?c2 ?c3 ?c4 ?c5 ?_)
 case c1 =>
  intro j u hj
  match j,hj with
  | 0,hj=>simp at hj;subst hj;simp [Addr.add]
 case c2=>intro u hu;simp at hu;subst hu;rfl
 case c3=>unfold maxLen;omega
 case c4=>omega
 case c5=>have:=hb1.size;simp;omega
 intro v' w2 hown' hgrow _
 have hlt : b < w1.heap.size:=by
  rcases Nat.lt_or_ge b w1.heap.size with h'|h'
  ·exact h'
  simp [Array.getElem?_eq_none h'] at hbk
 have hb2 : w2.heap[b]? = some (.cells #[.pointer (some ⟨b,0,none⟩),v] 102 (0,0)):=by
  rw [hgrow.block b (by simp;omega) (fun e=>hne e.symm),Lib.alloc_old w1 _ b hlt]
  exact hbk
 have d0 : w2.cell? ⟨b,0,none⟩ = some (.pointer (some ⟨b,0,none⟩)):=by rw [Lib.cell_of_heap hb2];rfl
 have d1 : w2.cell? ⟨b,1,none⟩ = some v:=by rw [Lib.cell_of_heap hb2];rfl
 have f1 : w2.frozen? ⟨b,1,none⟩ = false:=Lib.frozen_of_heap hb2 1
 obtain ⟨g,cap,rfl⟩ : ∃ g cap,v' = .slice (some ⟨g,0,none⟩) (bs.length + 1) cap:=by
  rcases hown'.2 with ⟨_,h0⟩|⟨g,cap,cur,fz,hv,_⟩
  ·omega
  exact ⟨g,cap,hv⟩
 go_wp2
 go_ret
 refine ⟨rfl,?_,?_,((hk1.alloc _).grown hgrow (Lib.ownsRowF_kind (hown.alloc _))).setCell ⟨b,1,none⟩ rfl _⟩
 ·exact Lib.BuilderAtF.put (T:=102) (e:=5) hB hb2 (bs':=bs ++ [.int .u8 c]) (by simpa using hown') ne5
 exact ((hb1.alloc (by have:=hb1.size;omega) _).grown hgrow (by have:=hb1.size;simp;omega) (fun k hk=>(hown.lt k hk).1)).setCell (p:=⟨b,1,none⟩) hB _
end Go.Proofs.YtfgffjchphignaaGreatDoor.Print
end
section
namespace Go.Proofs.YtfgffjchphignaaGreatDoor.PureN
/-- What is behind the opening quote: the text, and how many bytes with the closing quote. -/
def unq : List UInt8 → Option (List UInt8 × Nat)
 | []=>none
 | [c]=>if c = 34 then some ([],1) else none
 | c :: d :: r =>
  if c = 34 then some ([],1)
  else if c = 92 then (if d = 34 ∨ d = 92 then (unq r).map fun x=>(d :: x.1,x.2 + 2) else none)
  else (unq (d :: r)).map fun x=>(c :: x.1,x.2 + 1)
def quoteB : List UInt8 → List UInt8
 | []=>[]
 | c :: r=>(if c = 34 ∨ c = 92 then [92,c] else [c]) ++ quoteB r
def quote (v : List UInt8) : List UInt8:=34 :: (quoteB v ++ [34])
end Go.Proofs.YtfgffjchphignaaGreatDoor.PureN
namespace Go.Proofs.YtfgffjchphignaaGreatDoor.Print
open Go.Sort Go.Shelf PureN
open Go.RowKit Go.Proofs.YtfgffjchphignaaGreatDoorX Go.Proofs.YtfgffjchphignaaGreatDoorW.PrintWords Go.Proofs.YtfgffjchphignaaGreatDoorW.PrintLast Go.Proofs.YtfgffjchphignaaGreatDoorW.PrintMore

theorem bt_drop (s : ByteArray) (x : Int) (h : x.toNat < s.size) : ∃ c : UInt8,bt s x = (c.toNat : Int) ∧ s.data.toList.drop x.toNat = c :: s.data.toList.drop (x.toNat + 1):=by
 refine ⟨s.data[x.toNat]'h,?_,?_⟩
 ·rw [← bt_at s x h]
  rfl
 rw [List.drop_eq_getElem_cons (by simpa using h)]
 simp
theorem toNat_is (c : UInt8) (n : Nat) (hn : n < 256) : (c.toNat : Int) = (n : Int) ↔ c = UInt8.ofNat n:=by
 constructor
 ·intro h
  have h' : c.toNat = n:=by omega
  rw [← h']
  exact UInt8.ofNat_toNat.symm
 rintro rfl
 simp
 omega

/-! ### label.Quote -/
def label_Quote.f (s : ByteArray) : Option ByteArray:=if s.size ≤ 1000000000 then some ⟨(quote s.data.toList).toArray⟩ else none
set_option maxHeartbeats 4000000 in
set_option maxRecDepth 100000 in
theorem label_Quote.calls (s r : ByteArray) (w : World) (h : label_Quote.f s = some r) :
  Calls Tryz.prog 100 #[.string s] w fun e w'=>e = .returned (.string r) ∧ Below w.heap.size w w':=by
 unfold label_Quote.f at h
 by_cases hs : s.size ≤ 1000000000
 ·rw [if_pos hs] at h
  obtain rfl:=Option.some.inj h
  clear h
  have HS:=Aside0.mk hs
  have hI0:=Aside0.mk (Lib.IsBuilderF.of (Lib.fresh_isBuilder 102 5 w))
  go_enter Tryz.func100,Tryz.ntmps100
  go_wp2_with (go_at_call 92;refine (WriteByte_k w.heap.size w.heap.size [] 34 _ hI0.out (by simp) (by simp)).mono ?_)
  rintro e w1 ⟨rfl,h1,b1,k1⟩
  have H1:=Aside0.mk h1
  have B1:=Aside0.mk (((Below.refl w.heap.size w).alloc (Nat.le_refl _) _).trans b1)
  clear h1 b1 k1 hs hI0
  go_wp2
  go_loopg [8] s.size (fun kq v8 w'=>∃ (x : Int) (acc : List UInt8),v8 = .int .i64 x ∧ Aside0 (0 ≤ x ∧ x.toNat + kq = s.size ∧ acc ++ (quoteB (s.data.toList.drop x.toNat) ++ [34]) = quote s.data.toList ∧ acc.length ≤ 1 + 2 * x.toNat) ∧ Aside0 (Lib.IsBuilderF 102 5 w.heap.size w.heap.size (Lib.byteCells acc) w') ∧ Aside0 (Below w.heap.size w w'))
  case atStart=>exact ⟨0,[34],rfl,⟨by omega,by simp,by simp [quote],by simp⟩,⟨Or.inr H1.out⟩,B1⟩
  clear H1 B1
  obtain ⟨x,acc,rfl,HA,HI,HB⟩:=hrel
  obtain ⟨h0,hk,hq,hl⟩:=HA.out
  have hsz:=HB.out.size
  have hlen:=HS.out
  cases gk with
  | zero =>
   have c2b0 : decide (x < (s.size : Int)) = false:=decide_eq_false (by omega)
   have hd : s.data.toList.drop x.toNat = []:=List.drop_eq_nil_of_le (by simp;show s.size ≤ _;omega)
   rw [hd] at hq
   clear HA
   have HQ:=Aside0.mk hq
   have HL:=Aside0.mk (show acc.length + 1 ≤ 140737488355328 by omega)
   have HZ:=Aside0.mk hsz
   clear hq hl hk h0 hsz hlen hd
   go_wp2_with (go_at_call 92;refine (WriteByte_k w.heap.size w.heap.size _ 34 _ HI.out (by rw [Lib.byteCells_length];exact HL.out) HZ.out).mono ?_)
   rintro e w2 ⟨rfl,h2,b2,k2⟩
   have H2 : Lib.IsBuilderF 102 5 w.heap.size w.heap.size (Lib.byteCells (acc ++ [34])) w2:=by rw [Lib.byteCells_append];exact Or.inr h2
   have HB2:=HB.out.trans b2
   go_wp2_with (go_at_call 52;refine (Tryz.Builder_String_any_k w.heap.size w.heap.size (acc ++ [34]) _ H2 HB2.size).mono ?_)
   rintro e w3 ⟨rfl,_,b3,_⟩
   go_wp2
   go_ret
   have hq:=HQ.out
   simp only [quoteB,List.nil_append] at hq
   rw [hq]
   exact ⟨rfl,HB2.trans b3⟩
  | succ k1 =>
   have c2b0 : decide (x < (s.size : Int)) = true:=decide_eq_true (by omega)
   have hx : x.toNat < s.size:=by omega
   obtain ⟨c,hc,hd⟩:=bt_drop s x hx
   have p4 : (0 ≤ x) = True:=eq_true h0
   have q4 : (x < (s.size : Int)) = True:=eq_true (by omega)
   have hx4:=bt_at s x
   have hw : wrap64 (x + 1) = x + 1:=by unfold wrap64;omega
   rw [hd,quoteB] at hq
   have hZ:=Aside0.mk hsz
   by_cases c1 : c = 34 ∨ c = 92
   ·rw [if_pos c1] at hq
    have HQ:=Aside0.mk hq
    have HL:=Aside0.mk (show acc.length + 2 ≤ 140737488355328 by omega)
    have HL2:=Aside0.mk hl
    have HK:=Aside0.mk (And.intro h0 hk)
    have HC:=Aside0.mk hc
    have tests : ((bt s x == 34) = true) ∨ ((bt s x == 34) = false ∧ (bt s x == 92) = true):=by
     rcases c1 with rfl|rfl
     ·exact Or.inl (by rw [hc];rfl)
     exact Or.inr (by rw [hc];exact ⟨rfl,rfl⟩)
    clear HA hq hl hk hsz hlen hd hc c1 h0
    rcases tests with f1|⟨f1,f2⟩
    all_goals
     go_wp2_with (go_at_call 92;refine (WriteByte_k w.heap.size w.heap.size _ 92 _ HI.out (by rw [Lib.byteCells_length];have:=HL.out;omega) hZ.out).mono ?_)
     rintro e w2 ⟨rfl,h2,b2,k2⟩
     have H2 : Lib.IsBuilderF 102 5 w.heap.size w.heap.size (Lib.byteCells (acc ++ [92])) w2:=by rw [Lib.byteCells_append];exact Or.inr h2
     have HB2:=Aside0.mk (HB.out.trans b2)
     have HI2:=Aside0.mk H2
     clear h2 b2 k2 H2
     go_wp2_with (go_at_call 92;refine (WriteByte_k w.heap.size w.heap.size _ (bt s x) _ HI2.out (by rw [Lib.byteCells_length,List.length_append];have:=HL.out;simp;omega) HB2.out.size).mono ?_)
     rintro e w3 ⟨rfl,h3,b3,k3⟩
     have H3 : Lib.IsBuilderF 102 5 w.heap.size w.heap.size (Lib.byteCells ((acc ++ [92]) ++ [c])) w3:=by rw [Lib.byteCells_append];refine Or.inr ?_;rw [HC.out] at h3;exact h3
     have HB3:=Aside0.mk (HB2.out.trans b3)
     have HI3:=Aside0.mk H3
     clear h3 b3 k3 H3
     go_wp2
     go_roundg k1
     case measure=>omega
     refine ⟨x + 1,acc ++ [92] ++ [c],by rw [hw],⟨?_,?_,?_,?_⟩,HI3,HB3⟩
     ·have:=HK.out.1;omega
     ·have:=HK.out;omega
     ·rw [← HQ.out,show (x + 1).toNat = x.toNat + 1 by have:=HK.out.1;omega];simp
     have:=HL2.out;have:=HK.out.1;simp;omega
   rw [if_neg c1] at hq
   have HQ:=Aside0.mk hq
   have HL:=Aside0.mk (show acc.length + 2 ≤ 140737488355328 by omega)
   have HL2:=Aside0.mk hl
   have HK:=Aside0.mk (And.intro h0 hk)
   have HC:=Aside0.mk hc
   have f1 : (bt s x == 34) = false:=by rw [hc];exact beq_eq_false_iff_ne.mpr (fun e=>c1 (Or.inl ((toNat_is c 34 (by omega)).1 e)))
   have f2 : (bt s x == 92) = false:=by rw [hc];exact beq_eq_false_iff_ne.mpr (fun e=>c1 (Or.inr ((toNat_is c 92 (by omega)).1 e)))
   clear HA hq hl hk hsz hlen hd hc c1 h0
   go_wp2_with (go_at_call 92;refine (WriteByte_k w.heap.size w.heap.size _ (bt s x) _ HI.out (by rw [Lib.byteCells_length];have:=HL.out;omega) hZ.out).mono ?_)
   rintro e w3 ⟨rfl,h3,b3,k3⟩
   have H3 : Lib.IsBuilderF 102 5 w.heap.size w.heap.size (Lib.byteCells (acc ++ [c])) w3:=by rw [Lib.byteCells_append];refine Or.inr ?_;rw [HC.out] at h3;exact h3
   have HB3:=Aside0.mk (HB.out.trans b3)
   have HI3:=Aside0.mk H3
   clear h3 b3 k3 H3
   go_wp2
   go_roundg k1
   case measure=>omega
   refine ⟨x + 1,acc ++ [c],by rw [hw],⟨?_,?_,?_,?_⟩,HI3,HB3⟩
   ·have:=HK.out.1;omega
   ·have:=HK.out;omega
   ·rw [← HQ.out,show (x + 1).toNat = x.toNat + 1 by have:=HK.out.1;omega];simp
   have:=HL2.out;have:=HK.out.1;simp;omega
 rw [if_neg hs] at h
 exact absurd h (by simp)

/-! ### label.Unquote -/
def fin (s : ByteArray) (acc l : List UInt8) : ByteArray × ByteArray × Bool :=
 match unq l with
 | some y=>(⟨(acc ++ y.1).toArray⟩,⟨(l.drop y.2).toArray⟩,true)
 | none=>(⟨#[]⟩,s,false)
theorem unq_34 (l : List UInt8) : unq (34 :: l) = some ([],1):=by cases l <;> simp [unq]
theorem unq_ord (c : UInt8) (l : List UInt8) (h : ¬ (c = 34 ∨ c = 92)) : unq (c :: l) = (unq l).map fun x=>(c :: x.1,x.2 + 1):=by
 cases l with
 | nil=>simp only [unq];rw [if_neg (fun e=>h (Or.inl e))];rfl
 | cons d r=>rw [unq,if_neg (fun e=>h (Or.inl e)),if_neg (fun e=>h (Or.inr e))]
theorem unq_esc (d : UInt8) (l : List UInt8) : unq (92 :: d :: l) = if d = 34 ∨ d = 92 then (unq l).map fun x=>(d :: x.1,x.2 + 2) else none:=by
 rw [unq,if_neg (by decide),if_pos rfl]
theorem fin_34 (s : ByteArray) (acc l : List UInt8) : fin s acc (34 :: l) = (⟨acc.toArray⟩,⟨l.toArray⟩,true):=by
 unfold fin
 rw [unq_34]
 simp
theorem fin_ord (s : ByteArray) (acc l : List UInt8) (c : UInt8) (h : ¬ (c = 34 ∨ c = 92)) : fin s acc (c :: l) = fin s (acc ++ [c]) l:=by
 unfold fin
 rw [unq_ord c l h]
 cases unq l <;> simp
theorem fin_esc (s : ByteArray) (acc l : List UInt8) (d : UInt8) (h : d = 34 ∨ d = 92) : fin s acc (92 :: d :: l) = fin s (acc ++ [d]) l:=by
 unfold fin
 rw [unq_esc d l,if_pos h]
 cases unq l <;> simp
theorem fin_bad (s : ByteArray) (acc l : List UInt8) (d : UInt8) (h : ¬ (d = 34 ∨ d = 92)) : fin s acc (92 :: d :: l) = (⟨#[]⟩,s,false):=by
 unfold fin
 rw [unq_esc d l,if_neg h]
theorem fin_nil (s : ByteArray) (acc : List UInt8) : fin s acc [] = (⟨#[]⟩,s,false):=by
 unfold fin
 rw [unq]
theorem fin_one (s : ByteArray) (acc : List UInt8) : fin s acc [92] = (⟨#[]⟩,s,false):=by
 unfold fin
 rw [unq,if_neg (by decide)]
def unqR (s : ByteArray) : ByteArray × ByteArray × Bool :=
 match s.data.toList with
 | []=>(⟨#[]⟩,s,false)
 | c :: r=>if c = 34 then fin s [] r else (⟨#[]⟩,s,false)
theorem extract_is (s : ByteArray) (n : Nat) (l : List UInt8) (h : s.data.toList.drop n = l) : s.extract n s.size = ⟨l.toArray⟩:=by
 subst h
 apply ByteArray.ext
 apply Array.ext'
 rw [ByteArray.data_extract,Array.toList_extract]
 show ((s.data.toList.drop n).take (s.data.size - n)) = _
 rw [List.take_of_length_le (by simp)]
theorem bf_drew {T e : TypeId} {B b : Nat} {bs : List Value} {w : World} (h : Lib.IsBuilderF T e B b bs w) : Lib.IsBuilderF T e B b bs w.drew:=h.elim (fun x=>.inl x.drew) (fun x=>.inr x.drew)
def label_Unquote.f (s : ByteArray) : Option (ByteArray × ByteArray × Bool):=if s.size ≤ 1000000000 then some (unqR s) else none
set_option maxHeartbeats 4000000 in
set_option maxRecDepth 100000 in
theorem label_Unquote.calls (s : ByteArray) (r1 r2 : ByteArray) (r3 : Bool) (w : World) (h : label_Unquote.f s = some (r1,r2,r3)) :
  Calls Tryz.prog 58 #[.string s] w fun e w'=>e = .returned (.tuple #[.string r1,.string r2,.bool r3]) ∧ Below w.heap.size w w':=by
 unfold label_Unquote.f at h
 by_cases hs : s.size ≤ 1000000000
 ·rw [if_pos hs] at h
  have h:=Option.some.inj h
  have HS:=Aside0.mk hs
  by_cases c0 : s.data.toList = []
  ·have h : (⟨#[]⟩,s,false) = (r1,r2,r3):=by rw [← h];unfold unqR;rw [c0]
   cases h
   have c0b : (s.toList == ([] : List UInt8)) = true:=beq_iff_eq.mpr (by rw [← c0];exact ByteArray.toList_eq s)
   clear hs HS c0
   go_enter Tryz.func58,Tryz.ntmps58
   go_wp2_with (first|go_in)
   go_ret3
   exact ⟨rfl,Below.refl _ _⟩
  have c0b : (s.toList == ([] : List UInt8)) = false:=beq_eq_false_iff_ne.mpr (by rw [ByteArray.toList_eq s];exact c0)
  have hp : 0 < s.size:=by
   cases e : s.data.toList with
   | nil=>exact absurd e c0
   | cons c l=>have:=congrArg List.length e;rw [Array.length_toList,List.length_cons] at this;show 0 < s.data.size;omega
  obtain ⟨c,hc,hd⟩:=bt_drop s 0 hp
  rw [show (0 : Int).toNat = 0 from rfl,List.drop_zero] at hd
  have q3 : (0 < s.size) = True:=eq_true hp
  have hx3 : ∀ h : 0 < s.size,((s[0]'h).toNat : Int) = bt s 0:=bt_at s 0
  have qi3 : (0 < (s.size : Int)) = True:=eq_true (by omega)
  by_cases c1 : c = 34
  ·have h : fin s [] (s.data.toList.drop 1) = (r1,r2,r3):=by
    rw [← h]
    unfold unqR
    rw [hd]
    simp only [if_pos c1,List.drop_succ_cons,List.drop_zero]
   have HR:=Aside0.mk h
   have f1 : (bt s 0 != 34) = false:=bne_eq_false_iff_eq.mpr (by rw [hc,c1];rfl)
   have hI0:=Aside0.mk (Lib.IsBuilderF.of (Lib.fresh_isBuilder 102 5 w))
   have HP:=Aside0.mk hp
   clear hs c0 hp hc hd c1 h
   go_enter Tryz.func58,Tryz.ntmps58
   go_wp2_with (first|go_in)
   go_loopg [6] (s.size - 1) (fun kq v6 w'=>∃ (x : Int) (acc : List UInt8),v6 = .int .i64 x ∧ Aside0 (1 ≤ x ∧ x.toNat + kq = s.size ∧ fin s acc (s.data.toList.drop x.toNat) = (r1,r2,r3) ∧ acc.length ≤ x.toNat) ∧ Aside0 (Lib.IsBuilderF 102 5 w.heap.size w.heap.size (Lib.byteCells acc) w') ∧ Aside0 (Below w.heap.size w w'))
   case atStart=>exact ⟨1,[],rfl,⟨by decide,by have:=HP.out;show 1 + (s.size - 1) = s.size;omega,HR.out,by simp⟩,hI0,⟨(Below.refl w.heap.size w).alloc (Nat.le_refl _) _⟩⟩
   clear hI0 f1 HR q3 hx3 qi3 c0b
   obtain ⟨x,acc,rfl,HA,HI,HB⟩:=hrel
   obtain ⟨h0,hk,hq,hl⟩:=HA.out
   have hsz:=HB.out.size
   have hlen:=HS.out
   cases gk with
   | zero =>
    have c2b0 : decide (x < (s.size : Int)) = false:=decide_eq_false (by omega)
    have hd : s.data.toList.drop x.toNat = []:=List.drop_eq_nil_of_le (by simp;show s.size ≤ _;omega)
    rw [hd,fin_nil] at hq
    cases hq
    clear HA hl hk h0 hsz hlen hd
    go_wp2
    go_ret3
    exact ⟨rfl,HB.out⟩
   | succ k1 =>
    have c2b0 : decide (x < (s.size : Int)) = true:=decide_eq_true (by omega)
    have hx : x.toNat < s.size:=by omega
    obtain ⟨c,hc,hd⟩:=bt_drop s x hx
    have p4 : (0 ≤ x) = True:=eq_true (by omega)
    have q4 : (x < (s.size : Int)) = True:=eq_true (by omega)
    have hx4:=bt_at s x
    have hw : wrap64 (x + 1) = x + 1:=by unfold wrap64;omega
    have hZ:=Aside0.mk hsz
    have HK:=Aside0.mk (And.intro h0 hk)
    have HL:=Aside0.mk (show acc.length + 1 ≤ 140737488355328 by omega)
    have HL2:=Aside0.mk hl
    rw [hd] at hq
    by_cases c1 : c = 34
    ·rw [c1,fin_34] at hq
     have f1 : (bt s x == 34) = true:=beq_iff_eq.mpr (by rw [hc,c1];rfl)
     have he : s.extract (x + 1).toNat s.size = ⟨(s.data.toList.drop (x.toNat + 1)).toArray⟩:=by
      rw [show (x + 1).toNat = x.toNat + 1 by omega]
      exact extract_is s _ _ rfl
     have HQ:=Aside0.mk hq
     have HE:=Aside0.mk he
     have hw2 : IntKind.i64.wrap (x + 1) = x + 1:=by have:=i64_w (x + 1);rw [this];exact hw
     have p5 : (0 ≤ x + 1) = True:=eq_true (by omega)
     have q5 : (x + 1 ≤ (s.size : Int)) = True:=eq_true (by omega)
     clear HA hq hl hk hsz hlen hd hc c1 h0 he
     go_wp2
     go_region_with (go_at_call 52;refine (Tryz.Builder_String_any_k w.heap.size w.heap.size acc _ ?_ ?_).mono ?_;exact bf_drew HI.out;exact hZ.out;rintro e w3 ⟨rfl,_,b3,_⟩)
     all_goals
      go_wp2
      go_ret3
      obtain ⟨e1,e2⟩:=Prod.mk.inj HQ.out
      obtain ⟨e3,e4⟩:=Prod.mk.inj e2
      have fin_ : (Ending.returned (.tuple #[.string ⟨acc.toArray⟩,.string (s.extract (x + 1).toNat s.size),.bool true])) = .returned (.tuple #[.string r1,.string r2,.bool r3]):=by rw [HE.out,e1,e3,e4]
      exact ⟨fin_,(Below.drew HB.out).trans b3⟩
    have f1 : (bt s x == 34) = false:=by rw [hc];exact beq_eq_false_iff_ne.mpr (fun e=>c1 ((toNat_is c 34 (by omega)).1 e))
    by_cases c2 : c = 92
    ·have f2 : (bt s x == 92) = true:=beq_iff_eq.mpr (by rw [hc,c2];rfl)
     by_cases c3 : x + 1 = (s.size : Int)
     ·have hd2 : s.data.toList.drop (x.toNat + 1) = []:=List.drop_eq_nil_of_le (by simp;show s.size ≤ _;omega)
      rw [hd2,c2,fin_one] at hq
      cases hq
      have f3 : (x + 1 == (s.size : Int)) = true:=beq_iff_eq.mpr c3
      clear HA hl hk hsz hlen hd hc c1 c2 c3 h0 hd2
      go_wp2_with (first|go_in)
      go_ret3
      exact ⟨rfl,HB.out⟩
     have f3 : (x + 1 == (s.size : Int)) = false:=beq_eq_false_iff_ne.mpr c3
     have hx5:=bt_at s (x + 1)
     have p5 : (0 ≤ x + 1) = True:=eq_true (by omega)
     have q5 : (x + 1 < (s.size : Int)) = True:=eq_true (by omega)
     have hn : (x + 1).toNat = x.toNat + 1:=by omega
     obtain ⟨d,hdc,hdd⟩:=bt_drop s (x + 1) (by omega)
     rw [hn] at hdd
     rw [hdd,c2] at hq
     by_cases c4 : d = 34 ∨ d = 92
     ·rw [fin_esc _ _ _ _ c4] at hq
      have tests : ((bt s (x + 1) != 34) = false) ∨ ((bt s (x + 1) != 34) = true ∧ (bt s (x + 1) != 92) = false):=by
       rcases c4 with rfl|rfl
       ·exact Or.inl (by rw [hdc];rfl)
       exact Or.inr (by rw [hdc];exact ⟨rfl,rfl⟩)
      obtain ⟨k2,rfl⟩ : ∃ k2,k1 = k2 + 1:=⟨k1 - 1,by omega⟩
      have HQ:=Aside0.mk hq
      have HC:=Aside0.mk hdc
      have HN:=Aside0.mk hn
      have hw3 : wrap64 (x + 1 + 1) = x + 2:=by unfold wrap64;omega
      clear HA hq hl hk hsz hlen hd hc c1 c2 c3 h0 hdd hdc c4 hn
      rcases tests with f4|⟨f4,f5⟩
      all_goals
       go_wp2_with (go_at_call 92;refine (WriteByte_k w.heap.size w.heap.size _ (bt s (x + 1)) _ HI.out (by rw [Lib.byteCells_length];exact HL.out) hZ.out).mono ?_)
       rintro e w3 ⟨rfl,h3,b3,k3⟩
       have H3 : Lib.IsBuilderF 102 5 w.heap.size w.heap.size (Lib.byteCells (acc ++ [d])) w3:=by rw [Lib.byteCells_append];refine Or.inr ?_;rw [HC.out] at h3;exact h3
       have HB3:=Aside0.mk (HB.out.trans b3)
       have HI3:=Aside0.mk H3
       clear h3 b3 k3 H3
       go_wp2
       go_roundg k2
       case measure=>omega
       refine ⟨x + 2,acc ++ [d],by first|rw [hw3]|(rw [hw,hw3]),⟨?_,?_,?_,?_⟩,HI3,HB3⟩
       ·have:=HK.out.1;omega
       ·have:=HK.out;omega
       ·rw [show (x + 2).toNat = x.toNat + 1 + 1 by have:=HK.out.1;omega];exact HQ.out
       have:=HL2.out;have:=HK.out.1;simp;omega
     rw [fin_bad _ _ _ _ c4] at hq
     cases hq
     have f4 : (bt s (x + 1) != 34) = true:=by rw [hdc];exact bne_iff_ne.mpr (fun e=>c4 (Or.inl ((toNat_is d 34 (by omega)).1 e)))
     have f5 : (bt s (x + 1) != 92) = true:=by rw [hdc];exact bne_iff_ne.mpr (fun e=>c4 (Or.inr ((toNat_is d 92 (by omega)).1 e)))
     clear HA hl hk hsz hlen hd hc c1 c2 c3 h0 hdd hdc c4 hn
     go_wp2_with (first|go_in)
     go_ret3
     exact ⟨rfl,HB.out⟩
    have f2 : (bt s x == 92) = false:=by rw [hc];exact beq_eq_false_iff_ne.mpr (fun e=>c2 ((toNat_is c 92 (by omega)).1 e))
    rw [fin_ord _ _ _ _ (fun h=>h.elim c1 c2)] at hq
    have HQ:=Aside0.mk hq
    have HC:=Aside0.mk hc
    clear HA hq hl hk hsz hlen hd hc c1 c2 h0
    go_wp2_with (go_at_call 92;refine (WriteByte_k w.heap.size w.heap.size _ (bt s x) _ HI.out (by rw [Lib.byteCells_length];exact HL.out) hZ.out).mono ?_)
    rintro e w3 ⟨rfl,h3,b3,k3⟩
    have H3 : Lib.IsBuilderF 102 5 w.heap.size w.heap.size (Lib.byteCells (acc ++ [c])) w3:=by rw [Lib.byteCells_append];refine Or.inr ?_;rw [HC.out] at h3;exact h3
    have HB3:=Aside0.mk (HB.out.trans b3)
    have HI3:=Aside0.mk H3
    clear h3 b3 k3 H3
    go_wp2
    go_roundg k1
    case measure=>omega
    refine ⟨x + 1,acc ++ [c],by rw [hw],⟨?_,?_,?_,?_⟩,HI3,HB3⟩
    ·have:=HK.out.1;omega
    ·have:=HK.out;omega
    ·rw [show (x + 1).toNat = x.toNat + 1 by have:=HK.out.1;omega];exact HQ.out
    have:=HL2.out;have:=HK.out.1;simp;omega
  have h : (⟨#[]⟩,s,false) = (r1,r2,r3):=by
   rw [← h]
   unfold unqR
   rw [hd]
   simp only [if_neg c1]
  cases h
  have f1 : (bt s 0 != 34) = true:=bne_iff_ne.mpr (by rw [hc];exact fun e=>c1 ((toNat_is c 34 (by omega)).1 e))
  clear hs HS c0 hp hc hd c1
  go_enter Tryz.func58,Tryz.ntmps58
  go_wp2_with (first|go_in)
  go_ret3
  exact ⟨rfl,Below.refl _ _⟩
 rw [if_neg hs] at h
 exact absurd h (by simp)
end Go.Proofs.YtfgffjchphignaaGreatDoor.Print
end
section
namespace Go.Proofs.YtfgffjchphignaaGreatDoor.PureN
open Go.RowKit Go.Proofs.YtfgffjchphignaaGreatDoor.Print
def isD (c : UInt8) : Bool:=decide (48 ≤ c.toNat) && decide (c.toNat ≤ 57)
def isL (c : UInt8) : Bool:=(decide (97 ≤ c.toNat) && decide (c.toNat ≤ 122)) || (decide (65 ≤ c.toNat) && decide (c.toNat ≤ 90)) || decide (c.toNat = 95)
def idc (c : UInt8) : Bool:=isL c || isD c
theorem unq_quote (m : List UInt8) : ∀ v : List UInt8,unq (quoteB v ++ 34 :: m) = some (v,(quoteB v).length + 1)
 | []=>by
  cases m <;> simp [unq,quoteB]
 | c :: v=>by
  have ih:=unq_quote m v
  rw [quoteB]
  by_cases hq : c = 34 ∨ c = 92
  ·rw [if_pos hq,List.append_assoc]
   show unq (92 :: c :: (quoteB v ++ 34 :: m)) = _
   rw [unq,if_neg (by decide),if_pos rfl,if_pos hq,ih]
   simp
  rw [if_neg hq,List.append_assoc]
  obtain ⟨d,r,e⟩ : ∃ d r,quoteB v ++ 34 :: m = d :: r:=by
   cases quoteB v with
   | nil=>exact ⟨_,_,rfl⟩
   | cons d r=>exact ⟨_,_,rfl⟩
  show unq (c :: (quoteB v ++ 34 :: m)) = _
  rw [e] at ih ⊢
  rw [unq,if_neg (fun h=>hq (Or.inl h)),if_neg (fun h=>hq (Or.inr h)),ih]
  simp
/-! Label sets, in plain Lean: texts of bytes, pairs, their print, the two ways in which they are read. -/
abbrev Pr:=List UInt8 × List UInt8
def ltL : List UInt8 → List UInt8 → Bool
 | _,[]=>false
 | [],_ :: _=>true
 | a :: l,b :: m=>decide (a.toNat < b.toNat) || (a == b && ltL l m)
theorem ltL_irr : ∀ l,ltL l l = false
 | []=>rfl
 | a :: l=>by rw [ltL,ltL_irr l];simp
theorem ltL_trans : ∀ a b c,ltL a b = true → ltL b c = true → ltL a c = true
 | _,[],_,h,_=>by simp [ltL] at h
 | _,_ :: _,[],_,h=>by simp [ltL] at h
 | [],_ :: _,_ :: _,_,_=>rfl
 | x :: a,y :: b,z :: c,h,g=>by
  rw [ltL,Bool.or_eq_true,decide_eq_true_eq,Bool.and_eq_true,beq_iff_eq] at h g ⊢
  rcases h with h|⟨rfl,h⟩ <;> rcases g with g|⟨rfl,g⟩
  ·exact .inl (by omega)
  ·exact .inl h
  ·exact .inl g
  exact .inr ⟨rfl,ltL_trans a b c h g⟩
theorem ltL_total : ∀ a b,ltL a b = true ∨ a = b ∨ ltL b a = true
 | [],[]=>.inr (.inl rfl)
 | [],_ :: _=>.inl rfl
 | _ :: _,[]=>.inr (.inr rfl)
 | x :: a,y :: b=>by
  simp only [ltL,Bool.or_eq_true,decide_eq_true_eq,Bool.and_eq_true,beq_iff_eq]
  rcases Nat.lt_trichotomy x.toNat y.toNat with h|h|h
  ·exact .inl (.inl h)
  ·have hxy : x = y:=UInt8.toNat_inj.1 h
   subst hxy
   rcases ltL_total a b with g|rfl|g
   ·exact .inl (.inr ⟨rfl,g⟩)
   ·exact .inr (.inl rfl)
   exact .inr (.inr (.inr ⟨rfl,g⟩))
  exact .inr (.inr (.inl h))
theorem leL_trans {a b c : List UInt8} (h : ltL b a = false) (g : ltL c b = false) : ltL c a = false:=by
 cases e : ltL c a with
 | false=>rfl
 | true =>
  rcases ltL_total a b with x|rfl|x
  ·rw [ltL_trans c a b e x] at g
   exact absurd g (by simp)
  ·rw [e] at g
   exact absurd g (by simp)
  rw [x] at h
  exact absurd h (by simp)
theorem ltL_asym {a b : List UInt8} (h : ltL a b = true) : ltL b a = false:=by
 cases e : ltL b a with
 | false=>rfl
 | true =>
  have:=ltL_trans _ _ _ h e
  rw [ltL_irr] at this
  exact absurd this (by simp)

/-! Sorting by the names, those of one name as they stood. -/
def insP (x : Pr) : List Pr → List Pr
 | []=>[x]
 | y :: r=>if ltL x.1 y.1 then x :: y :: r else y :: insP x r
def sortP (l : List Pr) : List Pr:=l.foldl (fun acc x=>insP x acc) []
def LeP (a b : Pr) : Prop:=ltL b.1 a.1 = false
def LtP (a b : Pr) : Prop:=ltL a.1 b.1 = true
theorem insP_perm (x : Pr) : ∀ l,(insP x l).Perm (x :: l)
 | []=>List.Perm.refl _
 | y :: r=>by
  rw [insP]
  split
  ·exact List.Perm.refl _
  exact ((insP_perm x r).cons y).trans (List.Perm.swap x y r)
theorem insP_sorted (x : Pr) : ∀ l,l.Pairwise LeP → (insP x l).Pairwise LeP
 | [],_=>by simp [insP]
 | y :: r,h=>by
  rw [insP]
  have hy:=List.pairwise_cons.1 h
  split
  ·rename_i hxy
   refine List.pairwise_cons.2 ⟨fun z hz=>?_,h⟩
   rcases List.mem_cons.1 hz with rfl|hz
   ·exact ltL_asym hxy
   exact leL_trans (ltL_asym hxy) (hy.1 z hz)
  rename_i hxy
  refine List.pairwise_cons.2 ⟨fun z hz=>?_,insP_sorted x r hy.2⟩
  rcases List.mem_cons.1 ((insP_perm x r).mem_iff.1 hz) with rfl|hz
  ·exact Bool.eq_false_iff.2 hxy
  exact hy.1 z hz
theorem foldP : ∀ (l acc : List Pr),acc.Pairwise LeP → (l.foldl (fun acc x=>insP x acc) acc).Pairwise LeP ∧ (l.foldl (fun acc x=>insP x acc) acc).Perm (acc ++ l)
 | [],acc,h=>⟨h,by simp⟩
 | x :: l,acc,h=>by
  rw [List.foldl_cons]
  have ih:=foldP l (insP x acc) (insP_sorted x acc h)
  refine ⟨ih.1,ih.2.trans ?_⟩
  have h1 : (insP x acc ++ l).Perm ((x :: acc) ++ l):=(insP_perm x acc).append_right l
  exact h1.trans (List.perm_middle (a:=x) (l₁:=acc) (l₂:=l)).symm
theorem sortP_sorted (l : List Pr) : (sortP l).Pairwise LeP:=(foldP l [] List.Pairwise.nil).1
theorem sortP_perm (l : List Pr) : (sortP l).Perm l:=by
 have:=(foldP l [] List.Pairwise.nil).2
 rwa [List.nil_append] at this
theorem uniqP : ∀ (xs ps : List Pr),xs.Perm ps → xs.Pairwise LeP → ps.Pairwise LtP → xs = ps
 | [],ps,h,_,_=>(List.nil_perm.1 h).symm
 | x :: xs,[],h,_,_=>by simpa using h.length_eq
 | x :: xs,p :: ps,h,g,k=>by
  have g':=List.pairwise_cons.1 g
  have k':=List.pairwise_cons.1 k
  have hx : x ∈ p :: ps:=h.mem_iff.1 List.mem_cons_self
  have hp : p ∈ x :: xs:=h.mem_iff.2 List.mem_cons_self
  have e : x = p:=by
   rcases List.mem_cons.1 hx with e|hx
   ·exact e
   rcases List.mem_cons.1 hp with e|hp
   ·exact e.symm
   have h1:=k'.1 x hx
   have h2:=g'.1 p hp
   unfold LtP at h1
   unfold LeP at h2
   rw [h1] at h2
   exact absurd h2 (by simp)
  subst e
  rw [uniqP xs ps (List.Perm.cons_inv h) g'.2 k'.2]
theorem sortP_eq (l ps : List Pr) (h : l.Perm ps) (k : ps.Pairwise LtP) : sortP l = ps:=uniqP _ _ ((sortP_perm l).trans h) (sortP_sorted l) k

/-! What is a name, a value, a label set; its print. -/
def NL : List UInt8:=[95,95,110,97,109,101,95,95]
def nameB : List UInt8 → Bool
 | []=>false
 | c :: r=>isL c && r.all idc && decide (r.length + 1 ≤ 20)
def valB (v : List UInt8) : Bool:=decide (1 ≤ v.length) && decide (v.length ≤ 30) && !v.contains 10
def incr : List Pr → Bool
 | p :: q :: r=>ltL p.1 q.1 && incr (q :: r)
 | _=>true
def isS (ps : List Pr) : Bool:=ps.all (fun p=>nameB p.1 && valB p.2) && incr ps && decide (ps.length ≤ 8)
def getL (ps : List Pr) (n : List UInt8) : List UInt8:=((ps.find? fun p=>p.1 == n).map (·.2)).getD []
def oneP (p : Pr) : List UInt8:=p.1 ++ 61 :: quote p.2
def joinP : List Pr → List UInt8
 | []=>[]
 | [p]=>oneP p
 | p :: q :: r=>oneP p ++ 44 :: joinP (q :: r)
def restP (ps : List Pr) : List Pr:=ps.filter fun p=>!(p.1 == NL)
def printL (ps : List Pr) : List UInt8 :=
 if isS ps then
  if nameB (getL ps NL) then (if restP ps = [] then getL ps NL else getL ps NL ++ 123 :: (joinP (restP ps) ++ [125]))
  else 123 :: (joinP ps ++ [125])
 else []
theorem incr_pair : ∀ ps : List Pr,incr ps = true → ps.Pairwise LtP
 | [],_=>List.Pairwise.nil
 | [p],_=>by simp
 | p :: q :: r,h=>by
  rw [incr,Bool.and_eq_true] at h
  have ih:=incr_pair (q :: r) h.2
  refine List.pairwise_cons.2 ⟨fun z hz=>?_,ih⟩
  rcases List.mem_cons.1 hz with rfl|hz
  ·exact h.1
  exact ltL_trans _ _ _ h.1 ((List.pairwise_cons.1 ih).1 z hz)
structure IsL (ps : List Pr) : Prop where
 each : ∀ p ∈ ps,nameB p.1 = true ∧ valB p.2 = true
 row : ps.Pairwise LtP
 len : ps.length ≤ 8
theorem isS_is (ps : List Pr) (h : isS ps = true) : IsL ps:=by
 unfold isS at h
 rw [Bool.and_eq_true,Bool.and_eq_true,List.all_eq_true,decide_eq_true_eq] at h
 exact ⟨fun p hp=>by have:=h.1.1 p hp;rwa [Bool.and_eq_true] at this,incr_pair ps h.1.2,h.2⟩
/-! Label sets: the two ways in which they are read. -/
def trimC : List UInt8 → List UInt8
 | []=>[]
 | c :: r=>if c = 44 then r else c :: r
theorem trimC_le : ∀ l,(trimC l).length ≤ l.length
 | []=>Nat.le_refl _
 | c :: r=>by
  rw [trimC]
  split
  ·simp
  exact Nat.le_refl _
/-- The program's: what stands between the brackets. -/
def loopC : Nat → List UInt8 → List Pr → Option (List Pr)
 | 0,_,_=>none
 | k + 1,rest,l =>
  if rest = [125] then some l else
  match rest.dropWhile (· != 61) with
  | _ :: 34 :: r =>
   match unq r with
   | none=>none
   | some (v,n)=>if 8 < l.length then none else loopC k (trimC (r.drop n)) (l ++ [(rest.takeWhile (· != 61),v)])
  | _=>none
def dupP : List Pr → Bool
 | p :: q :: r=>p.1 == q.1 || dupP (q :: r)
 | _=>false
def makeL (l : List Pr) : Option (List Pr) :=
 if dupP (sortP l) then none else if isS ((sortP l).filter fun p=>!(p.2 == [])) then some ((sortP l).filter fun p=>!(p.2 == [])) else none
def startL (n : List UInt8) : List Pr:=if n = [] then [] else [(NL,n)]
def readC (s : List UInt8) : Option (List Pr) :=
 match s.dropWhile (· != 123) with
 | []=>some (startL (s.takeWhile (· != 123)))
 | _ :: r=>loopC (s.length + 1) r (startL (s.takeWhile (· != 123)))
def parseC (s : List UInt8) : Option (List Pr) :=
 match (readC s).bind makeL with
 | some out=>if printL out = s then some out else none
 | none=>none
/-- The document's. -/
def loopR : Nat → List UInt8 → List Pr → Option (List Pr)
 | 0,_,_=>none
 | k + 1,t,l =>
  if t = [125] then some l else
  if t.takeWhile idc = [] then none else
  match t.dropWhile idc with
  | 61 :: 34 :: r =>
   match unq r with
   | none=>none
   | some (v,n) =>
    if (10 : UInt8) ∈ v then none else
    if r.drop n = [] ∨ (r.drop n ≠ [125] ∧ (r.drop n).head? ≠ some 44) ∨ r.drop n = [44,125] then none else
    loopR k (trimC (r.drop n)) (l ++ [(t.takeWhile idc,v)])
  | _=>none
def readR (s : List UInt8) : Option (List Pr) :=
 match s.dropWhile idc with
 | []=>some (startL (s.takeWhile idc))
 | c :: t=>if c = 123 then loopR (s.length + 1) t (startL (s.takeWhile idc)) else none
def parseR (s : List UInt8) : Option (List Pr) :=
 match readR s with
 | some l=>if isS (sortP l) ∧ printL (sortP l) = s then some (sortP l) else none
 | none=>none

theorem name_idc {l : List UInt8} (h : nameB l = true) : l.all idc = true ∧ l ≠ []:=by
 cases l with
 | nil=>simp [nameB] at h
 | cons c r =>
  rw [nameB,Bool.and_eq_true,Bool.and_eq_true] at h
  refine ⟨?_,by simp⟩
  rw [List.all_cons,h.1.2,Bool.and_true]
  unfold idc
  rw [h.1.1]
  rfl
theorem idc_ne {l : List UInt8} (h : l.all idc = true) (x : UInt8) (hx : idc x = false) : l.all (· != x) = true:=by
 rw [List.all_eq_true] at h ⊢
 intro c hc
 have:=h c hc
 rw [bne_iff_ne]
 rintro rfl
 rw [this] at hx
 exact absurd hx (by simp)
theorem tw_stop {p : UInt8 → Bool} (a b : List UInt8) (x : UInt8) (ha : a.all p = true) (hx : p x = false) : (a ++ x :: b).takeWhile p = a ∧ (a ++ x :: b).dropWhile p = x :: b:=by
 rw [List.all_eq_true] at ha
 rw [List.takeWhile_append_of_pos ha,List.dropWhile_append_of_pos ha,List.takeWhile_cons,List.dropWhile_cons,hx]
 simp
theorem tw_whole {p : UInt8 → Bool} (a : List UInt8) (ha : a.all p = true) : a.takeWhile p = a ∧ a.dropWhile p = []:=by
 rw [List.all_eq_true] at ha
 have h1:=List.takeWhile_append_of_pos (l₂:=[]) ha
 have h2:=List.dropWhile_append_of_pos (l₂:=[]) ha
 rw [List.append_nil,List.takeWhile_nil,List.append_nil] at h1
 rw [List.append_nil,List.dropWhile_nil] at h2
 exact ⟨h1,h2⟩
def tailP (r : List Pr) : List UInt8:=if r = [] then [125] else 44 :: (joinP r ++ [125])
theorem join_cons (p : Pr) (r : List Pr) : joinP (p :: r) ++ [125] = p.1 ++ 61 :: 34 :: (quoteB p.2 ++ 34 :: tailP r):=by
 cases r with
 | nil=>simp [joinP,oneP,quote,tailP]
 | cons q r=>simp [joinP,oneP,quote,tailP]
theorem trim_tail (r : List Pr) : trimC (tailP r) = joinP r ++ [125]:=by
 unfold tailP
 split
 ·rename_i h
  subst h
  rfl
 rfl
theorem drop_quote (v m : List UInt8) : (quoteB v ++ 34 :: m).drop ((quoteB v).length + 1) = m:=by
 rw [← List.drop_drop,List.drop_left]
 rfl
theorem loopC_ok : ∀ (rest l : List Pr) (k : Nat),(∀ p ∈ rest,nameB p.1 = true ∧ valB p.2 = true) → l.length + rest.length ≤ 9 → rest.length < k → loopC k (joinP rest ++ [125]) l = some (l ++ rest)
 | [],l,k + 1,_,_,_=>by
  rw [loopC,if_pos (show joinP [] ++ [125] = [125] from rfl),List.append_nil]
 | p :: r,l,k + 1,h,hl,hk=>by
  have hp:=name_idc (h p List.mem_cons_self).1
  rw [List.length_cons] at hl hk
  have hne : ¬ (p.1 ++ 61 :: 34 :: (quoteB p.2 ++ 34 :: tailP r)) = [125]:=by
   intro e
   have:=congrArg List.length e
   simp at this
   omega
  have hw:=tw_stop p.1 (34 :: (quoteB p.2 ++ 34 :: tailP r)) 61 (idc_ne hp.1 61 (by decide)) (by decide)
  rw [join_cons,loopC,if_neg hne,hw.2,hw.1]
  simp only [unq_quote]
  rw [if_neg (by omega),drop_quote,trim_tail,loopC_ok r (l ++ [(p.1,p.2)]) k (fun q hq=>h q (List.mem_cons_of_mem _ hq)) (by rw [List.length_append,List.length_singleton];omega) (by omega),List.append_assoc]
  rfl
theorem loopR_ok : ∀ (rest l : List Pr) (k : Nat),(∀ p ∈ rest,nameB p.1 = true ∧ valB p.2 = true) → rest.length < k → loopR k (joinP rest ++ [125]) l = some (l ++ rest)
 | [],l,k + 1,_,_=>by
  rw [loopR,if_pos (show joinP [] ++ [125] = [125] from rfl),List.append_nil]
 | p :: r,l,k + 1,h,hk=>by
  have hp:=name_idc (h p List.mem_cons_self).1
  have hv:=(h p List.mem_cons_self).2
  have h10 : (10 : UInt8) ∉ p.2:=by
   unfold valB at hv
   rw [Bool.and_eq_true,Bool.not_eq_true'] at hv
   have:=hv.2
   intro hm
   rw [List.contains_iff_mem.2 hm] at this
   exact absurd this (by simp)
  rw [List.length_cons] at hk
  have hne : ¬ (p.1 ++ 61 :: 34 :: (quoteB p.2 ++ 34 :: tailP r)) = [125]:=by
   intro e
   have:=congrArg List.length e
   simp at this
   omega
  have hw:=tw_stop p.1 (34 :: (quoteB p.2 ++ 34 :: tailP r)) 61 hp.1 (by decide)
  have ht : ¬ (tailP r = [] ∨ (tailP r ≠ [125] ∧ (tailP r).head? ≠ some 44) ∨ tailP r = [44,125]):=by
   unfold tailP
   split
   ·simp
   rename_i hr
   cases r with
   | nil=>exact absurd rfl hr
   | cons q r =>
    rw [join_cons]
    have hq:=(name_idc (h q (by simp)).1).2
    cases e : q.1 with
    | nil=>exact absurd e hq
    | cons c m=>simp
  rw [join_cons,loopR,if_neg hne,hw.2,hw.1,if_neg hp.2]
  simp only [unq_quote]
  rw [if_neg h10,drop_quote,if_neg ht,trim_tail,loopR_ok r (l ++ [(p.1,p.2)]) k (fun q hq=>h q (List.mem_cons_of_mem _ hq)) (by omega),List.append_assoc]
  rfl

/-! A label set's print is read as it is, either way. -/
theorem filter_none : ∀ (ps : List Pr),(∀ p ∈ ps,p.1 ≠ NL) → restP ps = ps:=by
 intro ps h
 unfold restP
 rw [List.filter_eq_self]
 intro p hp
 simpa using h p hp
theorem find_perm : ∀ (ps : List Pr),ps.Pairwise LtP → ∀ v,getL ps NL = v → v ≠ [] → ((NL,v) :: restP ps).Perm ps
 | [],_,v,h,hv=>absurd h.symm (by simpa [getL] using hv)
 | q :: r,hp,v,h,hv=>by
  have hp':=List.pairwise_cons.1 hp
  by_cases e : q.1 = NL
  ·have hf : restP (q :: r) = r:=by
    unfold restP
    rw [List.filter_cons,if_neg (by simp [e])]
    refine filter_none r fun p hpr hpn=>?_
    have:=hp'.1 p hpr
    unfold LtP at this
    rw [hpn,e,ltL_irr] at this
    exact absurd this (by simp)
   have hg : getL (q :: r) NL = q.2:=by
    unfold getL
    rw [List.find?_cons_of_pos (by simp [e])]
    rfl
   rw [hf]
   rw [hg] at h
   have : (NL,v) = q:=by rw [← h,← e]
   rw [this]
  have hg : getL (q :: r) NL = getL r NL:=by
   unfold getL
   rw [List.find?_cons_of_neg (by simp [e])]
  have hf : restP (q :: r) = q :: restP r:=by
   unfold restP
   rw [List.filter_cons,if_pos (by simp [e])]
  rw [hf]
  exact (List.Perm.swap q (NL,v) (restP r)).trans ((find_perm r hp'.2 v (hg ▸ h) hv).cons q)
theorem rest_each {ps : List Pr} (h : ∀ p ∈ ps,nameB p.1 = true ∧ valB p.2 = true) : ∀ p ∈ restP ps,nameB p.1 = true ∧ valB p.2 = true:=fun p hp=>h p (List.mem_filter.1 hp).1
theorem dup_none : ∀ ps : List Pr,ps.Pairwise LtP → dupP ps = false
 | [],_=>rfl
 | [p],_=>rfl
 | p :: q :: r,h=>by
  have h':=List.pairwise_cons.1 h
  have:=h'.1 q List.mem_cons_self
  rw [dupP,dup_none (q :: r) h'.2,Bool.or_false,beq_eq_false_iff_ne]
  intro e
  unfold LtP at this
  rw [e,ltL_irr] at this
  exact absurd this (by simp)
theorem make_ok (l ps : List Pr) (hs : isS ps = true) (h : l.Perm ps) : makeL l = some ps:=by
 have hi:=isS_is ps hs
 have he : sortP l = ps:=sortP_eq l ps h hi.row
 have hf : ps.filter (fun p=>!(p.2 == [])) = ps:=by
  rw [List.filter_eq_self]
  intro p hp
  have:=(hi.each p hp).2
  unfold valB at this
  cases e : p.2 with
  | nil=>rw [e] at this;simp at this
  | cons c r=>rfl
 unfold makeL
 rw [he,hf,dup_none ps hi.row,if_neg (by simp),if_pos hs]
theorem readC_ok (ps : List Pr) (hs : isS ps = true) : ∃ l,readC (printL ps) = some l ∧ l.Perm ps:=by
 have hi:=isS_is ps hs
 unfold printL
 rw [if_pos hs]
 by_cases hn : nameB (getL ps NL) = true
 ·rw [if_pos hn]
  have hd:=name_idc hn
  have hperm:=find_perm ps hi.row _ rfl hd.2
  have hst : startL (getL ps NL) = [(NL,getL ps NL)]:=if_neg hd.2
  have hlen:=hperm.length_eq
  rw [List.length_cons] at hlen
  have hl8:=hi.len
  have h123:=idc_ne hd.1 123 (by decide)
  by_cases hr : restP ps = []
  ·rw [if_pos hr]
   refine ⟨[(NL,getL ps NL)],?_,by rw [hr] at hperm;exact hperm⟩
   have hw:=tw_whole _ h123
   unfold readC
   rw [hw.2,hw.1,hst]
  rw [if_neg hr]
  refine ⟨(NL,getL ps NL) :: restP ps,?_,hperm⟩
  have hw:=tw_stop _ (joinP (restP ps) ++ [125]) 123 h123 (by decide)
  unfold readC
  rw [hw.2,hw.1,hst]
  exact loopC_ok (restP ps) [(NL,getL ps NL)] _ (rest_each hi.each) (by rw [List.length_singleton];omega) (by
   have : (restP ps).length ≤ (joinP (restP ps)).length:=by
    generalize restP ps = r
    induction r with
    | nil=>simp
    | cons p r ih =>
     have e:=congrArg List.length (join_cons p r)
     have hq : (joinP r).length ≤ (tailP r).length:=by unfold tailP;split <;> simp_all [joinP] <;> omega
     simp only [List.length_append,List.length_cons,List.length_nil] at e ⊢
     omega
   simp only [List.length_append,List.length_cons,List.length_nil]
   omega)
 rw [if_neg hn]
 refine ⟨ps,?_,List.Perm.refl _⟩
 unfold readC
 rw [List.takeWhile_cons,List.dropWhile_cons]
 exact loopC_ok ps [] _ hi.each (by rw [List.length_nil];have:=hi.len;omega) (by
   have : ps.length ≤ (joinP ps).length:=by
    generalize ps = r
    induction r with
    | nil=>simp
    | cons p r ih =>
     have e:=congrArg List.length (join_cons p r)
     have hq : (joinP r).length ≤ (tailP r).length:=by unfold tailP;split <;> simp_all [joinP] <;> omega
     simp only [List.length_append,List.length_cons,List.length_nil] at e ⊢
     omega
   simp only [List.length_append,List.length_cons,List.length_nil]
   omega)
theorem joinP_len (r : List Pr) : r.length ≤ (joinP r).length:=by
 induction r with
 | nil=>simp
 | cons p r ih =>
  have e:=congrArg List.length (join_cons p r)
  have hq : (joinP r).length ≤ (tailP r).length:=by unfold tailP;split <;> simp_all [joinP] <;> omega
  simp only [List.length_append,List.length_cons,List.length_nil] at e ⊢
  omega
theorem readR_ok (ps : List Pr) (hs : isS ps = true) : ∃ l,readR (printL ps) = some l ∧ l.Perm ps:=by
 have hi:=isS_is ps hs
 unfold printL
 rw [if_pos hs]
 by_cases hn : nameB (getL ps NL) = true
 ·rw [if_pos hn]
  have hd:=name_idc hn
  have hperm:=find_perm ps hi.row _ rfl hd.2
  have hst : startL (getL ps NL) = [(NL,getL ps NL)]:=if_neg hd.2
  by_cases hr : restP ps = []
  ·rw [if_pos hr]
   refine ⟨[(NL,getL ps NL)],?_,by rw [hr] at hperm;exact hperm⟩
   have hw:=tw_whole _ hd.1
   unfold readR
   rw [hw.2,hw.1,hst]
  rw [if_neg hr]
  refine ⟨(NL,getL ps NL) :: restP ps,?_,hperm⟩
  have hw:=tw_stop _ (joinP (restP ps) ++ [125]) 123 hd.1 (by decide)
  unfold readR
  rw [hw.2,hw.1,hst]
  show (if (123 : UInt8) = 123 then _ else _) = _
  rw [if_pos rfl]
  exact loopR_ok (restP ps) [(NL,getL ps NL)] _ (rest_each hi.each) (by
   have:=joinP_len (restP ps)
   simp only [List.length_append,List.length_cons,List.length_nil]
   omega)
 rw [if_neg hn]
 refine ⟨ps,?_,List.Perm.refl _⟩
 unfold readR
 rw [List.takeWhile_cons,List.dropWhile_cons]
 exact loopR_ok ps [] _ hi.each (by
   have:=joinP_len ps
   simp only [List.length_append,List.length_cons,List.length_nil]
   omega)
theorem parseC_ok (ps : List Pr) (hs : isS ps = true) : parseC (printL ps) = some ps:=by
 obtain ⟨l,h,hp⟩:=readC_ok ps hs
 unfold parseC
 rw [h,Option.bind_some,make_ok l ps hs hp]
 exact if_pos rfl
theorem parseR_ok (ps : List Pr) (hs : isS ps = true) : parseR (printL ps) = some ps:=by
 obtain ⟨l,h,hp⟩:=readR_ok ps hs
 have hi:=isS_is ps hs
 unfold parseR
 rw [h]
 simp only [sortP_eq l ps hp hi.row]
 rw [if_pos ⟨hs,trivial⟩]
theorem make_is (l ps : List Pr) (h : makeL l = some ps) : isS ps = true:=by
 unfold makeL at h
 split at h
 ·simp at h
 split at h
 ·rename_i hs
  rw [← Option.some.inj h]
  exact hs
 simp at h
theorem parseC_is (s : List UInt8) (ps : List Pr) (h : parseC s = some ps) : isS ps = true ∧ printL ps = s:=by
 unfold parseC at h
 split at h
 ·rename_i out ho
  split at h
  ·rename_i hp
   have:=Option.some.inj h
   subst this
   cases e : readC s with
   | none=>rw [e] at ho;simp at ho
   | some l=>rw [e,Option.bind_some] at ho;exact ⟨make_is l _ ho,hp⟩
  simp at h
 simp at h
theorem parseR_is (s : List UInt8) (ps : List Pr) (h : parseR s = some ps) : isS ps = true ∧ printL ps = s:=by
 unfold parseR at h
 split at h
 ·split at h
  ·rename_i hp
   rw [← Option.some.inj h]
   exact hp
  simp at h
 simp at h
/-- The program and the document read the same label sets. -/
theorem parse_same (s : List UInt8) : parseC s = parseR s:=by
 cases e : parseC s with
 | some ps =>
  obtain ⟨h,rfl⟩:=parseC_is s ps e
  rw [parseR_ok ps h]
 | none =>
  cases e2 : parseR s with
  | none=>rfl
  | some ps =>
   obtain ⟨h,rfl⟩:=parseR_is s ps e2
   rw [parseC_ok ps h] at e
   exact absurd e (by simp)
end Go.Proofs.YtfgffjchphignaaGreatDoor.PureN
end
section
namespace Go.Proofs.YtfgffjchphignaaGreatDoor.Print
open Go.Sort Go.Shelf PureN
open Go.RowKit Go.Proofs.YtfgffjchphignaaGreatDoorX Go.Proofs.YtfgffjchphignaaGreatDoorW.PrintWords Go.Proofs.YtfgffjchphignaaGreatDoorW.PrintLast Go.Proofs.YtfgffjchphignaaGreatDoorW.PrintMore
/-! The order of names. -/
theorem cmp_lt : ∀ a b : List UInt8,decide (Lib.compareBytes a b < 0) = ltL a b
 | [],[]=>rfl
 | [],_ :: _=>rfl
 | _ :: _,[]=>rfl
 | a :: l,b :: m=>by
  unfold Lib.compareBytes ltL
  by_cases h : a < b
  ·have h' : a.toNat < b.toNat:=h
   rw [if_pos h,decide_eq_true h',Bool.true_or]
   rfl
  have h' : ¬ a.toNat < b.toNat:=h
  rw [if_neg h,decide_eq_false h',Bool.false_or]
  by_cases g : b < a
  ·have g' : b.toNat < a.toNat:=g
   have : a ≠ b:=fun e=>by subst e;exact h g
   rw [if_pos g,beq_eq_false_iff_ne.2 this]
   rfl
  have g' : ¬ b.toNat < a.toNat:=g
  have e : a = b:=UInt8.toNat_inj.1 (by omega)
  rw [if_neg g,beq_iff_eq.2 e,Bool.true_and]
  exact cmp_lt l m
def pr (x : S60) : Pr:=(x.f0.data.toList,x.f1.data.toList)
def ofPr (p : Pr) : S60:=⟨⟨p.1.toArray⟩,⟨p.2.toArray⟩⟩
theorem of_pr (x : S60) : ofPr (pr x) = x:=rfl
theorem ltOf_cfP (x y : S60) : ltOf cfP x y = ltL (pr x).1 (pr y).1:=cmp_lt _ _
theorem swoP : SWO (ltOf cfP) where
 irrefl x:=by rw [ltOf_cfP];exact ltL_irr _
 trans x y z h g:=by rw [ltOf_cfP] at *;exact ltL_trans _ _ _ h g
 ntrans x y z h g:=by rw [ltOf_cfP] at *;exact leL_trans g h

/-! slices.SortStableFunc by names, at nineteen pairs or fewer. -/
def insP0 (xs : List S60) : List S60:=(insertionSort (ltOf cfP) xs.toArray 0 xs.length).toList
theorem ins_stmt (xs : List S60) : (insP0 xs).length = xs.length:=by
 have:=(insertionSort_holds (lt:=ltOf cfP) swoP xs.toArray 0 xs.length (Nat.zero_le _) (by simp)).1.1
 unfold insP0
 rw [Array.length_toList,this]
 simp
theorem ins_calls (blk cap : Nat) (xs : List S60) (w : World) (h : RowP w blk cap xs) (hn : xs.length ≤ 1000) :
  Calls Tryz.prog 159 #[.slice (some ⟨blk,0,none⟩) xs.length cap,.int .i64 0,.int .i64 xs.length,.func (.func 96) #[] #[]] w fun e w'=>e = .returned (.tuple #[]) ∧ RowP w' blk cap (insP0 xs) ∧ w.grownBy w' (some blk):=by
 have eg : ∀ args w,(callFunc 96 args).run Tryz.prog w = .ok (.enter 96 args) w:=enters_of Tryz.func96 (by kernel_rfl) rfl
 have hcon:=AnyQ.insertionSortCmpFunc Tryz.lgIns 2 Tryz.isAgg60 Tryz.sizeOf60 encP (fun _=>rfl) encP_one cfP 96 #[] blk 0 cap 0 xs.toArray.size xs.toArray w eg (cmpLays blk 0 _ w) h.holds h.lt (Nat.zero_le _) (Nat.le_refl _) (by simp;omega)
 change Calls Tryz.prog 159 _ _ _ at hcon
 rw [show xs.toArray.size = xs.length by simp] at hcon
 refine hcon.mono ?_
 rintro e w' ⟨rfl,n,os,rfl⟩
 refine ⟨rfl,?_⟩
 have hs:=h.sorted (ts:=insP0 xs) (ins_stmt xs) n os
 have e : (insP0 xs).toArray = insertionSort (ltOf cfP) xs.toArray 0 xs.length:=by unfold insP0;simp
 rw [e] at hs
 exact hs
theorem insP0_perm (xs : List S60) : (insP0 xs).Perm xs:=by
 have:=(insertionSort_holds (lt:=ltOf cfP) swoP xs.toArray 0 xs.length (Nat.zero_le _) (by simp)).1
 have h2:=this.2.2
 have h1 : (insertionSort (ltOf cfP) xs.toArray 0 xs.length).size = xs.length:=by rw [this.1];simp
 rw [Array.extract_eq_self_of_le (by omega),Array.extract_eq_self_of_le (by simp)] at h2
 exact h2
theorem insP0_sorted (xs : List S60) : ((insP0 xs).map pr).Pairwise LeP:=by
 have h:=insertionSort_holds (lt:=ltOf cfP) swoP xs.toArray 0 xs.length (Nat.zero_le _) (by simp)
 have hl:=ins_stmt xs
 have h2:=h.2
 rw [List.pairwise_map,List.pairwise_iff_getElem]
 intro i j hi hj hij
 have:=h2 i j (Nat.zero_le _) hij (by omega)
 have e : ∀ k (hk : k < (insP0 xs).length),(insertionSort (ltOf cfP) xs.toArray 0 xs.length)[k]! = (insP0 xs)[k]:=fun k hk=>by
  have hk' : k < (insertionSort (ltOf cfP) xs.toArray 0 xs.length).size:=by unfold insP0 at hk;simpa using hk
  rw [getElem!_pos _ k hk']
  exact (Array.getElem_toList (h:=hk')).symm
 rw [e i hi,e j hj,ltOf_cfP] at this
 exact this
theorem ins_none (p : Option Addr) (cap : Nat) (fv : Value) (w : World) :
  Calls Tryz.prog 159 #[.slice p 0 cap,.int .i64 0,.int .i64 0,fv] w fun e w'=>e = .returned (.tuple #[]) ∧ w' = w:=by
 go_enter Tryz.func159,Tryz.ntmps159
 go_wp2
 refine wp_loop_rounds 1 ?_
 rw [rounds_succ]
 go_wp2
 go_end0
 exact ⟨rfl,rfl⟩
set_option maxHeartbeats 2000000 in
theorem stable_calls (blk cap : Nat) (xs : List S60) (w : World) (h : RowP w blk cap xs) (hn : xs.length ≤ 19) :
  Calls Tryz.prog 129 #[.slice (some ⟨blk,0,none⟩) xs.length cap,.int .i64 xs.length,.func (.func 96) #[] #[]] w fun e w'=>e = .returned (.tuple #[]) ∧ RowP w' blk cap (insP0 xs) ∧ w.grownBy w' (some blk):=by
 have hcon:=ins_calls blk cap xs w h (by omega)
 have d1 : decide ((20 : Int) ≤ (xs.length : Int)) = false:=decide_eq_false (by omega)
 have d2 : decide ((20 : Int) < (xs.length : Int)) = false:=decide_eq_false (by omega)
 clear h hn
 go_enter Tryz.func129,Tryz.ntmps129
 go_wp2_with fail
 refine wp_loop_rounds 1 ?_
 rw [rounds_succ]
 go_wp2_with (go_at_call 159;refine hcon.mono ?_;rintro e w' ⟨rfl,hr,hg⟩)
 refine wp_loop_rounds 1 ?_
 rw [rounds_succ]
 go_wp2
 go_end0
 exact ⟨rfl,hr,hg⟩
set_option maxHeartbeats 2000000 in
theorem stable_none (p : Option Addr) (cap : Nat) (fv : Value) (w : World) :
  Calls Tryz.prog 129 #[.slice p 0 cap,.int .i64 0,fv] w fun e w'=>e = .returned (.tuple #[]) ∧ w' = w:=by
 have hcon:=fun fv W=>ins_none p cap fv W
 go_enter Tryz.func129,Tryz.ntmps129
 go_wp2_with fail
 refine wp_loop_rounds 1 ?_
 rw [rounds_succ]
 go_wp2_with (go_at_call 159;refine (hcon _ _).mono ?_;rintro e w' ⟨rfl,rfl⟩)
 refine wp_loop_rounds 1 ?_
 rw [rounds_succ]
 go_wp2
 go_end0
 exact ⟨rfl,rfl⟩
theorem sst_calls (blk cap : Nat) (xs : List S60) (w : World) (h : RowP w blk cap xs) (hn : xs.length ≤ 19) :
  Calls Tryz.prog 95 #[.slice (some ⟨blk,0,none⟩) xs.length cap,.func (.func 96) #[] #[]] w fun e w'=>e = .returned (.tuple #[]) ∧ RowP w' blk cap (insP0 xs) ∧ w.grownBy w' (some blk):=by
 have hcon:=stable_calls blk cap xs w h hn
 clear h hn
 go_enter Tryz.func95,Tryz.ntmps95
 go_wp2_with (go_at_call 129;refine hcon.mono ?_;rintro e w' ⟨rfl,hr,hg⟩)
 go_end0
 exact ⟨rfl,hr,hg⟩
theorem sst_none (p : Option Addr) (cap : Nat) (fv : Value) (w : World) :
  Calls Tryz.prog 95 #[.slice p 0 cap,fv] w fun e w'=>e = .returned (.tuple #[]) ∧ w' = w:=by
 have hcon:=fun fv W=>stable_none p cap fv W
 go_enter Tryz.func95,Tryz.ntmps95
 go_wp2_with (go_at_call 129;refine (hcon _ _).mono ?_;rintro e w' ⟨rfl,rfl⟩)
 go_end0
 exact ⟨rfl,rfl⟩
/-! slices.DeleteFunc at pairs. -/
theorem RowP.set {w : World} {blk cap : Nat} {xs : List S60} (h : RowP w blk cap xs) (i : Nat) (hi : i < xs.length) (y : S60) :
  RowP ((w.setCell ⟨blk,i * 2,none⟩ (.string y.f0)).setCell ⟨blk,i * 2 + 1,none⟩ (.string y.f1)) blk cap (xs.set i y):=by
 obtain ⟨cur,hc,hs,ht,hn⟩:=h.ex
 refine ⟨_,blk_set (blk_set hc (i * 2) _) (i * 2 + 1) _,by simp [hs],?_,by simpa using hn⟩
 apply List.ext_getElem?
 intro t
 have hlen : xs.length * 2 ≤ cur.size:=by omega
 by_cases htl : t < xs.length * 2
 ·have hj : t / 2 < xs.length:=by omega
  rw [List.length_set,List.getElem?_take_of_lt htl,Array.getElem?_toList,Array.getElem?_setIfInBounds,Array.getElem?_setIfInBounds,Array.size_setIfInBounds]
  have hg:=flatP_get (xs.set i y) (t / 2) (by simpa using hj)
  have h0:=flatP_get xs (t / 2) hj
  rw [← ht,List.getElem?_take_of_lt (by omega),List.getElem?_take_of_lt (by omega),Array.getElem?_toList,Array.getElem?_toList] at h0
  have hgd : ∀ (q : Nat),q < xs.length → (xs.set i y).getD q z60 = if q = i then y else xs.getD q z60:=fun q hq=>by
   rw [List.getD_eq_getElem?_getD,List.getElem?_set]
   by_cases e : i = q
   ·subst e;simp [hq]
   rw [if_neg e,if_neg (fun e'=>e e'.symm),List.getD_eq_getElem?_getD]
  rw [hgd _ hj] at hg
  rcases Nat.mod_two_eq_zero_or_one t with hm|hm
  ·have et : t = t / 2 * 2:=by omega
   rw [← et] at hg h0
   rw [hg.1,if_neg (by omega)]
   by_cases e : t / 2 = i
   ·subst e
    rw [if_pos (by omega),if_pos (by omega),if_pos rfl]
   rw [if_neg (by omega),if_neg e,h0.1]
  have et : t = t / 2 * 2 + 1:=by omega
  rw [← et] at hg h0
  rw [hg.2]
  by_cases e : t / 2 = i
  ·subst e
   rw [if_pos (by omega),if_pos (by omega),if_pos rfl]
  rw [if_neg (by omega),if_neg (by omega),if_neg e,h0.2]
 rw [List.length_set,List.getElem?_take_eq_none (by omega),List.getElem?_eq_none (by rw [flatP_len];simp;omega)]
theorem grown_set {w W : World} {blk : Nat} (h : w.grownBy W (some blk)) (p : Addr) (hp : p.block = blk) (u : Value) : w.grownBy (W.setCell p u) (some blk) :=
 ⟨h.os,h.tape,h.output,by have:=h.size;simpa [World.setCell] using this,fun k hk hne=>by
  rw [Below.heap_setCell W p u k (fun e=>hne (by rw [e,hp]))]
  exact h.block k hk hne⟩
theorem grown_below {w W W2 : World} {blk : Nat} (h : w.grownBy W (some blk)) (hb : Below W.heap.size W W2) : w.grownBy W2 (some blk):=h.trans (grown_of_below hb _)
theorem grown_alloc {w W : World} {blk : Nat} (h : w.grownBy W (some blk)) (o : Obj) : w.grownBy (W.alloc o) (some blk):=grown_below h (below_alloc (Below.refl _ _) o)
def PredG (g : Nat) (lb : Array Value) (p : S60 → Bool) (blk : Nat) (w : World) : Prop :=
 ∀ W x,w.grownBy W (some blk) → Calls Tryz.prog g (#[.agg #[.string x.f0,.string x.f1]] ++ lb) W fun e w'=>e = .returned (.bool (p x)) ∧ Below W.heap.size W w'
theorem idx_calls (p : S60 → Bool) (g : Nat) (lb : Array Value) (blk cap : Nat) (xs : List S60) (w : World)
  (eg : ∀ args w,(callFunc g args).run Tryz.prog w = .ok (.enter g args) w) (hp : PredG g lb p blk w) (h : RowP w blk cap xs) (hsz : xs.length ≤ 1000) :
  Calls Tryz.prog 131 #[.slice (some ⟨blk,0,none⟩) xs.length cap,.func (.func g) #[] lb] w fun e w'=>e = .returned (.int .i64 (Lib.idxBy (fun _ y=>p y) xs default)) ∧ Below w.heap.size w w':=by
 have hpb : PredBelow Tryz.prog g lb (fun x=>.agg (encP x).toArray) p w:=fun W x hb=>by
  refine (hp W x (grown_of_below hb _)).mono ?_
  rintro e w' ⟨rfl,hb'⟩
  exact ⟨rfl,hb.trans (hb'.mono hb.size)⟩
 have hcon:=AnyQ.slices_IndexFunc Tryz.lgIdx 2 Tryz.isAgg60 Tryz.sizeOf60 encP (fun _=>rfl) p g lb eg blk 0 xs.length cap xs w hpb (Nat.le_refl _) (by omega) h.lt (fun j hj i v hi=>by
  have hc:=h.cell j hj
  have e : xs[j]! = xs.getD j z60:=by rw [getElem!_pos xs j hj,List.getD_eq_getElem?_getD,List.getElem?_eq_getElem hj];rfl
  rw [e] at hi
  rw [Nat.zero_add]
  match i,hi with
  | 0,hi=>simp [encP] at hi;rw [← hi];exact hc.1
  | 1,hi=>simp [encP] at hi;rw [← hi];exact hc.2
  | i + 2,hi=>simp [encP] at hi)
 change Calls Tryz.prog 131 _ _ _ at hcon
 rw [List.take_length] at hcon
 exact hcon
theorem RowP.take {w : World} {blk cap : Nat} {xs : List S60} (h : RowP w blk cap xs) (i : Nat) : RowP w blk cap (xs.take i):=by
 obtain ⟨cur,hc,hs,ht,hn⟩:=h.ex
 refine ⟨cur,hc,hs,?_,by rw [List.length_take];omega⟩
 have e : flatP xs = flatP (xs.take i) ++ flatP (xs.drop i):=by rw [← flatP_app,List.take_append_drop]
 have h1 : ((cur.toList.take (xs.length * 2)).take ((xs.take i).length * 2)) = flatP (xs.take i):=by
  rw [ht,e,← flatP_len (xs.take i),List.take_left]
 rw [List.take_take,Nat.min_eq_left (by rw [List.length_take];omega)] at h1
 exact h1
theorem RowP.setCells {blk cap : Nat} {xs : List S60} : ∀ (vs : List Value) (o : Nat) (w : World),xs.length * 2 ≤ o → RowP w blk cap xs → RowP (w.setCells blk o vs) blk cap xs
 | [],_,_,_,h=>h
 | v :: r,o,w,ho,h=>by
  refine RowP.setCells r (o + 1) _ (by omega) ?_
  obtain ⟨cur,hc,hs,ht,hn⟩:=h.ex
  refine ⟨_,blk_set hc o v,by simp [hs],?_,hn⟩
  rw [← ht]
  apply List.ext_getElem?
  intro t
  by_cases htl : t < xs.length * 2
  ·rw [List.getElem?_take_of_lt htl,List.getElem?_take_of_lt htl,Array.getElem?_toList,Array.getElem?_toList,Array.getElem?_setIfInBounds,if_neg (by omega)]
  rw [List.getElem?_take_eq_none (by omega),List.getElem?_take_eq_none (by omega)]
theorem grown_setCells {w : World} {blk : Nat} : ∀ (vs : List Value) (o : Nat) (W : World),w.grownBy W (some blk) → w.grownBy (W.setCells blk o vs) (some blk)
 | [],_,_,h=>h
 | v :: r,o,W,h=>grown_setCells r (o + 1) _ (grown_set h _ rfl v)
theorem run_clear60 (w : World) (b cap : Nat) (ys : List S60) (h : RowP w b cap ys) (i : Nat) (hi : i < ys.length) (c ty : Nat) :
  (Builtin.clear_ #[30] ty #[.slice (some ⟨b,i * 2,none⟩) (ys.length - i) c]).run Tryz.prog w = .ok (.tuple #[]) (w.setCells b (i * 2) (List.replicate ((ys.length - i) * 2) (.string ⟨#[]⟩))):=by
 obtain ⟨cur,hc,hs,ht,hn⟩:=h.ex
 have hzc : ∀ n,(Builtin.zeroCells #[.string (⟨#[]⟩ : ByteArray),.string ⟨#[]⟩] n).toList = List.replicate (n * 2) (.string ⟨#[]⟩):=fun n=>by
  simp [Builtin.zeroCells]
  apply List.ext_getElem
  ·simp
  intro j h1 h2
  simp
  rcases Nat.mod_two_eq_zero_or_one j with hm|hm <;> simp [hm]
 have hst:=run_storeCells_cells (P:=Tryz.prog) b (i * 2) (List.replicate ((ys.length - i) * 2) (.string ⟨#[]⟩)) 0 w (fun j hj=>by
  rw [List.length_replicate] at hj
  rw [blk_cell hc]
  simp
  omega) (fun j hj=>blk_frozen hc _) (by intro v hv';rw [List.eq_of_mem_replicate hv'];rfl)
 simp only [Nat.add_zero] at hst
 obtain ⟨m,hm⟩ : ∃ m,ys.length - i = m + 1:=⟨ys.length - i - 1,by omega⟩
 rw [hm] at hst ⊢
 have hv:=Tryz.zeroValue60
 simp [Builtin.clear_,run_underlying Tryz.underlying30,hv,Value.cells,hzc,hst]
/-! slices.DeleteFunc at pairs: the walk. -/
structure DelI (p : S60 → Bool) (xs ys : List S60) (i j : Nat) : Prop where
 lt : i < j
 le : j ≤ xs.length
 len : ys.length = xs.length
 low : ys.take i = (xs.take j).filter fun x=>!p x
 high : ys.drop j = xs.drop j
theorem DelI.cnt {p : S60 → Bool} {xs ys : List S60} {i j : Nat} (h : DelI p xs ys i j) : i = ((xs.take j).filter fun x=>!p x).length:=by
 rw [← h.low,List.length_take,h.len]
 have:=h.lt
 have:=h.le
 omega
theorem DelI.elem {p : S60 → Bool} {xs ys : List S60} {i j : Nat} (h : DelI p xs ys i j) (hj : j < xs.length) : ys.getD j z60 = xs.getD j z60:=by
 have e : (ys.drop j)[0]? = (xs.drop j)[0]?:=by rw [h.high]
 rw [List.getElem?_drop,List.getElem?_drop,Nat.add_zero] at e
 rw [List.getD_eq_getElem?_getD,List.getD_eq_getElem?_getD,e]
theorem take_succ_getD (xs : List S60) (j : Nat) (hj : j < xs.length) : xs.take (j + 1) = xs.take j ++ [xs.getD j z60]:=by
 rw [List.take_succ_eq_append_getElem hj,List.getD_eq_getElem?_getD,List.getElem?_eq_getElem hj]
 rfl
theorem DelI.keep {p : S60 → Bool} {xs ys : List S60} {i j : Nat} (h : DelI p xs ys i j) (hj : j < xs.length) (hp : p (xs.getD j z60) = false) : DelI p xs (ys.set i (xs.getD j z60)) (i + 1) (j + 1):=by
 have h1:=h.lt
 have h2:=h.len
 refine ⟨by omega,hj,by simpa using h2,?_,?_⟩
 ·rw [take_succ_getD xs j hj,List.filter_append,← h.low]
  simp only [List.filter_cons,hp,Bool.not_false,if_true,List.filter_nil]
  rw [take_succ_getD _ i (by simp;omega)]
  congr 1
  ·rw [List.take_set_of_le (Nat.le_refl _)]
  rw [List.getD_eq_getElem?_getD,List.getElem?_set_self (by omega)]
  rfl
 rw [List.drop_set_of_lt (by omega),← List.drop_drop,h.high,List.drop_drop]
theorem DelI.skip {p : S60 → Bool} {xs ys : List S60} {i j : Nat} (h : DelI p xs ys i j) (hj : j < xs.length) (hp : p (xs.getD j z60) = true) : DelI p xs ys i (j + 1):=by
 have h1:=h.lt
 refine ⟨by omega,hj,h.len,?_,?_⟩
 ·rw [take_succ_getD xs j hj,List.filter_append,← h.low]
  simp only [List.filter_cons,hp,Bool.not_true,List.filter_nil]
  simp
 rw [← List.drop_drop,h.high,List.drop_drop]
theorem idx_spec (p : S60 → Bool) (xs : List S60) : (Lib.idxBy (fun _ y=>p y) xs default = -1 ∧ xs.filter (fun x=>!p x) = xs) ∨ ∃ k : Nat,k < xs.length ∧ Lib.idxBy (fun _ y=>p y) xs default = (k : Int) ∧ DelI p xs xs k (k + 1):=by
 have hg : ∀ j,j < xs.length → xs[j]! = xs.getD j z60:=fun j hj=>by rw [getElem!_pos xs j hj,List.getD_eq_getElem?_getD,List.getElem?_eq_getElem hj];rfl
 rcases idxByFrom_spec (fun _ y=>p y) default xs 0 with ⟨e1,hall⟩|⟨k0,hk0,e1,ht,hall⟩
 ·refine .inl ⟨e1,?_⟩
  rw [List.filter_eq_self]
  intro x hx
  obtain ⟨j,hj,rfl⟩:=List.getElem_of_mem hx
  have:=hall j hj
  rw [getElem!_pos xs j hj] at this
  rw [this]
  rfl
 refine .inr ⟨k0,hk0,by unfold Lib.idxBy;rw [e1];simp,⟨by omega,hk0,rfl,?_,rfl⟩⟩
 rw [take_succ_getD xs k0 hk0,List.filter_append]
 have h1 : (xs.take k0).filter (fun x=>!p x) = xs.take k0:=by
  rw [List.filter_eq_self]
  intro x hx
  obtain ⟨j,hj,rfl⟩:=List.getElem_of_mem hx
  have hj' : j < k0:=by rw [List.length_take] at hj;omega
  have:=hall j hj'
  rw [getElem!_pos xs j (by omega)] at this
  rw [List.getElem_take,this]
  rfl
 rw [h1]
 have ht' : p (xs.getD k0 z60) = true:=by rw [← hg k0 hk0];exact ht
 simp only [List.filter_cons,ht',Bool.not_true,List.filter_nil]
 simp
set_option maxHeartbeats 4000000 in
set_option maxRecDepth 100000 in
theorem del_calls (p : S60 → Bool) (g : Nat) (lb : Array Value) (blk cap : Nat) (xs : List S60) (w : World)
  (eg : ∀ args w,(callFunc g args).run Tryz.prog w = .ok (.enter g args) w) (hp : PredG g lb p blk w) (h : RowP w blk cap xs) (hsz : xs.length ≤ 1000) :
  Calls Tryz.prog 97 #[.slice (some ⟨blk,0,none⟩) xs.length cap,.func (.func g) #[] lb] w fun e w'=>e = .returned (.slice (some ⟨blk,0,none⟩) (xs.filter fun x=>!p x).length cap) ∧ RowP w' blk cap (xs.filter fun x=>!p x) ∧ w.grownBy w' (some blk):=by
 have hIF:=idx_calls p g lb blk cap xs w eg hp h hsz
 rcases idx_spec p xs with ⟨e1,e2⟩|⟨k0,hk0,e1,hI0⟩
 ·rw [e1] at hIF
  rw [e2]
  have HR:=Aside0.mk h
  clear h hp e1 e2 hsz
  go_enter Tryz.func97,Tryz.ntmps97
  go_wp2_with (go_at_call 131;refine hIF.mono ?_;rintro e w' ⟨rfl,hb⟩)
  go_ret
  exact ⟨rfl,HR.out.below hb,grown_of_below hb _⟩
 rw [e1] at hIF
 have hne1 : ((k0 : Int) == -1) = false:=beq_eq_false_iff_ne.2 (by omega)
 have HR:=Aside0.mk h
 have HI:=Aside0.mk hI0
 have HP:=Aside0.mk hp
 clear h hp e1 hI0
 go_enter Tryz.func97,Tryz.ntmps97
 go_wp2_with (go_at_call 131;refine hIF.mono ?_;rintro e w' ⟨rfl,hb⟩)
 go_loopg [5,6,7] xs.length (fun gg s5 s6 _ wr=>∃ (i j : Nat) (ys : List S60),s5 = .int .i64 i ∧ s6 = .int .i64 j ∧ xs.length - j ≤ gg ∧ Aside0 (DelI p xs ys i j) ∧ Aside0 (RowP wr blk cap ys) ∧ Aside0 (w.grownBy wr (some blk)))
 case atStart=>exact ⟨k0,k0 + 1,xs,rfl,by go_num,by omega,HI,⟨HR.out.below hb⟩,⟨grown_of_below hb _⟩⟩
 clear hIF HI HR hb hne1
 obtain ⟨i,j,ys,rfl,rfl,hgg,HI,HR,HG⟩:=hrel
 have hI:=HI.out
 have hij:=hI.lt
 have hjn:=hI.le
 have hl:=hI.len
 by_cases hlt : j < xs.length
 ·have hltz : (j : Int) < (xs.length : Int):=by omega
  obtain ⟨x0,x1⟩:=HR.out.cell j (by omega)
  rw [hI.elem hlt] at x0 x1
  obtain ⟨o0,o1⟩:=HR.out.cell i (by omega)
  have f0:=HR.out.frozen (i * 2)
  have f1:=HR.out.frozen (i * 2 + 1)
  have HX:=Aside0.mk (show xs.getD j z60 = xs.getD j z60 from rfl)
  generalize hu : xs.getD j z60 = u at x0 x1 HX
  generalize ys.getD i z60 = old at o0 o1
  have HU:=Aside0.mk hu
  have HL:=Aside0.mk (And.intro hlt (show i < ys.length by omega))
  have hiz : (i : Int) < (xs.length : Int):=by omega
  clear hI hl hu
  have hB : (wr.alloc (.cells #[.string u.f0,.string u.f1] 60)).heap[wr.heap.size]? = some (.cells #[.string u.f0,.string u.f1] 60 (0,0)):=heap_alloc_new wr _
  have HR2:=Aside0.mk (HR.out.alloc (.cells #[.string u.f0,.string u.f1] 60))
  have HG2:=Aside0.mk (grown_alloc HG.out (.cells #[.string u.f0,.string u.f1] 60))
  have hcall:=HP.out _ u HG2.out
  have hne:=blk_lt HR.out.ex.choose_spec.1
  cases hq : p u with
  | false =>
   rw [hq] at hcall
   clear o0 o1 f0 f1
   go_wp2_with fail
   refine hcall.mono ?_
   rintro e w2 ⟨rfl,hb2⟩
   have b0 : w2.cell? ⟨wr.heap.size,0,none⟩ = some (.string u.f0):=(blk_cell (blk_below hB hb2) 0).trans rfl
   have b1 : w2.cell? ⟨wr.heap.size,1,none⟩ = some (.string u.f1):=(blk_cell (blk_below hB hb2) 1).trans rfl
   have HR3:=Aside0.mk (HR2.out.below hb2)
   have HG3:=Aside0.mk (grown_below HG2.out hb2)
   obtain ⟨o0,o1⟩:=HR3.out.cell i (by have:=HL.out.2;omega)
   generalize ys.getD i z60 = old at o0 o1
   have f0:=HR3.out.frozen (i * 2)
   have f1:=HR3.out.frozen (i * 2 + 1)
   have HS:=Aside0.mk (HR3.out.set i (by have:=HL.out.2;omega) u)
   have HG4:=Aside0.mk (grown_set (grown_set HG3.out ⟨blk,i * 2,none⟩ rfl (.string u.f0)) ⟨blk,i * 2 + 1,none⟩ rfl (.string u.f1))
   clear hcall hB hb2 HR2 HG2 x0 x1
   go_wp2
   go_roundg (xs.length - (j + 1))
   case measure=>omega
   case rel=>exact ⟨i + 1,j + 1,ys.set i u,by go_num,by go_num,by omega,⟨by have:=HI.out.keep HL.out.1 (by rw [HU.out,hq]);rwa [HU.out] at this⟩,HS,HG4⟩
  | true =>
   rw [hq] at hcall
   clear o0 o1 f0 f1
   go_wp2_with fail
   refine hcall.mono ?_
   rintro e w2 ⟨rfl,hb2⟩
   have HR3:=Aside0.mk (HR2.out.below hb2)
   have HG3:=Aside0.mk (grown_below HG2.out hb2)
   clear hcall hB hb2 HR2 HG2 x0 x1
   go_wp2
   go_roundg (xs.length - (j + 1))
   case measure=>omega
   case rel=>exact ⟨i,j + 1,ys,rfl,by go_num,by omega,⟨HI.out.skip HL.out.1 (by rw [HU.out,hq])⟩,HR3,HG3⟩
 obtain rfl : j = xs.length:=by omega
 have hltz : ¬ (xs.length : Int) < (xs.length : Int):=by omega
 have hin : i < ys.length:=by omega
 have hcl:=fun c ty=>run_clear60 wr blk cap ys HR.out i hin c ty
 rw [hl] at hcl
 have hW:=Aside0.mk (RowP.setCells (List.replicate ((xs.length - i) * 2) (.string (⟨#[]⟩ : ByteArray))) (i * 2) wr (by rw [List.length_take];omega) (HR.out.take i))
 have hG:=Aside0.mk (grown_setCells (List.replicate ((xs.length - i) * 2) (.string (⟨#[]⟩ : ByteArray))) (i * 2) wr HG.out)
 have HC:=Aside0.mk hI.cnt
 have HLow:=Aside0.mk hI.low
 have hcapi : xs.length ≤ cap:=by have:=HR.out.ex.choose_spec.2.2.2;omega
 have hiz : (i : Int) < (xs.length : Int):=by omega
 clear hI hin hl
 go_wp2
 go_ret
 have hc:=HC.out
 have hlow:=HLow.out
 rw [List.take_length] at hc hlow
 rw [hlow] at hW
 exact ⟨by rw [← hc];rfl,hW.out,hG.out⟩
end Go.Proofs.YtfgffjchphignaaGreatDoor.Print
end
section
namespace Go.Proofs.YtfgffjchphignaaGreatDoor.Print
open Go.RowKit Go.Proofs.YtfgffjchphignaaGreatDoorX Go.Proofs.YtfgffjchphignaaGreatDoorW.PrintWords Go.Proofs.YtfgffjchphignaaGreatDoorW.PrintLast Go.Proofs.YtfgffjchphignaaGreatDoorW.PrintMore
/-! ### label_Name: function 63 -/
def label_Name.l0 : Nat → ByteArray → Int → Int → Option (Bool)
 | 0,_,_,_=>none
 | k + 1,x0,x6,x7=>if x7 < x6 then (if 0 ≤ x7 then (if x7 < (x0.size : Int) then (if (bt x0 x7) ≥ 97 then (if (bt x0 x7) ≤ 122 then (label_Name.l0 k x0 x6 (wrap64 (x7 + 1))) else (if (bt x0 x7) ≥ 65 then (if (bt x0 x7) ≤ 90 then (label_Name.l0 k x0 x6 (wrap64 (x7 + 1))) else (if (bt x0 x7) = 95 then (label_Name.l0 k x0 x6 (wrap64 (x7 + 1))) else (if (bt x0 x7) ≥ 48 then (if (bt x0 x7) ≤ 57 then (if x7 > 0 then (label_Name.l0 k x0 x6 (wrap64 (x7 + 1))) else (some false)) else (some false)) else (some false)))) else (if (bt x0 x7) = 95 then (label_Name.l0 k x0 x6 (wrap64 (x7 + 1))) else (if (bt x0 x7) ≥ 48 then (if (bt x0 x7) ≤ 57 then (if x7 > 0 then (label_Name.l0 k x0 x6 (wrap64 (x7 + 1))) else (some false)) else (some false)) else (some false))))) else (if (bt x0 x7) ≥ 65 then (if (bt x0 x7) ≤ 90 then (label_Name.l0 k x0 x6 (wrap64 (x7 + 1))) else (if (bt x0 x7) = 95 then (label_Name.l0 k x0 x6 (wrap64 (x7 + 1))) else (if (bt x0 x7) ≥ 48 then (if (bt x0 x7) ≤ 57 then (if x7 > 0 then (label_Name.l0 k x0 x6 (wrap64 (x7 + 1))) else (some false)) else (some false)) else (some false)))) else (if (bt x0 x7) = 95 then (label_Name.l0 k x0 x6 (wrap64 (x7 + 1))) else (if (bt x0 x7) ≥ 48 then (if (bt x0 x7) ≤ 57 then (if x7 > 0 then (label_Name.l0 k x0 x6 (wrap64 (x7 + 1))) else (some false)) else (some false)) else (some false))))) else (none)) else (none)) else (if (x0.size : Int) ≥ 1 then (some (decide ((x0.size : Int) ≤ 20))) else (some false))
def label_Name.f (k : Nat) (a0 : ByteArray) : Option (Bool):=label_Name.l0 k a0 (a0.size : Int) 0
set_option maxHeartbeats 8000000 in
set_option maxRecDepth 100000 in
theorem label_Name.calls (k : Nat) (a0 : ByteArray) (r : Bool) (w : World) (h : label_Name.f k a0 = some r) :
  Calls Tryz.prog 63 #[.string a0] w fun e w'=>e = .returned (.bool r) ∧ Drawn0 w w':=by
 have H : (label_Name.l0 k a0 (a0.size : Int) 0) = some r:=h
 clear h
 have H':=Aside0.mk H
 clear H
 go_enter Tryz.func63,Tryz.ntmps63
 go_wp2
 go_loopg [7] k (fun kq v7 w'=>∃ (x7_1 : Int),v7 = .int .i64 x7_1 ∧ Aside0 (label_Name.l0 kq a0 (a0.size : Int) x7_1 = some r) ∧ Aside0 (kq ≤ k) ∧ Drawn0 w w')
 case atStart=>exact ⟨(0),(by first|rfl|(simp;done)|(simp [*];done)),H',⟨Nat.le_refl _⟩,by repeat (first|exact Drawn0.refl _|apply Drawn0.step)⟩
 clear H'
 obtain ⟨x7_1,rfl,HA,HK1,⟨m1,rfl⟩⟩:=hrel
 cases gk with
 | zero=>exact absurd HA.out (by simp [label_Name.l0])
 | succ k1 =>
  have H:=HA.out
  clear HA
  simp only [label_Name.l0] at H
  by_cases c2 : x7_1 < (a0.size : Int)
  ·rw [if_pos c2] at H
   have c2b0 : decide (x7_1 < (a0.size : Int)) = true:=decide_eq_true c2
   clear c2
   by_cases c3 : 0 ≤ x7_1
   ·rw [if_pos c3] at H
    have c3b0 : decide (0 ≤ x7_1) = true:=decide_eq_true c3
    clear c3
    by_cases c4 : x7_1 < (a0.size : Int)
    ·rw [if_pos c4] at H
     have c4b0 : decide (x7_1 < (a0.size : Int)) = true:=decide_eq_true c4
     clear c4
     by_cases c6 : (bt a0 x7_1) ≥ 97
     ·rw [if_pos c6] at H
      have c6b0 : decide (97 ≤ (bt a0 x7_1)) = true:=decide_eq_true c6
      clear c6
      by_cases c7 : (bt a0 x7_1) ≤ 122
      ·rw [if_pos c7] at H
       have c7b0 : decide ((bt a0 x7_1) ≤ 122) = true:=decide_eq_true c7
       clear c7
       have H':=Aside0.mk H
       clear H
       have p5 : 0 ≤ (x7_1 : Int):=of_decide_eq_true (by first|(with_reducible assumption)|assumption)
       have q5 : x7_1 < (a0.size : Int):=of_decide_eq_true (by first|(with_reducible assumption)|assumption)
       have hx5:=bt_at a0 x7_1
       replace p5:=eq_true p5
       replace q5:=eq_true q5
       go_wp2
       go_roundg k1
       case measure=>have:=HK1.out;omega
       case rel=>exact ⟨(wrap64 (x7_1 + 1)),(by first|rfl|(simp;done)|(simp [*];done)),H',⟨by have:=HK1.out;omega⟩,by repeat (first|exact Drawn0.refl _|apply Drawn0.step)⟩
      rw [if_neg c7] at H
      have c7b0 : decide ((bt a0 x7_1) ≤ 122) = false:=decide_eq_false c7
      clear c7
      by_cases c8 : (bt a0 x7_1) ≥ 65
      ·rw [if_pos c8] at H
       have c8b0 : decide (65 ≤ (bt a0 x7_1)) = true:=decide_eq_true c8
       clear c8
       by_cases c9 : (bt a0 x7_1) ≤ 90
       ·rw [if_pos c9] at H
        have c9b0 : decide ((bt a0 x7_1) ≤ 90) = true:=decide_eq_true c9
        clear c9
        have H':=Aside0.mk H
        clear H
        have p5 : 0 ≤ (x7_1 : Int):=of_decide_eq_true (by first|(with_reducible assumption)|assumption)
        have q5 : x7_1 < (a0.size : Int):=of_decide_eq_true (by first|(with_reducible assumption)|assumption)
        have hx5:=bt_at a0 x7_1
        replace p5:=eq_true p5
        replace q5:=eq_true q5
        go_wp2
        go_roundg k1
        case measure=>have:=HK1.out;omega
        case rel=>exact ⟨(wrap64 (x7_1 + 1)),(by first|rfl|(simp;done)|(simp [*];done)),H',⟨by have:=HK1.out;omega⟩,by repeat (first|exact Drawn0.refl _|apply Drawn0.step)⟩
       rw [if_neg c9] at H
       have c9b0 : decide ((bt a0 x7_1) ≤ 90) = false:=decide_eq_false c9
       clear c9
       by_cases c10 : (bt a0 x7_1) = 95
       ·rw [if_pos c10] at H
        have c10b0 : ((bt a0 x7_1) == 95) = true:=beq_iff_eq.mpr c10
        have c10b1 : ((bt a0 x7_1) != 95) = false:=bne_eq_false_iff_eq.mpr c10
        clear c10
        have H':=Aside0.mk H
        clear H
        have p5 : 0 ≤ (x7_1 : Int):=of_decide_eq_true (by first|(with_reducible assumption)|assumption)
        have q5 : x7_1 < (a0.size : Int):=of_decide_eq_true (by first|(with_reducible assumption)|assumption)
        have hx5:=bt_at a0 x7_1
        replace p5:=eq_true p5
        replace q5:=eq_true q5
        go_wp2
        go_roundg k1
        case measure=>have:=HK1.out;omega
        case rel=>exact ⟨(wrap64 (x7_1 + 1)),(by first|rfl|(simp;done)|(simp [*];done)),H',⟨by have:=HK1.out;omega⟩,by repeat (first|exact Drawn0.refl _|apply Drawn0.step)⟩
       rw [if_neg c10] at H
       have c10b0 : ((bt a0 x7_1) == 95) = false:=beq_eq_false_iff_ne.mpr c10
       have c10b1 : ((bt a0 x7_1) != 95) = true:=bne_iff_ne.mpr c10
       by_cases c11 : (bt a0 x7_1) ≥ 48
       ·rw [if_pos c11] at H
        have c11b0 : decide (48 ≤ (bt a0 x7_1)) = true:=decide_eq_true c11
        clear c11
        by_cases c12 : (bt a0 x7_1) ≤ 57
        ·rw [if_pos c12] at H
         have c12b0 : decide ((bt a0 x7_1) ≤ 57) = true:=decide_eq_true c12
         clear c12
         by_cases c13 : x7_1 > 0
         ·rw [if_pos c13] at H
          have c13b0 : decide (0 < x7_1) = true:=decide_eq_true c13
          clear c13
          have H':=Aside0.mk H
          clear H
          have p5 : 0 ≤ (x7_1 : Int):=of_decide_eq_true (by first|(with_reducible assumption)|assumption)
          have q5 : x7_1 < (a0.size : Int):=of_decide_eq_true (by first|(with_reducible assumption)|assumption)
          have hx5:=bt_at a0 x7_1
          replace p5:=eq_true p5
          replace q5:=eq_true q5
          go_wp2
          go_roundg k1
          case measure=>have:=HK1.out;omega
          case rel=>exact ⟨(wrap64 (x7_1 + 1)),(by first|rfl|(simp;done)|(simp [*];done)),H',⟨by have:=HK1.out;omega⟩,by repeat (first|exact Drawn0.refl _|apply Drawn0.step)⟩
         rw [if_neg c13] at H
         have c13b0 : decide (0 < x7_1) = false:=decide_eq_false c13
         clear c13
         obtain rfl:=Option.some.inj H
         have p5 : 0 ≤ (x7_1 : Int):=of_decide_eq_true (by first|(with_reducible assumption)|assumption)
         have q5 : x7_1 < (a0.size : Int):=of_decide_eq_true (by first|(with_reducible assumption)|assumption)
         have hx5:=bt_at a0 x7_1
         replace p5:=eq_true p5
         replace q5:=eq_true q5
         go_wp2
         go_ret
         exact ⟨by first|rfl|(simp;done)|(simp [*];done),by repeat (first|exact Drawn0.refl _|apply Drawn0.step)⟩
        rw [if_neg c12] at H
        have c12b0 : decide ((bt a0 x7_1) ≤ 57) = false:=decide_eq_false c12
        clear c12
        obtain rfl:=Option.some.inj H
        have p5 : 0 ≤ (x7_1 : Int):=of_decide_eq_true (by first|(with_reducible assumption)|assumption)
        have q5 : x7_1 < (a0.size : Int):=of_decide_eq_true (by first|(with_reducible assumption)|assumption)
        have hx5:=bt_at a0 x7_1
        replace p5:=eq_true p5
        replace q5:=eq_true q5
        go_wp2
        go_ret
        exact ⟨by first|rfl|(simp;done)|(simp [*];done),by repeat (first|exact Drawn0.refl _|apply Drawn0.step)⟩
       rw [if_neg c11] at H
       have c11b0 : decide (48 ≤ (bt a0 x7_1)) = false:=decide_eq_false c11
       clear c11
       obtain rfl:=Option.some.inj H
       have p5 : 0 ≤ (x7_1 : Int):=of_decide_eq_true (by first|(with_reducible assumption)|assumption)
       have q5 : x7_1 < (a0.size : Int):=of_decide_eq_true (by first|(with_reducible assumption)|assumption)
       have hx5:=bt_at a0 x7_1
       replace p5:=eq_true p5
       replace q5:=eq_true q5
       go_wp2
       go_ret
       exact ⟨by first|rfl|(simp;done)|(simp [*];done),by repeat (first|exact Drawn0.refl _|apply Drawn0.step)⟩
      rw [if_neg c8] at H
      have c8b0 : decide (65 ≤ (bt a0 x7_1)) = false:=decide_eq_false c8
      clear c8
      by_cases c14 : (bt a0 x7_1) = 95
      ·rw [if_pos c14] at H
       have c14b0 : ((bt a0 x7_1) == 95) = true:=beq_iff_eq.mpr c14
       have c14b1 : ((bt a0 x7_1) != 95) = false:=bne_eq_false_iff_eq.mpr c14
       clear c14
       have H':=Aside0.mk H
       clear H
       have p5 : 0 ≤ (x7_1 : Int):=of_decide_eq_true (by first|(with_reducible assumption)|assumption)
       have q5 : x7_1 < (a0.size : Int):=of_decide_eq_true (by first|(with_reducible assumption)|assumption)
       have hx5:=bt_at a0 x7_1
       replace p5:=eq_true p5
       replace q5:=eq_true q5
       go_wp2
       go_roundg k1
       case measure=>have:=HK1.out;omega
       case rel=>exact ⟨(wrap64 (x7_1 + 1)),(by first|rfl|(simp;done)|(simp [*];done)),H',⟨by have:=HK1.out;omega⟩,by repeat (first|exact Drawn0.refl _|apply Drawn0.step)⟩
      rw [if_neg c14] at H
      have c14b0 : ((bt a0 x7_1) == 95) = false:=beq_eq_false_iff_ne.mpr c14
      have c14b1 : ((bt a0 x7_1) != 95) = true:=bne_iff_ne.mpr c14
      by_cases c15 : (bt a0 x7_1) ≥ 48
      ·rw [if_pos c15] at H
       have c15b0 : decide (48 ≤ (bt a0 x7_1)) = true:=decide_eq_true c15
       clear c15
       by_cases c16 : (bt a0 x7_1) ≤ 57
       ·rw [if_pos c16] at H
        have c16b0 : decide ((bt a0 x7_1) ≤ 57) = true:=decide_eq_true c16
        clear c16
        by_cases c17 : x7_1 > 0
        ·rw [if_pos c17] at H
         have c17b0 : decide (0 < x7_1) = true:=decide_eq_true c17
         clear c17
         have H':=Aside0.mk H
         clear H
         have p5 : 0 ≤ (x7_1 : Int):=of_decide_eq_true (by first|(with_reducible assumption)|assumption)
         have q5 : x7_1 < (a0.size : Int):=of_decide_eq_true (by first|(with_reducible assumption)|assumption)
         have hx5:=bt_at a0 x7_1
         replace p5:=eq_true p5
         replace q5:=eq_true q5
         go_wp2
         go_roundg k1
         case measure=>have:=HK1.out;omega
         case rel=>exact ⟨(wrap64 (x7_1 + 1)),(by first|rfl|(simp;done)|(simp [*];done)),H',⟨by have:=HK1.out;omega⟩,by repeat (first|exact Drawn0.refl _|apply Drawn0.step)⟩
        rw [if_neg c17] at H
        have c17b0 : decide (0 < x7_1) = false:=decide_eq_false c17
        clear c17
        obtain rfl:=Option.some.inj H
        have p5 : 0 ≤ (x7_1 : Int):=of_decide_eq_true (by first|(with_reducible assumption)|assumption)
        have q5 : x7_1 < (a0.size : Int):=of_decide_eq_true (by first|(with_reducible assumption)|assumption)
        have hx5:=bt_at a0 x7_1
        replace p5:=eq_true p5
        replace q5:=eq_true q5
        go_wp2
        go_ret
        exact ⟨by first|rfl|(simp;done)|(simp [*];done),by repeat (first|exact Drawn0.refl _|apply Drawn0.step)⟩
       rw [if_neg c16] at H
       have c16b0 : decide ((bt a0 x7_1) ≤ 57) = false:=decide_eq_false c16
       clear c16
       obtain rfl:=Option.some.inj H
       have p5 : 0 ≤ (x7_1 : Int):=of_decide_eq_true (by first|(with_reducible assumption)|assumption)
       have q5 : x7_1 < (a0.size : Int):=of_decide_eq_true (by first|(with_reducible assumption)|assumption)
       have hx5:=bt_at a0 x7_1
       replace p5:=eq_true p5
       replace q5:=eq_true q5
       go_wp2
       go_ret
       exact ⟨by first|rfl|(simp;done)|(simp [*];done),by repeat (first|exact Drawn0.refl _|apply Drawn0.step)⟩
      rw [if_neg c15] at H
      have c15b0 : decide (48 ≤ (bt a0 x7_1)) = false:=decide_eq_false c15
      clear c15
      obtain rfl:=Option.some.inj H
      have p5 : 0 ≤ (x7_1 : Int):=of_decide_eq_true (by first|(with_reducible assumption)|assumption)
      have q5 : x7_1 < (a0.size : Int):=of_decide_eq_true (by first|(with_reducible assumption)|assumption)
      have hx5:=bt_at a0 x7_1
      replace p5:=eq_true p5
      replace q5:=eq_true q5
      go_wp2
      go_ret
      exact ⟨by first|rfl|(simp;done)|(simp [*];done),by repeat (first|exact Drawn0.refl _|apply Drawn0.step)⟩
     rw [if_neg c6] at H
     have c6b0 : decide (97 ≤ (bt a0 x7_1)) = false:=decide_eq_false c6
     clear c6
     by_cases c18 : (bt a0 x7_1) ≥ 65
     ·rw [if_pos c18] at H
      have c18b0 : decide (65 ≤ (bt a0 x7_1)) = true:=decide_eq_true c18
      clear c18
      by_cases c19 : (bt a0 x7_1) ≤ 90
      ·rw [if_pos c19] at H
       have c19b0 : decide ((bt a0 x7_1) ≤ 90) = true:=decide_eq_true c19
       clear c19
       have H':=Aside0.mk H
       clear H
       have p5 : 0 ≤ (x7_1 : Int):=of_decide_eq_true (by first|(with_reducible assumption)|assumption)
       have q5 : x7_1 < (a0.size : Int):=of_decide_eq_true (by first|(with_reducible assumption)|assumption)
       have hx5:=bt_at a0 x7_1
       replace p5:=eq_true p5
       replace q5:=eq_true q5
       go_wp2
       go_roundg k1
       case measure=>have:=HK1.out;omega
       case rel=>exact ⟨(wrap64 (x7_1 + 1)),(by first|rfl|(simp;done)|(simp [*];done)),H',⟨by have:=HK1.out;omega⟩,by repeat (first|exact Drawn0.refl _|apply Drawn0.step)⟩
      rw [if_neg c19] at H
      have c19b0 : decide ((bt a0 x7_1) ≤ 90) = false:=decide_eq_false c19
      clear c19
      by_cases c20 : (bt a0 x7_1) = 95
      ·rw [if_pos c20] at H
       have c20b0 : ((bt a0 x7_1) == 95) = true:=beq_iff_eq.mpr c20
       have c20b1 : ((bt a0 x7_1) != 95) = false:=bne_eq_false_iff_eq.mpr c20
       clear c20
       have H':=Aside0.mk H
       clear H
       have p5 : 0 ≤ (x7_1 : Int):=of_decide_eq_true (by first|(with_reducible assumption)|assumption)
       have q5 : x7_1 < (a0.size : Int):=of_decide_eq_true (by first|(with_reducible assumption)|assumption)
       have hx5:=bt_at a0 x7_1
       replace p5:=eq_true p5
       replace q5:=eq_true q5
       go_wp2
       go_roundg k1
       case measure=>have:=HK1.out;omega
       case rel=>exact ⟨(wrap64 (x7_1 + 1)),(by first|rfl|(simp;done)|(simp [*];done)),H',⟨by have:=HK1.out;omega⟩,by repeat (first|exact Drawn0.refl _|apply Drawn0.step)⟩
      rw [if_neg c20] at H
      have c20b0 : ((bt a0 x7_1) == 95) = false:=beq_eq_false_iff_ne.mpr c20
      have c20b1 : ((bt a0 x7_1) != 95) = true:=bne_iff_ne.mpr c20
      by_cases c21 : (bt a0 x7_1) ≥ 48
      ·rw [if_pos c21] at H
       have c21b0 : decide (48 ≤ (bt a0 x7_1)) = true:=decide_eq_true c21
       clear c21
       by_cases c22 : (bt a0 x7_1) ≤ 57
       ·rw [if_pos c22] at H
        have c22b0 : decide ((bt a0 x7_1) ≤ 57) = true:=decide_eq_true c22
        clear c22
        by_cases c23 : x7_1 > 0
        ·rw [if_pos c23] at H
         have c23b0 : decide (0 < x7_1) = true:=decide_eq_true c23
         clear c23
         have H':=Aside0.mk H
         clear H
         have p5 : 0 ≤ (x7_1 : Int):=of_decide_eq_true (by first|(with_reducible assumption)|assumption)
         have q5 : x7_1 < (a0.size : Int):=of_decide_eq_true (by first|(with_reducible assumption)|assumption)
         have hx5:=bt_at a0 x7_1
         replace p5:=eq_true p5
         replace q5:=eq_true q5
         go_wp2
         go_roundg k1
         case measure=>have:=HK1.out;omega
         case rel=>exact ⟨(wrap64 (x7_1 + 1)),(by first|rfl|(simp;done)|(simp [*];done)),H',⟨by have:=HK1.out;omega⟩,by repeat (first|exact Drawn0.refl _|apply Drawn0.step)⟩
        rw [if_neg c23] at H
        have c23b0 : decide (0 < x7_1) = false:=decide_eq_false c23
        clear c23
        obtain rfl:=Option.some.inj H
        have p5 : 0 ≤ (x7_1 : Int):=of_decide_eq_true (by first|(with_reducible assumption)|assumption)
        have q5 : x7_1 < (a0.size : Int):=of_decide_eq_true (by first|(with_reducible assumption)|assumption)
        have hx5:=bt_at a0 x7_1
        replace p5:=eq_true p5
        replace q5:=eq_true q5
        go_wp2
        go_ret
        exact ⟨by first|rfl|(simp;done)|(simp [*];done),by repeat (first|exact Drawn0.refl _|apply Drawn0.step)⟩
       rw [if_neg c22] at H
       have c22b0 : decide ((bt a0 x7_1) ≤ 57) = false:=decide_eq_false c22
       clear c22
       obtain rfl:=Option.some.inj H
       have p5 : 0 ≤ (x7_1 : Int):=of_decide_eq_true (by first|(with_reducible assumption)|assumption)
       have q5 : x7_1 < (a0.size : Int):=of_decide_eq_true (by first|(with_reducible assumption)|assumption)
       have hx5:=bt_at a0 x7_1
       replace p5:=eq_true p5
       replace q5:=eq_true q5
       go_wp2
       go_ret
       exact ⟨by first|rfl|(simp;done)|(simp [*];done),by repeat (first|exact Drawn0.refl _|apply Drawn0.step)⟩
      rw [if_neg c21] at H
      have c21b0 : decide (48 ≤ (bt a0 x7_1)) = false:=decide_eq_false c21
      clear c21
      obtain rfl:=Option.some.inj H
      have p5 : 0 ≤ (x7_1 : Int):=of_decide_eq_true (by first|(with_reducible assumption)|assumption)
      have q5 : x7_1 < (a0.size : Int):=of_decide_eq_true (by first|(with_reducible assumption)|assumption)
      have hx5:=bt_at a0 x7_1
      replace p5:=eq_true p5
      replace q5:=eq_true q5
      go_wp2
      go_ret
      exact ⟨by first|rfl|(simp;done)|(simp [*];done),by repeat (first|exact Drawn0.refl _|apply Drawn0.step)⟩
     rw [if_neg c18] at H
     have c18b0 : decide (65 ≤ (bt a0 x7_1)) = false:=decide_eq_false c18
     clear c18
     by_cases c24 : (bt a0 x7_1) = 95
     ·rw [if_pos c24] at H
      have c24b0 : ((bt a0 x7_1) == 95) = true:=beq_iff_eq.mpr c24
      have c24b1 : ((bt a0 x7_1) != 95) = false:=bne_eq_false_iff_eq.mpr c24
      clear c24
      have H':=Aside0.mk H
      clear H
      have p5 : 0 ≤ (x7_1 : Int):=of_decide_eq_true (by first|(with_reducible assumption)|assumption)
      have q5 : x7_1 < (a0.size : Int):=of_decide_eq_true (by first|(with_reducible assumption)|assumption)
      have hx5:=bt_at a0 x7_1
      replace p5:=eq_true p5
      replace q5:=eq_true q5
      go_wp2
      go_roundg k1
      case measure=>have:=HK1.out;omega
      case rel=>exact ⟨(wrap64 (x7_1 + 1)),(by first|rfl|(simp;done)|(simp [*];done)),H',⟨by have:=HK1.out;omega⟩,by repeat (first|exact Drawn0.refl _|apply Drawn0.step)⟩
     rw [if_neg c24] at H
     have c24b0 : ((bt a0 x7_1) == 95) = false:=beq_eq_false_iff_ne.mpr c24
     have c24b1 : ((bt a0 x7_1) != 95) = true:=bne_iff_ne.mpr c24
     by_cases c25 : (bt a0 x7_1) ≥ 48
     ·rw [if_pos c25] at H
      have c25b0 : decide (48 ≤ (bt a0 x7_1)) = true:=decide_eq_true c25
      clear c25
      by_cases c26 : (bt a0 x7_1) ≤ 57
      ·rw [if_pos c26] at H
       have c26b0 : decide ((bt a0 x7_1) ≤ 57) = true:=decide_eq_true c26
       clear c26
       by_cases c27 : x7_1 > 0
       ·rw [if_pos c27] at H
        have c27b0 : decide (0 < x7_1) = true:=decide_eq_true c27
        clear c27
        have H':=Aside0.mk H
        clear H
        have p5 : 0 ≤ (x7_1 : Int):=of_decide_eq_true (by first|(with_reducible assumption)|assumption)
        have q5 : x7_1 < (a0.size : Int):=of_decide_eq_true (by first|(with_reducible assumption)|assumption)
        have hx5:=bt_at a0 x7_1
        replace p5:=eq_true p5
        replace q5:=eq_true q5
        go_wp2
        go_roundg k1
        case measure=>have:=HK1.out;omega
        case rel=>exact ⟨(wrap64 (x7_1 + 1)),(by first|rfl|(simp;done)|(simp [*];done)),H',⟨by have:=HK1.out;omega⟩,by repeat (first|exact Drawn0.refl _|apply Drawn0.step)⟩
       rw [if_neg c27] at H
       have c27b0 : decide (0 < x7_1) = false:=decide_eq_false c27
       clear c27
       obtain rfl:=Option.some.inj H
       have p5 : 0 ≤ (x7_1 : Int):=of_decide_eq_true (by first|(with_reducible assumption)|assumption)
       have q5 : x7_1 < (a0.size : Int):=of_decide_eq_true (by first|(with_reducible assumption)|assumption)
       have hx5:=bt_at a0 x7_1
       replace p5:=eq_true p5
       replace q5:=eq_true q5
       go_wp2
       go_ret
       exact ⟨by first|rfl|(simp;done)|(simp [*];done),by repeat (first|exact Drawn0.refl _|apply Drawn0.step)⟩
      rw [if_neg c26] at H
      have c26b0 : decide ((bt a0 x7_1) ≤ 57) = false:=decide_eq_false c26
      clear c26
      obtain rfl:=Option.some.inj H
      have p5 : 0 ≤ (x7_1 : Int):=of_decide_eq_true (by first|(with_reducible assumption)|assumption)
      have q5 : x7_1 < (a0.size : Int):=of_decide_eq_true (by first|(with_reducible assumption)|assumption)
      have hx5:=bt_at a0 x7_1
      replace p5:=eq_true p5
      replace q5:=eq_true q5
      go_wp2
      go_ret
      exact ⟨by first|rfl|(simp;done)|(simp [*];done),by repeat (first|exact Drawn0.refl _|apply Drawn0.step)⟩
     rw [if_neg c25] at H
     have c25b0 : decide (48 ≤ (bt a0 x7_1)) = false:=decide_eq_false c25
     clear c25
     obtain rfl:=Option.some.inj H
     have p5 : 0 ≤ (x7_1 : Int):=of_decide_eq_true (by first|(with_reducible assumption)|assumption)
     have q5 : x7_1 < (a0.size : Int):=of_decide_eq_true (by first|(with_reducible assumption)|assumption)
     have hx5:=bt_at a0 x7_1
     replace p5:=eq_true p5
     replace q5:=eq_true q5
     go_wp2
     go_ret
     exact ⟨by first|rfl|(simp;done)|(simp [*];done),by repeat (first|exact Drawn0.refl _|apply Drawn0.step)⟩
    rw [if_neg c4] at H
    exact absurd H (by simp)
   rw [if_neg c3] at H
   exact absurd H (by simp)
  rw [if_neg c2] at H
  have c2b0 : decide (x7_1 < (a0.size : Int)) = false:=decide_eq_false c2
  clear c2
  by_cases c28 : (a0.size : Int) ≥ 1
  ·rw [if_pos c28] at H
   have c28b0 : decide (1 ≤ (a0.size : Int)) = true:=decide_eq_true c28
   have c28b1 : decide (1 ≤ a0.size) = true:=decide_eq_true (by omega)
   clear c28
   obtain rfl:=Option.some.inj H
   go_wp2
   go_ret
   exact ⟨by first|rfl|(simp;done)|(simp [*];done),by repeat (first|exact Drawn0.refl _|apply Drawn0.step)⟩
  rw [if_neg c28] at H
  have c28b0 : decide (1 ≤ (a0.size : Int)) = false:=decide_eq_false c28
  have c28b1 : decide (1 ≤ a0.size) = false:=decide_eq_false (by omega)
  clear c28
  obtain rfl:=Option.some.inj H
  go_wp2
  go_ret
  exact ⟨by first|rfl|(simp;done)|(simp [*];done),by repeat (first|exact Drawn0.refl _|apply Drawn0.step)⟩
/-! ### label_value: function 83 -/
def label_value.f (a0 : ByteArray) : Option (Bool):=if (a0.size : Int) ≥ 1 then (if (a0.size : Int) ≤ 30 then ((strings_IndexByte.f a0 10).bind fun t107=>(some (decide (t107 < 0)))) else (some false)) else (some false)
set_option maxHeartbeats 8000000 in
set_option maxRecDepth 100000 in
theorem label_value.calls (a0 : ByteArray) (r : Bool) (w : World) (h : label_value.f a0 = some r) :
  Calls Tryz.prog 83 #[.string a0] w fun e w'=>e = .returned (.bool r) ∧ Drawn0 w w':=by
 have H : (if (a0.size : Int) ≥ 1 then (if (a0.size : Int) ≤ 30 then ((strings_IndexByte.f a0 10).bind fun t107=>(some (decide (t107 < 0)))) else (some false)) else (some false)) = some r:=h
 clear h
 by_cases c2 : (a0.size : Int) ≥ 1
 ·rw [if_pos c2] at H
  have c2b0 : decide (1 ≤ (a0.size : Int)) = true:=decide_eq_true c2
  have c2b1 : decide (1 ≤ a0.size) = true:=decide_eq_true (by omega)
  clear c2
  by_cases c3 : (a0.size : Int) ≤ 30
  ·rw [if_pos c3] at H
   have c3b0 : decide ((a0.size : Int) ≤ 30) = true:=decide_eq_true c3
   have c3b1 : decide (a0.size ≤ 30) = true:=decide_eq_true (by omega)
   clear c3
   replace H:=Option.bind_eq_some_iff.mp H
   obtain ⟨t107,A40,H⟩:=H
   replace H : (some (decide (t107 < 0))) = some r:=H
   have A4:=Aside0.mk A40
   clear A40
   obtain rfl:=Option.some.inj H
   go_enter Tryz.func83,Tryz.ntmps83
   go_wp2_with (first|(go_at_call 122;(with_reducible refine (strings_IndexByte.calls a0 10 t107 _ A4.out).mono ?_);rintro e w' ⟨rfl,⟨nd,rfl⟩⟩))
   go_ret
   exact ⟨by first|rfl|(simp;done)|(simp [*];done),by repeat (first|exact Drawn0.refl _|apply Drawn0.step)⟩
  rw [if_neg c3] at H
  have c3b0 : decide ((a0.size : Int) ≤ 30) = false:=decide_eq_false c3
  have c3b1 : decide (a0.size ≤ 30) = false:=decide_eq_false (by omega)
  clear c3
  obtain rfl:=Option.some.inj H
  go_enter Tryz.func83,Tryz.ntmps83
  go_wp2
  go_ret
  exact ⟨by first|rfl|(simp;done)|(simp [*];done),by repeat (first|exact Drawn0.refl _|apply Drawn0.step)⟩
 rw [if_neg c2] at H
 have c2b0 : decide (1 ≤ (a0.size : Int)) = false:=decide_eq_false c2
 have c2b1 : decide (1 ≤ a0.size) = false:=decide_eq_false (by omega)
 clear c2
 obtain rfl:=Option.some.inj H
 go_enter Tryz.func83,Tryz.ntmps83
 go_wp2
 go_ret
 exact ⟨by first|rfl|(simp;done)|(simp [*];done),by repeat (first|exact Drawn0.refl _|apply Drawn0.step)⟩
end Go.Proofs.YtfgffjchphignaaGreatDoor.Print
end
section
namespace Go.Proofs.YtfgffjchphignaaGreatDoor.PureN
open Go.RowKit Go.Proofs.YtfgffjchphignaaGreatDoor.Print
open Go.Proofs.YtfgffjchphignaaGreatDoorX Go.Proofs.YtfgffjchphignaaGreatDoorW.PrintWords Go.Proofs.YtfgffjchphignaaGreatDoorW.PrintLast Go.Proofs.YtfgffjchphignaaGreatDoorW.PrintMore
/-! A name, a value. -/
def nameC (first : Bool) (c : UInt8) : Bool:=isL c || (!first && isD c)
theorem bt_byte (s : ByteArray) (x : Nat) (h : x < s.size) : ∃ c : UInt8,bt s (x : Int) = (c.toNat : Int) ∧ s.data.toList[x]? = some c:=by
 refine ⟨s.data[x]'h,?_,by simp⟩
 rw [← bt_at s (x : Int) (by simpa using h)]
 rfl
theorem name_round (k : Nat) (s : ByteArray) (x : Nat) (hx : x < s.size) (hn : s.size ≤ 9223372036854775807) (c : UInt8) (hc : bt s (x : Int) = (c.toNat : Int)) :
  label_Name.l0 (k + 1) s (s.size : Int) (x : Int) = if nameC (x == 0) c then label_Name.l0 k s (s.size : Int) ((x + 1 : Nat) : Int) else some false:=by
 have hw : wrap64 ((x : Int) + 1) = ((x + 1 : Nat) : Int):=by unfold wrap64;omega
 rw [label_Name.l0,if_pos (by omega),if_pos (by omega),if_pos (by omega),hw,hc]
 generalize label_Name.l0 k s (s.size : Int) ((x + 1 : Nat) : Int) = R
 have hb:=UInt8.toNat_lt c
 have e : nameC (x == 0) c = (decide (97 ≤ c.toNat ∧ c.toNat ≤ 122) || decide (65 ≤ c.toNat ∧ c.toNat ≤ 90) || decide (c.toNat = 95) || (decide (0 < x) && decide (48 ≤ c.toNat ∧ c.toNat ≤ 57))):=by
  unfold nameC isL isD
  rcases Nat.eq_zero_or_pos x with h|h
  ·subst h;simp
  have : (x == 0) = false:=beq_eq_false_iff_ne.2 (by omega)
  rw [this]
  simp [h]
 rw [e]
 generalize c.toNat = n at hb ⊢
 simp only [Bool.or_eq_true,decide_eq_true_eq,Bool.and_eq_true]
 repeat' split
 all_goals first|rfl|(exfalso;omega)
theorem name_loop (s : ByteArray) (hn : s.size ≤ 9223372036854775807) (d : Nat) : ∀ (x : Nat) (k : Nat),x + d = s.size → d < k → 0 < x →
  label_Name.l0 k s (s.size : Int) (x : Int) = some ((s.data.toList.drop x).all idc && decide (s.size ≤ 20)):=by
 induction d with
 | zero =>
  intro x k h hk h0
  obtain ⟨k,rfl⟩ : ∃ m,k = m + 1:=⟨k - 1,by omega⟩
  have hd : s.data.toList.drop x = []:=List.drop_eq_nil_of_le (by simp;show s.size ≤ _;omega)
  rw [label_Name.l0,if_neg (by omega),if_pos (by omega),hd,List.all_nil,Bool.true_and]
  exact congrArg some (decide_eq_decide.2 (by omega))
 | succ d ih =>
  intro x k h hk h0
  obtain ⟨k,rfl⟩ : ∃ m,k = m + 1:=⟨k - 1,by omega⟩
  obtain ⟨c,hc,hg⟩:=bt_byte s x (by omega)
  have hd : s.data.toList.drop x = c :: s.data.toList.drop (x + 1):=by
   obtain ⟨hl,e⟩:=List.getElem?_eq_some_iff.1 hg
   rw [List.drop_eq_getElem_cons hl,e]
  rw [name_round k s x (by omega) hn c hc,hd,List.all_cons]
  have h1 : nameC (x == 0) c = idc c:=by
   have : (x == 0) = false:=beq_eq_false_iff_ne.2 (by omega)
   rw [this]
   rfl
  rw [h1]
  cases idc c with
  | false=>rfl
  | true =>
   rw [if_pos rfl,ih (x + 1) k (by omega) (by omega) (by omega)]
   rfl
theorem name_eq (s : ByteArray) (hn : s.size ≤ 9223372036854775807) (k : Nat) (hk : s.size < k) : label_Name.f k s = some (nameB s.data.toList):=by
 unfold label_Name.f
 obtain ⟨k,rfl⟩ : ∃ m,k = m + 1:=⟨k - 1,by omega⟩
 cases e : s.data.toList with
 | nil =>
  have h0 : s.size = 0:=by have:=congrArg List.length e;rw [Array.length_toList,List.length_nil] at this;exact this
  rw [label_Name.l0,if_neg (by omega)]
  simp [nameB,h0]
 | cons c r =>
  have h0 : s.size = r.length + 1:=by have:=congrArg List.length e;rw [Array.length_toList,List.length_cons] at this;exact this
  obtain ⟨c',hc,hg⟩:=bt_byte s 0 (by omega)
  rw [e] at hg
  have hcc : c = c':=by simpa using hg
  subst hcc
  have hr:=name_round k s 0 (by omega) hn c hc
  rw [show ((0 : Nat) : Int) = 0 from rfl] at hr
  rw [hr]
  have h1 : nameC ((0 : Nat) == 0) c = isL c:=by simp [nameC]
  rw [h1,nameB]
  cases isL c with
  | false=>simp
  | true =>
   rw [if_pos rfl,name_loop s hn r.length (0 + 1) k (by omega) (by omega) (by omega),e]
   simp [h0]
theorem mem_index (c : UInt8) : ∀ l : List UInt8,(decide (Lib.indexByte l c < 0)) = !l.contains c
 | []=>rfl
 | b :: l=>by
  have ih:=mem_index c l
  have hge:=Lib.indexByte_ge l c
  rw [Lib.indexByte,List.contains_cons]
  by_cases h : (b == c) = true
  ·rw [if_pos h]
   have : (c == b) = true:=by rw [beq_iff_eq] at *;exact h.symm
   rw [this]
   rfl
  rw [if_neg h]
  have h' : (c == b) = false:=by rw [beq_eq_false_iff_ne];rintro rfl;exact h (by simp)
  rw [h',Bool.false_or,← ih]
  by_cases g : (Lib.indexByte l c == -1) = true
  ·rw [if_pos g]
   rw [beq_iff_eq] at g
   rw [g]
  rw [if_neg g]
  rw [beq_iff_eq] at g
  exact decide_eq_decide.2 (by omega)
theorem val_eq (s : ByteArray) : label_value.f s = some (valB s.data.toList):=by
 have hl : s.data.toList.length = s.size:=Array.length_toList
 unfold label_value.f valB strings_IndexByte.f
 rw [hl]
 by_cases h1 : 1 ≤ s.size
 ·rw [if_pos (by omega),decide_eq_true h1,Bool.true_and]
  by_cases h2 : s.size ≤ 30
  ·rw [if_pos (by omega),decide_eq_true h2,Bool.true_and]
   show some (decide (Lib.indexByte s.data.toList 10 < 0)) = _
   rw [mem_index]
  rw [if_neg (by omega),decide_eq_false h2,Bool.false_and]
 rw [if_neg (by omega),decide_eq_false h1,Bool.false_and,Bool.false_and]
end Go.Proofs.YtfgffjchphignaaGreatDoor.PureN
end
section
namespace Go.Proofs.YtfgffjchphignaaGreatDoor.Print
open Go.Sort Go.Shelf PureN
open Go.RowKit Go.Proofs.YtfgffjchphignaaGreatDoorX Go.Proofs.YtfgffjchphignaaGreatDoorW.PrintWords Go.Proofs.YtfgffjchphignaaGreatDoorW.PrintLast Go.Proofs.YtfgffjchphignaaGreatDoorW.PrintMore
/-! label.Is -/
theorem less_is : ∀ a b : List UInt8,Op.bytesLess a b = ltL a b
 | [],[]=>rfl
 | _ :: _,[]=>rfl
 | [],_ :: _=>rfl
 | a :: l,b :: m=>by
  have ih:=less_is l m
  rw [Op.bytesLess,ltL,ih]
  rfl
def pairOk (p : Pr) : Bool:=nameB p.1 && valB p.2
/-- Is what stands from a place on a set's tail? -/
def isFrom (prev : Option Pr) : List Pr → Bool
 | []=>true
 | p :: r=>pairOk p && (match prev with|none=>true|some q=>ltL q.1 p.1) && isFrom (some p) r
theorem isFrom_is : ∀ (ps : List Pr) (q : Option Pr),isFrom q ps = (ps.all (fun p=>nameB p.1 && valB p.2) && incr (match q with|none=>ps|some q=>q :: ps))
 | [],none=>rfl
 | [],some q=>rfl
 | p :: r,q=>by
  have ih:=isFrom_is r (some p)
  have e : isFrom q (p :: r) = (pairOk p && (match q with|none=>true|some q=>ltL q.1 p.1) && isFrom (some p) r):=by cases q <;> rfl
  rw [e,ih,List.all_cons]
  unfold pairOk
  cases q with
  | none =>
   cases r with
   | nil=>simp [incr]
   | cons p2 r=>simp [Bool.and_assoc]
  | some q =>
   simp only [incr]
   cases nameB p.1 <;> cases valB p.2 <;> cases ltL q.1 p.1 <;> simp
theorem isS_from (ps : List Pr) : isS ps = (isFrom none ps && decide (ps.length ≤ 8)):=by rw [isFrom_is];rfl
def label_Is.f (l : List S60) : Option Bool:=if l.length ≤ 1000 ∧ (∀ x ∈ l,x.f0.size ≤ 9223372036854775807) then some (isS (l.map pr)) else none
theorem name_calls (s : ByteArray) (w : World) (h : s.size ≤ 9223372036854775807) : Calls Tryz.prog 63 #[.string s] w fun e w'=>e = .returned (.bool (nameB s.data.toList)) ∧ ∃ m,w' = w.drewN m :=
 (label_Name.calls (s.size + 1) s _ w (name_eq s h _ (Nat.lt_succ_self _))).mono fun _ _ ⟨h1,h2⟩=>⟨h1,h2.out⟩
theorem val_calls (s : ByteArray) (w : World) : Calls Tryz.prog 83 #[.string s] w fun e w'=>e = .returned (.bool (valB s.data.toList)) ∧ ∃ m,w' = w.drewN m :=
 (label_value.calls s _ w (val_eq s)).mono fun _ _ ⟨h1,h2⟩=>⟨h1,h2.out⟩
def prevP (l : List S60) (i : Nat) : Option Pr:=if i = 0 then none else some (pr (l.getD (i - 1) z60))
set_option maxHeartbeats 4000000 in
set_option maxRecDepth 100000 in
theorem label_Is.calls (A : Option Addr) (c : Nat) (l : List S60) (r : Bool) (w : World) (hr : Kd.C k60 w A l.length l) (hc : l.length ≤ c) (h : label_Is.f l = some r) :
  Calls Tryz.prog 48 #[.slice A l.length c] w fun e w'=>e = .returned (.bool r) ∧ Below w.heap.size w w':=by
 unfold label_Is.f at h
 by_cases g : l.length ≤ 1000 ∧ (∀ x ∈ l,x.f0.size ≤ 9223372036854775807)
 ·rw [if_pos g] at h
  replace h:=Option.some.inj h
  rw [isS_from,List.length_map] at h
  have HR:=Aside0.mk hr
  have HE:=Aside0.mk h
  have HS:=Aside0.mk g.2
  have hn:=g.1
  clear hr h g
  go_enter Tryz.func48,Tryz.ntmps48
  go_wp2
  go_loopg [3,4,7] l.length (fun kq _ _ v7 w'=>∃ (i : Nat),v7 = .int .i64 i ∧ i + kq = l.length ∧ Aside0 (Below w.heap.size w w') ∧ Aside0 ((isFrom (prevP l i) ((l.drop i).map pr) && decide (l.length ≤ 8)) = r))
  case atStart=>exact ⟨0,rfl,by omega,⟨Below.refl _ _⟩,⟨HE.out⟩⟩
  clear HE
  obtain ⟨i,rfl,hik,HB,HE⟩:=hrel
  cases gk with
  | zero =>
   have hltz : ¬ (i : Int) < (l.length : Int):=by omega
   have he:=HE.out
   rw [List.drop_eq_nil_of_le (by omega),List.map_nil,isFrom,Bool.true_and] at he
   clear HE
   have HE:=Aside0.mk he
   clear he
   go_wp2
   go_ret
   exact ⟨by rw [← HE.out];exact congrArg (fun b=>Ending.returned (Value.bool b)) (decide_eq_decide.2 (by omega)),HB.out⟩
  | succ k1 =>
   have hlt : i < l.length:=by omega
   have hltz : (i : Int) < (l.length : Int):=by omega
   obtain ⟨ad,rfl,x0,x1⟩:=at_T60 HR.out (i : Int) (by omega) hltz
   have x0:=(HB.out.cell (World.block_lt_of_cell? w _ x0)).trans x0
   have x1:=(HB.out.cell (World.block_lt_of_cell? w _ x1)).trans x1
   rw [Int.toNat_natCast] at x0 x1
   have ex : rd_T60 l (i : Int) = l.getD i z60:=rfl
   rw [ex] at x0 x1
   have hd : l.drop i = l.getD i z60 :: l.drop (i + 1):=by
    rw [List.drop_eq_getElem_cons hlt,List.getD_eq_getElem?_getD,List.getElem?_eq_getElem hlt]
    rfl
   have he:=HE.out
   rw [hd,List.map_cons] at he
   have hp1 : prevP l (i + 1) = some (pr (l.getD i z60)):=rfl
   have hname:=HS.out (l.getD i z60) (by rw [List.getD_eq_getElem?_getD,List.getElem?_eq_getElem hlt];exact List.getElem_mem hlt)
   clear HE ex hd
   have e2 : isFrom (prevP l i) (pr (l.getD i z60) :: (l.drop (i + 1)).map pr) = (nameB (pr (l.getD i z60)).1 && valB (pr (l.getD i z60)).2 && (match prevP l i with|none=>true|some q=>ltL q.1 (pr (l.getD i z60)).1) && isFrom (prevP l (i + 1)) ((l.drop (i + 1)).map pr)):=by
    cases prevP l i <;> rfl
   rw [e2] at he
   have hlast : (match prevP l i with|none=>true|some q=>ltL q.1 (pr (l.getD i z60)).1) = if i = 0 then true else ltL (pr (l.getD (i - 1) z60)).1 (pr (l.getD i z60)).1:=by
    unfold prevP
    by_cases h0 : i = 0
    ·rw [if_pos h0,if_pos h0]
    rw [if_neg h0,if_neg h0]
   rw [hlast] at he
   have hy : 0 < i → wr.cell? (ad.add ((i - 1) * 2)) = some (.string (l.getD (i - 1) z60).f0):=fun h0=>by
    obtain ⟨ad',e',y0,_⟩:=at_T60 HR.out ((i - 1 : Nat) : Int) (by omega) (by omega)
    cases e'
    rw [Int.toNat_natCast] at y0
    exact (HB.out.cell (World.block_lt_of_cell? w _ y0)).trans y0
   generalize l.getD (i - 1) z60 = y at he hy
   generalize hrest : isFrom (prevP l (i + 1)) ((l.drop (i + 1)).map pr) = rest at he
   have HRest:=Aside0.mk hrest
   clear hrest
   generalize l.getD i z60 = x at x0 x1 he hname
   have n1:=fun W=>name_calls x.f0 W hname
   have n2:=fun W=>val_calls x.f1 W
   have he : ((nameB x.f0.data.toList && valB x.f1.data.toList && (if i = 0 then true else ltL y.f0.data.toList x.f0.data.toList) && rest) && decide (l.length ≤ 8)) = r:=he
   clear hlast e2 hp1 hname
   have hw : wr.heap[wr.heap.size]? = none:=Array.getElem?_eq_none (Nat.le_refl _)
   cases h1 : nameB x.f0.data.toList with
   | false =>
    rw [h1] at he n1
    have HE:=Aside0.mk he
    clear he h1 n2 hy hw
    go_wp2
    go_quiet (first|(go_at_call 63;exact Calls.quiet_of (n1 _)))
    go_wp2
    go_ret
    exact ⟨by rw [← HE.out];rfl,(by repeat (first|(with_reducible first|exact HB.out|apply below_alloc|apply pw_below_drewN|apply below_drew1)|exact HB.out))⟩
   | true =>
    rw [h1] at he n1
    cases h2 : valB x.f1.data.toList with
    | false =>
     rw [h2] at he n2
     have HE:=Aside0.mk he
     clear he h1 h2 hy hw
     go_wp2
     go_quiet (first|(go_at_call 63;exact Calls.quiet_of (n1 _))|(go_at_call 83;exact Calls.quiet_of (n2 _)))
     go_wp2
     go_ret
     exact ⟨by rw [← HE.out];rfl,(by repeat (first|(with_reducible first|exact HB.out|apply below_alloc|apply pw_below_drewN|apply below_drew1)|exact HB.out))⟩
    | true =>
     rw [h2] at he n2
     rcases Nat.eq_zero_or_pos i with h0|h0
     ·have hz : decide (0 < i) = false:=decide_eq_false (by omega)
      rw [if_pos h0] at he
      have HE:=Aside0.mk (show (rest && decide (l.length ≤ 8)) = r from he)
      have H0:=Aside0.mk h0
      clear he h1 h2 hy hw h0
      go_wp2
      go_quiet (first|(go_at_call 63;exact Calls.quiet_of (n1 _))|(go_at_call 83;exact Calls.quiet_of (n2 _)))
      go_wp2
      go_roundg k1
      case measure=>omega
      case rel=>exact ⟨i + 1,by go_num,by omega,⟨(by repeat (first|(with_reducible first|exact HB.out|apply below_alloc|apply pw_below_drewN|apply below_drew1)|exact HB.out))⟩,⟨by rw [HRest.out];exact HE.out⟩⟩
     obtain ⟨m,rfl⟩ : ∃ m,i = m + 1:=⟨i - 1,by omega⟩
     rw [if_neg (by omega)] at he
     have y0:=hy h0
     rw [Nat.add_sub_cancel] at y0
     have y0:=Lib.cell?_alloc_some (.cells #[.string x.f0,.string x.f1] 60) y0
     have hwp : IntKind.i64.wrap (m : Int) = (m : Int):=by rw [IntKind.wrap_i64];omega
     have jz : (m : Int) < (l.length : Int):=by omega
     have hless : Op.bytesLess y.f0.toList x.f0.toList = ltL y.f0.data.toList x.f0.data.toList:=by rw [less_is,ByteArray.toList_eq,ByteArray.toList_eq]
     have hz : (0 : Int) < (m : Int) + 1:=by omega
     cases h3 : ltL y.f0.data.toList x.f0.data.toList with
     | false =>
      rw [h3] at he hless
      have HE:=Aside0.mk he
      clear he h1 h2 h3 hy hw h0
      go_wp2
      go_quiet (first|(go_at_call 63;exact Calls.quiet_of (n1 _))|(go_at_call 83;exact Calls.quiet_of (n2 _)))
      go_wp2
      go_ret
      exact ⟨by rw [← HE.out];rfl,(by repeat (first|(with_reducible first|exact HB.out|apply below_alloc|apply pw_below_drewN|apply below_drew1)|exact HB.out))⟩
     | true =>
      rw [h3] at he hless
      have HE:=Aside0.mk (show (rest && decide (l.length ≤ 8)) = r from he)
      clear he h1 h2 h3 hy hw h0
      go_wp2
      go_quiet (first|(go_at_call 63;exact Calls.quiet_of (n1 _))|(go_at_call 83;exact Calls.quiet_of (n2 _)))
      go_wp2
      go_roundg k1
      case measure=>omega
      case rel=>exact ⟨m + 1 + 1,by go_num,by omega,⟨(by repeat (first|(with_reducible first|exact HB.out|apply below_alloc|apply pw_below_drewN|apply below_drew1)|exact HB.out))⟩,⟨by rw [HRest.out];exact HE.out⟩⟩
 rw [if_neg g] at h
 exact absurd h (by simp)
/-! slices.Clone at pairs. -/
theorem k60_cells {w : World} {ad : Addr} {xs : List S60} (h : Kd.C k60 w (some ad) xs.length xs) (hne : 0 < xs.length) :
  ∃ b off,ad = ⟨b,off,none⟩ ∧ ∀ (j : Nat) (u : Value),(flatP xs)[j]? = some u → w.cell? ⟨b,off + j,none⟩ = some u:=by
 have hat:=fun (i : Nat) (hi : i < xs.length)=>at_T60 h (i : Int) (by omega) (by omega)
 obtain ⟨b,off,p⟩:=ad
 have hp : p = none:=by
  obtain ⟨ad',e,x0,_⟩:=hat 0 hne
  cases e
  cases p with
  | none=>rfl
  | some q =>
   exfalso
   unfold World.cell? at x0
   simp only [Addr.add] at x0
   revert x0
   repeat' split
   all_goals simp_all
 subst hp
 refine ⟨b,off,rfl,fun j u hu=>?_⟩
 have hjl : j < xs.length * 2:=by have:=(List.getElem?_eq_some_iff.1 hu).1;rwa [flatP_len] at this
 have hg:=flatP_get xs (j / 2) (by omega)
 obtain ⟨ad',e,x0,x1⟩:=hat (j / 2) (by omega)
 cases e
 rw [Int.toNat_natCast] at x0 x1
 have ea : ∀ q : Nat,(⟨b,off,none⟩ : Addr).add q = ⟨b,off + q,none⟩:=fun q=>by unfold Addr.add;split <;> simp_all
 rw [ea] at x0 x1
 have ex : rd_T60 xs ((j / 2 : Nat) : Int) = xs.getD (j / 2) z60:=rfl
 rw [ex] at x0 x1
 rcases Nat.mod_two_eq_zero_or_one j with hm|hm
 ·have ej : j = j / 2 * 2:=by omega
  rw [← ej] at hg
  rw [hg.1] at hu
  rw [← Option.some.inj hu,← x0,← ej]
 have ej : j = j / 2 * 2 + 1:=by omega
 rw [← ej] at hg
 rw [hg.2] at hu
 rw [← Option.some.inj hu,← x1]
 show w.cell? _ = w.cell? ⟨b,off + j / 2 * 2 + 1,none⟩
 rw [Nat.add_assoc,← ej]
theorem clone_some (ad : Addr) (xs : List S60) (c : Nat) (w : World) (hr : Kd.C k60 w (some ad) xs.length xs) (hne : 0 < xs.length) (hn : xs.length ≤ 1000) :
  Calls Tryz.prog 94 #[.slice (some ad) xs.length c] w fun e w'=>∃ g cap,e = .returned (.slice (some ⟨g,0,none⟩) xs.length cap) ∧ w.heap.size ≤ g ∧ cap ≤ maxLen ∧ RowP w' g cap xs ∧ Below w.heap.size w w':=by
 obtain ⟨b,off,rfl,hc⟩:=k60_cells hr hne
 obtain ⟨i0,hi,hz0,hz1,hz2⟩:=info_parts info60
 have hcon:=AnyE.slices_Clone Tryz.lgClone i0 _ 2 32 hi hz0 hz1 hz2 rfl (by omega) Tryz.sizeOf60 b off xs.length c (flatP xs) w (flatP_len xs) (by unfold maxLen;omega) (by omega) hc (fun u hu=>by
  obtain ⟨x,hx,hu⟩:=List.mem_flatMap.1 hu
  exact encP_one x u hu)
 change Calls Tryz.prog 94 _ _ _ at hcon
 refine hcon.mono ?_
 rintro e w' ⟨v',rfl,ho,hnn,hb⟩
 rcases ho.2 with ⟨h1,_⟩|⟨g,cap,cur,rfl,hg,hh,h1,h2,h3,h4⟩
 ·exact absurd h1 hnn
 exact ⟨g,cap,rfl,hg,h2,⟨cur,hh,h3,h4,h1⟩,hb⟩
theorem run_append_none60 (g : Nat) (ad : Addr) (c ty : Nat) (W : World) :
  (Builtin.append_ #[30,30] ty #[.slice (some ⟨g,0,none⟩) 0 0,.slice (some ad) 0 c]).run Tryz.prog W = .ok (.slice (some ⟨g,0,none⟩) 0 0) W:=by
 obtain ⟨i0,hi,hz0,hz1,hz2⟩:=info_parts info60
 simp [Builtin.append_,run_underlying Tryz.underlying30,sizeOf,typeInfo,hi,Builtin.lenOf,Builtin.firstCells,loadCells,loadCellsFrom,storeCells]
theorem clone_empty (p : Option Addr) (c : Nat) (w : World) :
  Calls Tryz.prog 94 #[.slice p 0 c] w fun e w'=>Below w.heap.size w w' ∧ ((p = none ∧ e = .returned (.slice none 0 0)) ∨ ∃ g,e = .returned (.slice (some ⟨g,0,none⟩) 0 0) ∧ w.heap.size ≤ g ∧ w'.heap[g]? = some (.cells #[] 60 (0,0))):=by
 cases p with
 | none =>
  have hcon:=AnyE.slices_Clone_nil Tryz.lgClone 0 c w
  change Calls Tryz.prog 94 _ _ _ at hcon
  refine hcon.mono ?_
  rintro e w' ⟨rfl,rfl⟩
  exact ⟨Below.refl _ _,.inl ⟨rfl,rfl⟩⟩
 | some ad =>
  have q30 : ∀ (w : World) (a : Option Addr) (n c n' c' : Nat),(binOp .eql 30 (.slice a n c) (.slice none n' c')).run Tryz.prog w = .ok (.bool a.isNone) w:=fun w a n c n' c'=>Lib.run_eql_slice_nil w _ _ a n c n' c' Tryz.underlying30
  have ha:=run_append_none60
  go_enter Tryz.func94,Tryz.ntmps94
  go_wp2
  go_ret
  exact ⟨below_alloc (Below.refl _ _) _,.inr ⟨w.heap.size,rfl,Nat.le_refl _,heap_alloc_new w _⟩⟩
/-! label.Make -/
theorem flatP_seg : ∀ (xs : List S60) (j : Nat) (p : S60),xs[j]? = some p → ((flatP xs).drop (j * 2)).take 2 = [.string p.f0,.string p.f1]
 | x :: xs,0,p,h=>by
  have : x = p:=by simpa using h
  subst this
  rfl
 | x :: xs,j + 1,p,h=>by
  have ih:=flatP_seg xs j p (by simpa using h)
  have e : flatP (x :: xs) = .string x.f0 :: .string x.f1 :: flatP xs:=rfl
  rw [e,show (j + 1) * 2 = j * 2 + 1 + 1 by omega]
  exact ih
theorem RowP.toR {w : World} {g cap : Nat} {xs : List S60} (h : RowP w g cap xs) {base : Nat} (hb : base ≤ g) (hc : cap ≤ maxLen) : Kd.R k60 60 w base (fun _=>True) (.slice (some ⟨g,0,none⟩) xs.length cap) xs:=by
 obtain ⟨cur,hh,hs,ht,hn⟩:=h.ex
 refine ⟨fun _ _=>trivial,flatP xs,⟨flatP_len xs,.inr ⟨g,cap,cur,rfl,hb,hh,hn,hc,hs,ht⟩⟩,⟨flatP_len xs,fun j p hj=>?_⟩⟩
 have:=flatP_seg xs j p hj
 show k60.M w base _ p (((flatP xs).drop (j * 2)).take 2)
 rw [this]
 exact k60_mkM w base _ p
def pE (x : S60) : Bool:=x.f1.data.toList == []
theorem pred98 (blk : Nat) (w : World) : PredG 98 #[] pE blk w:=fun W x hg=>by
 obtain ⟨a,b⟩:=x
 show Calls Tryz.prog 98 #[.agg #[.string a,.string b]] W fun e w'=>e = .returned (.bool (b.data.toList == [])) ∧ Below W.heap.size W w'
 have hbe : b.toList.isEmpty = (b.data.toList == []):=by rw [ByteArray.toList_eq];cases b.data.toList <;> rfl
 rw [← hbe]
 clear hbe hg
 go_enter Tryz.func98,Tryz.ntmps98
 go_wp2
 go_ret
 exact ⟨rfl,below_alloc (Below.refl _ _) _⟩
def mkT (t : List S60) : List S60 × Int :=
 if dupP (t.map pr) then ([],31) else if isS ((t.filter fun x=>!pE x).map pr) then (t.filter fun x=>!pE x,0) else ([],30)
theorem insP0_mem {xs : List S60} {x : S60} (h : x ∈ insP0 xs) : x ∈ xs:=(insP0_perm xs).mem_iff.1 h
theorem eql_names (a b : ByteArray) : (a.toList == b.toList) = (a.data.toList == b.data.toList):=by rw [ByteArray.toList_eq,ByteArray.toList_eq]
set_option maxHeartbeats 4000000 in
set_option maxRecDepth 100000 in
theorem make_some (ad : Addr) (c : Nat) (xs : List S60) (w : World) (hr : Kd.C k60 w (some ad) xs.length xs) (hne : 0 < xs.length) (hn : xs.length ≤ 19) (hsz : ∀ x ∈ xs,x.f0.size ≤ 9223372036854775807) :
  Calls Tryz.prog 60 #[.slice (some ad) xs.length c] w fun e w'=>∃ v,e = .returned (.tuple #[v,.int .i64 (mkT (insP0 xs)).2]) ∧ Kd.R k60 60 w' w.heap.size (fun _=>True) v (mkT (insP0 xs)).1 ∧ Below w.heap.size w w':=by
 have hcl:=clone_some ad xs c w hr hne (by omega)
 have hso:=fun g cap w1 hR=>sst_calls g cap xs w1 hR hn
 have hlen:=ins_stmt xs
 have hmem : ∀ x ∈ insP0 xs,x.f0.size ≤ 9223372036854775807:=fun x hx=>hsz x (insP0_mem hx)
 generalize insP0 xs = t at hso hlen hmem ⊢
 rw [← hlen] at hcl hso ⊢
 have HN:=Aside0.mk hmem
 have hn : t.length ≤ 19:=by omega
 clear hr hsz hne hmem
 have HL:=Aside0.mk hlen
 clear hlen
 go_enter Tryz.func60,Tryz.ntmps60
 go_wp2_with (go_at_call 94;refine hcl.mono ?_;rintro e w1 ⟨g,cap,rfl,hg,hcap,hR,hb⟩)
 clear hcl
 have hso:=hso g cap w1 hR
 have HB:=Aside0.mk hb
 have HG:=Aside0.mk (And.intro hg hcap)
 clear hR hb hg hcap
 go_wp2_with (go_at_call 95;refine hso.mono ?_;rintro e w2 ⟨rfl,hR,hgr⟩)
 clear hso
 have HR:=Aside0.mk hR
 have HB2:=Aside0.mk (pw_below_grown HB.out (some g) HB.out.size hgr (fun k hk=>by cases hk;exact HG.out.1))
 have EG:=Aside0.mk (show ∀ args w,(callFunc 98 args).run Tryz.prog w = .ok (.enter 98 args) w from enters_of Tryz.func98 (by kernel_rfl) rfl)
 clear hR hgr HB
 go_loopg [5] t.length (fun kq v5 w'=>∃ (i : Nat),v5 = .int .i64 (i + 1 : Nat) ∧ t.length ≤ kq + (i + 1) ∧ Aside0 (dupP (t.map pr) = dupP ((t.drop i).map pr)) ∧ Drawn0 w2 w')
 case atStart=>exact ⟨0,rfl,by omega,⟨by rw [List.drop_zero]⟩,Drawn0.refl _⟩
 obtain ⟨i,rfl,hik,HD,⟨nd,rfl⟩⟩:=hrel
 by_cases hlt : i + 1 < t.length
 ·have hltz : ((i + 1 : Nat) : Int) < (t.length : Int):=by omega
  have hltz2 : (i : Int) + 1 < (t.length : Int):=by omega
  obtain ⟨x0,_⟩:=HR.out.cell i (by omega)
  obtain ⟨y0,_⟩:=HR.out.cell (i + 1) hlt
  have hwp : IntKind.i64.wrap (i : Int) = (i : Int):=by rw [IntKind.wrap_i64];omega
  have hd : t.drop i = t.getD i z60 :: t.getD (i + 1) z60 :: t.drop (i + 1 + 1):=by
   rw [List.drop_eq_getElem_cons (show i < t.length by omega),List.drop_eq_getElem_cons hlt,List.getD_eq_getElem?_getD,List.getD_eq_getElem?_getD,List.getElem?_eq_getElem hlt,List.getElem?_eq_getElem (show i < t.length by omega)]
   rfl
  have hd1 : t.drop (i + 1) = t.getD (i + 1) z60 :: t.drop (i + 1 + 1):=by
   rw [List.drop_eq_getElem_cons hlt,List.getD_eq_getElem?_getD,List.getElem?_eq_getElem hlt]
   rfl
  have hdd : dupP ((t.drop i).map pr) = dupP ((t.drop i).map pr):=rfl
  conv at hdd=>rhs;rw [hd]
  have HD1:=Aside0.mk hd1
  clear hd hd1
  generalize t.getD i z60 = x at x0 hdd
  generalize t.getD (i + 1) z60 = y at y0 hdd HD1
  have hdd : dupP ((t.drop i).map pr) = ((pr x).1 == (pr y).1 || dupP ((y :: t.drop (i + 1 + 1)).map pr)):=hdd
  cases hxy : ((pr x).1 == (pr y).1) with
  | true =>
   have he : (x.f0.toList == y.f0.toList) = true:=(eql_names x.f0 y.f0).trans hxy
   rw [hxy,Bool.true_or] at hdd
   have HM:=Aside0.mk (show mkT t = ([],31) by unfold mkT;rw [HD.out,hdd,if_pos rfl])
   clear hdd hxy HD
   go_wp2
   go_quiet (fail)
   go_wp2
   go_ret2
   rw [HM.out]
   exact ⟨_,rfl,Kd.R_nil _ _ _ _ _,by repeat (first|exact HB2.out|apply pw_below_drewN)⟩
  | false =>
   have he : (x.f0.toList == y.f0.toList) = false:=(eql_names x.f0 y.f0).trans hxy
   rw [hxy,Bool.false_or] at hdd
   rw [← HD1.out] at hdd
   have HE:=Aside0.mk (HD.out.trans hdd)
   clear hdd hxy HD1 HD
   go_wp2
   go_quiet (fail)
   go_wp2
   obtain ⟨k1,rfl⟩ : ∃ k1,gk = k1 + 1:=⟨gk - 1,by omega⟩
   go_roundg k1
   case measure=>omega
   case rel=>exact ⟨i + 1,by go_num,by omega,HE,by repeat (first|exact Drawn0.refl _|apply Drawn0.step)⟩
 have hltz : ¬ ((i + 1 : Nat) : Int) < (t.length : Int):=by omega
 have hltz2 : ¬ (i : Int) + 1 < (t.length : Int):=by omega
 have hlast : dupP ((t.drop i).map pr) = false:=by
  have : (t.drop i).length ≤ 1:=by rw [List.length_drop];omega
  match t.drop i,this with
  | [],_=>rfl
  | [x],_=>rfl
  | x :: y :: r,h=>simp at h
 have HND:=Aside0.mk (HD.out.trans hlast)
 have hdel:=del_calls pE 98 #[] g cap t (w2.drewN nd) EG.out (pred98 g _) (HR.out.drewN nd) (by omega)
 have HNF:=Aside0.mk (show ∀ x ∈ t.filter (fun x=>!pE x),x.f0.size ≤ 9223372036854775807 from fun x hx=>HN.out x (List.mem_filter.1 hx).1)
 have HNL:=Aside0.mk (show (t.filter (fun x=>!pE x)).length ≤ 1000 from Nat.le_trans (List.length_filter_le _ _) (by omega))
 have HM:=Aside0.mk (show mkT t = if isS ((t.filter fun x=>!pE x).map pr) then (t.filter fun x=>!pE x,0) else ([],30) by unfold mkT;rw [HND.out];rfl)
 generalize t.filter (fun x=>!pE x) = F at hdel HNF HNL HM
 clear hlast HD HR HND HN
 go_wp2_with (go_at_call 97;refine hdel.mono ?_;rintro e w3 ⟨rfl,hR,hgr⟩)
 have HB3:=Aside0.mk (pw_below_grown (pw_below_drewN HB2.out nd) (some g) (pw_below_drewN HB2.out nd).size hgr (fun k hk=>by cases hk;exact HG.out.1))
 have HR3:=Aside0.mk (hR.toR (base:=w.heap.size) HG.out.1 HG.out.2)
 clear hR hgr hdel
 have his:=label_Is.calls (some ⟨g,0,none⟩) cap F (isS (F.map pr)) w3 (Kd.R_reads' HR3.out).2.2 (Kd.R_reads' HR3.out).2.1 (by unfold label_Is.f;rw [if_pos ⟨HNL.out,HNF.out⟩])
 cases hS : isS (F.map pr) with
 | true =>
  have HM':=Aside0.mk (show mkT t = (F,0) by rw [HM.out,hS];rfl)
  rw [hS] at his
  clear hS HM
  go_wp2_with (go_at_call 48;refine his.mono ?_;rintro e w4 ⟨rfl,hb⟩)
  go_ret2
  rw [HM'.out]
  exact ⟨_,rfl,Kd.R_below HR3.out hb,below_step HB3.out hb⟩
 | false =>
  have HM':=Aside0.mk (show mkT t = ([],30) by rw [HM.out,hS];rfl)
  rw [hS] at his
  clear hS HM
  go_wp2_with (go_at_call 48;refine his.mono ?_;rintro e w4 ⟨rfl,hb⟩)
  go_ret2
  rw [HM'.out]
  exact ⟨_,rfl,Kd.R_nil _ _ _ _ _,below_step HB3.out hb⟩
/-! A struct of six cells. -/
def RLine (w : World) (o : List S60 × Bool × Int × Int × Bool × Int × Int) (e : Ending) (w' : World) : Prop :=
 ∃ v0_ : Value,e = .returned (.tuple #[.agg #[v0_,.bool o.2.1,.int .i64 o.2.2.1,.int .i64 o.2.2.2.1,.bool o.2.2.2.2.1,.int .i64 o.2.2.2.2.2.1],.int .i64 o.2.2.2.2.2.2]) ∧ Kd.R k60 60 w' w.heap.size (fun _=>True) v0_ o.1 ∧ Below w.heap.size w w'
abbrev set6 (w : World) (g : Nat) (b0 b1 b2 b3 b4 b5 : Value) : World:=(((((w.setCell ⟨g,0,none⟩ b0).setCell ⟨g,1,none⟩ b1).setCell ⟨g,2,none⟩ b2).setCell ⟨g,3,none⟩ b3).setCell ⟨g,4,none⟩ b4).setCell ⟨g,5,none⟩ b5
theorem blk6 {w : World} {g : Nat} {a0 a1 a2 a3 a4 a5 : Value} (h : w.heap[g]? = some (.cells #[a0,a1,a2,a3,a4,a5] 34 (0,0))) (b0 b1 b2 b3 b4 b5 : Value) : (set6 w g b0 b1 b2 b3 b4 b5).heap[g]? = some (.cells #[b0,b1,b2,b3,b4,b5] 34 (0,0)) :=
 (blk_set (blk_set (blk_set (blk_set (blk_set (blk_set h 0 b0) 1 b1) 2 b2) 3 b3) 4 b4) 5 b5).trans (by simp)
theorem bel6 {w0 w : World} {g : Nat} (h : Below w0.heap.size w0 w) (hg : w0.heap.size ≤ g) (b0 b1 b2 b3 b4 b5 : Value) : Below w0.heap.size w0 (set6 w g b0 b1 b2 b3 b4 b5) :=
 below_set (below_set (below_set (below_set (below_set (below_set h hg) hg) hg) hg) hg) hg
theorem R6 {w : World} {base g : Nat} {ok : Nat → Prop} {v : Value} {xs : List S60} {a0 a1 a2 a3 a4 a5 : Value} (h : Kd.R k60 60 w base ok v xs) (hb : w.heap[g]? = some (.cells #[a0,a1,a2,a3,a4,a5] 34 (0,0))) (b0 b1 b2 b3 b4 b5 : Value) : Kd.R k60 60 (set6 w g b0 b1 b2 b3 b4 b5) base ok v xs :=
 Kd.R_set (Kd.R_set (Kd.R_set (Kd.R_set (Kd.R_set (Kd.R_set h hb (by decide) 0 b0) (blk_set hb 0 b0) (by decide) 1 b1) (blk_set (blk_set hb 0 b0) 1 b1) (by decide) 2 b2) (blk_set (blk_set (blk_set hb 0 b0) 1 b1) 2 b2) (by decide) 3 b3) (blk_set (blk_set (blk_set (blk_set hb 0 b0) 1 b1) 2 b2) 3 b3) (by decide) 4 b4) (blk_set (blk_set (blk_set (blk_set (blk_set hb 0 b0) 1 b1) 2 b2) 3 b3) 4 b4) (by decide) 5 b5
theorem cel6 {w : World} {g : Nat} {a0 a1 a2 a3 a4 a5 : Value} (h : w.heap[g]? = some (.cells #[a0,a1,a2,a3,a4,a5] 34 (0,0))) :
  (w.cell? ⟨g,0,none⟩ = some a0 ∧ w.cell? ⟨g,1,none⟩ = some a1 ∧ w.cell? ⟨g,2,none⟩ = some a2 ∧ w.cell? ⟨g,3,none⟩ = some a3 ∧ w.cell? ⟨g,4,none⟩ = some a4 ∧ w.cell? ⟨g,5,none⟩ = some a5) ∧ (w.frozen? ⟨g,0,none⟩ = false ∧ w.frozen? ⟨g,1,none⟩ = false ∧ w.frozen? ⟨g,2,none⟩ = false ∧ w.frozen? ⟨g,3,none⟩ = false ∧ w.frozen? ⟨g,4,none⟩ = false ∧ w.frozen? ⟨g,5,none⟩ = false) :=
 ⟨⟨(blk_cell h 0).trans (by simp),(blk_cell h 1).trans (by simp),(blk_cell h 2).trans (by simp),(blk_cell h 3).trans (by simp),(blk_cell h 4).trans (by simp),(blk_cell h 5).trans (by simp)⟩,⟨blk_frozen h 0,blk_frozen h 1,blk_frozen h 2,blk_frozen h 3,blk_frozen h 4,blk_frozen h 5⟩⟩
theorem blk_off {w : World} {g b j : Nat} {o : Obj} {u : Value} (h : w.heap[g]? = some o) (hne : g ≠ b) : (w.setCell ⟨b,j,none⟩ u).heap[g]? = some o:=(Below.heap_setCell w ⟨b,j,none⟩ u g hne).trans h
theorem R_shape {α : Type} {d : Kd α} {e base : Nat} {ok : Nat → Prop} {w : World} {v : Value} {xs : List α} (h : d.R e w base ok v xs) (hp : 0 < xs.length) : ∃ g c,v = .slice (some ⟨g,0,none⟩) xs.length c:=by
 obtain ⟨_,inner,ho,hr⟩:=h
 rcases ho.2 with ⟨_,h1⟩|⟨g,cap,cur,h1,_⟩
 ·omega
 exact ⟨g,cap,h1⟩
end Go.Proofs.YtfgffjchphignaaGreatDoor.Print
end
section
namespace Go.Proofs.YtfgffjchphignaaGreatDoor.Print
open Go.RowKit Go.Proofs.YtfgffjchphignaaGreatDoorX Go.Proofs.YtfgffjchphignaaGreatDoorW.PrintWords Go.Proofs.YtfgffjchphignaaGreatDoorW.PrintLast Go.Proofs.YtfgffjchphignaaGreatDoorW.PrintMore
/-! ### expo_words: function 34 -/
mutual
def expo_words.l0 : Nat → ByteArray → List ByteArray → Int → Bool → Int → Option (List ByteArray)
 | 0,_,_,_,_,_=>none
 | k + 1,x0,x3,x4,x5,x6=>if x6 < (x0.size : Int) then (if x5 = true then (if 0 ≤ x6 then (expo_words.j1 k x0 x3 x4 x5 x6 ((bt x0 x6) == 92)) else (none)) else (expo_words.j1 k x0 x3 x4 x5 x6 false)) else (if 0 ≤ x4 then (if x4 ≤ (x0.size : Int) then (if x3.length < 8796093022208 then (some (x3 ++ [x0.extract (x4 : Int).toNat x0.size])) else (none)) else (none)) else (none))
def expo_words.j1 : Nat → ByteArray → List ByteArray → Int → Bool → Int → Bool → Option (List ByteArray)
 | 0,_,_,_,_,_,_=>none
 | k + 1,x0,x3,x4,x5,x6,x13=>if x13 = true then (expo_words.l0 k x0 x3 x4 x5 (wrap64 ((wrap64 (x6 + 1)) + 1))) else (if 0 ≤ x6 then (if x6 < (x0.size : Int) then (if (bt x0 x6) = 34 then (expo_words.l0 k x0 x3 x4 (!x5) (wrap64 (x6 + 1))) else (if (bt x0 x6) = 32 then (if x5 = true then (expo_words.l0 k x0 x3 x4 x5 (wrap64 (x6 + 1))) else (if 0 ≤ x4 then (if x4 ≤ x6 then (if x6 ≤ (x0.size : Int) then (if x3.length < 8796093022208 then (expo_words.l0 k x0 (x3 ++ [x0.extract (x4 : Int).toNat (x6 : Int).toNat]) (wrap64 (x6 + 1)) x5 (wrap64 (x6 + 1))) else (none)) else (none)) else (none)) else (none))) else (expo_words.l0 k x0 x3 x4 x5 (wrap64 (x6 + 1))))) else (none)) else (none))
end
def expo_words.f (k : Nat) (a0 : ByteArray) : Option (List ByteArray):=expo_words.l0 k a0 ([] : List ByteArray) 0 false 0
set_option maxHeartbeats 8000000 in
set_option maxRecDepth 100000 in
theorem expo_words.calls (k : Nat) (a0 : ByteArray) (r : List ByteArray) (w : World) (h : expo_words.f k a0 = some r) :
  Calls Tryz.prog 34 #[.string a0] w fun e w'=>∃ v0_ : Value,e = .returned (v0_) ∧ Kd.R Kd.string 9 w' w.heap.size (fun _=>True) v0_ r ∧ Below w.heap.size w w':=by
 have HB:=Aside0.mk (Below.refl w.heap.size w)
 have H : (expo_words.l0 k a0 ([] : List ByteArray) 0 false 0) = some r:=h
 clear h
 have H':=Aside0.mk H
 clear H
 go_enter Tryz.func34,Tryz.ntmps34
 go_wp2
 go_loopg [3,4,5,6] k (fun kq v3 v4 v5 v6 w'=>∃ (x3_1 : List ByteArray) (x4_1 : Int) (x5_1 : Bool) (x6_1 : Int),v4 = .int .i64 x4_1 ∧ v5 = .bool x5_1 ∧ v6 = .int .i64 x6_1 ∧ Aside0 (expo_words.l0 kq a0 x3_1 x4_1 x5_1 x6_1 = some r) ∧ Aside0 (kq ≤ k) ∧ Aside0 (Kd.R Kd.string 9 w' w.heap.size (fun _=>True) v3 x3_1) ∧ Aside0 (Below w.heap.size w w'))
 case atStart=>exact ⟨(([] : List ByteArray)),(0),(false),(0),(by first|rfl|(simp;done)|(simp [*];done)),(by first|rfl|(simp;done)|(simp [*];done)),(by first|rfl|(simp;done)|(simp [*];done)),H',⟨Nat.le_refl _⟩,⟨by first|exact Kd.R_nil _ _ _ _ _|exact Kd.N_nil _ _ _ _ _|exact Kd.V_nil _ _ _ _ _|exact Kd.Q_nil _ _ _ _ _|exact Kd.S_nil _ _ _ _ _⟩,⟨by repeat (first|(with_reducible first|exact HB.out|apply below_alloc|apply pw_below_drewN|apply below_drew1)|exact HB.out)⟩⟩
 clear H'
 obtain ⟨x3_1,x4_1,x5_1,x6_1,rfl,rfl,rfl,HA,HK1,HO_3,HB⟩:=hrel
 cases gk with
 | zero=>exact absurd HA.out (by simp [expo_words.l0])
 | succ k1 =>
  have H:=HA.out
  clear HA
  simp only [expo_words.l0] at H
  by_cases c2 : x6_1 < (a0.size : Int)
  ·rw [if_pos c2] at H
   have c2b0 : decide (x6_1 < (a0.size : Int)) = true:=decide_eq_true c2
   clear c2
   have HC3:=Aside0.mk H
   clear H
   go_upto_region 6 with (fail)
   go_cut [13] (fun v13 wc=>∃ (kq : Nat) (x13_2 : Bool),v13 = .bool x13_2 ∧ Aside0 (expo_words.j1 kq a0 x3_1 x4_1 x5_1 x6_1 x13_2 = some r) ∧ Aside0 (kq ≤ k1) ∧ Aside0 (Kd.R Kd.string 9 wc w.heap.size (fun _=>True) u3 x3_1) ∧ Aside0 (Below w.heap.size w wc))
   case first =>
    have H:=HC3.out
    clear HC3
    by_cases c4 : x5_1 = true
    ·subst c4
     have H1 : (if 0 ≤ x6_1 then (expo_words.j1 k1 a0 x3_1 x4_1 true x6_1 ((bt a0 x6_1) == 92)) else (none)) = some r:=by rw [if_pos rfl] at H;exact H
     clear H
     have H:=H1
     clear H1
     by_cases c5 : 0 ≤ x6_1
     ·rw [if_pos c5] at H
      have c5b0 : decide (0 ≤ x6_1) = true:=decide_eq_true c5
      clear c5
      (first|rw [c5b0]|(simp only [i64_w,i32_w];rw [c5b0])|skip)
      have H':=Aside0.mk H
      clear H
      have p6 : 0 ≤ (x6_1 : Int):=of_decide_eq_true (by first|(with_reducible assumption)|assumption)
      have q6 : x6_1 < (a0.size : Int):=of_decide_eq_true (by first|(with_reducible assumption)|assumption)
      have hx6:=bt_at a0 x6_1
      replace p6:=eq_true p6
      replace q6:=eq_true q6
      go_wp2
      go_meet
      case rel=>exact ⟨_,(((bt a0 x6_1) == 92)),(by first|rfl|(simp;done)|(simp [*];done)),H',⟨by have:=HK1.out;first|omega|exact Nat.le_refl _⟩,⟨by (with_reducible repeat (first|apply Kd.R_alloc|apply Kd.R_drewN|apply Kd.R_drew));exact HO_3.out⟩,⟨by repeat (first|(with_reducible first|exact HB.out|apply below_alloc|apply pw_below_drewN|apply below_drew1)|exact HB.out)⟩⟩
     rw [if_neg c5] at H
     exact absurd H (by simp)
    replace c4:=Bool.eq_false_iff.mpr c4
    subst c4
    have H1 : (expo_words.j1 k1 a0 x3_1 x4_1 false x6_1 false) = some r:=by rw [if_neg (show ¬ (false = true) by decide)] at H;exact H
    clear H
    have H:=H1
    clear H1
    have H':=Aside0.mk H
    clear H
    go_wp2
    go_meet
    case rel=>exact ⟨_,(false),(by first|rfl|(simp;done)|(simp [*];done)),H',⟨by have:=HK1.out;first|omega|exact Nat.le_refl _⟩,⟨by (with_reducible repeat (first|apply Kd.R_alloc|apply Kd.R_drewN|apply Kd.R_drew));exact HO_3.out⟩,⟨by repeat (first|(with_reducible first|exact HB.out|apply below_alloc|apply pw_below_drewN|apply below_drew1)|exact HB.out)⟩⟩
   clear HC3
   try clear c2
   try clear c2b0
   try clear p2
   try clear c3
   try clear c4
   try clear c5
   try clear c5b0
   try clear p6
   try clear q6
   try clear hx6
   try clear p6
   try clear q6
   obtain ⟨kq,x13_2,rfl,HA,HJ2,HO_3,HB⟩:=hcut
   cases kq with
   | zero=>exact absurd HA.out (by simp [expo_words.j1])
   | succ kj2 =>
    have H:=HA.out
    clear HA
    simp only [expo_words.j1] at H
    by_cases c7 : x13_2 = true
    ·subst c7
     have H1 : (expo_words.l0 kj2 a0 x3_1 x4_1 x5_1 (wrap64 ((wrap64 (x6_1 + 1)) + 1))) = some r:=by rw [if_pos rfl] at H;exact H
     clear H
     have H:=H1
     clear H1
     have H':=Aside0.mk H
     clear H
     go_wp2
     go_roundg kj2
     case measure=>have:=HK1.out;have:=HJ2.out;omega
     case rel=>exact ⟨(x3_1),(x4_1),(x5_1),(wrap64 ((wrap64 (x6_1 + 1)) + 1)),(by first|rfl|(simp;done)|(simp [*];done)),(by first|rfl|(simp;done)|(simp [*];done)),(by first|rfl|(simp;done)|(simp [*];done)),H',⟨by have:=HK1.out;have:=HJ2.out;omega⟩,⟨by (with_reducible repeat (first|apply Kd.R_alloc|apply Kd.R_drewN|apply Kd.R_drew));exact HO_3.out⟩,⟨by repeat (first|(with_reducible first|exact HB.out|apply below_alloc|apply pw_below_drewN|apply below_drew1)|exact HB.out)⟩⟩
    replace c7:=Bool.eq_false_iff.mpr c7
    subst c7
    have H1 : (if 0 ≤ x6_1 then (if x6_1 < (a0.size : Int) then (if (bt a0 x6_1) = 34 then (expo_words.l0 kj2 a0 x3_1 x4_1 (!x5_1) (wrap64 (x6_1 + 1))) else (if (bt a0 x6_1) = 32 then (if x5_1 = true then (expo_words.l0 kj2 a0 x3_1 x4_1 x5_1 (wrap64 (x6_1 + 1))) else (if 0 ≤ x4_1 then (if x4_1 ≤ x6_1 then (if x6_1 ≤ (a0.size : Int) then (if x3_1.length < 8796093022208 then (expo_words.l0 kj2 a0 (x3_1 ++ [a0.extract (x4_1 : Int).toNat (x6_1 : Int).toNat]) (wrap64 (x6_1 + 1)) x5_1 (wrap64 (x6_1 + 1))) else (none)) else (none)) else (none)) else (none))) else (expo_words.l0 kj2 a0 x3_1 x4_1 x5_1 (wrap64 (x6_1 + 1))))) else (none)) else (none)) = some r:=by rw [if_neg (show ¬ (false = true) by decide)] at H;exact H
    clear H
    have H:=H1
    clear H1
    by_cases c8 : 0 ≤ x6_1
    ·rw [if_pos c8] at H
     have c8b0 : decide (0 ≤ x6_1) = true:=decide_eq_true c8
     clear c8
     by_cases c9 : x6_1 < (a0.size : Int)
     ·rw [if_pos c9] at H
      have c9b0 : decide (x6_1 < (a0.size : Int)) = true:=decide_eq_true c9
      clear c9
      by_cases c11 : (bt a0 x6_1) = 34
      ·rw [if_pos c11] at H
       have c11b0 : ((bt a0 x6_1) == 34) = true:=beq_iff_eq.mpr c11
       have c11b1 : ((bt a0 x6_1) != 34) = false:=bne_eq_false_iff_eq.mpr c11
       clear c11
       have H':=Aside0.mk H
       clear H
       have p10 : 0 ≤ (x6_1 : Int):=of_decide_eq_true (by first|(with_reducible assumption)|assumption)
       have q10 : x6_1 < (a0.size : Int):=of_decide_eq_true (by first|(with_reducible assumption)|assumption)
       have hx10:=bt_at a0 x6_1
       replace p10:=eq_true p10
       replace q10:=eq_true q10
       go_wp2
       go_roundg kj2
       case measure=>have:=HK1.out;have:=HJ2.out;omega
       case rel=>exact ⟨(x3_1),(x4_1),(!x5_1),(wrap64 (x6_1 + 1)),(by first|rfl|(simp;done)|(simp [*];done)),(by first|rfl|(simp;done)|(simp [*];done)),(by first|rfl|(simp;done)|(simp [*];done)),H',⟨by have:=HK1.out;have:=HJ2.out;omega⟩,⟨by (with_reducible repeat (first|apply Kd.R_alloc|apply Kd.R_drewN|apply Kd.R_drew));exact HO_3.out⟩,⟨by repeat (first|(with_reducible first|exact HB.out|apply below_alloc|apply pw_below_drewN|apply below_drew1)|exact HB.out)⟩⟩
      rw [if_neg c11] at H
      have c11b0 : ((bt a0 x6_1) == 34) = false:=beq_eq_false_iff_ne.mpr c11
      have c11b1 : ((bt a0 x6_1) != 34) = true:=bne_iff_ne.mpr c11
      by_cases c13 : (bt a0 x6_1) = 32
      ·rw [if_pos c13] at H
       have c13b0 : ((bt a0 x6_1) == 32) = true:=beq_iff_eq.mpr c13
       have c13b1 : ((bt a0 x6_1) != 32) = false:=bne_eq_false_iff_eq.mpr c13
       clear c13
       by_cases c14 : x5_1 = true
       ·subst c14
        have H1 : (expo_words.l0 kj2 a0 x3_1 x4_1 true (wrap64 (x6_1 + 1))) = some r:=by rw [if_pos rfl] at H;exact H
        clear H
        have H:=H1
        clear H1
        have H':=Aside0.mk H
        clear H
        have p10 : 0 ≤ (x6_1 : Int):=of_decide_eq_true (by first|(with_reducible assumption)|assumption)
        have q10 : x6_1 < (a0.size : Int):=of_decide_eq_true (by first|(with_reducible assumption)|assumption)
        have hx10:=bt_at a0 x6_1
        replace p10:=eq_true p10
        replace q10:=eq_true q10
        have p12 : 0 ≤ (x6_1 : Int):=of_decide_eq_true (by first|(with_reducible assumption)|assumption)
        have q12 : x6_1 < (a0.size : Int):=of_decide_eq_true (by first|(with_reducible assumption)|assumption)
        have hx12:=bt_at a0 x6_1
        replace p12:=eq_true p12
        replace q12:=eq_true q12
        go_wp2
        go_roundg kj2
        case measure=>have:=HK1.out;have:=HJ2.out;omega
        case rel=>exact ⟨(x3_1),(x4_1),(true),(wrap64 (x6_1 + 1)),(by first|rfl|(simp;done)|(simp [*];done)),(by first|rfl|(simp;done)|(simp [*];done)),(by first|rfl|(simp;done)|(simp [*];done)),H',⟨by have:=HK1.out;have:=HJ2.out;omega⟩,⟨by (with_reducible repeat (first|apply Kd.R_alloc|apply Kd.R_drewN|apply Kd.R_drew));exact HO_3.out⟩,⟨by repeat (first|(with_reducible first|exact HB.out|apply below_alloc|apply pw_below_drewN|apply below_drew1)|exact HB.out)⟩⟩
       replace c14:=Bool.eq_false_iff.mpr c14
       subst c14
       have H1 : (if 0 ≤ x4_1 then (if x4_1 ≤ x6_1 then (if x6_1 ≤ (a0.size : Int) then (if x3_1.length < 8796093022208 then (expo_words.l0 kj2 a0 (x3_1 ++ [a0.extract (x4_1 : Int).toNat (x6_1 : Int).toNat]) (wrap64 (x6_1 + 1)) false (wrap64 (x6_1 + 1))) else (none)) else (none)) else (none)) else (none)) = some r:=by rw [if_neg (show ¬ (false = true) by decide)] at H;exact H
       clear H
       have H:=H1
       clear H1
       by_cases c15 : 0 ≤ x4_1
       ·rw [if_pos c15] at H
        have c15b0:=eq_true c15
        have c15b1 : decide (0 ≤ x4_1) = true:=decide_eq_true c15
        clear c15
        by_cases c16 : x4_1 ≤ x6_1
        ·rw [if_pos c16] at H
         have c16b0:=eq_true c16
         have c16b1 : decide (x4_1 ≤ x6_1) = true:=decide_eq_true c16
         clear c16
         by_cases c17 : x6_1 ≤ (a0.size : Int)
         ·rw [if_pos c17] at H
          have c17b0:=eq_true c17
          have c17b1 : decide (x6_1 ≤ (a0.size : Int)) = true:=decide_eq_true c17
          clear c17
          by_cases c18 : x3_1.length < 8796093022208
          ·rw [if_pos c18] at H
           have LMc18:=Aside0.mk c18
           clear c18
           obtain ⟨y104,hy104⟩ : ∃ y_ : List ByteArray,y_ = (x3_1 ++ [a0.extract (x4_1 : Int).toNat (x6_1 : Int).toNat]):=⟨_,rfl⟩
           replace H : (expo_words.l0 kj2 a0 y104 (wrap64 (x6_1 + 1)) false (wrap64 (x6_1 + 1))) = some r:=by first|(rw [hy104];with_reducible exact H)|(have H2_:=(Option.bind_some _ _).symm.trans H;rw [hy104];with_reducible exact H2_)|(have H2_:=(Option.bind_some _ _).symm.trans H;with_reducible exact H2_)|with_reducible exact H|(rw [hy104];exact H)|exact H
           have Ny104:=Aside0.mk hy104
           clear hy104
           have H':=Aside0.mk H
           clear H
           have p10 : 0 ≤ (x6_1 : Int):=of_decide_eq_true (by first|(with_reducible assumption)|assumption)
           have q10 : x6_1 < (a0.size : Int):=of_decide_eq_true (by first|(with_reducible assumption)|assumption)
           have hx10:=bt_at a0 x6_1
           replace p10:=eq_true p10
           replace q10:=eq_true q10
           have p12 : 0 ≤ (x6_1 : Int):=of_decide_eq_true (by first|(with_reducible assumption)|assumption)
           have q12 : x6_1 < (a0.size : Int):=of_decide_eq_true (by first|(with_reducible assumption)|assumption)
           have hx12:=bt_at a0 x6_1
           replace p12:=eq_true p12
           replace q12:=eq_true q12
           go_wp2_with (first|((with_reducible refine gate_builtin (b:=.append) (xs:=#[.tmp 39,.tmp 44]) rfl ?_);at_builtin;refine Kd.R_append Kd.string (w0:=w) w.heap.size rfl (.tmp 39) (.tmp 44) 45 9 (.string ⟨#[]⟩) 16 rfl Tryz.underlying45 info9 rfl (by decide) (by omega) u3 x3_1 (a0.extract (x4_1 : Int).toNat (x6_1 : Int).toNat) [.string (a0.extract (x4_1 : Int).toNat (x6_1 : Int).toNat)] (fun _=>True) (fun _=>False) rfl rfl ?aP (fun _ hk=>hk.elim) ?aF ?aO ?aB ?aS ?aL ?_;(case aP=>exact rfl);(case aB=>exact (by repeat (first|(with_reducible first|exact HB.out|apply below_alloc|apply pw_below_drewN|apply below_drew1)|exact HB.out)));(case aF=>exact (fun _ _=>trivial));(case aO=>exact (by (with_reducible repeat (first|apply Kd.R_alloc|apply Kd.R_drewN|apply Kd.R_drew));exact HO_3.out));(case aS=>exact (below_size (by repeat (first|(with_reducible first|exact HB.out|apply below_alloc|apply pw_below_drewN|apply below_drew1)|exact HB.out))));(case aL=>have:=LMc18.out;omega);intro v105 w19 ho hb hg hat;rw [← Ny104.out] at ho;have n0_:=Aside0.mk (hb);have n1_:=Aside0.mk (ho);clear HB;clear HO_3;have HB:=n0_;have HO106:=n1_;clear n0_ n1_;clear ho hb hg hat))
           go_roundg kj2
           case measure=>have:=HK1.out;have:=HJ2.out;omega
           case rel=>exact ⟨(y104),(wrap64 (x6_1 + 1)),(false),(wrap64 (x6_1 + 1)),(by first|rfl|(simp;done)|(simp [*];done)),(by first|rfl|(simp;done)|(simp [*];done)),(by first|rfl|(simp;done)|(simp [*];done)),H',⟨by have:=HK1.out;have:=HJ2.out;omega⟩,⟨by (with_reducible repeat (first|apply Kd.R_alloc|apply Kd.R_drewN|apply Kd.R_drew));exact HO106.out⟩,⟨by repeat (first|(with_reducible first|exact HB.out|apply below_alloc|apply pw_below_drewN|apply below_drew1)|exact HB.out)⟩⟩
          rw [if_neg c18] at H
          exact absurd H (by simp)
         rw [if_neg c17] at H
         exact absurd H (by simp)
        rw [if_neg c16] at H
        exact absurd H (by simp)
       rw [if_neg c15] at H
       exact absurd H (by simp)
      rw [if_neg c13] at H
      have c13b0 : ((bt a0 x6_1) == 32) = false:=beq_eq_false_iff_ne.mpr c13
      have c13b1 : ((bt a0 x6_1) != 32) = true:=bne_iff_ne.mpr c13
      have H':=Aside0.mk H
      clear H
      have p10 : 0 ≤ (x6_1 : Int):=of_decide_eq_true (by first|(with_reducible assumption)|assumption)
      have q10 : x6_1 < (a0.size : Int):=of_decide_eq_true (by first|(with_reducible assumption)|assumption)
      have hx10:=bt_at a0 x6_1
      replace p10:=eq_true p10
      replace q10:=eq_true q10
      have p12 : 0 ≤ (x6_1 : Int):=of_decide_eq_true (by first|(with_reducible assumption)|assumption)
      have q12 : x6_1 < (a0.size : Int):=of_decide_eq_true (by first|(with_reducible assumption)|assumption)
      have hx12:=bt_at a0 x6_1
      replace p12:=eq_true p12
      replace q12:=eq_true q12
      go_wp2
      go_roundg kj2
      case measure=>have:=HK1.out;have:=HJ2.out;omega
      case rel=>exact ⟨(x3_1),(x4_1),(x5_1),(wrap64 (x6_1 + 1)),(by first|rfl|(simp;done)|(simp [*];done)),(by first|rfl|(simp;done)|(simp [*];done)),(by first|rfl|(simp;done)|(simp [*];done)),H',⟨by have:=HK1.out;have:=HJ2.out;omega⟩,⟨by (with_reducible repeat (first|apply Kd.R_alloc|apply Kd.R_drewN|apply Kd.R_drew));exact HO_3.out⟩,⟨by repeat (first|(with_reducible first|exact HB.out|apply below_alloc|apply pw_below_drewN|apply below_drew1)|exact HB.out)⟩⟩
     rw [if_neg c9] at H
     exact absurd H (by simp)
    rw [if_neg c8] at H
    exact absurd H (by simp)
  rw [if_neg c2] at H
  have c2b0 : decide (x6_1 < (a0.size : Int)) = false:=decide_eq_false c2
  clear c2
  by_cases c20 : 0 ≤ x4_1
  ·rw [if_pos c20] at H
   have c20b0:=eq_true c20
   have c20b1 : decide (0 ≤ x4_1) = true:=decide_eq_true c20
   clear c20
   by_cases c21 : x4_1 ≤ (a0.size : Int)
   ·rw [if_pos c21] at H
    have c21b0:=eq_true c21
    have c21b1 : decide (x4_1 ≤ (a0.size : Int)) = true:=decide_eq_true c21
    clear c21
    by_cases c22 : x3_1.length < 8796093022208
    ·rw [if_pos c22] at H
     have LMc22:=Aside0.mk c22
     clear c22
     obtain ⟨y101,hy101⟩ : ∃ y_ : List ByteArray,y_ = (x3_1 ++ [a0.extract (x4_1 : Int).toNat a0.size]):=⟨_,rfl⟩
     replace H : (some y101) = some r:=by first|(rw [hy101];with_reducible exact H)|(have H2_:=(Option.bind_some _ _).symm.trans H;rw [hy101];with_reducible exact H2_)|(have H2_:=(Option.bind_some _ _).symm.trans H;with_reducible exact H2_)|with_reducible exact H|(rw [hy101];exact H)|exact H
     have Ny101:=Aside0.mk hy101
     clear hy101
     obtain rfl:=Option.some.inj H
     go_wp2_with (first|((with_reducible refine gate_builtin (b:=.append) (xs:=#[.tmp 48,.tmp 52]) rfl ?_);at_builtin;refine Kd.R_append Kd.string (w0:=w) w.heap.size rfl (.tmp 48) (.tmp 52) 45 9 (.string ⟨#[]⟩) 16 rfl Tryz.underlying45 info9 rfl (by decide) (by omega) u3 x3_1 (a0.extract (x4_1 : Int).toNat a0.size) [.string (a0.extract (x4_1 : Int).toNat a0.size)] (fun _=>True) (fun _=>False) rfl rfl ?aP (fun _ hk=>hk.elim) ?aF ?aO ?aB ?aS ?aL ?_;(case aP=>exact rfl);(case aB=>exact (by repeat (first|(with_reducible first|exact HB.out|apply below_alloc|apply pw_below_drewN|apply below_drew1)|exact HB.out)));(case aF=>exact (fun _ _=>trivial));(case aO=>exact (by (with_reducible repeat (first|apply Kd.R_alloc|apply Kd.R_drewN|apply Kd.R_drew));exact HO_3.out));(case aS=>exact (below_size (by repeat (first|(with_reducible first|exact HB.out|apply below_alloc|apply pw_below_drewN|apply below_drew1)|exact HB.out))));(case aL=>have:=LMc22.out;omega);intro v102 w23 ho hb hg hat;rw [← Ny101.out] at ho;have n0_:=Aside0.mk (hb);have n1_:=Aside0.mk (ho);clear HB;clear HO_3;have HB:=n0_;have HO103:=n1_;clear n0_ n1_;clear ho hb hg hat))
     go_ret
     exact ⟨_,by first|rfl|(simp [errW_none,errW_some] <;> rfl)|(simp [*,errW_none,errW_some] <;> rfl),by (with_reducible repeat (first|apply Kd.R_alloc|apply Kd.R_drewN|apply Kd.R_drew));exact HO103.out,by repeat (first|(with_reducible first|exact HB.out|apply below_alloc|apply pw_below_drewN|apply below_drew1)|exact HB.out)⟩
    rw [if_neg c22] at H
    exact absurd H (by simp)
   rw [if_neg c21] at H
   exact absurd H (by simp)
  rw [if_neg c20] at H
  exact absurd H (by simp)
end Go.Proofs.YtfgffjchphignaaGreatDoor.Print
end
section
namespace Go.Proofs.YtfgffjchphignaaGreatDoor.Print
open Go.Sort Go.Shelf
open Go.RowKit Go.Proofs.YtfgffjchphignaaGreatDoorX Go.Proofs.YtfgffjchphignaaGreatDoorW.PrintWords Go.Proofs.YtfgffjchphignaaGreatDoorW.PrintLast Go.Proofs.YtfgffjchphignaaGreatDoorW.PrintMore
/-! strings.TrimPrefix; expo.number -/
def strings_TrimPrefix.f (s p : ByteArray) : Option ByteArray:=some ⟨(Lib.trimPrefix s.data.toList p.data.toList).toArray⟩
theorem strings_TrimPrefix.calls (s p r : ByteArray) (w : World) (h : strings_TrimPrefix.f s p = some r) :
  Calls Tryz.prog 59 #[.string s,.string p] w fun e w'=>e = .returned (.string r) ∧ Drawn0 w w':=by
 obtain rfl:=Option.some.inj h
 exact (Tryz.strings_TrimPrefix s p w).mono fun e w' hh=>⟨hh.1,0,by rw [hh.2,World.drewN_zero]⟩
theorem atoi_calls (s : ByteArray) (hs : s.size ≤ 1000) (w : World) (hg_ : LaidW w) :
  Calls Tryz.prog 69 #[.string s] w fun e w'=>Below w.heap.size w w' ∧ ∃ v ev,e = .returned (.tuple #[.int .i64 v,ev]) ∧ ((Lib.atoiAll s.data.toList = .ok v ∧ ev = .nilIface) ∨ ((∀ v,Lib.atoiAll s.data.toList ≠ .ok v) ∧ v = (if Lib.atoiAll s.data.toList = .range then Lib.atoiSat s.data.toList else 0) ∧ ∃ p,ev = .iface 173 p)):=by
 obtain ⟨es,he,he2⟩:=hg_.syn
 obtain ⟨er,hr,hr2⟩:=hg_.rng
 cases h : Lib.atoiAll s.data.toList with
 | ok v =>
  refine (Tryz.strconv_Atoi_ok s (by omega) v h w).mono fun e w' hh=>⟨?_,v,_,hh.1,.inl ⟨rfl,rfl⟩⟩
  rcases hh.2 with rfl|⟨t,rfl⟩
  ·exact Below.refl _ _
  exact conv_below w t
 | range =>
  refine (Tryz.strconv_Atoi_range s (by omega) h er w hr hr2).mono fun e w' hh=>?_
  obtain ⟨N,h1,_,_,hb⟩:=hh
  exact ⟨hb,_,_,h1,.inr ⟨by simp,by rw [if_pos rfl],_,rfl⟩⟩
 | _ =>
  refine (Tryz.strconv_Atoi_syntax s (by omega) h es w he he2).mono fun e w' hh=>?_
  obtain ⟨N,h1,_,_,hb⟩:=hh
  exact ⟨hb,_,_,h1,.inr ⟨by simp,by rw [if_neg (by simp)],_,rfl⟩⟩
def numOk (s : ByteArray) (v : Int) : Bool:=decide (0 ≤ v) && decide (v ≤ 1000000) && (Lib.itoa v == s.data.toList)
def expo_number.f (s : ByteArray) : Option (Int × Bool) :=
 if s.size ≤ 1000 then
  some (match Lib.atoiAll s.data.toList with
   | .ok v=>(v,numOk s v)
   | .range=>(Lib.atoiSat s.data.toList,false)
   | _=>(0,false))
 else none
theorem expo_number.calls (s : ByteArray) (r1 : Int) (r2 : Bool) (w : World) (hg_ : LaidW w) (h : expo_number.f s = some (r1,r2)) :
  Calls Tryz.prog 38 #[.string s] w fun e w'=>e = .returned (.tuple #[.int .i64 r1,.bool r2]) ∧ Below w.heap.size w w':=by
 unfold expo_number.f at h
 by_cases g : s.size ≤ 1000
 ·rw [if_pos g] at h
  have h:=Option.some.inj h
  have hcon:=atoi_calls s g w hg_
  have HLW:=Aside0.mk hg_
  have HH:=Aside0.mk h
  clear h hg_
  go_enter Tryz.func38,Tryz.ntmps38
  go_wp2_with (fail)
  refine hcon.mono ?_
  rintro e w1 ⟨hb,v,ev,rfl,hcase⟩
  rcases hcase with ⟨ha,rfl⟩|⟨ha,rfl,p,rfl⟩
  ·have h:=HH.out
   rw [ha] at h
   have h : (v,numOk s v) = (r1,r2):=h
   obtain ⟨rfl,h2⟩:=Prod.mk.inj h
   unfold numOk at h2
   have HB:=Aside0.mk hb
   clear hcon hb ha h HH
   by_cases c1 : 0 ≤ v
   ·by_cases c2 : v ≤ 1000000
    ·rw [decide_eq_true c1,decide_eq_true c2] at h2
     have hit:=strconv_Itoa.calls v ⟨(Lib.itoa v).toArray⟩ w1 (LaidW.below HLW.out HB.out) (by unfold strconv_Itoa.f;rw [if_pos ⟨by omega,by omega⟩])
     have he : ((⟨(Lib.itoa v).toArray⟩ : ByteArray).toList == s.toList) = r2:=by
      rw [ByteArray.toList_eq,ByteArray.toList_eq,← h2]
      rfl
     generalize (⟨(Lib.itoa v).toArray⟩ : ByteArray) = t at hit he
     clear h2
     go_wp2_with (go_at_call 70;refine hit.mono ?_;rintro e w2 ⟨rfl,hb2⟩)
     go_ret2
     exact ⟨by first|rfl|(rw [← he];rfl),below_step HB.out hb2⟩
    rw [decide_eq_true c1,decide_eq_false c2] at h2
    have h2 : false = r2:=h2
    subst h2
    go_wp2
    go_ret2
    exact ⟨rfl,HB.out⟩
   rw [decide_eq_false c1] at h2
   have h2 : false = r2:=h2
   subst h2
   go_wp2
   go_ret2
   exact ⟨rfl,HB.out⟩
  have h:=HH.out
  have h : ((if Lib.atoiAll s.data.toList = .range then Lib.atoiSat s.data.toList else 0),false) = (r1,r2):=by
   rw [← h]
   cases e : Lib.atoiAll s.data.toList with
   | ok v=>exact absurd e (ha v)
   | range=>simp
   | _=>simp
  obtain ⟨h1,rfl⟩:=Prod.mk.inj h
  have HB:=Aside0.mk hb
  rw [h1]
  clear hcon hb ha h HH h1
  go_wp2
  go_ret2
  exact ⟨rfl,HB.out⟩
 rw [if_neg g] at h
 exact absurd h (by simp)
end Go.Proofs.YtfgffjchphignaaGreatDoor.Print
end
