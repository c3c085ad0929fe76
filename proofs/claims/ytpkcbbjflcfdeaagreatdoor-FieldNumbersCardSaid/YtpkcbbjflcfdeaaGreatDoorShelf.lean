/- The library contracts of this seat's walks, at its own numbers: a builder's Len, WriteByte, WriteString, String; IndexByte; Count of one byte; ContainsFunc. Each is one application of a contract of the compiled shelf. -/
import Derived.Shelf.Strings.Builder1
import Derived.Shelf.Strings.Builder2
import Derived.Shelf.Strings.BuilderF
import Derived.Shelf.Strings.BuilderK
import Derived.Shelf.Utf8.RuneCount
import Derived.Shelf.Strings.Builder2Cap
import Derived.Shelf.Strconv.Itoa0
import Derived.Shelf.Strconv.Itoa1
import Derived.Shelf.LaysM
import Derived.Shelf.Strconv.Itoa2
import Derived.Shelf.Strconv.Itoa3
import Derived.Shelf.Strconv.Itoa4
import Derived.Shelf.Strconv.ParseIntEmpty
import Derived.Shelf.Strconv.Clone
import Derived.Shelf.Strconv.SyntaxError
import Derived.Shelf.LaysC
import Derived.Shelf.Strconv.ToError
import Derived.Shelf.Strconv.Lower
import Derived.Shelf.Strconv.ParseUint10
import Derived.Shelf.Strconv.ParseUint10Empty
import Derived.Shelf.Strconv.ParseUint10Any
import Derived.Shelf.Strconv.ParseInt10
import Derived.Shelf.Strconv.RangeError
import Derived.Shelf.Strconv.ToErrorRange
import Derived.Shelf.Strconv.ParseUintEmpty
import Derived.Shelf.Strconv.ParseUint10b64
import Derived.Shelf.Strconv.ParseUint10b32
import Derived.Shelf.Strconv.ParseUint10b16
import Derived.Shelf.Strconv.ParseUint10b8
import Derived.Shelf.Strconv.ParseUint10At
import Derived.Shelf.Strconv.ParseInt10At64
import Derived.Shelf.Strconv.ParseInt10At32
import Derived.Shelf.Strconv.ParseInt10At16
import Derived.Shelf.Strconv.ParseInt10At8
import Derived.Shelf.Strconv.ParseInt10All
import Derived.Shelf.Strconv.ParseIntPublic10
import Derived.Shelf.Strings.Search1
import Derived.Shelf.Strings.Search2
import Derived.Shelf.Strings.Search3
import Derived.Shelf.Strings.Cut
import Derived.Shelf.Strings.Count
import Derived.Shelf.Strings.Shaped
import Derived.Shelf.GgClosure.StringsIndexFunc
import Derived.Shelf.GgClosure.StringsIndexFuncTop
import Derived.Shelf.GgClosure.StringsRunes
import Derived.Shelf.Strings.Prefix
import Derived.Shelf.Strings.Split
import Derived.Shelf.Strings.RuneCount
import Derived.Shelf.Strings.FuncGrows
import Derived.Shelf.Strings.BuilderCap
import Derived.Test.YtpkcbbjflcfdeaaGreatDoorProg
import Derived.KernelRfl
namespace Go.Proofs.YtpkcbbjflcfdeaaGreatDoor.Sh
open Go.Shelf
def lays170_ren : Go.Shelf.Ren := ⟨fun | 170 => 19 | n => n, fun | 0 => 0 | 3 => 3 | 5 => 5 | 37 => 40 | 70 => 41 | 72 => 43 | n => n, fun | n => n⟩
theorem lays170 : Go.Proofs.Lays.n170 Tryz.prog lays170_ren := {
  mixed := by kernel_rfl
  f170 := Tryz.func19.trans (congrArg some (by kernel_rfl))
  t0 := Tryz.underlying0
  a0 := Tryz.isAgg0
  z0 := Tryz.sizeOf0
  v0 := Tryz.zeroValue0
  t3 := Tryz.underlying3
  a3 := Tryz.isAgg3
  z3 := Tryz.sizeOf3
  v3 := Tryz.zeroValue3
  t37 := Tryz.underlying40
  a37 := Tryz.isAgg40
  z37 := Tryz.sizeOf40
  v37 := Tryz.zeroValue40
  t70 := Tryz.underlying41
  a70 := Tryz.isAgg41
  z70 := Tryz.sizeOf41
  v70 := Tryz.zeroValue41
  t72 := Tryz.underlying43
  a72 := Tryz.isAgg43
  z72 := Tryz.sizeOf43
  v72 := Tryz.zeroValue43 }
def lays169_ren : Go.Shelf.Ren := ⟨fun | 169 => 15 | n => n, fun | 0 => 0 | 3 => 3 | 5 => 5 | 9 => 9 | 37 => 40 | 70 => 41 | 72 => 43 | 127 => 58 | n => n, fun | n => n⟩
theorem lays169 : Go.Proofs.Lays.n169 Tryz.prog lays169_ren := {
  mixed := by kernel_rfl
  f169 := Tryz.func15.trans (congrArg some (by kernel_rfl))
  t0 := Tryz.underlying0
  a0 := Tryz.isAgg0
  z0 := Tryz.sizeOf0
  v0 := Tryz.zeroValue0
  t3 := Tryz.underlying3
  a3 := Tryz.isAgg3
  z3 := Tryz.sizeOf3
  v3 := Tryz.zeroValue3
  t9 := Tryz.underlying9
  a9 := Tryz.isAgg9
  z9 := Tryz.sizeOf9
  v9 := Tryz.zeroValue9
  t37 := Tryz.underlying40
  a37 := Tryz.isAgg40
  z37 := Tryz.sizeOf40
  v37 := Tryz.zeroValue40
  t70 := Tryz.underlying41
  a70 := Tryz.isAgg41
  z70 := Tryz.sizeOf41
  v70 := Tryz.zeroValue41
  t72 := Tryz.underlying43
  a72 := Tryz.isAgg43
  z72 := Tryz.sizeOf43
  v72 := Tryz.zeroValue43
  t127 := Tryz.underlying58
  a127 := Tryz.isAgg58
  z127 := Tryz.sizeOf58
  v127 := Tryz.zeroValue58 }
theorem extra169 : Builder.Extra Tryz.prog lays169_ren := {
  sizeBuilder := by kernel_rfl
  liesBuilder := by kernel_rfl
  t5 := Tryz.underlying5
  a5 := Tryz.isAgg5
  z5 := Tryz.sizeOf5
  v5 := Tryz.zeroValue5
  infoByte := by kernel_rfl
  cellsByte := by kernel_rfl
  sizeByte := by kernel_rfl
  neB5 := by decide }
def lays167_ren : Go.Shelf.Ren := ⟨fun | 167 => 18 | 240 => 23 | 276 => 38 | n => n, fun | 0 => 0 | 4 => 4 | 5 => 5 | 9 => 9 | 20 => 20 | 37 => 40 | 70 => 41 | 72 => 43 | 75 => 36 | 80 => 48 | 164 => 75 | n => n, fun | n => n⟩
theorem lays167 : Go.Proofs.Lays.n167 Tryz.prog lays167_ren := {
  mixed := by kernel_rfl
  f167 := Tryz.func18.trans (congrArg some (by kernel_rfl))
  f240 := Tryz.func23.trans (congrArg some (by kernel_rfl))
  f276 := Tryz.func38.trans (congrArg some (by kernel_rfl))
  t0 := Tryz.underlying0
  a0 := Tryz.isAgg0
  z0 := Tryz.sizeOf0
  v0 := Tryz.zeroValue0
  t4 := Tryz.underlying4
  a4 := Tryz.isAgg4
  z4 := Tryz.sizeOf4
  v4 := Tryz.zeroValue4
  t5 := Tryz.underlying5
  a5 := Tryz.isAgg5
  z5 := Tryz.sizeOf5
  v5 := Tryz.zeroValue5
  t9 := Tryz.underlying9
  a9 := Tryz.isAgg9
  z9 := Tryz.sizeOf9
  v9 := Tryz.zeroValue9
  t20 := Tryz.underlying20
  a20 := Tryz.isAgg20
  z20 := Tryz.sizeOf20
  v20 := Tryz.zeroValue20
  t37 := Tryz.underlying40
  a37 := Tryz.isAgg40
  z37 := Tryz.sizeOf40
  v37 := Tryz.zeroValue40
  t70 := Tryz.underlying41
  a70 := Tryz.isAgg41
  z70 := Tryz.sizeOf41
  v70 := Tryz.zeroValue41
  t72 := Tryz.underlying43
  a72 := Tryz.isAgg43
  z72 := Tryz.sizeOf43
  v72 := Tryz.zeroValue43
  t75 := Tryz.underlying36
  a75 := Tryz.isAgg36
  z75 := Tryz.sizeOf36
  v75 := Tryz.zeroValue36
  t164 := Tryz.underlying75
  a164 := Tryz.isAgg75
  z164 := Tryz.sizeOf75
  v164 := Tryz.zeroValue75 }
theorem extra167 : Builder.Extra Tryz.prog lays167_ren := {
  sizeBuilder := by kernel_rfl
  liesBuilder := by kernel_rfl
  t5 := Tryz.underlying5
  a5 := Tryz.isAgg5
  z5 := Tryz.sizeOf5
  v5 := Tryz.zeroValue5
  infoByte := by kernel_rfl
  cellsByte := by kernel_rfl
  sizeByte := by kernel_rfl
  neB5 := by decide }
def lays166_ren : Go.Shelf.Ren := ⟨fun | 166 => 13 | 240 => 23 | 276 => 38 | n => n, fun | 0 => 0 | 3 => 3 | 4 => 4 | 5 => 5 | 9 => 9 | 20 => 20 | 37 => 40 | 70 => 41 | 72 => 43 | 75 => 36 | 80 => 48 | 164 => 75 | n => n, fun | n => n⟩
theorem lays166 : Go.Proofs.Lays.n166 Tryz.prog lays166_ren := {
  mixed := by kernel_rfl
  f166 := Tryz.func13.trans (congrArg some (by kernel_rfl))
  f240 := Tryz.func23.trans (congrArg some (by kernel_rfl))
  f276 := Tryz.func38.trans (congrArg some (by kernel_rfl))
  t0 := Tryz.underlying0
  a0 := Tryz.isAgg0
  z0 := Tryz.sizeOf0
  v0 := Tryz.zeroValue0
  t3 := Tryz.underlying3
  a3 := Tryz.isAgg3
  z3 := Tryz.sizeOf3
  v3 := Tryz.zeroValue3
  t4 := Tryz.underlying4
  a4 := Tryz.isAgg4
  z4 := Tryz.sizeOf4
  v4 := Tryz.zeroValue4
  t9 := Tryz.underlying9
  a9 := Tryz.isAgg9
  z9 := Tryz.sizeOf9
  v9 := Tryz.zeroValue9
  t20 := Tryz.underlying20
  a20 := Tryz.isAgg20
  z20 := Tryz.sizeOf20
  v20 := Tryz.zeroValue20
  t37 := Tryz.underlying40
  a37 := Tryz.isAgg40
  z37 := Tryz.sizeOf40
  v37 := Tryz.zeroValue40
  t70 := Tryz.underlying41
  a70 := Tryz.isAgg41
  z70 := Tryz.sizeOf41
  v70 := Tryz.zeroValue41
  t72 := Tryz.underlying43
  a72 := Tryz.isAgg43
  z72 := Tryz.sizeOf43
  v72 := Tryz.zeroValue43
  t75 := Tryz.underlying36
  a75 := Tryz.isAgg36
  z75 := Tryz.sizeOf36
  v75 := Tryz.zeroValue36
  t164 := Tryz.underlying75
  a164 := Tryz.isAgg75
  z164 := Tryz.sizeOf75
  v164 := Tryz.zeroValue75 }
theorem extra166 : Builder.Extra Tryz.prog lays166_ren := {
  sizeBuilder := by kernel_rfl
  liesBuilder := by kernel_rfl
  t5 := Tryz.underlying5
  a5 := Tryz.isAgg5
  z5 := Tryz.sizeOf5
  v5 := Tryz.zeroValue5
  infoByte := by kernel_rfl
  cellsByte := by kernel_rfl
  sizeByte := by kernel_rfl
  neB5 := by decide }
open Go.RowKit in
theorem Builder_Len (B b : Nat) (bs : List Value) (w : World) (h : Lib.IsBuilder 43 5 B b bs w) :
    Calls Tryz.prog 19 #[.pointer (some ⟨b, 0, none⟩)] w fun e w' => e = .returned (.int .i64 bs.length) ∧ w' = w := Any.Builder_Len lays170 B b bs w h
open Go.RowKit in
theorem Builder_WriteByte (B b : Nat) (bs : List Value) (c : Int) (w : World) (h : Lib.IsBuilder 43 5 B b bs w) (hlen : bs.length + 1 ≤ 140737488355328) (hBw : B ≤ w.heap.size) :
    Calls Tryz.prog 18 #[.pointer (some ⟨b, 0, none⟩), .int .u8 c] w fun e w' => e = .returned .nilIface ∧ (Lib.BuilderAt 43 5 B b (.pointer (some ⟨b, 0, none⟩)) (bs ++ [.int .u8 c]) w' ∧ Below B w w') := Any.Builder_WriteByte lays167 extra167 B b bs c w h hlen hBw
open Go.RowKit in
theorem Builder_WriteString (B b : Nat) (bs : List Value) (s : ByteArray) (w : World) (h : Lib.IsBuilder 43 5 B b bs w) (hlen : bs.length + s.size ≤ 140737488355328) (hBw : B ≤ w.heap.size) :
    Calls Tryz.prog 13 #[.pointer (some ⟨b, 0, none⟩), .string s] w fun e w' => e = .returned (.tuple #[.int .i64 s.size, .nilIface]) ∧ (Lib.BuilderAt 43 5 B b (.pointer (some ⟨b, 0, none⟩)) (bs ++ Lib.strCells s) w' ∧ Below B w w') := Any.Builder_WriteString lays166 extra166 B b bs s w h hlen hBw
open Go.RowKit in
theorem Builder_String (B b : Nat) (l : List UInt8) (w : World) (h : Lib.IsBuilder 43 5 B b (Lib.byteCells l) w) (hBw : B ≤ w.heap.size) :
    Calls Tryz.prog 15 #[.pointer (some ⟨b, 0, none⟩)] w fun e w' => e = .returned (.string ⟨l.toArray⟩) ∧ Below B w w' := Any.Builder_String_any lays169 extra169 B b l w h hBw
def lays217_ren : Go.Shelf.Ren := ⟨fun | 217 => 56 | 266 => 70 | n => n, fun | 9 => 9 | 5 => 5 | 3 => 3 | n => n, fun | n => n⟩
theorem lays217 : Go.Proofs.Lays.n217 Tryz.prog lays217_ren := {
  mixed := by kernel_rfl
  f217 := Tryz.func56.trans (congrArg some (by kernel_rfl))
  f266 := Tryz.func70.trans (congrArg some (by kernel_rfl))
  t3 := Tryz.underlying3
  a3 := Tryz.isAgg3
  z3 := Tryz.sizeOf3
  v3 := Tryz.zeroValue3
  t5 := Tryz.underlying5
  a5 := Tryz.isAgg5
  z5 := Tryz.sizeOf5
  v5 := Tryz.zeroValue5
  t9 := Tryz.underlying9
  a9 := Tryz.isAgg9
  z9 := Tryz.sizeOf9
  v9 := Tryz.zeroValue9 }
open Go.RowKit Go.Lib in
theorem stringslite_IndexByte (s : ByteArray) (c : Int) (w : World) :
    Calls Tryz.prog 56 #[.string s, .int .u8 c] w fun e w' => e = .returned (.int .i64 (Lib.indexByte s.data.toList c.toNat.toUInt8)) ∧ w' = w := Any.stringslite_IndexByte lays217 s c w
def lays219_ren : Go.Shelf.Ren := ⟨fun | 219 => 41 | 217 => 56 | 225 => 57 | 224 => 58 | 267 => 59 | 266 => 70 | 314 => 71 | n => n, fun | 9 => 9 | 3 => 3 | 4 => 4 | 5 => 5 | 46 => 65 | 146 => 130 | 51 => 81 | n => n, fun | 1 => 3 | n => n⟩
theorem lays219 : Go.Proofs.Lays.n219 Tryz.prog lays219_ren := {
  mixed := by kernel_rfl
  f217 := Tryz.func56.trans (congrArg some (by kernel_rfl))
  f219 := Tryz.func41.trans (congrArg some (by kernel_rfl))
  f224 := Tryz.func58.trans (congrArg some (by kernel_rfl))
  f225 := Tryz.func57.trans (congrArg some (by kernel_rfl))
  f266 := Tryz.func70.trans (congrArg some (by kernel_rfl))
  f267 := Tryz.func59.trans (congrArg some (by kernel_rfl))
  f314 := Tryz.func71.trans (congrArg some (by kernel_rfl))
  t3 := Tryz.underlying3
  a3 := Tryz.isAgg3
  z3 := Tryz.sizeOf3
  v3 := Tryz.zeroValue3
  t4 := Tryz.underlying4
  a4 := Tryz.isAgg4
  z4 := Tryz.sizeOf4
  v4 := Tryz.zeroValue4
  t5 := Tryz.underlying5
  a5 := Tryz.isAgg5
  z5 := Tryz.sizeOf5
  v5 := Tryz.zeroValue5
  t9 := Tryz.underlying9
  a9 := Tryz.isAgg9
  z9 := Tryz.sizeOf9
  v9 := Tryz.zeroValue9
  t46 := Tryz.underlying65
  a46 := Tryz.isAgg65
  z46 := Tryz.sizeOf65
  v46 := Tryz.zeroValue65
  t51 := Tryz.underlying81
  a51 := Tryz.isAgg81
  z51 := Tryz.sizeOf81
  v51 := Tryz.zeroValue81
  t146 := Tryz.underlying130
  a146 := Tryz.isAgg130
  z146 := Tryz.sizeOf130
  v146 := Tryz.zeroValue130
  g1 := by kernel_rfl }
open Go.RowKit Go.Lib in
theorem stringslite_Index_one (s : ByteArray) (c : UInt8) (w : World) :
    Calls Tryz.prog 41 #[.string s, .string ⟨#[c]⟩] w fun e w' => e = .returned (.int .i64 (Lib.indexByte s.data.toList c)) ∧ w' = w := Any.stringslite_Index_one lays219 s c w
def lays138_ren : Go.Shelf.Ren := ⟨fun | 138 => 129 | 195 => 130 | 218 => 131 | 143 => 132 | 219 => 41 | 217 => 56 | 225 => 57 | 224 => 58 | 267 => 59 | 266 => 70 | 314 => 71 | n => n, fun | 9 => 9 | 3 => 3 | 4 => 4 | 5 => 5 | 0 => 0 | 46 => 65 | 146 => 130 | 51 => 81 | n => n, fun | 1 => 3 | n => n⟩
theorem lays138 : Go.Proofs.Lays.n138 Tryz.prog lays138_ren := {
  mixed := by kernel_rfl
  f138 := Tryz.func129.trans (congrArg some (by kernel_rfl))
  f143 := Tryz.func132.trans (congrArg some (by kernel_rfl))
  f195 := Tryz.func130.trans (congrArg some (by kernel_rfl))
  f217 := Tryz.func56.trans (congrArg some (by kernel_rfl))
  f218 := Tryz.func131.trans (congrArg some (by kernel_rfl))
  f219 := Tryz.func41.trans (congrArg some (by kernel_rfl))
  f224 := Tryz.func58.trans (congrArg some (by kernel_rfl))
  f225 := Tryz.func57.trans (congrArg some (by kernel_rfl))
  f266 := Tryz.func70.trans (congrArg some (by kernel_rfl))
  f267 := Tryz.func59.trans (congrArg some (by kernel_rfl))
  f314 := Tryz.func71.trans (congrArg some (by kernel_rfl))
  t0 := Tryz.underlying0
  a0 := Tryz.isAgg0
  z0 := Tryz.sizeOf0
  v0 := Tryz.zeroValue0
  t3 := Tryz.underlying3
  a3 := Tryz.isAgg3
  z3 := Tryz.sizeOf3
  v3 := Tryz.zeroValue3
  t4 := Tryz.underlying4
  a4 := Tryz.isAgg4
  z4 := Tryz.sizeOf4
  v4 := Tryz.zeroValue4
  t5 := Tryz.underlying5
  a5 := Tryz.isAgg5
  z5 := Tryz.sizeOf5
  v5 := Tryz.zeroValue5
  t9 := Tryz.underlying9
  a9 := Tryz.isAgg9
  z9 := Tryz.sizeOf9
  v9 := Tryz.zeroValue9
  t46 := Tryz.underlying65
  a46 := Tryz.isAgg65
  z46 := Tryz.sizeOf65
  v46 := Tryz.zeroValue65
  t51 := Tryz.underlying81
  a51 := Tryz.isAgg81
  z51 := Tryz.sizeOf81
  v51 := Tryz.zeroValue81
  t146 := Tryz.underlying130
  a146 := Tryz.isAgg130
  z146 := Tryz.sizeOf130
  v146 := Tryz.zeroValue130
  g1 := by kernel_rfl }
open Go.RowKit Go.Lib in
theorem strings_Count_one (s : ByteArray) (c : UInt8) (w : World) :
    Calls Tryz.prog 129 #[.string s, .string ⟨#[c]⟩] w fun e w' => e = .returned (.int .i64 (Lib.countByte s.data.toList c)) ∧ w' = w := Any.strings_Count_one lays138 s c w
def laysGw17_ren : Go.Shelf.Ren := ⟨fun | 17 => 28 | 15 => 42 | 20 => 60 | n => n, fun | 9 => 9 | 23 => 59 | 4 => 4 | 3 => 3 | 0 => 0 | 21 => 21 | n => n, fun | n => n⟩
theorem laysGw17 : Go.Proofs.LaysGw.n17 Tryz.prog laysGw17_ren := {
  mixed := by kernel_rfl
  f15 := Tryz.func42.trans (congrArg some (by kernel_rfl))
  f17 := Tryz.func28.trans (congrArg some (by kernel_rfl))
  f20 := Tryz.func60.trans (congrArg some (by kernel_rfl))
  t0 := Tryz.underlying0
  a0 := Tryz.isAgg0
  z0 := Tryz.sizeOf0
  v0 := Tryz.zeroValue0
  i0 := by kernel_rfl
  t3 := Tryz.underlying3
  a3 := Tryz.isAgg3
  z3 := Tryz.sizeOf3
  v3 := Tryz.zeroValue3
  i3 := by kernel_rfl
  t4 := Tryz.underlying4
  a4 := Tryz.isAgg4
  z4 := Tryz.sizeOf4
  v4 := Tryz.zeroValue4
  i4 := by kernel_rfl
  t9 := Tryz.underlying9
  a9 := Tryz.isAgg9
  z9 := Tryz.sizeOf9
  v9 := Tryz.zeroValue9
  i9 := by kernel_rfl
  t21 := Tryz.underlying21
  a21 := Tryz.isAgg21
  z21 := Tryz.sizeOf21
  v21 := Tryz.zeroValue21
  i21 := by kernel_rfl
  t23 := Tryz.underlying59
  a23 := Tryz.isAgg59
  z23 := Tryz.sizeOf59
  v23 := Tryz.zeroValue59
  i23 := by kernel_rfl }
open Go.RowKit Go.Lib in
theorem strings_ContainsFunc (g : Nat) (lb : Array Value) (eg : ∀ args w, (callFunc g args).run Tryz.prog w = .ok (.enter g args) w) (p : Nat → Bool) (s : ByteArray) (w : World) (hp : PredAt Tryz.prog g lb encR p w) :
    Calls Tryz.prog 28 #[.string s, .func (.func g) #[] lb] w fun e w' => e = .returned (.bool (decide (0 ≤ Lib.idxFunc p true s))) ∧ Below w.heap.size w w' := Any.strings_ContainsFunc laysGw17 g lb eg p s w hp
end Go.Proofs.YtpkcbbjflcfdeaaGreatDoor.Sh
