/- The library contracts of this seat's walks, at its own numbers: a builder's Len, WriteByte, WriteString, String; IndexByte; Count of one byte; ContainsFunc. Each is one application of a contract of the compiled shelf. -/
import Derived.Shelf.Strings.Builder1
import Derived.Shelf.Strings.Builder2
import Derived.Shelf.Strings.BuilderF
import Derived.Shelf.Strings.BuilderK
import Derived.Shelf.Utf8.RuneCount
import Derived.Shelf.Strings.Builder2Cap
import Derived.Shelf.Strings.Search1
import Derived.Shelf.Strings.Search2
import Derived.Shelf.Strings.Search3
import Derived.Shelf.Strings.Cut
import Derived.Shelf.Strings.Count
import Derived.Shelf.LaysM
import Derived.Shelf.Strings.Shaped
import Derived.Shelf.GgClosure.StringsIndexFunc
import Derived.Shelf.GgClosure.StringsIndexFuncTop
import Derived.Shelf.GgClosure.StringsRunes
import Derived.Shelf.Strings.Prefix
import Derived.Shelf.Strings.Split
import Derived.Shelf.Strings.RuneCount
import Derived.Shelf.Strings.FuncGrows
import Derived.Shelf.Slices.Turned
import Derived.Test.YtpkcbbjflcfdeaaGreatProg
import Derived.KernelRfl
namespace Go.Proofs.YtpkcbbjflcfdeaaGreat.Sh
open Go.Shelf
def lays170_ren : Go.Shelf.Ren := ⟨fun | 170 => 30 | n => n, fun | 0 => 0 | 3 => 3 | 5 => 5 | 37 => 51 | 70 => 50 | 72 => 53 | n => n, fun | n => n⟩
theorem lays170 : Go.Proofs.Lays.n170 Tryz.prog lays170_ren := {
  mixed := by kernel_rfl
  f170 := Tryz.func30.trans (congrArg some (by kernel_rfl))
  t0 := Tryz.underlying0
  a0 := Tryz.isAgg0
  z0 := Tryz.sizeOf0
  v0 := Tryz.zeroValue0
  t3 := Tryz.underlying3
  a3 := Tryz.isAgg3
  z3 := Tryz.sizeOf3
  v3 := Tryz.zeroValue3
  t37 := Tryz.underlying51
  a37 := Tryz.isAgg51
  z37 := Tryz.sizeOf51
  v37 := Tryz.zeroValue51
  t70 := Tryz.underlying50
  a70 := Tryz.isAgg50
  z70 := Tryz.sizeOf50
  v70 := Tryz.zeroValue50
  t72 := Tryz.underlying53
  a72 := Tryz.isAgg53
  z72 := Tryz.sizeOf53
  v72 := Tryz.zeroValue53 }
def lays169_ren : Go.Shelf.Ren := ⟨fun | 169 => 26 | n => n, fun | 0 => 0 | 3 => 3 | 5 => 5 | 9 => 9 | 37 => 51 | 70 => 50 | 72 => 53 | 127 => 68 | n => n, fun | n => n⟩
theorem lays169 : Go.Proofs.Lays.n169 Tryz.prog lays169_ren := {
  mixed := by kernel_rfl
  f169 := Tryz.func26.trans (congrArg some (by kernel_rfl))
  t0 := Tryz.underlying0
  a0 := Tryz.isAgg0
  z0 := Tryz.sizeOf0
  v0 := Tryz.zeroValue0
  t3 := Tryz.underlying3
  a3 := Tryz.isAgg3
  z3 := Tryz.sizeOf3
  v3 := Tryz.zeroValue3
  t9 := Tryz.underlying9
  a9 := Tryz.isAgg9
  z9 := Tryz.sizeOf9
  v9 := Tryz.zeroValue9
  t37 := Tryz.underlying51
  a37 := Tryz.isAgg51
  z37 := Tryz.sizeOf51
  v37 := Tryz.zeroValue51
  t70 := Tryz.underlying50
  a70 := Tryz.isAgg50
  z70 := Tryz.sizeOf50
  v70 := Tryz.zeroValue50
  t72 := Tryz.underlying53
  a72 := Tryz.isAgg53
  z72 := Tryz.sizeOf53
  v72 := Tryz.zeroValue53
  t127 := Tryz.underlying68
  a127 := Tryz.isAgg68
  z127 := Tryz.sizeOf68
  v127 := Tryz.zeroValue68 }
theorem extra169 : Builder.Extra Tryz.prog lays169_ren := {
  sizeBuilder := by kernel_rfl
  liesBuilder := by kernel_rfl
  t5 := Tryz.underlying5
  a5 := Tryz.isAgg5
  z5 := Tryz.sizeOf5
  v5 := Tryz.zeroValue5
  infoByte := by kernel_rfl
  cellsByte := by kernel_rfl
  sizeByte := by kernel_rfl
  neB5 := by decide }
def lays167_ren : Go.Shelf.Ren := ⟨fun | 167 => 29 | 240 => 32 | 276 => 38 | n => n, fun | 0 => 0 | 4 => 4 | 5 => 5 | 9 => 9 | 20 => 20 | 37 => 51 | 70 => 50 | 72 => 53 | 75 => 55 | 80 => 59 | 164 => 71 | n => n, fun | n => n⟩
theorem lays167 : Go.Proofs.Lays.n167 Tryz.prog lays167_ren := {
  mixed := by kernel_rfl
  f167 := Tryz.func29.trans (congrArg some (by kernel_rfl))
  f240 := Tryz.func32.trans (congrArg some (by kernel_rfl))
  f276 := Tryz.func38.trans (congrArg some (by kernel_rfl))
  t0 := Tryz.underlying0
  a0 := Tryz.isAgg0
  z0 := Tryz.sizeOf0
  v0 := Tryz.zeroValue0
  t4 := Tryz.underlying4
  a4 := Tryz.isAgg4
  z4 := Tryz.sizeOf4
  v4 := Tryz.zeroValue4
  t5 := Tryz.underlying5
  a5 := Tryz.isAgg5
  z5 := Tryz.sizeOf5
  v5 := Tryz.zeroValue5
  t9 := Tryz.underlying9
  a9 := Tryz.isAgg9
  z9 := Tryz.sizeOf9
  v9 := Tryz.zeroValue9
  t20 := Tryz.underlying20
  a20 := Tryz.isAgg20
  z20 := Tryz.sizeOf20
  v20 := Tryz.zeroValue20
  t37 := Tryz.underlying51
  a37 := Tryz.isAgg51
  z37 := Tryz.sizeOf51
  v37 := Tryz.zeroValue51
  t70 := Tryz.underlying50
  a70 := Tryz.isAgg50
  z70 := Tryz.sizeOf50
  v70 := Tryz.zeroValue50
  t72 := Tryz.underlying53
  a72 := Tryz.isAgg53
  z72 := Tryz.sizeOf53
  v72 := Tryz.zeroValue53
  t75 := Tryz.underlying55
  a75 := Tryz.isAgg55
  z75 := Tryz.sizeOf55
  v75 := Tryz.zeroValue55
  t164 := Tryz.underlying71
  a164 := Tryz.isAgg71
  z164 := Tryz.sizeOf71
  v164 := Tryz.zeroValue71 }
theorem extra167 : Builder.Extra Tryz.prog lays167_ren := {
  sizeBuilder := by kernel_rfl
  liesBuilder := by kernel_rfl
  t5 := Tryz.underlying5
  a5 := Tryz.isAgg5
  z5 := Tryz.sizeOf5
  v5 := Tryz.zeroValue5
  infoByte := by kernel_rfl
  cellsByte := by kernel_rfl
  sizeByte := by kernel_rfl
  neB5 := by decide }
def lays166_ren : Go.Shelf.Ren := ⟨fun | 166 => 24 | 240 => 32 | 276 => 38 | n => n, fun | 0 => 0 | 3 => 3 | 4 => 4 | 5 => 5 | 9 => 9 | 20 => 20 | 37 => 51 | 70 => 50 | 72 => 53 | 75 => 55 | 80 => 59 | 164 => 71 | n => n, fun | n => n⟩
theorem lays166 : Go.Proofs.Lays.n166 Tryz.prog lays166_ren := {
  mixed := by kernel_rfl
  f166 := Tryz.func24.trans (congrArg some (by kernel_rfl))
  f240 := Tryz.func32.trans (congrArg some (by kernel_rfl))
  f276 := Tryz.func38.trans (congrArg some (by kernel_rfl))
  t0 := Tryz.underlying0
  a0 := Tryz.isAgg0
  z0 := Tryz.sizeOf0
  v0 := Tryz.zeroValue0
  t3 := Tryz.underlying3
  a3 := Tryz.isAgg3
  z3 := Tryz.sizeOf3
  v3 := Tryz.zeroValue3
  t4 := Tryz.underlying4
  a4 := Tryz.isAgg4
  z4 := Tryz.sizeOf4
  v4 := Tryz.zeroValue4
  t9 := Tryz.underlying9
  a9 := Tryz.isAgg9
  z9 := Tryz.sizeOf9
  v9 := Tryz.zeroValue9
  t20 := Tryz.underlying20
  a20 := Tryz.isAgg20
  z20 := Tryz.sizeOf20
  v20 := Tryz.zeroValue20
  t37 := Tryz.underlying51
  a37 := Tryz.isAgg51
  z37 := Tryz.sizeOf51
  v37 := Tryz.zeroValue51
  t70 := Tryz.underlying50
  a70 := Tryz.isAgg50
  z70 := Tryz.sizeOf50
  v70 := Tryz.zeroValue50
  t72 := Tryz.underlying53
  a72 := Tryz.isAgg53
  z72 := Tryz.sizeOf53
  v72 := Tryz.zeroValue53
  t75 := Tryz.underlying55
  a75 := Tryz.isAgg55
  z75 := Tryz.sizeOf55
  v75 := Tryz.zeroValue55
  t164 := Tryz.underlying71
  a164 := Tryz.isAgg71
  z164 := Tryz.sizeOf71
  v164 := Tryz.zeroValue71 }
theorem extra166 : Builder.Extra Tryz.prog lays166_ren := {
  sizeBuilder := by kernel_rfl
  liesBuilder := by kernel_rfl
  t5 := Tryz.underlying5
  a5 := Tryz.isAgg5
  z5 := Tryz.sizeOf5
  v5 := Tryz.zeroValue5
  infoByte := by kernel_rfl
  cellsByte := by kernel_rfl
  sizeByte := by kernel_rfl
  neB5 := by decide }
open Go.RowKit in
theorem Builder_Len (B b : Nat) (bs : List Value) (w : World) (h : Lib.IsBuilder 53 5 B b bs w) :
    Calls Tryz.prog 30 #[.pointer (some ⟨b, 0, none⟩)] w fun e w' => e = .returned (.int .i64 bs.length) ∧ w' = w := Any.Builder_Len lays170 B b bs w h
open Go.RowKit in
theorem Builder_WriteByte (B b : Nat) (bs : List Value) (c : Int) (w : World) (h : Lib.IsBuilder 53 5 B b bs w) (hlen : bs.length + 1 ≤ 140737488355328) (hBw : B ≤ w.heap.size) :
    Calls Tryz.prog 29 #[.pointer (some ⟨b, 0, none⟩), .int .u8 c] w fun e w' => e = .returned .nilIface ∧ (Lib.BuilderAt 53 5 B b (.pointer (some ⟨b, 0, none⟩)) (bs ++ [.int .u8 c]) w' ∧ Below B w w') := Any.Builder_WriteByte lays167 extra167 B b bs c w h hlen hBw
open Go.RowKit in
theorem Builder_WriteString (B b : Nat) (bs : List Value) (s : ByteArray) (w : World) (h : Lib.IsBuilder 53 5 B b bs w) (hlen : bs.length + s.size ≤ 140737488355328) (hBw : B ≤ w.heap.size) :
    Calls Tryz.prog 24 #[.pointer (some ⟨b, 0, none⟩), .string s] w fun e w' => e = .returned (.tuple #[.int .i64 s.size, .nilIface]) ∧ (Lib.BuilderAt 53 5 B b (.pointer (some ⟨b, 0, none⟩)) (bs ++ Lib.strCells s) w' ∧ Below B w w') := Any.Builder_WriteString lays166 extra166 B b bs s w h hlen hBw
open Go.RowKit in
theorem Builder_String (B b : Nat) (l : List UInt8) (w : World) (h : Lib.IsBuilder 53 5 B b (Lib.byteCells l) w) (hBw : B ≤ w.heap.size) :
    Calls Tryz.prog 26 #[.pointer (some ⟨b, 0, none⟩)] w fun e w' => e = .returned (.string ⟨l.toArray⟩) ∧ Below B w w' := Any.Builder_String_any lays169 extra169 B b l w h hBw
def lays217_ren : Go.Shelf.Ren := ⟨fun | 217 => 46 | 266 => 57 | n => n, fun | 9 => 9 | 5 => 5 | 3 => 3 | n => n, fun | n => n⟩
theorem lays217 : Go.Proofs.Lays.n217 Tryz.prog lays217_ren := {
  mixed := by kernel_rfl
  f217 := Tryz.func46.trans (congrArg some (by kernel_rfl))
  f266 := Tryz.func57.trans (congrArg some (by kernel_rfl))
  t3 := Tryz.underlying3
  a3 := Tryz.isAgg3
  z3 := Tryz.sizeOf3
  v3 := Tryz.zeroValue3
  t5 := Tryz.underlying5
  a5 := Tryz.isAgg5
  z5 := Tryz.sizeOf5
  v5 := Tryz.zeroValue5
  t9 := Tryz.underlying9
  a9 := Tryz.isAgg9
  z9 := Tryz.sizeOf9
  v9 := Tryz.zeroValue9 }
open Go.RowKit Go.Lib in
theorem stringslite_IndexByte (s : ByteArray) (c : Int) (w : World) :
    Calls Tryz.prog 46 #[.string s, .int .u8 c] w fun e w' => e = .returned (.int .i64 (Lib.indexByte s.data.toList c.toNat.toUInt8)) ∧ w' = w := Any.stringslite_IndexByte lays217 s c w
def lays219_ren : Go.Shelf.Ren := ⟨fun | 219 => 41 | 217 => 46 | 225 => 47 | 224 => 48 | 267 => 49 | 266 => 57 | 314 => 58 | n => n, fun | 9 => 9 | 3 => 3 | 4 => 4 | 5 => 5 | 46 => 96 | 146 => 113 | 51 => 76 | n => n, fun | 1 => 0 | n => n⟩
theorem lays219 : Go.Proofs.Lays.n219 Tryz.prog lays219_ren := {
  mixed := by kernel_rfl
  f217 := Tryz.func46.trans (congrArg some (by kernel_rfl))
  f219 := Tryz.func41.trans (congrArg some (by kernel_rfl))
  f224 := Tryz.func48.trans (congrArg some (by kernel_rfl))
  f225 := Tryz.func47.trans (congrArg some (by kernel_rfl))
  f266 := Tryz.func57.trans (congrArg some (by kernel_rfl))
  f267 := Tryz.func49.trans (congrArg some (by kernel_rfl))
  f314 := Tryz.func58.trans (congrArg some (by kernel_rfl))
  t3 := Tryz.underlying3
  a3 := Tryz.isAgg3
  z3 := Tryz.sizeOf3
  v3 := Tryz.zeroValue3
  t4 := Tryz.underlying4
  a4 := Tryz.isAgg4
  z4 := Tryz.sizeOf4
  v4 := Tryz.zeroValue4
  t5 := Tryz.underlying5
  a5 := Tryz.isAgg5
  z5 := Tryz.sizeOf5
  v5 := Tryz.zeroValue5
  t9 := Tryz.underlying9
  a9 := Tryz.isAgg9
  z9 := Tryz.sizeOf9
  v9 := Tryz.zeroValue9
  t46 := Tryz.underlying96
  a46 := Tryz.isAgg96
  z46 := Tryz.sizeOf96
  v46 := Tryz.zeroValue96
  t51 := Tryz.underlying76
  a51 := Tryz.isAgg76
  z51 := Tryz.sizeOf76
  v51 := Tryz.zeroValue76
  t146 := Tryz.underlying113
  a146 := Tryz.isAgg113
  z146 := Tryz.sizeOf113
  v146 := Tryz.zeroValue113
  g1 := by kernel_rfl }
open Go.RowKit Go.Lib in
theorem stringslite_Index_one (s : ByteArray) (c : UInt8) (w : World) :
    Calls Tryz.prog 41 #[.string s, .string ⟨#[c]⟩] w fun e w' => e = .returned (.int .i64 (Lib.indexByte s.data.toList c)) ∧ w' = w := Any.stringslite_Index_one lays219 s c w
def lays138_ren : Go.Shelf.Ren := ⟨fun | 138 => 113 | 195 => 114 | 218 => 115 | 143 => 116 | 219 => 41 | 217 => 46 | 225 => 47 | 224 => 48 | 267 => 49 | 266 => 57 | 314 => 58 | n => n, fun | 9 => 9 | 3 => 3 | 4 => 4 | 5 => 5 | 0 => 0 | 46 => 96 | 146 => 113 | 51 => 76 | n => n, fun | 1 => 0 | n => n⟩
theorem lays138 : Go.Proofs.Lays.n138 Tryz.prog lays138_ren := {
  mixed := by kernel_rfl
  f138 := Tryz.func113.trans (congrArg some (by kernel_rfl))
  f143 := Tryz.func116.trans (congrArg some (by kernel_rfl))
  f195 := Tryz.func114.trans (congrArg some (by kernel_rfl))
  f217 := Tryz.func46.trans (congrArg some (by kernel_rfl))
  f218 := Tryz.func115.trans (congrArg some (by kernel_rfl))
  f219 := Tryz.func41.trans (congrArg some (by kernel_rfl))
  f224 := Tryz.func48.trans (congrArg some (by kernel_rfl))
  f225 := Tryz.func47.trans (congrArg some (by kernel_rfl))
  f266 := Tryz.func57.trans (congrArg some (by kernel_rfl))
  f267 := Tryz.func49.trans (congrArg some (by kernel_rfl))
  f314 := Tryz.func58.trans (congrArg some (by kernel_rfl))
  t0 := Tryz.underlying0
  a0 := Tryz.isAgg0
  z0 := Tryz.sizeOf0
  v0 := Tryz.zeroValue0
  t3 := Tryz.underlying3
  a3 := Tryz.isAgg3
  z3 := Tryz.sizeOf3
  v3 := Tryz.zeroValue3
  t4 := Tryz.underlying4
  a4 := Tryz.isAgg4
  z4 := Tryz.sizeOf4
  v4 := Tryz.zeroValue4
  t5 := Tryz.underlying5
  a5 := Tryz.isAgg5
  z5 := Tryz.sizeOf5
  v5 := Tryz.zeroValue5
  t9 := Tryz.underlying9
  a9 := Tryz.isAgg9
  z9 := Tryz.sizeOf9
  v9 := Tryz.zeroValue9
  t46 := Tryz.underlying96
  a46 := Tryz.isAgg96
  z46 := Tryz.sizeOf96
  v46 := Tryz.zeroValue96
  t51 := Tryz.underlying76
  a51 := Tryz.isAgg76
  z51 := Tryz.sizeOf76
  v51 := Tryz.zeroValue76
  t146 := Tryz.underlying113
  a146 := Tryz.isAgg113
  z146 := Tryz.sizeOf113
  v146 := Tryz.zeroValue113
  g1 := by kernel_rfl }
open Go.RowKit Go.Lib in
theorem strings_Count_one (s : ByteArray) (c : UInt8) (w : World) :
    Calls Tryz.prog 113 #[.string s, .string ⟨#[c]⟩] w fun e w' => e = .returned (.int .i64 (Lib.countByte s.data.toList c)) ∧ w' = w := Any.strings_Count_one lays138 s c w
def laysGw17_ren : Go.Shelf.Ren := ⟨fun | 17 => 37 | 15 => 42 | 20 => 50 | n => n, fun | 9 => 9 | 23 => 69 | 4 => 4 | 3 => 3 | 0 => 0 | 21 => 21 | n => n, fun | n => n⟩
theorem laysGw17 : Go.Proofs.LaysGw.n17 Tryz.prog laysGw17_ren := {
  mixed := by kernel_rfl
  f15 := Tryz.func42.trans (congrArg some (by kernel_rfl))
  f17 := Tryz.func37.trans (congrArg some (by kernel_rfl))
  f20 := Tryz.func50.trans (congrArg some (by kernel_rfl))
  t0 := Tryz.underlying0
  a0 := Tryz.isAgg0
  z0 := Tryz.sizeOf0
  v0 := Tryz.zeroValue0
  i0 := by kernel_rfl
  t3 := Tryz.underlying3
  a3 := Tryz.isAgg3
  z3 := Tryz.sizeOf3
  v3 := Tryz.zeroValue3
  i3 := by kernel_rfl
  t4 := Tryz.underlying4
  a4 := Tryz.isAgg4
  z4 := Tryz.sizeOf4
  v4 := Tryz.zeroValue4
  i4 := by kernel_rfl
  t9 := Tryz.underlying9
  a9 := Tryz.isAgg9
  z9 := Tryz.sizeOf9
  v9 := Tryz.zeroValue9
  i9 := by kernel_rfl
  t21 := Tryz.underlying21
  a21 := Tryz.isAgg21
  z21 := Tryz.sizeOf21
  v21 := Tryz.zeroValue21
  i21 := by kernel_rfl
  t23 := Tryz.underlying69
  a23 := Tryz.isAgg69
  z23 := Tryz.sizeOf69
  v23 := Tryz.zeroValue69
  i23 := by kernel_rfl }
open Go.RowKit Go.Lib in
theorem strings_ContainsFunc (g : Nat) (lb : Array Value) (eg : ∀ args w, (callFunc g args).run Tryz.prog w = .ok (.enter g args) w) (p : Nat → Bool) (s : ByteArray) (w : World) (hp : PredAt Tryz.prog g lb encR p w) :
    Calls Tryz.prog 37 #[.string s, .func (.func g) #[] lb] w fun e w' => e = .returned (.bool (decide (0 ≤ Lib.idxFunc p true s))) ∧ Below w.heap.size w w' := Any.strings_ContainsFunc laysGw17 g lb eg p s w hp
end Go.Proofs.YtpkcbbjflcfdeaaGreat.Sh
