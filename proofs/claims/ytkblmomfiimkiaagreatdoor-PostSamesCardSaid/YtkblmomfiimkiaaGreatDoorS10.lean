/- What the claim's theorem leans on. Conditions: none of its own. (Written by prune.py out of the texts ShelfN LaidB Px10 Px11 Px12 Px5 Px16 MoneyT, without what the claim doesn't lean on.) -/
import Derived.Shelf.Strconv.Itoa4
import Derived.Shelf.Strings.Fields
import Derived.Shelf.Strings.Repeat
import Derived.Test.YtkblmomfiimkiaaGreatDoorProg
import Derived.WalkKit
import Derived.Lib.Hide
import Derived.Lib.LaidTab
import Derived.Lib.LaidU8
import Derived.WalkMore
import Derived.Deep.DeepCutAuto
import Derived.Lib.Repeat
import Derived.Test.YtkblmomfiimkiaaGreatDoorS2
import Derived.Test.YtkblmomfiimkiaaGreatDoorS9
section
namespace Go.Proofs
open Go.Shelf
def YtkblmomfiimkiaaGreatDoor.Sh.laysM171_ren : Go.Shelf.Ren := ⟨fun | 171 => 73 | 243 => 103 | 246 => 116 | 283 => 131 | 284 => 132 | 285 => 133 | 286 => 134 | 129 => 154 | 317 => 153 | 318 => 155 | 319 => 156 | 320 => 157 | 337 => 174 | 338 => 175 | n => n, fun | 3 => 3 | 9 => 9 | 2 => 2 | 4 => 4 | 171 => 177 | 0 => 0 | 53 => 178 | 37 => 110 | 5 => 5 | 173 => 181 | 212 => 200 | 51 => 138 | 20 => 20 | 213 => 201 | 46 => 183 | 232 => 249 | 233 => 250 | n => n, fun | 17 => 3 | 18 => 8 | 19 => 9 | n => n⟩
theorem YtkblmomfiimkiaaGreatDoor.Sh.laysM171 : Go.Proofs.LaysM.n171 Tryz.prog YtkblmomfiimkiaaGreatDoor.Sh.laysM171_ren := {
 mixed := by kernel_rfl
 f129 := Tryz.func154.trans (congrArg some (by kernel_rfl))
 f171 := Tryz.func73.trans (congrArg some (by kernel_rfl))
 f243 := Tryz.func103.trans (congrArg some (by kernel_rfl))
 f246 := Tryz.func116.trans (congrArg some (by kernel_rfl))
 f283 := Tryz.func131.trans (congrArg some (by kernel_rfl))
 f284 := Tryz.func132.trans (congrArg some (by kernel_rfl))
 f285 := Tryz.func133.trans (congrArg some (by kernel_rfl))
 f286 := Tryz.func134.trans (congrArg some (by kernel_rfl))
 f317 := Tryz.func153.trans (congrArg some (by kernel_rfl))
 f318 := Tryz.func155.trans (congrArg some (by kernel_rfl))
 f319 := Tryz.func156.trans (congrArg some (by kernel_rfl))
 f320 := Tryz.func157.trans (congrArg some (by kernel_rfl))
 f337 := Tryz.func174.trans (congrArg some (by kernel_rfl))
 f338 := Tryz.func175.trans (congrArg some (by kernel_rfl))
 t0 := Tryz.underlying0
 a0 := Tryz.isAgg0
 z0 := Tryz.sizeOf0
 v0 := Tryz.zeroValue0
 t2 := Tryz.underlying2
 a2 := Tryz.isAgg2
 z2 := Tryz.sizeOf2
 v2 := Tryz.zeroValue2
 t3 := Tryz.underlying3
 a3 := Tryz.isAgg3
 z3 := Tryz.sizeOf3
 v3 := Tryz.zeroValue3
 t4 := Tryz.underlying4
 a4 := Tryz.isAgg4
 z4 := Tryz.sizeOf4
 v4 := Tryz.zeroValue4
 t5 := Tryz.underlying5
 a5 := Tryz.isAgg5
 z5 := Tryz.sizeOf5
 v5 := Tryz.zeroValue5
 t9 := Tryz.underlying9
 a9 := Tryz.isAgg9
 z9 := Tryz.sizeOf9
 v9 := Tryz.zeroValue9
 t20 := Tryz.underlying20
 a20 := Tryz.isAgg20
 z20 := Tryz.sizeOf20
 v20 := Tryz.zeroValue20
 t37 := Tryz.underlying110
 a37 := Tryz.isAgg110
 z37 := Tryz.sizeOf110
 v37 := Tryz.zeroValue110
 t46 := Tryz.underlying183
 a46 := Tryz.isAgg183
 z46 := Tryz.sizeOf183
 v46 := Tryz.zeroValue183
 t51 := Tryz.underlying138
 a51 := Tryz.isAgg138
 z51 := Tryz.sizeOf138
 v51 := Tryz.zeroValue138
 t53 := Tryz.underlying178
 a53 := Tryz.isAgg178
 z53 := Tryz.sizeOf178
 v53 := Tryz.zeroValue178
 t171 := Tryz.underlying177
 a171 := Tryz.isAgg177
 z171 := Tryz.sizeOf177
 v171 := Tryz.zeroValue177
 t173 := Tryz.underlying181
 a173 := Tryz.isAgg181
 z173 := Tryz.sizeOf181
 v173 := Tryz.zeroValue181
 t212 := Tryz.underlying200
 a212 := Tryz.isAgg200
 z212 := Tryz.sizeOf200
 v212 := Tryz.zeroValue200
 t213 := Tryz.underlying201
 a213 := Tryz.isAgg201
 z213 := Tryz.sizeOf201
 t232 := Tryz.underlying249
 a232 := Tryz.isAgg249
 z232 := Tryz.sizeOf249
 v232 := Tryz.zeroValue249
 t233 := Tryz.underlying250
 a233 := Tryz.isAgg250
 z233 := Tryz.sizeOf250
 v233 := Tryz.zeroValue250
 g17 := by kernel_rfl
 g18 := by kernel_rfl
 g19 := by kernel_rfl
 i0 := by kernel_rfl
 i2 := by kernel_rfl
 i3 := by kernel_rfl
 i4 := by kernel_rfl
 i5 := by kernel_rfl
 i9 := by kernel_rfl
 i20 := by kernel_rfl
 i37 := by kernel_rfl
 i46 := by kernel_rfl
 i51 := by kernel_rfl
 i53 := by kernel_rfl
 i171 := by kernel_rfl
 i173 := by kernel_rfl
 i212 := by kernel_rfl
 i232 := by kernel_rfl
 i233 := by kernel_rfl
 m17 := by kernel_rfl
 m18 := by kernel_rfl
 m19 := by kernel_rfl }
open Go.RowKit Go.Sort Go.Lib in
theorem YtkblmomfiimkiaaGreatDoor.Sh.strconv_Itoa (n : Int) (h0 : -9223372036854775808 ≤ n) (h1 : n ≤ 9223372036854775807) (w : World) (htab : Lib.TabIs Tryz.prog w "internal/strconv.uint64pow10" .u64 Lib.pow10Tab) :
  Calls Tryz.prog 73 #[.int .i64 n] w fun e w' => e = .returned (.string ⟨(Lib.itoa n).toArray⟩) ∧ ∃ k os, w' = grow (w.drewN k) os := Any.strconv_Itoa YtkblmomfiimkiaaGreatDoor.Sh.laysM171 n h0 h1 w htab
def YtkblmomfiimkiaaGreatDoor.Sh.laysM173_ren : Go.Shelf.Ren := ⟨fun | 173 => 106 | 246 => 116 | 283 => 131 | 284 => 132 | 285 => 133 | 286 => 134 | 129 => 154 | 317 => 153 | 318 => 155 | 319 => 156 | 320 => 157 | 337 => 174 | 338 => 175 | n => n, fun | 2 => 2 | 3 => 3 | 9 => 9 | 4 => 4 | 171 => 177 | 0 => 0 | 53 => 178 | 37 => 110 | 5 => 5 | 173 => 181 | 212 => 200 | 51 => 138 | 20 => 20 | 213 => 201 | 46 => 183 | 232 => 249 | 233 => 250 | n => n, fun | 17 => 3 | 18 => 8 | 19 => 9 | n => n⟩
theorem YtkblmomfiimkiaaGreatDoor.Sh.laysM173 : Go.Proofs.LaysM.n173 Tryz.prog YtkblmomfiimkiaaGreatDoor.Sh.laysM173_ren := {
 mixed := by kernel_rfl
 f129 := Tryz.func154.trans (congrArg some (by kernel_rfl))
 f173 := Tryz.func106.trans (congrArg some (by kernel_rfl))
 f246 := Tryz.func116.trans (congrArg some (by kernel_rfl))
 f283 := Tryz.func131.trans (congrArg some (by kernel_rfl))
 f284 := Tryz.func132.trans (congrArg some (by kernel_rfl))
 f285 := Tryz.func133.trans (congrArg some (by kernel_rfl))
 f286 := Tryz.func134.trans (congrArg some (by kernel_rfl))
 f317 := Tryz.func153.trans (congrArg some (by kernel_rfl))
 f318 := Tryz.func155.trans (congrArg some (by kernel_rfl))
 f319 := Tryz.func156.trans (congrArg some (by kernel_rfl))
 f320 := Tryz.func157.trans (congrArg some (by kernel_rfl))
 f337 := Tryz.func174.trans (congrArg some (by kernel_rfl))
 f338 := Tryz.func175.trans (congrArg some (by kernel_rfl))
 t0 := Tryz.underlying0
 a0 := Tryz.isAgg0
 z0 := Tryz.sizeOf0
 v0 := Tryz.zeroValue0
 t2 := Tryz.underlying2
 a2 := Tryz.isAgg2
 z2 := Tryz.sizeOf2
 v2 := Tryz.zeroValue2
 t3 := Tryz.underlying3
 a3 := Tryz.isAgg3
 z3 := Tryz.sizeOf3
 v3 := Tryz.zeroValue3
 t4 := Tryz.underlying4
 a4 := Tryz.isAgg4
 z4 := Tryz.sizeOf4
 v4 := Tryz.zeroValue4
 t5 := Tryz.underlying5
 a5 := Tryz.isAgg5
 z5 := Tryz.sizeOf5
 v5 := Tryz.zeroValue5
 t9 := Tryz.underlying9
 a9 := Tryz.isAgg9
 z9 := Tryz.sizeOf9
 v9 := Tryz.zeroValue9
 t20 := Tryz.underlying20
 a20 := Tryz.isAgg20
 z20 := Tryz.sizeOf20
 v20 := Tryz.zeroValue20
 t37 := Tryz.underlying110
 a37 := Tryz.isAgg110
 z37 := Tryz.sizeOf110
 v37 := Tryz.zeroValue110
 t46 := Tryz.underlying183
 a46 := Tryz.isAgg183
 z46 := Tryz.sizeOf183
 v46 := Tryz.zeroValue183
 t51 := Tryz.underlying138
 a51 := Tryz.isAgg138
 z51 := Tryz.sizeOf138
 v51 := Tryz.zeroValue138
 t53 := Tryz.underlying178
 a53 := Tryz.isAgg178
 z53 := Tryz.sizeOf178
 v53 := Tryz.zeroValue178
 t171 := Tryz.underlying177
 a171 := Tryz.isAgg177
 z171 := Tryz.sizeOf177
 v171 := Tryz.zeroValue177
 t173 := Tryz.underlying181
 a173 := Tryz.isAgg181
 z173 := Tryz.sizeOf181
 v173 := Tryz.zeroValue181
 t212 := Tryz.underlying200
 a212 := Tryz.isAgg200
 z212 := Tryz.sizeOf200
 v212 := Tryz.zeroValue200
 t213 := Tryz.underlying201
 a213 := Tryz.isAgg201
 z213 := Tryz.sizeOf201
 t232 := Tryz.underlying249
 a232 := Tryz.isAgg249
 z232 := Tryz.sizeOf249
 v232 := Tryz.zeroValue249
 t233 := Tryz.underlying250
 a233 := Tryz.isAgg250
 z233 := Tryz.sizeOf250
 v233 := Tryz.zeroValue250
 g17 := by kernel_rfl
 g18 := by kernel_rfl
 g19 := by kernel_rfl
 i0 := by kernel_rfl
 i2 := by kernel_rfl
 i3 := by kernel_rfl
 i4 := by kernel_rfl
 i5 := by kernel_rfl
 i9 := by kernel_rfl
 i20 := by kernel_rfl
 i37 := by kernel_rfl
 i46 := by kernel_rfl
 i51 := by kernel_rfl
 i53 := by kernel_rfl
 i171 := by kernel_rfl
 i173 := by kernel_rfl
 i212 := by kernel_rfl
 i232 := by kernel_rfl
 i233 := by kernel_rfl
 m17 := by kernel_rfl
 m18 := by kernel_rfl
 m19 := by kernel_rfl }
open Go.RowKit Go.Sort Go.Lib in
theorem YtkblmomfiimkiaaGreatDoor.Sh.strconv_FormatInt_10 (n : Int) (h0 : -9223372036854775808 ≤ n) (h1 : n ≤ 9223372036854775807) (w : World) (htab : Lib.TabIs Tryz.prog w "internal/strconv.uint64pow10" .u64 Lib.pow10Tab) :
  Calls Tryz.prog 106 #[.int .i64 n, .int .i64 10] w fun e w' => e = .returned (.string ⟨(Lib.itoa n).toArray⟩) ∧ ∃ k os, w' = grow (w.drewN k) os := Any.strconv_FormatInt_10 YtkblmomfiimkiaaGreatDoor.Sh.laysM173 n h0 h1 w htab
def YtkblmomfiimkiaaGreatDoor.Sh.lays157_ren : Go.Shelf.Ren := ⟨fun | 157 => 63 | 229 => 98 | 199 => 99 | 261 => 114 | 311 => 129 | 312 => 130 | n => n, fun | 9 => 9 | 31 => 23 | 3 => 3 | 5 => 5 | 4 => 4 | 119 => 123 | 0 => 0 | 40 => 90 | 152 => 135 | 21 => 21 | 154 => 137 | 51 => 138 | 141 => 140 | 196 => 169 | 193 => 166 | 198 => 172 | 49 => 170 | 194 => 167 | 201 => 175 | 226 => 197 | 46 => 183 | 227 => 198 | n => n, fun | 0 => 0 | 6 => 1 | n => n⟩
theorem YtkblmomfiimkiaaGreatDoor.Sh.lays157 : Go.Proofs.Lays.n157 Tryz.prog YtkblmomfiimkiaaGreatDoor.Sh.lays157_ren := {
 mixed := by kernel_rfl
 f157 := Tryz.func63.trans (congrArg some (by kernel_rfl))
 f199 := Tryz.func99.trans (congrArg some (by kernel_rfl))
 f229 := Tryz.func98.trans (congrArg some (by kernel_rfl))
 f261 := Tryz.func114.trans (congrArg some (by kernel_rfl))
 f311 := Tryz.func129.trans (congrArg some (by kernel_rfl))
 f312 := Tryz.func130.trans (congrArg some (by kernel_rfl))
 t0 := Tryz.underlying0
 a0 := Tryz.isAgg0
 z0 := Tryz.sizeOf0
 v0 := Tryz.zeroValue0
 t3 := Tryz.underlying3
 a3 := Tryz.isAgg3
 z3 := Tryz.sizeOf3
 v3 := Tryz.zeroValue3
 t4 := Tryz.underlying4
 a4 := Tryz.isAgg4
 z4 := Tryz.sizeOf4
 v4 := Tryz.zeroValue4
 t5 := Tryz.underlying5
 a5 := Tryz.isAgg5
 z5 := Tryz.sizeOf5
 v5 := Tryz.zeroValue5
 t9 := Tryz.underlying9
 a9 := Tryz.isAgg9
 z9 := Tryz.sizeOf9
 v9 := Tryz.zeroValue9
 t21 := Tryz.underlying21
 a21 := Tryz.isAgg21
 z21 := Tryz.sizeOf21
 v21 := Tryz.zeroValue21
 t31 := Tryz.underlying23
 a31 := Tryz.isAgg23
 z31 := Tryz.sizeOf23
 v31 := Tryz.zeroValue23
 t40 := Tryz.underlying90
 a40 := Tryz.isAgg90
 z40 := Tryz.sizeOf90
 v40 := Tryz.zeroValue90
 t46 := Tryz.underlying183
 a46 := Tryz.isAgg183
 z46 := Tryz.sizeOf183
 v46 := Tryz.zeroValue183
 t49 := Tryz.underlying170
 a49 := Tryz.isAgg170
 z49 := Tryz.sizeOf170
 v49 := Tryz.zeroValue170
 t51 := Tryz.underlying138
 a51 := Tryz.isAgg138
 z51 := Tryz.sizeOf138
 v51 := Tryz.zeroValue138
 t119 := Tryz.underlying123
 a119 := Tryz.isAgg123
 z119 := Tryz.sizeOf123
 t141 := Tryz.underlying140
 a141 := Tryz.isAgg140
 z141 := Tryz.sizeOf140
 v141 := Tryz.zeroValue140
 t152 := Tryz.underlying135
 a152 := Tryz.isAgg135
 z152 := Tryz.sizeOf135
 v152 := Tryz.zeroValue135
 t154 := Tryz.underlying137
 a154 := Tryz.isAgg137
 z154 := Tryz.sizeOf137
 v154 := Tryz.zeroValue137
 t193 := Tryz.underlying166
 a193 := Tryz.isAgg166
 z193 := Tryz.sizeOf166
 v193 := Tryz.zeroValue166
 t194 := Tryz.underlying167
 a194 := Tryz.isAgg167
 z194 := Tryz.sizeOf167
 v194 := Tryz.zeroValue167
 t196 := Tryz.underlying169
 a196 := Tryz.isAgg169
 z196 := Tryz.sizeOf169
 v196 := Tryz.zeroValue169
 t198 := Tryz.underlying172
 a198 := Tryz.isAgg172
 z198 := Tryz.sizeOf172
 v198 := Tryz.zeroValue172
 t201 := Tryz.underlying175
 a201 := Tryz.isAgg175
 z201 := Tryz.sizeOf175
 v201 := Tryz.zeroValue175
 t226 := Tryz.underlying197
 a226 := Tryz.isAgg197
 z226 := Tryz.sizeOf197
 v226 := Tryz.zeroValue197
 t227 := Tryz.underlying198
 a227 := Tryz.isAgg198
 z227 := Tryz.sizeOf198
 v227 := Tryz.zeroValue198
 g0 := by kernel_rfl
 g6 := by kernel_rfl }
open Go.RowKit Go.Lib in
theorem YtkblmomfiimkiaaGreatDoor.Sh.strings_Fields (s : ByteArray) (w : World) (hs : s.size < 4294967281) (hascii : ∀ (j : Nat) b, s.data.toList[j]? = some b → b.toNat < 128) (htab : Lib.TabIs Tryz.prog w "strings.asciiSpace" .u8 Lib.asciiSpaceTab) :
  Calls Tryz.prog 63 #[.string s] w fun e w' =>
   e = .returned (.slice (some ⟨w.heap.size, 0, none⟩) (Lib.fields s.data.toList).length (Lib.fields s.data.toList).length) ∧ w' = w.alloc (.cells ((Lib.fields s.data.toList).map fun l => Value.string ⟨l.toArray⟩).toArray 9) := Any.strings_Fields YtkblmomfiimkiaaGreatDoor.Sh.lays157 (by kernel_rfl) (by kernel_rfl) s w hs hascii htab
def YtkblmomfiimkiaaGreatDoor.Sh.lays105_ren : Go.Shelf.Ren := ⟨fun | 105 => 118 | 212 => 135 | 99 => 136 | 165 => 122 | 166 => 91 | 170 => 97 | 169 => 93 | 263 => 158 | 264 => 159 | 206 => 160 | 240 => 109 | 241 => 144 | 276 => 125 | 277 => 165 | n => n, fun | 9 => 9 | 3 => 3 | 4 => 4 | 20 => 20 | 0 => 0 | 46 => 183 | 109 => 184 | 5 => 5 | 72 => 112 | 76 => 115 | 51 => 138 | 146 => 204 | 53 => 178 | 148 => 206 | 70 => 109 | 37 => 110 | 75 => 114 | 127 => 134 | 164 => 148 | 80 => 118 | n => n, fun | n => n⟩
theorem YtkblmomfiimkiaaGreatDoor.Sh.lays105 : Go.Proofs.Lays.n105 Tryz.prog YtkblmomfiimkiaaGreatDoor.Sh.lays105_ren := {
 mixed := by kernel_rfl
 f99 := Tryz.func136.trans (congrArg some (by kernel_rfl))
 f105 := Tryz.func118.trans (congrArg some (by kernel_rfl))
 f165 := Tryz.func122.trans (congrArg some (by kernel_rfl))
 f166 := Tryz.func91.trans (congrArg some (by kernel_rfl))
 f169 := Tryz.func93.trans (congrArg some (by kernel_rfl))
 f170 := Tryz.func97.trans (congrArg some (by kernel_rfl))
 f206 := Tryz.func160.trans (congrArg some (by kernel_rfl))
 f212 := Tryz.func135.trans (congrArg some (by kernel_rfl))
 f240 := Tryz.func109.trans (congrArg some (by kernel_rfl))
 f241 := Tryz.func144.trans (congrArg some (by kernel_rfl))
 f263 := Tryz.func158.trans (congrArg some (by kernel_rfl))
 f264 := Tryz.func159.trans (congrArg some (by kernel_rfl))
 f276 := Tryz.func125.trans (congrArg some (by kernel_rfl))
 f277 := Tryz.func165.trans (congrArg some (by kernel_rfl))
 t0 := Tryz.underlying0
 a0 := Tryz.isAgg0
 z0 := Tryz.sizeOf0
 v0 := Tryz.zeroValue0
 t3 := Tryz.underlying3
 a3 := Tryz.isAgg3
 z3 := Tryz.sizeOf3
 v3 := Tryz.zeroValue3
 t4 := Tryz.underlying4
 a4 := Tryz.isAgg4
 z4 := Tryz.sizeOf4
 v4 := Tryz.zeroValue4
 t5 := Tryz.underlying5
 a5 := Tryz.isAgg5
 z5 := Tryz.sizeOf5
 v5 := Tryz.zeroValue5
 t9 := Tryz.underlying9
 a9 := Tryz.isAgg9
 z9 := Tryz.sizeOf9
 v9 := Tryz.zeroValue9
 t20 := Tryz.underlying20
 a20 := Tryz.isAgg20
 z20 := Tryz.sizeOf20
 v20 := Tryz.zeroValue20
 t37 := Tryz.underlying110
 a37 := Tryz.isAgg110
 z37 := Tryz.sizeOf110
 v37 := Tryz.zeroValue110
 t46 := Tryz.underlying183
 a46 := Tryz.isAgg183
 z46 := Tryz.sizeOf183
 v46 := Tryz.zeroValue183
 t51 := Tryz.underlying138
 a51 := Tryz.isAgg138
 z51 := Tryz.sizeOf138
 v51 := Tryz.zeroValue138
 t53 := Tryz.underlying178
 a53 := Tryz.isAgg178
 z53 := Tryz.sizeOf178
 v53 := Tryz.zeroValue178
 t70 := Tryz.underlying109
 a70 := Tryz.isAgg109
 z70 := Tryz.sizeOf109
 v70 := Tryz.zeroValue109
 t72 := Tryz.underlying112
 a72 := Tryz.isAgg112
 z72 := Tryz.sizeOf112
 v72 := Tryz.zeroValue112
 t75 := Tryz.underlying114
 a75 := Tryz.isAgg114
 z75 := Tryz.sizeOf114
 v75 := Tryz.zeroValue114
 t76 := Tryz.underlying115
 a76 := Tryz.isAgg115
 z76 := Tryz.sizeOf115
 v76 := Tryz.zeroValue115
 t109 := Tryz.underlying184
 a109 := Tryz.isAgg184
 z109 := Tryz.sizeOf184
 v109 := Tryz.zeroValue184
 t127 := Tryz.underlying134
 a127 := Tryz.isAgg134
 z127 := Tryz.sizeOf134
 v127 := Tryz.zeroValue134
 t146 := Tryz.underlying204
 a146 := Tryz.isAgg204
 z146 := Tryz.sizeOf204
 v146 := Tryz.zeroValue204
 t148 := Tryz.underlying206
 a148 := Tryz.isAgg206
 z148 := Tryz.sizeOf206
 v148 := Tryz.zeroValue206
 t164 := Tryz.underlying148
 a164 := Tryz.isAgg148
 z164 := Tryz.sizeOf148
 v164 := Tryz.zeroValue148 }
theorem YtkblmomfiimkiaaGreatDoor.Sh.Builder_Extra_105 : Builder.Extra Tryz.prog YtkblmomfiimkiaaGreatDoor.Sh.lays105_ren := {
 sizeBuilder := by kernel_rfl
 liesBuilder := by kernel_rfl
 t5 := Tryz.underlying5
 a5 := Tryz.isAgg5
 z5 := Tryz.sizeOf5
 v5 := Tryz.zeroValue5
 infoByte := by kernel_rfl
 cellsByte := by kernel_rfl
 sizeByte := by kernel_rfl
 neB5 := by decide }
open Go.RowKit Go.Lib in
theorem YtkblmomfiimkiaaGreatDoor.Sh.strings_Repeat (s : ByteArray) (c : Nat) (w : World) (hc : c ≤ 9223372036854775807) (hlen : s.size * c ≤ 140737488355328) :
  Calls Tryz.prog 118 #[.string s, .int .i64 c] w fun e w' => e = .returned (.string ⟨(Lib.repeatL s.data.toList c).toArray⟩) ∧ Below w.heap.size w w' := Any.strings_Repeat YtkblmomfiimkiaaGreatDoor.Sh.lays105 YtkblmomfiimkiaaGreatDoor.Sh.Builder_Extra_105 s c w hc hlen
end Go.Proofs
end

section
namespace Go.Proofs.YtkblmomfiimkiaaGreatDoor.P
open Go.RowKit Go.Proofs.YtkblmomfiimkiaaGreatDoorW.PrintWords Go.Proofs.YtkblmomfiimkiaaGreatDoorW.PrintLast Go.Proofs.YtkblmomfiimkiaaGreatDoorW.PrintMore
structure Glob (W : World) : Prop where
 tab : Lib.TabIs Tryz.prog W "internal/strconv.uint64pow10" .u64 Lib.pow10Tab
 spc : Lib.TabIs Tryz.prog W "strings.asciiSpace" .u8 Lib.asciiSpaceTab
theorem tab_below {w w' : World} {name : String} {k : IntKind} {zs : List Int} {g : Nat} (hgn : Tryz.prog.globalNamed name = some g) (h : Lib.TabIs Tryz.prog w name k zs) (hb : Below w.heap.size w w') : Lib.TabIs Tryz.prog w' name k zs := by
 unfold Lib.TabIs World.var? at h ⊢
 rw [hgn] at h ⊢
 simp only [Option.bind_some] at h ⊢
 have hlt : g < w.heap.size := by
  rcases Nat.lt_or_ge g w.heap.size with h' | h'
  ·
   exact h'
  ·
   rw [Array.getElem?_eq_none h'] at h; cases h
 rw [hb.block g hlt]
 exact h
theorem glob_below {W W1 : World} (h : Glob W) (hb : Below W.heap.size W W1) : Glob W1 := ⟨tab_below (g := 3) (by kernel_rfl) h.tab hb, tab_below (g := 0) (by kernel_rfl) h.spc hb⟩
theorem below_grow {w : World} (k : Nat) (os : Array Obj) : Below w.heap.size w (Sort.grow (w.drewN k) os) :=
 ⟨rfl, rfl, rfl, by show w.heap.size ≤ (w.heap ++ os).size; rw [Array.size_append]; omega, fun _ hj => Sort.heap_grow_old (w.drewN k) os hj⟩
def namesB : List ByteArray := [(⟨#[111, 114, 100, 101, 114]⟩ : ByteArray), (⟨#[97, 112, 112, 108, 121]⟩ : ByteArray), (⟨#[105, 115, 115, 117, 101, 100]⟩ : ByteArray), (⟨#[100, 101, 99, 108, 105, 110, 101, 100]⟩ : ByteArray), (⟨#[115, 104, 105, 112]⟩ : ByteArray), (⟨#[108, 97, 100, 105, 110, 103]⟩ : ByteArray), (⟨#[99, 111, 118, 101, 114]⟩ : ByteArray), (⟨#[99, 111, 118, 101, 114, 101, 100]⟩ : ByteArray), (⟨#[101, 110, 100, 111, 114, 115, 101]⟩ : ByteArray), (⟨#[101, 110, 100, 111, 114, 115, 101, 100]⟩ : ByteArray), (⟨#[112, 114, 101, 115, 101, 110, 116]⟩ : ByteArray), (⟨#[114, 101, 102, 117, 115, 101, 100]⟩ : ByteArray), (⟨#[97, 99, 99, 101, 112, 116, 101, 100]⟩ : ByteArray), (⟨#[112, 97, 105, 100]⟩ : ByteArray), (⟨#[112, 97, 112, 101, 114, 115]⟩ : ByteArray), (⟨#[100, 101, 99, 108, 97, 114, 101]⟩ : ByteArray), (⟨#[100, 117, 116, 121]⟩ : ByteArray), (⟨#[116, 114, 97, 110, 115, 102, 101, 114]⟩ : ByteArray), (⟨#[99, 114, 101, 100, 105, 116, 101, 100]⟩ : ByteArray), (⟨#[114, 101, 108, 101, 97, 115, 101]⟩ : ByteArray), (⟨#[115, 117, 114, 114, 101, 110, 100, 101, 114]⟩ : ByteArray), (⟨#[100, 101, 108, 105, 118, 101, 114, 101, 100]⟩ : ByteArray), (⟨#[111, 98, 106, 101, 99, 116, 101, 100]⟩ : ByteArray), (⟨#[108, 111, 115, 116]⟩ : ByteArray), (⟨#[114, 101, 112, 108, 97, 99, 101]⟩ : ByteArray), (⟨#[114, 101, 112, 108, 97, 99, 101, 100]⟩ : ByteArray), (⟨#[108, 97, 110, 100, 101, 100]⟩ : ByteArray), (⟨#[114, 101, 109, 105, 116]⟩ : ByteArray), (⟨#[97, 99, 107]⟩ : ByteArray)]
def namesText : List UInt8 := [111, 114, 100, 101, 114, 32, 97, 112, 112, 108, 121, 32, 105, 115, 115, 117, 101, 100, 32, 100, 101, 99, 108, 105, 110, 101, 100, 32, 115, 104, 105, 112, 32, 108, 97, 100, 105, 110, 103, 32, 99, 111, 118, 101, 114, 32, 99, 111, 118, 101, 114, 101, 100, 32, 101, 110, 100, 111, 114, 115, 101, 32, 101, 110, 100, 111, 114, 115, 101, 100, 32, 112, 114, 101, 115, 101, 110, 116, 32, 114, 101, 102, 117, 115, 101, 100, 32, 97, 99, 99, 101, 112, 116, 101, 100, 32, 112, 97, 105, 100, 32, 112, 97, 112, 101, 114, 115, 32, 100, 101, 99, 108, 97, 114, 101, 32, 100, 117, 116, 121, 32, 116, 114, 97, 110, 115, 102, 101, 114, 32, 99, 114, 101, 100, 105, 116, 101, 100, 32, 114, 101, 108, 101, 97, 115, 101, 32, 115, 117, 114, 114, 101, 110, 100, 101, 114, 32, 100, 101, 108, 105, 118, 101, 114, 101, 100, 32, 111, 98, 106, 101, 99, 116, 101, 100, 32, 108, 111, 115, 116, 32, 114, 101, 112, 108, 97, 99, 101, 32, 114, 101, 112, 108, 97, 99, 101, 100, 32, 108, 97, 110, 100, 101, 100, 32, 114, 101, 109, 105, 116, 32, 97, 99, 107]
theorem names_fields : Lib.fields namesText = namesB.map (·.data.toList) := by kernel_rfl
theorem names_ascii : namesText.all (fun b => decide (b.toNat < 128)) = true := by kernel_rfl
theorem names_length : namesText.length = 214 := by kernel_rfl
def post_names.f : Option (List ByteArray) := some namesB
theorem fields_names (s : ByteArray) (hs : s.data.toList = namesText) (w : World) (hG : Glob w) :
  Calls Tryz.prog 63 #[.string s] w fun e w' => e = .returned (.slice (some ⟨w.heap.size, 0, none⟩) 29 29) ∧ w' = w.alloc (.cells (namesB.map Value.string).toArray 9) := by
 have hz : s.size = 214 := by rw [← names_length, ← hs]; simp
 refine (Sh.strings_Fields s w (by omega) (fun j b hb => ?_) hG.spc).mono fun e w' ⟨he, hw⟩ => ?_
 ·
  rw [hs] at hb
  exact of_decide_eq_true (List.all_eq_true.1 names_ascii b (List.mem_of_getElem? hb))
 ·
  rw [hs, names_fields] at he hw
  refine ⟨he, ?_⟩
  rw [hw]
  rfl
theorem post_names.calls (r : List ByteArray) (w : World) (hG : Glob w) (h : post_names.f = some r) :
  Calls Tryz.prog 28 #[] w fun e w' => ∃ v0_ : Value, e = .returned (v0_) ∧ Kd.R Kd.string 9 w' w.heap.size (fun _ => True) v0_ r ∧ Below w.heap.size w w' := by
 obtain rfl := Option.some.inj h
 clear h
 have HG := Lib.hid hG
 clear hG
 go_enter Tryz.func28, Tryz.ntmps28
 go_wp2_with fail
 refine (fields_names _ (by kernel_rfl) _ HG.out).mono ?_
 rintro e w' ⟨rfl, rfl⟩
 go_wp2_with fail
 go_ret
 refine ⟨_, rfl, ?_, (Below.refl _ _).alloc (Nat.le_refl _) _⟩
 have h2 := World.ownsRow_lit (base := w.heap.size) (e := 9) (size := 1) w (namesB.map Value.string).toArray 29 (Nat.le_refl _) (by unfold maxLen; omega) (by kernel_rfl)
 exact Kd.R_of_own (enc := Value.string) (h1 := fun _ => rfl) (by exact h2) (fun _ _ => trivial)
def strconv_Itoa.f (a0 : Int) : Option ByteArray := if -9223372036854775808 ≤ a0 ∧ a0 ≤ 9223372036854775807 then some ⟨(Lib.itoa a0).toArray⟩ else none
theorem strconv_Itoa.calls (a0 : Int) (r : ByteArray) (w : World) (hG : Glob w) (h : strconv_Itoa.f a0 = some r) :
  Calls Tryz.prog 73 #[.int .i64 a0] w fun e w' => e = .returned (.string r) ∧ Below w.heap.size w w' := by
 unfold strconv_Itoa.f at h
 by_cases hb : -9223372036854775808 ≤ a0 ∧ a0 ≤ 9223372036854775807
 ·
  rw [if_pos hb] at h
  obtain rfl := Option.some.inj h
  refine (Sh.strconv_Itoa a0 hb.1 hb.2 w hG.tab).mono fun e w' ⟨he, k, os, hw⟩ => ⟨he, ?_⟩
  rw [hw]; exact below_grow k os
 ·
  rw [if_neg hb] at h; cases h
def strconv_FormatInt.f (a0 a1 : Int) : Option ByteArray := if a1 = 10 ∧ -9223372036854775808 ≤ a0 ∧ a0 ≤ 9223372036854775807 then some ⟨(Lib.itoa a0).toArray⟩ else none
theorem strconv_FormatInt.calls (a0 a1 : Int) (r : ByteArray) (w : World) (hG : Glob w) (h : strconv_FormatInt.f a0 a1 = some r) :
  Calls Tryz.prog 106 #[.int .i64 a0, .int .i64 a1] w fun e w' => e = .returned (.string r) ∧ Below w.heap.size w w' := by
 unfold strconv_FormatInt.f at h
 by_cases hb : a1 = 10 ∧ -9223372036854775808 ≤ a0 ∧ a0 ≤ 9223372036854775807
 ·
  rw [if_pos hb] at h
  obtain rfl := Option.some.inj h
  obtain ⟨rfl, h0, h1⟩ := hb
  refine (Sh.strconv_FormatInt_10 a0 h0 h1 w hG.tab).mono fun e w' ⟨he, k, os, hw⟩ => ⟨he, ?_⟩
  rw [hw]; exact below_grow k os
 ·
  rw [if_neg hb] at h; cases h
def strings_Repeat.f (a0 : ByteArray) (a1 : Int) : Option ByteArray := if 0 ≤ a1 ∧ a1 ≤ 9223372036854775807 ∧ a0.size * a1.toNat ≤ 140737488355328 then some ⟨(Lib.repeatL a0.data.toList a1.toNat).toArray⟩ else none
theorem strings_Repeat.calls (a0 : ByteArray) (a1 : Int) (r : ByteArray) (w : World) (h : strings_Repeat.f a0 a1 = some r) :
  Calls Tryz.prog 118 #[.string a0, .int .i64 a1] w fun e w' => e = .returned (.string r) ∧ Below w.heap.size w w' := by
 unfold strings_Repeat.f at h
 by_cases hb : 0 ≤ a1 ∧ a1 ≤ 9223372036854775807 ∧ a0.size * a1.toNat ≤ 140737488355328
 ·
  rw [if_pos hb] at h
  obtain rfl := Option.some.inj h
  obtain ⟨c, rfl⟩ := Int.eq_ofNat_of_zero_le hb.1
  exact Sh.strings_Repeat a0 c w (by omega) hb.2.2
 ·
  rw [if_neg hb] at h; cases h
end Go.Proofs.YtkblmomfiimkiaaGreatDoor.P
end

section
namespace Go.Proofs.YtkblmomfiimkiaaGreatDoor.P
open Go.RowKit Go.Proofs.YtkblmomfiimkiaaGreatDoorW.PrintWords Go.Proofs.YtkblmomfiimkiaaGreatDoorW.PrintLast Go.Proofs.YtkblmomfiimkiaaGreatDoorW.PrintMore
attribute [local go_sem] max2_int min2_int max_two min_two max_three min_three max_four min_four   -- for this text's walks alone
set_option linter.unusedVariables false
set_option linter.unusedSimpArgs false
noncomputable def post_plain.f (a0_0 : ByteArray) (a0_1 : ByteArray) (a0_2 : Int) (a0_3 : Int) (a0_4 : Int) (a0_5 : ByteArray) (a0_6 : ByteArray) (a0_7 : ByteArray) (a0_8 : Int) (a0_9 : Int) (a0_10 : ByteArray) (a0_11 : Int) (l0_12 : List (S38)) (l0_13 : List ByteArray) : Option (Bool) := (post_Same.f a0_0 a0_1 a0_2 a0_3 a0_4 a0_5 a0_6 a0_7 a0_8 a0_9 a0_10 a0_11 l0_12 l0_13 a0_0 a0_1 0 a0_3 a0_4 (⟨#[]⟩ : ByteArray) (⟨#[]⟩ : ByteArray) (⟨#[]⟩ : ByteArray) 0 0 (⟨#[]⟩ : ByteArray) 0 ([] : List (S38)) ([] : List ByteArray)).bind fun t119 => (some t119)
set_option maxHeartbeats 8000000 in
set_option maxRecDepth 100000 in
theorem post_plain.calls (a0_0 : ByteArray) (a0_1 : ByteArray) (a0_2 : Int) (a0_3 : Int) (a0_4 : Int) (a0_5 : ByteArray) (a0_6 : ByteArray) (a0_7 : ByteArray) (a0_8 : Int) (a0_9 : Int) (a0_10 : ByteArray) (a0_11 : Int) (A0_12 : Option Addr) (c0_12 : Nat) (l0_12 : List (S38)) (A0_13 : Option Addr) (c0_13 : Nat) (l0_13 : List ByteArray) (r : Bool) (w : World) (hr0_12 : Kd.C k38 w A0_12 l0_12.length l0_12) (hc0_12 : l0_12.length ≤ c0_12) (hr0_13 : Kd.C Kd.string w A0_13 l0_13.length l0_13) (hc0_13 : l0_13.length ≤ c0_13) (h : post_plain.f a0_0 a0_1 a0_2 a0_3 a0_4 a0_5 a0_6 a0_7 a0_8 a0_9 a0_10 a0_11 l0_12 l0_13 = some r) :
  Calls Tryz.prog 36 #[.agg #[.string a0_0, .string a0_1, .int .i64 a0_2, .int .i64 a0_3, .int .i64 a0_4, .string a0_5, .string a0_6, .string a0_7, .int .i64 a0_8, .int .i64 a0_9, .string a0_10, .int .i64 a0_11, .slice A0_12 l0_12.length c0_12, .slice A0_13 l0_13.length c0_13]] w fun e w' => e = .returned (.bool r) ∧ Below w.heap.size w w' := by
 have hu33 := Tryz.underlying33
 have HR0_12 := Aside0.mk hr0_12
 have HC0_12 := Aside0.mk hc0_12
 clear hr0_12 hc0_12
 have HR0_13 := Aside0.mk hr0_13
 have HC0_13 := Aside0.mk hc0_13
 clear hr0_13 hc0_13
 have HB := Aside0.mk (Below.refl w.heap.size w)
 have H : ((post_Same.f a0_0 a0_1 a0_2 a0_3 a0_4 a0_5 a0_6 a0_7 a0_8 a0_9 a0_10 a0_11 l0_12 l0_13 a0_0 a0_1 0 a0_3 a0_4 (⟨#[]⟩ : ByteArray) (⟨#[]⟩ : ByteArray) (⟨#[]⟩ : ByteArray) 0 0 (⟨#[]⟩ : ByteArray) 0 ([] : List (S38)) ([] : List ByteArray)).bind fun t119 => (some t119)) = some r := h
 clear h
 replace H := Option.bind_eq_some_iff.mp H
 obtain ⟨t119, A20, H⟩ := H
 replace H : (some t119) = some r := H
 have A2 := Aside0.mk A20
 clear A20
 obtain rfl := Option.some.inj H
 go_enter Tryz.func36, Tryz.ntmps36
 go_wp2_with (first | ((with_reducible refine gate_dst (N := 1) rfl ?_); refine box_event ?hg (N := 1) ?hd (cs := #[.string a0_0, .string a0_1, .int .i64 a0_2, .int .i64 a0_3, .int .i64 a0_4, .string a0_5, .string a0_6, .string a0_7, .int .i64 a0_8, .int .i64 a0_9, .string a0_10, .int .i64 a0_11, .slice A0_12 l0_12.length c0_12, .slice A0_13 l0_13.length c0_13]) (t := 33) ?hr ?_; (case hd => rfl); (case hg => rfl); (case hr => first | (go_simp; done) | (go_simp; rfl)); intro gb118 hg w3 hbox hb; have n0_ := Aside0.mk (below_step (by repeat (first | (with_reducible first | exact HB.out | apply below_alloc | apply pw_below_drewN | apply below_drew1) | exact HB.out)) hb); have n1_ := Aside0.mk (hbox); have n2_ := Aside0.mk ((by rw [hg]; exact (below_size (by repeat (first | (with_reducible first | exact HB.out | apply below_alloc | apply pw_below_drewN | apply below_drew1) | exact HB.out))) : w.heap.size ≤ gb118)); have n3_ := Aside0.mk ((by rw [hg]; exact (below_size (by repeat (first | (with_reducible first | exact HB.out | apply below_alloc | apply pw_below_drewN | apply below_drew1) | exact HB.out))) : w.heap.size ≤ gb118)); clear HB; have HB := n0_; have BK118 := n1_; have GW118 := n2_; have GE118 := n3_; clear n0_ n1_ n2_ n3_; clear hb hbox hg; have hcz4_0 : w3.cell? ⟨gb118, 0, none⟩ = some (.string a0_0) := (blk_cell BK118.out 0).trans rfl; have hcz4_1 : w3.cell? ⟨gb118, 1, none⟩ = some (.string a0_1) := (blk_cell BK118.out 1).trans rfl; have hcz4_2 : w3.cell? ⟨gb118, 2, none⟩ = some (.int .i64 a0_2) := (blk_cell BK118.out 2).trans rfl; have hcz4_3 : w3.cell? ⟨gb118, 3, none⟩ = some (.int .i64 a0_3) := (blk_cell BK118.out 3).trans rfl; have hcz4_4 : w3.cell? ⟨gb118, 4, none⟩ = some (.int .i64 a0_4) := (blk_cell BK118.out 4).trans rfl; have hcz4_5 : w3.cell? ⟨gb118, 5, none⟩ = some (.string a0_5) := (blk_cell BK118.out 5).trans rfl; have hcz4_6 : w3.cell? ⟨gb118, 6, none⟩ = some (.string a0_6) := (blk_cell BK118.out 6).trans rfl; have hcz4_7 : w3.cell? ⟨gb118, 7, none⟩ = some (.string a0_7) := (blk_cell BK118.out 7).trans rfl; have hcz4_8 : w3.cell? ⟨gb118, 8, none⟩ = some (.int .i64 a0_8) := (blk_cell BK118.out 8).trans rfl; have hcz4_9 : w3.cell? ⟨gb118, 9, none⟩ = some (.int .i64 a0_9) := (blk_cell BK118.out 9).trans rfl; have hcz4_10 : w3.cell? ⟨gb118, 10, none⟩ = some (.string a0_10) := (blk_cell BK118.out 10).trans rfl; have hcz4_11 : w3.cell? ⟨gb118, 11, none⟩ = some (.int .i64 a0_11) := (blk_cell BK118.out 11).trans rfl; have hcz4_12 : w3.cell? ⟨gb118, 12, none⟩ = some (.slice A0_12 l0_12.length c0_12) := (blk_cell BK118.out 12).trans rfl; have hcz4_13 : w3.cell? ⟨gb118, 13, none⟩ = some (.slice A0_13 l0_13.length c0_13) := (blk_cell BK118.out 13).trans rfl; have hfz4_0 := blk_frozen BK118.out 0; have hfz4_1 := blk_frozen BK118.out 1; have hfz4_2 := blk_frozen BK118.out 2; have hfz4_3 := blk_frozen BK118.out 3; have hfz4_4 := blk_frozen BK118.out 4; have hfz4_5 := blk_frozen BK118.out 5; have hfz4_6 := blk_frozen BK118.out 6; have hfz4_7 := blk_frozen BK118.out 7; have hfz4_8 := blk_frozen BK118.out 8; have hfz4_9 := blk_frozen BK118.out 9; have hfz4_10 := blk_frozen BK118.out 10; have hfz4_11 := blk_frozen BK118.out 11; have hfz4_12 := blk_frozen BK118.out 12; have hfz4_13 := blk_frozen BK118.out 13) | ((with_reducible refine gate_callee (f := 14) rfl ?_); refine goesL_ (some 13) rfl rfl Tryz.func14 (by kernel_rfl) rfl #[.agg #[.string a0_0, .string a0_1, .int .i64 a0_2, .int .i64 a0_3, .int .i64 a0_4, .string a0_5, .string a0_6, .string a0_7, .int .i64 a0_8, .int .i64 a0_9, .string a0_10, .int .i64 a0_11, .slice A0_12 l0_12.length c0_12, .slice A0_13 l0_13.length c0_13], .agg #[.string a0_0, .string a0_1, .int .i64 0, .int .i64 a0_3, .int .i64 a0_4, .string (⟨#[]⟩ : ByteArray), .string (⟨#[]⟩ : ByteArray), .string (⟨#[]⟩ : ByteArray), .int .i64 0, .int .i64 0, .string (⟨#[]⟩ : ByteArray), .int .i64 0, .slice none 0 0, .slice none 0 0]] rfl (by (try simp only [List.map_toArray, List.map_cons, List.map_nil]); first | done | rfl | (simp only [List.length_drop, List.length_take]; rfl)) ?_; (refine (post_Same.calls a0_0 a0_1 a0_2 a0_3 a0_4 a0_5 a0_6 a0_7 a0_8 a0_9 a0_10 a0_11 _ _ l0_12 _ _ l0_13 a0_0 a0_1 0 a0_3 a0_4 (⟨#[]⟩ : ByteArray) (⟨#[]⟩ : ByteArray) (⟨#[]⟩ : ByteArray) 0 0 (⟨#[]⟩ : ByteArray) 0 _ _ ([] : List (S38)) _ _ ([] : List ByteArray) t119 _ ?side1 ?side2 ?side3 ?side4 ?side5 ?side6 ?side7 ?side8 A2.out).mono ?_); (case side1 => repeat (first | exact (Kd.C_below HR0_12.out HB.out) | (with_reducible refine Kd.C_alloc ?_ _) | (with_reducible refine Kd.C_drewN ?_ _) | (with_reducible refine Kd.C_drew ?_))); (case side2 => exact HC0_12.out); (case side3 => repeat (first | exact (Kd.C_below HR0_13.out HB.out) | (with_reducible refine Kd.C_alloc ?_ _) | (with_reducible refine Kd.C_drewN ?_ _) | (with_reducible refine Kd.C_drew ?_))); (case side4 => exact HC0_13.out); (case side5 => exact Kd.C_nil _ _); (case side6 => exact Nat.le_refl _); (case side7 => exact Kd.C_nil _ _); (case side8 => exact Nat.le_refl _); rintro e w5 ⟨rfl, hb⟩; refine ⟨_, rfl, ?_⟩; have n0_ := Aside0.mk (blk_below (g := gb118) (o := .cells #[.string a0_0, .string a0_1, .int .i64 a0_2, .int .i64 a0_3, .int .i64 a0_4, .string a0_5, .string a0_6, .string a0_7, .int .i64 a0_8, .int .i64 a0_9, .string a0_10, .int .i64 a0_11, .slice A0_12 l0_12.length c0_12, .slice A0_13 l0_13.length c0_13] 33 (0, 0)) (by (with_reducible repeat (first | refine blk_drewN ?_ _ | refine blk_drew ?_ | refine blk_alloc ?_ _)); exact BK118.out) hb); have n1_ := Aside0.mk (below_step (by repeat (first | (with_reducible first | exact HB.out | apply below_alloc | apply pw_below_drewN | apply below_drew1 | refine below_set ?_ GE118.out) | exact HB.out)) hb); clear BK118; clear HB; have BK118 := n0_; have HB := n1_; clear n0_ n1_; (try clear hb); (try clear hb2); (try clear hk); (try clear hi)))
 go_ret
 exact ⟨by first | rfl | (simp [errW_none, errW_some] <;> rfl) | (simp [*, errW_none, errW_some] <;> rfl), by repeat (first | (with_reducible first | exact HB.out | apply below_alloc | apply pw_below_drewN | apply below_drew1 | refine below_set ?_ GE118.out) | exact HB.out)⟩
end Go.Proofs.YtkblmomfiimkiaaGreatDoor.P
end

section
namespace Go.Proofs.YtkblmomfiimkiaaGreatDoor.P
open Go.RowKit Go.Proofs.YtkblmomfiimkiaaGreatDoorW.PrintWords Go.Proofs.YtkblmomfiimkiaaGreatDoorW.PrintLast Go.Proofs.YtkblmomfiimkiaaGreatDoorW.PrintMore
attribute [local go_sem] max2_int min2_int max_two min_two max_three min_three max_four min_four   -- for this text's walks alone
set_option linter.unusedVariables false
set_option linter.unusedSimpArgs false
def money_within.f (a0 : Int) : Option (Bool) := if a0 ≥ (-1099511627776) then (some (decide (a0 ≤ 1099511627776))) else (some false)
set_option maxHeartbeats 8000000 in
set_option maxRecDepth 100000 in
theorem money_within.calls (a0 : Int) (r : Bool) (w : World) (h : money_within.f a0 = some r) :
  Calls Tryz.prog 67 #[.int .i64 a0] w fun e w' => e = .returned (.bool r) ∧ Drawn0 w w' := by
 have H : (if a0 ≥ (-1099511627776) then (some (decide (a0 ≤ 1099511627776))) else (some false)) = some r := h
 clear h
 by_cases c2 : a0 ≥ (-1099511627776)
 ·
  rw [if_pos c2] at H
  have c2b0 : decide ((-1099511627776) ≤ a0) = true := decide_eq_true c2
  clear c2
  obtain rfl := Option.some.inj H
  go_enter Tryz.func67, Tryz.ntmps67
  go_wp2
  go_ret
  exact ⟨by first | rfl | (simp; done) | (simp [*]; done), by repeat (first | exact Drawn0.refl _ | apply Drawn0.step)⟩
 ·
  rw [if_neg c2] at H
  have c2b0 : decide ((-1099511627776) ≤ a0) = false := decide_eq_false c2
  clear c2
  obtain rfl := Option.some.inj H
  go_enter Tryz.func67, Tryz.ntmps67
  go_wp2
  go_ret
  exact ⟨by first | rfl | (simp; done) | (simp [*]; done), by repeat (first | exact Drawn0.refl _ | apply Drawn0.step)⟩
end Go.Proofs.YtkblmomfiimkiaaGreatDoor.P
end

section
namespace Go.Proofs.YtkblmomfiimkiaaGreatDoor.P
open Go.RowKit Go.Proofs.YtkblmomfiimkiaaGreatDoorW.PrintWords Go.Proofs.YtkblmomfiimkiaaGreatDoorW.PrintLast Go.Proofs.YtkblmomfiimkiaaGreatDoorW.PrintMore
attribute [local go_sem] max2_int min2_int max_two min_two max_three min_three max_four min_four   -- for this text's walks alone
set_option linter.unusedVariables false
set_option linter.unusedSimpArgs false
def money_May.f (a0_0 : ByteArray) (a0_1 : Int) : Option (Bool) := (money_currency.f a0_0).bind fun t121 => (if t121 = true then ((money_within.f a0_1).bind fun t122 => (some t122)) else (some false))
set_option maxHeartbeats 8000000 in
set_option maxRecDepth 100000 in
theorem money_May.calls (a0_0 : ByteArray) (a0_1 : Int) (r : Bool) (w : World) (h : money_May.f a0_0 a0_1 = some r) :
  Calls Tryz.prog 38 #[.agg #[.string a0_0, .int .i64 a0_1]] w fun e w' => e = .returned (.bool r) ∧ Below w.heap.size w w' := by
 have hu30 := Tryz.underlying30
 have HB := Aside0.mk (Below.refl w.heap.size w)
 have H : ((money_currency.f a0_0).bind fun t121 => (if t121 = true then ((money_within.f a0_1).bind fun t122 => (some t122)) else (some false))) = some r := h
 clear h
 replace H := Option.bind_eq_some_iff.mp H
 obtain ⟨t121, A20, H⟩ := H
 replace H : (if t121 = true then ((money_within.f a0_1).bind fun t122 => (some t122)) else (some false)) = some r := H
 have A2 := Aside0.mk A20
 clear A20
 by_cases c3 : t121 = true
 ·
  subst c3
  have H1 : ((money_within.f a0_1).bind fun t122 => (some t122)) = some r := by rw [if_pos rfl] at H; exact H
  clear H
  have H := H1
  clear H1
  replace H := Option.bind_eq_some_iff.mp H
  obtain ⟨t122, A40, H⟩ := H
  replace H : (some t122) = some r := H
  have A4 := Aside0.mk A40
  clear A40
  obtain rfl := Option.some.inj H
  go_enter Tryz.func38, Tryz.ntmps38
  go_wp2_with (first | ((with_reducible refine gate_dst (N := 1) rfl ?_); refine box_event ?hg (N := 1) ?hd (cs := #[.string a0_0, .int .i64 a0_1]) (t := 30) ?hr ?_; (case hd => rfl); (case hg => rfl); (case hr => first | (go_simp; done) | (go_simp; rfl)); intro gb120 hg w5 hbox hb; have n0_ := Aside0.mk (below_step (by repeat (first | (with_reducible first | exact HB.out | apply below_alloc | apply pw_below_drewN | apply below_drew1) | exact HB.out)) hb); have n1_ := Aside0.mk (hbox); have n2_ := Aside0.mk ((by rw [hg]; exact (below_size (by repeat (first | (with_reducible first | exact HB.out | apply below_alloc | apply pw_below_drewN | apply below_drew1) | exact HB.out))) : w.heap.size ≤ gb120)); have n3_ := Aside0.mk ((by rw [hg]; exact (below_size (by repeat (first | (with_reducible first | exact HB.out | apply below_alloc | apply pw_below_drewN | apply below_drew1) | exact HB.out))) : w.heap.size ≤ gb120)); clear HB; have HB := n0_; have BK120 := n1_; have GW120 := n2_; have GE120 := n3_; clear n0_ n1_ n2_ n3_; clear hb hbox hg; have hcz6_0 : w5.cell? ⟨gb120, 0, none⟩ = some (.string a0_0) := (blk_cell BK120.out 0).trans rfl; have hcz6_1 : w5.cell? ⟨gb120, 1, none⟩ = some (.int .i64 a0_1) := (blk_cell BK120.out 1).trans rfl; have hfz6_0 := blk_frozen BK120.out 0; have hfz6_1 := blk_frozen BK120.out 1) | ((with_reducible refine gate_callee (f := 66) rfl ?_); refine goesL_ (some 5) rfl rfl Tryz.func66 (by kernel_rfl) rfl #[.string a0_0] rfl (by (try simp only [List.map_toArray, List.map_cons, List.map_nil]); first | done | rfl | (simp only [List.length_drop, List.length_take]; rfl)) ?_; (with_reducible refine (money_currency.calls a0_0 true _ A2.out).mono ?_); rintro e w7 ⟨rfl, hb⟩; refine ⟨_, rfl, ?_⟩; have n0_ := Aside0.mk (blk_below (g := gb120) (o := .cells #[.string a0_0, .int .i64 a0_1] 30 (0, 0)) (by (with_reducible repeat (first | refine blk_drewN ?_ _ | refine blk_drew ?_ | refine blk_alloc ?_ _)); exact BK120.out) hb); have n1_ := Aside0.mk (below_step (by repeat (first | (with_reducible first | exact HB.out | apply below_alloc | apply pw_below_drewN | apply below_drew1 | refine below_set ?_ GE120.out) | exact HB.out)) hb); clear BK120; clear HB; have BK120 := n0_; have HB := n1_; clear n0_ n1_; (try clear hb); (try clear hb2); (try clear hk); (try clear hi); have hcz8_0 : w7.cell? ⟨gb120, 0, none⟩ = some (.string a0_0) := (blk_cell BK120.out 0).trans rfl; have hcz8_1 : w7.cell? ⟨gb120, 1, none⟩ = some (.int .i64 a0_1) := (blk_cell BK120.out 1).trans rfl; have hfz8_0 := blk_frozen BK120.out 0; have hfz8_1 := blk_frozen BK120.out 1) | (go_at_call 67; (with_reducible refine (money_within.calls a0_1 t122 _ A4.out).mono ?_); rintro e w' ⟨rfl, ⟨nd, rfl⟩⟩))
  go_ret
  exact ⟨by first | rfl | (simp [errW_none, errW_some] <;> rfl) | (simp [*, errW_none, errW_some] <;> rfl), by repeat (first | (with_reducible first | exact HB.out | apply below_alloc | apply pw_below_drewN | apply below_drew1 | refine below_set ?_ GE120.out) | exact HB.out)⟩
 ·
  replace c3 := Bool.eq_false_iff.mpr c3
  subst c3
  have H1 : (some false) = some r := by rw [if_neg (show ¬ (false = true) by decide)] at H; exact H
  clear H
  have H := H1
  clear H1
  obtain rfl := Option.some.inj H
  go_enter Tryz.func38, Tryz.ntmps38
  go_wp2_with (first | ((with_reducible refine gate_dst (N := 1) rfl ?_); refine box_event ?hg (N := 1) ?hd (cs := #[.string a0_0, .int .i64 a0_1]) (t := 30) ?hr ?_; (case hd => rfl); (case hg => rfl); (case hr => first | (go_simp; done) | (go_simp; rfl)); intro gb120 hg w9 hbox hb; have n0_ := Aside0.mk (below_step (by repeat (first | (with_reducible first | exact HB.out | apply below_alloc | apply pw_below_drewN | apply below_drew1) | exact HB.out)) hb); have n1_ := Aside0.mk (hbox); have n2_ := Aside0.mk ((by rw [hg]; exact (below_size (by repeat (first | (with_reducible first | exact HB.out | apply below_alloc | apply pw_below_drewN | apply below_drew1) | exact HB.out))) : w.heap.size ≤ gb120)); have n3_ := Aside0.mk ((by rw [hg]; exact (below_size (by repeat (first | (with_reducible first | exact HB.out | apply below_alloc | apply pw_below_drewN | apply below_drew1) | exact HB.out))) : w.heap.size ≤ gb120)); clear HB; have HB := n0_; have BK120 := n1_; have GW120 := n2_; have GE120 := n3_; clear n0_ n1_ n2_ n3_; clear hb hbox hg; have hcz10_0 : w9.cell? ⟨gb120, 0, none⟩ = some (.string a0_0) := (blk_cell BK120.out 0).trans rfl; have hcz10_1 : w9.cell? ⟨gb120, 1, none⟩ = some (.int .i64 a0_1) := (blk_cell BK120.out 1).trans rfl; have hfz10_0 := blk_frozen BK120.out 0; have hfz10_1 := blk_frozen BK120.out 1) | ((with_reducible refine gate_callee (f := 66) rfl ?_); refine goesL_ (some 5) rfl rfl Tryz.func66 (by kernel_rfl) rfl #[.string a0_0] rfl (by (try simp only [List.map_toArray, List.map_cons, List.map_nil]); first | done | rfl | (simp only [List.length_drop, List.length_take]; rfl)) ?_; (with_reducible refine (money_currency.calls a0_0 false _ A2.out).mono ?_); rintro e w11 ⟨rfl, hb⟩; refine ⟨_, rfl, ?_⟩; have n0_ := Aside0.mk (blk_below (g := gb120) (o := .cells #[.string a0_0, .int .i64 a0_1] 30 (0, 0)) (by (with_reducible repeat (first | refine blk_drewN ?_ _ | refine blk_drew ?_ | refine blk_alloc ?_ _)); exact BK120.out) hb); have n1_ := Aside0.mk (below_step (by repeat (first | (with_reducible first | exact HB.out | apply below_alloc | apply pw_below_drewN | apply below_drew1 | refine below_set ?_ GE120.out) | exact HB.out)) hb); clear BK120; clear HB; have BK120 := n0_; have HB := n1_; clear n0_ n1_; (try clear hb); (try clear hb2); (try clear hk); (try clear hi)))
  go_ret
  exact ⟨by first | rfl | (simp [errW_none, errW_some] <;> rfl) | (simp [*, errW_none, errW_some] <;> rfl), by repeat (first | (with_reducible first | exact HB.out | apply below_alloc | apply pw_below_drewN | apply below_drew1 | refine below_set ?_ GE120.out) | exact HB.out)⟩
end Go.Proofs.YtkblmomfiimkiaaGreatDoor.P
end

section
namespace Go.Proofs.YtkblmomfiimkiaaGreatDoor.P
open Go.RowKit Go.Proofs.YtkblmomfiimkiaaGreatDoorW.PrintWords Go.Proofs.YtkblmomfiimkiaaGreatDoorW.PrintLast Go.Proofs.YtkblmomfiimkiaaGreatDoorW.PrintMore
attribute [local go_sem] max2_int min2_int max_two min_two max_three min_three max_four min_four   -- for this text's walks alone
set_option linter.unusedVariables false
set_option linter.unusedSimpArgs false
def post_within.f (a0 : Int) (a1 : Int) (a2 : Int) : Option (Bool) := if a0 ≥ a1 then (some (decide (a0 ≤ a2))) else (some false)
set_option maxHeartbeats 8000000 in
set_option maxRecDepth 100000 in
theorem post_within.calls (a0 : Int) (a1 : Int) (a2 : Int) (r : Bool) (w : World) (h : post_within.f a0 a1 a2 = some r) :
  Calls Tryz.prog 29 #[.int .i64 a0, .int .i64 a1, .int .i64 a2] w fun e w' => e = .returned (.bool r) ∧ Drawn0 w w' := by
 have H : (if a0 ≥ a1 then (some (decide (a0 ≤ a2))) else (some false)) = some r := h
 clear h
 by_cases c4 : a0 ≥ a1
 ·
  rw [if_pos c4] at H
  have c4b0 : decide (a1 ≤ a0) = true := decide_eq_true c4
  clear c4
  obtain rfl := Option.some.inj H
  go_enter Tryz.func29, Tryz.ntmps29
  go_wp2
  go_ret
  exact ⟨by first | rfl | (simp; done) | (simp [*]; done), by repeat (first | exact Drawn0.refl _ | apply Drawn0.step)⟩
 ·
  rw [if_neg c4] at H
  have c4b0 : decide (a1 ≤ a0) = false := decide_eq_false c4
  clear c4
  obtain rfl := Option.some.inj H
  go_enter Tryz.func29, Tryz.ntmps29
  go_wp2
  go_ret
  exact ⟨by first | rfl | (simp; done) | (simp [*]; done), by repeat (first | exact Drawn0.refl _ | apply Drawn0.step)⟩
end Go.Proofs.YtkblmomfiimkiaaGreatDoor.P
end

section
namespace Go.Proofs.YtkblmomfiimkiaaGreatDoor.P
open Go.RowKit Go.Proofs.YtkblmomfiimkiaaGreatDoorW.PrintWords Go.Proofs.YtkblmomfiimkiaaGreatDoorW.PrintLast Go.Proofs.YtkblmomfiimkiaaGreatDoorW.PrintMore
attribute [local go_sem] max2_int min2_int max_two min_two max_three min_three max_four min_four   -- for this text's walks alone
set_option linter.unusedVariables false
set_option linter.unusedSimpArgs false
def money_digits.j0 : Nat → ByteArray → Bool → Option (Int)
 | 0, _, _ => none
 | k + 1, x3, x4 => if x4 = true then (some 0) else (if x3.toList = ([66, 72, 68] : List UInt8) then (some 3) else (if x3.toList = ([75, 87, 68] : List UInt8) then (some 3) else (if x3.toList = ([84, 78, 68] : List UInt8) then (some 3) else (some 2))))
def money_digits.f (k : Nat) (a0 : ByteArray) : Option (Int) := if a0.toList = ([74, 80, 89] : List UInt8) then (money_digits.j0 k a0 (a0.toList == ([74, 80, 89] : List UInt8))) else (money_digits.j0 k a0 (a0.toList == ([75, 82, 87] : List UInt8)))
theorem money_digits.mono_l : ∀ k, (∀ y0 y1, LeO (money_digits.j0 k y0 y1) (money_digits.j0 (k + 1) y0 y1))
 | 0 => fun _ _ r h => by simp [money_digits.j0] at h
 | k + 1 => by
  have ih0 := money_digits.mono_l k
  ·
   intro y0 y1
   unfold money_digits.j0
   repeat' first
   | (with_reducible exact ih0 _ _)
   | (with_reducible exact LeO.refl _)
   | (with_reducible exact LeO.none _)
   | (with_reducible refine LeO.ite ?_ ?_)
   | (with_reducible refine LeO.bind ?_ (fun _ => ?_))
   | exact ih0 _ _
   | exact LeO.none _
   | refine LeO.ite ?_ ?_
   | refine LeO.bind ?_ (fun _ => ?_)
theorem money_digits.mono : ∀ a0 k, LeO (money_digits.f k a0) (money_digits.f (k + 1) a0) := by
 intro a0 k
 have ih0 := money_digits.mono_l k
 unfold money_digits.f
 repeat' first
   | (with_reducible exact ih0 _ _)
   | (with_reducible exact LeO.refl _)
   | (with_reducible exact LeO.none _)
   | (with_reducible refine LeO.ite ?_ ?_)
   | (with_reducible refine LeO.bind ?_ (fun _ => ?_))
   | exact ih0 _ _
   | exact LeO.none _
   | refine LeO.ite ?_ ?_
   | refine LeO.bind ?_ (fun _ => ?_)
set_option maxHeartbeats 8000000 in
set_option maxRecDepth 100000 in
theorem money_digits.calls (k : Nat) (a0 : ByteArray) (r : Int) (w : World) (h : money_digits.f k a0 = some r) :
  Calls Tryz.prog 117 #[.string a0] w fun e w' => e = .returned (.int .i64 r) ∧ Drawn0 w w' := by
 have H : (if a0.toList = ([74, 80, 89] : List UInt8) then (money_digits.j0 k a0 (a0.toList == ([74, 80, 89] : List UInt8))) else (money_digits.j0 k a0 (a0.toList == ([75, 82, 87] : List UInt8)))) = some r := h
 clear h
 have HC2 := Aside0.mk H
 clear H
 go_enter Tryz.func117, Tryz.ntmps117
 go_upto_if 4 with (fail)
 go_cut [4] (fun v4 wc => ∃ (kq : Nat) (x4_1 : Bool), v4 = .bool x4_1 ∧ Aside0 (money_digits.j0 kq a0 x4_1 = some r) ∧ Aside0 (kq ≤ k) ∧ Drawn0 w wc)
 case first =>
  have H := HC2.out
  clear HC2
  by_cases c3 : a0.toList = ([74, 80, 89] : List UInt8)
  ·
   rw [if_pos c3] at H
   have c3b0 : (a0.toList == ([74, 80, 89] : List UInt8)) = true := beq_iff_eq.mpr c3
   have c3b1 : (a0.toList != ([74, 80, 89] : List UInt8)) = false := bne_eq_false_iff_eq.mpr c3
   clear c3
   (first | rw [c3b0] | (simp only [i64_w, i32_w]; rw [c3b0]) | skip)
   have H' := Aside0.mk H
   clear H
   go_wp2
   go_meet
   case rel => exact ⟨_, ((a0.toList == ([74, 80, 89] : List UInt8))), (by first | rfl | (simp; done) | (simp [*]; done)), H', ⟨by first | omega | exact Nat.le_refl _⟩, by repeat (first | exact Drawn0.refl _ | apply Drawn0.step)⟩
  ·
   rw [if_neg c3] at H
   have c3b0 : (a0.toList == ([74, 80, 89] : List UInt8)) = false := beq_eq_false_iff_ne.mpr c3
   have c3b1 : (a0.toList != ([74, 80, 89] : List UInt8)) = true := bne_iff_ne.mpr c3
   (first | rw [c3b0] | (simp only [i64_w, i32_w]; rw [c3b0]) | skip)
   have H' := Aside0.mk H
   clear H
   go_wp2
   go_meet
   case rel => exact ⟨_, ((a0.toList == ([75, 82, 87] : List UInt8))), (by first | rfl | (simp; done) | (simp [*]; done)), H', ⟨by first | omega | exact Nat.le_refl _⟩, by repeat (first | exact Drawn0.refl _ | apply Drawn0.step)⟩
 case rest =>
  clear HC2
  try clear c1
  try clear p2
  try clear c3
  try clear c3b0
  try clear c3b1
  obtain ⟨kq, x4_1, rfl, HA, HJ1, ⟨mc1, rfl⟩⟩ := hcut
  cases kq with
  | zero => exact absurd HA.out (by simp [money_digits.j0])
  | succ kj1 =>
   have H := HA.out
   clear HA
   simp only [money_digits.j0] at H
   by_cases c4 : x4_1 = true
   ·
    subst c4
    have H1 : (some 0) = some r := by rw [if_pos rfl] at H; exact H
    clear H
    have H := H1
    clear H1
    obtain rfl := Option.some.inj H
    go_wp2
    go_ret
    exact ⟨by first | rfl | (simp; done) | (simp [*]; done), by repeat (first | exact Drawn0.refl _ | apply Drawn0.step)⟩
   ·
    replace c4 := Bool.eq_false_iff.mpr c4
    subst c4
    have H1 : (if a0.toList = ([66, 72, 68] : List UInt8) then (some 3) else (if a0.toList = ([75, 87, 68] : List UInt8) then (some 3) else (if a0.toList = ([84, 78, 68] : List UInt8) then (some 3) else (some 2)))) = some r := by rw [if_neg (show ¬ (false = true) by decide)] at H; exact H
    clear H
    have H := H1
    clear H1
    by_cases c5 : a0.toList = ([66, 72, 68] : List UInt8)
    ·
     rw [if_pos c5] at H
     have c5b0 : (a0.toList == ([66, 72, 68] : List UInt8)) = true := beq_iff_eq.mpr c5
     have c5b1 : (a0.toList != ([66, 72, 68] : List UInt8)) = false := bne_eq_false_iff_eq.mpr c5
     clear c5
     obtain rfl := Option.some.inj H
     go_wp2
     go_ret
     exact ⟨by first | rfl | (simp; done) | (simp [*]; done), by repeat (first | exact Drawn0.refl _ | apply Drawn0.step)⟩
    ·
     rw [if_neg c5] at H
     have c5b0 : (a0.toList == ([66, 72, 68] : List UInt8)) = false := beq_eq_false_iff_ne.mpr c5
     have c5b1 : (a0.toList != ([66, 72, 68] : List UInt8)) = true := bne_iff_ne.mpr c5
     by_cases c6 : a0.toList = ([75, 87, 68] : List UInt8)
     ·
      rw [if_pos c6] at H
      have c6b0 : (a0.toList == ([75, 87, 68] : List UInt8)) = true := beq_iff_eq.mpr c6
      have c6b1 : (a0.toList != ([75, 87, 68] : List UInt8)) = false := bne_eq_false_iff_eq.mpr c6
      clear c6
      obtain rfl := Option.some.inj H
      go_wp2
      go_ret
      exact ⟨by first | rfl | (simp; done) | (simp [*]; done), by repeat (first | exact Drawn0.refl _ | apply Drawn0.step)⟩
     ·
      rw [if_neg c6] at H
      have c6b0 : (a0.toList == ([75, 87, 68] : List UInt8)) = false := beq_eq_false_iff_ne.mpr c6
      have c6b1 : (a0.toList != ([75, 87, 68] : List UInt8)) = true := bne_iff_ne.mpr c6
      by_cases c7 : a0.toList = ([84, 78, 68] : List UInt8)
      ·
       rw [if_pos c7] at H
       have c7b0 : (a0.toList == ([84, 78, 68] : List UInt8)) = true := beq_iff_eq.mpr c7
       have c7b1 : (a0.toList != ([84, 78, 68] : List UInt8)) = false := bne_eq_false_iff_eq.mpr c7
       clear c7
       obtain rfl := Option.some.inj H
       go_wp2
       go_ret
       exact ⟨by first | rfl | (simp; done) | (simp [*]; done), by repeat (first | exact Drawn0.refl _ | apply Drawn0.step)⟩
      ·
       rw [if_neg c7] at H
       have c7b0 : (a0.toList == ([84, 78, 68] : List UInt8)) = false := beq_eq_false_iff_ne.mpr c7
       have c7b1 : (a0.toList != ([84, 78, 68] : List UInt8)) = true := bne_iff_ne.mpr c7
       obtain rfl := Option.some.inj H
       go_wp2
       go_ret
       exact ⟨by first | rfl | (simp; done) | (simp [*]; done), by repeat (first | exact Drawn0.refl _ | apply Drawn0.step)⟩
end Go.Proofs.YtkblmomfiimkiaaGreatDoor.P
end

section
namespace Go.Proofs.YtkblmomfiimkiaaGreatDoor.P
open Go.RowKit Go.Proofs.YtkblmomfiimkiaaGreatDoorW.PrintWords Go.Proofs.YtkblmomfiimkiaaGreatDoorW.PrintLast Go.Proofs.YtkblmomfiimkiaaGreatDoorW.PrintMore
open Go.Proofs.YtkblmomfiimkiaaGreatDoor.Fp
open Go.Lib (itoa decDigits)
def money_Text.f (a0 : ByteArray) (a1 : Int) : Option ByteArray := some ⟨(moneyT a0.data.toList a1).toArray⟩
theorem money_May_f (a : ByteArray) (n : Int) : money_May.f a n = some (moneyMay a.data.toList n) := by
 unfold money_May.f money_currency.f money_within.f moneyMay
 cases curB a.data.toList with
 | false => rfl
 | true =>
  rw [Option.bind_some, if_pos rfl]
  by_cases h : n ≥ -1099511627776
  ·
   rw [if_pos h, Option.bind_some, Bool.true_and, decide_eq_true h, Bool.true_and]
  ·
   rw [if_neg h, Option.bind_some, Bool.true_and, decide_eq_false h, Bool.false_and]
theorem money_digits_f (a : ByteArray) : money_digits.f 1 a = some (scaleN a.data.toList : Int) := by
 unfold money_digits.f scaleN
 simp only [money_digits.j0, Lib.toList_data]
 generalize a.data.toList = l
 by_cases h1 : l = [74, 80, 89]
 ·
  subst h1; rfl
 ·
  rw [if_neg h1]
  by_cases h2 : l = [75, 82, 87]
  ·
   subst h2; rfl
  ·
   have e : (l == [75, 82, 87]) = false := beq_eq_false_iff_ne.2 h2
   rw [e, if_neg (by simp), if_neg (show ¬ (l = [74, 80, 89] ∨ l = [75, 82, 87]) from fun h => h.elim h1 h2)]
   by_cases h3 : l = [66, 72, 68]
   ·
    subst h3; rfl
   ·
    rw [if_neg h3]
    by_cases h4 : l = [75, 87, 68]
    ·
     subst h4; rfl
    ·
     rw [if_neg h4]
     by_cases h5 : l = [84, 78, 68]
     ·
      subst h5; rfl
     ·
      rw [if_neg h5, if_neg (show ¬ (l = [66, 72, 68] ∨ l = [75, 87, 68] ∨ l = [84, 78, 68]) from fun h => h.elim h3 fun h => h.elim h4 h5)]; rfl
theorem scale_le (l : List UInt8) : scaleN l ≤ 3 := by unfold scaleN; split <;> (try split) <;> omega
theorem repeat_zeros (c : Nat) : Lib.repeatL [48] c = List.replicate c 48 := by
 induction c with
 | zero => rfl
 | succ c ih => rw [Lib.repeatL, ih, List.replicate_succ]; rfl
theorem dec_len_le : ∀ (d u : Nat), u < 10 ^ (d + 1) → (decDigits u).length ≤ d + 1 := by
 intro d
 induction d with
 | zero => intro u h; rw [dec_small (by simpa using h)]; simp
 | succ d ih =>
  intro u h
  by_cases hlt : u < 10
  ·
   rw [dec_small hlt]; simp
  ·
   rw [dec_big hlt, List.length_append, List.length_singleton]
   have := ih (u / 10) (by rw [Nat.pow_succ] at h; omega)
   omega
def bs (l : List UInt8) : ByteArray := ⟨l.toArray⟩
theorem bs_size (l : List UInt8) : (bs l).size = l.length := by simp [bs, ByteArray.size]
theorem bs_app (a b : List UInt8) : bs a ++ bs b = bs (a ++ b) := by apply ByteArray.ext; simp [bs]
theorem bs_list (s : ByteArray) : bs s.data.toList = s := by apply ByteArray.ext; simp [bs]
theorem bs_extract (l : List UInt8) (i j : Nat) : (bs l).extract i j = bs ((l.drop i).take (j - i)) := by
 apply ByteArray.ext
 rw [ByteArray.data_extract]
 apply Array.ext'
 simp [bs, List.extract]
theorem money_glue (a : ByteArray) (n : Int) (d q : Nat) (SG P : ByteArray) (hS : bs (signL n) = SG) (hP : bs (padded d (decDigits n.natAbs)) = P) (hq : q = P.size - d) :
  ((((a ++ (⟨#[32]⟩ : ByteArray)) ++ SG) ++ P.extract 0 q) ++ (⟨#[46]⟩ : ByteArray)) ++ P.extract q P.size = bs (a.data.toList ++ 32 :: (signL n ++ (decDigits (n.natAbs / 10 ^ d) ++ 46 :: digs d n.natAbs))) := by
 have hl : (padded d (decDigits n.natAbs)).length = (decDigits (n.natAbs / 10 ^ d)).length + d := by rw [padded_dec, List.length_append, digs_length]
 have hz : P.size = (decDigits (n.natAbs / 10 ^ d)).length + d := by rw [← hP, bs_size, hl]
 have hq' : q = (decDigits (n.natAbs / 10 ^ d)).length := by omega
 have e1 : P.extract 0 q = bs (decDigits (n.natAbs / 10 ^ d)) := by
  rw [← hP, bs_extract, padded_dec, List.drop_zero, Nat.sub_zero, hq', List.take_left']
  rfl
 have e2 : P.extract q P.size = bs (digs d n.natAbs) := by
  rw [← hP, bs_extract, bs_size, hl, padded_dec, hq', List.drop_left' rfl, List.take_of_length_le (by rw [digs_length]; omega)]
 rw [e1, e2, ← hS]
 conv => lhs; rw [← bs_list a]
 show bs _ ++ bs [32] ++ bs _ ++ bs _ ++ bs [46] ++ bs _ = bs _
 rw [bs_app, bs_app, bs_app, bs_app, bs_app]
 congr 1
 simp
theorem str_of {a b : ByteArray} (h : a = b) : Value.string a = .string b := by rw [h]
theorem int_of {a b : Int} (h : a = b) : Value.int .i64 a = .int .i64 b := by rw [h]
theorem ret_of {a b : ByteArray} (h : a = b) : Ending.returned (.string a) = .returned (.string b) := by rw [h]
theorem below_onto {B : Nat} {w w1 w2 : World} (h : Below B w w1) (hs : B ≤ w1.heap.size) (h2 : Below w1.heap.size w1 w2) : Below B w w2 := h.trans (h2.mono hs)
set_option maxRecDepth 100000 in
set_option maxHeartbeats 4000000 in
theorem money_Text.calls (a0_0 : ByteArray) (a0_1 : Int) (r : ByteArray) (w : World) (hG : Glob w) (h : money_Text.f a0_0 a0_1 = some r) :
  Calls Tryz.prog 104 #[.agg #[.string a0_0, .int .i64 a0_1]] w fun e w' => e = .returned (.string r) ∧ Below w.heap.size w w' := by
 obtain rfl := Option.some.inj h
 clear h
 have HG := Lib.hid hG
 clear hG
 cases hm : moneyMay a0_0.data.toList a0_1 with
 | false =>
  have HM := Lib.hid hm
  clear hm
  go_enter Tryz.func104, Tryz.ntmps104
  go_wp2_with fail
  refine (money_May.calls a0_0 a0_1 false _ (by rw [money_May_f, HM.out])).mono ?_
  rintro e w1 ⟨rfl, hb⟩
  have HB := Lib.hid (((Below.refl _ w).alloc (Nat.le_refl _) (.cells #[.string a0_0, .int .i64 a0_1] 30)).trans (hb.mono (by simp)))
  clear hb
  go_wp2_with fail
  go_ret
  exact ⟨by unfold moneyT; rw [HM.out]; rfl, HB.out⟩
 | true =>
  obtain ⟨hl, _, hn0, hn1⟩ := money_cur hm
  have hcs : a0_0.size ≤ 3 := by rw [← hl]; simp
  have HM := Lib.hid hm
  have HL := Lib.hid hl
  have hd3 := scale_le a0_0.data.toList
  obtain ⟨d, hd⟩ : ∃ d, scaleN a0_0.data.toList = d := ⟨_, rfl⟩
  rw [hd] at hd3
  have HD := Lib.hid hd
  obtain ⟨T, hT⟩ : ∃ T, bs (decDigits a0_1.natAbs) = T := ⟨_, rfl⟩
  have HT := Lib.hid hT
  have hten : (10 : Nat) ^ (12 + 1) = 10000000000000 := by decide
  have hTs : T.size ≤ 13 := by rw [← hT, bs_size]; exact dec_len_le 12 _ (by rw [hten]; omega)
  clear hten
  have hTp : 1 ≤ T.size := by rw [← hT, bs_size]; exact List.length_pos_iff.2 (dec_ne _)
  obtain ⟨SG, hSG⟩ : ∃ SG, bs (signL a0_1) = SG := ⟨_, rfl⟩
  have HSG := Lib.hid hSG
  have hSs : SG.size ≤ 1 := by rw [← hSG, bs_size]; unfold signL; split <;> simp
  have hMb : (a0_1.natAbs : Int) ≤ 1099511627776 := by omega
  obtain ⟨M, hM⟩ : ∃ M : Int, (a0_1.natAbs : Int) = M := ⟨_, rfl⟩
  have hM0 : 0 ≤ M := by omega
  rw [hM] at hMb
  have HMM := Lib.hid hM
  have hF : strconv_FormatInt.f M 10 = some T := by
   unfold strconv_FormatInt.f
   rw [if_pos ⟨rfl, by omega, by omega⟩, ← hT, ← hM]
   unfold itoa bs
   rw [if_neg (by omega)]; rfl
  have HF := Lib.hid hF
  clear hm hl hd hT hSG hM hF
  go_enter Tryz.func104, Tryz.ntmps104
  go_wp2_with fail
  refine (money_May.calls a0_0 a0_1 true _ (by rw [money_May_f, HM.out])).mono ?_
  rintro e w1 ⟨rfl, hb⟩
  have hk := hb.block w.heap.size (by simp)
  have hk2 : w1.heap[w.heap.size]? = some (.cells #[.string a0_0, .int .i64 a0_1] 30 (0, 0)) := hk.trans (by show (w.heap.push _)[w.heap.size]? = _; rw [Array.getElem?_push_size])
  have HK := Lib.hid hk2
  have k0 : w1.cell? ⟨w.heap.size, 0, none⟩ = some (.string a0_0) := (blk_cell hk2 0).trans rfl
  have k1 : w1.cell? ⟨w.heap.size, 1, none⟩ = some (.int .i64 a0_1) := (blk_cell hk2 1).trans rfl
  have HB := Lib.hid (((Below.refl _ w).alloc (Nat.le_refl _) (.cells #[.string a0_0, .int .i64 a0_1] 30)).trans (hb.mono (by simp)))
  clear hb hk hk2
  go_wp2_with fail
  go_quiet (fail)
  have HK3 := Lib.hid (show (w1.drewN nq).heap[w.heap.size]? = some (.cells #[.string a0_0, .int .i64 a0_1] 30 (0, 0)) from HK.out)
  have HB3 := Lib.hid (pw_below_drewN HB.out nq)
  clear HK HB
  go_upto_if 15 with (fail)
  go_cut [3, 4] (fun v3 v4 wc => v3 = .string SG ∧ v4 = .int .i64 M ∧ Hid (wc.heap[w.heap.size]? = some (.cells #[.string a0_0, .int .i64 a0_1] 30 (0, 0))) ∧ Hid (Below w.heap.size w wc))
  case first =>
   by_cases hn : a0_1 < 0
   ·
    go_wp2_with fail
    go_meet
    case rel => exact ⟨str_of (by rw [← HSG.out]; unfold signL; rw [if_pos hn]; rfl), int_of (by have := HMM.out; omega), HK3, HB3⟩
   ·
    go_wp2_with fail
    go_meet
    case rel => exact ⟨str_of (by rw [← HSG.out]; unfold signL; rw [if_neg (by omega)]; rfl), int_of (by have := HMM.out; omega), HK3, HB3⟩
  case rest =>
   obtain ⟨rfl, rfl, HK4, HB4⟩ := hcut
   clear HK3 HB3 k0 k1
   have k0 : wc.cell? ⟨w.heap.size, 0, none⟩ = some (.string a0_0) := (blk_cell HK4.out 0).trans rfl
   have k1 : wc.cell? ⟨w.heap.size, 1, none⟩ = some (.int .i64 a0_1) := (blk_cell HK4.out 1).trans rfl
   go_wp2_with fail
   refine (money_digits.calls 1 a0_0 d _ (by rw [money_digits_f, HD.out])).mono ?_
   rintro e w2 ⟨rfl, ⟨nd, rfl⟩⟩
   have HB5 := Lib.hid (pw_below_drewN HB4.out nd)
   have HK5 := Lib.hid (show (wc.drewN nd).heap[w.heap.size]? = some (.cells #[.string a0_0, .int .i64 a0_1] 30 (0, 0)) from HK4.out)
   clear HB4 HK4
   go_wp2_with fail
   refine (strconv_FormatInt.calls M 10 T _ (glob_below HG.out HB5.out) HF.out).mono ?_
   rintro e w3 ⟨rfl, hb⟩
   have HB6 := Lib.hid (below_onto HB5.out (by have := HB5.out.size; exact this) hb)
   have HK6 := Lib.hid ((hb.block w.heap.size (blk_lt HK5.out)).trans HK5.out)
   clear hb HB5 HK5 k0 k1
   have k0 : w3.cell? ⟨w.heap.size, 0, none⟩ = some (.string a0_0) := (blk_cell HK6.out 0).trans rfl
   have k1 : w3.cell? ⟨w.heap.size, 1, none⟩ = some (.int .i64 a0_1) := (blk_cell HK6.out 1).trans rfl
   by_cases hd0 : d = 0
   ·
    subst hd0
    go_wp2_with fail
    go_ret
    exact ⟨ret_of (by unfold moneyT; rw [if_pos HM.out, HD.out, ← HSG.out, ← HT.out, ← bs_list a0_0]; unfold amountL; rw [if_pos rfl, Nat.pow_zero, Nat.div_one, List.append_nil]; show bs _ ++ bs [32] ++ bs _ ++ bs _ = bs _; rw [bs_app, bs_app, bs_app]; congr 1; simp [bs]), HB6.out⟩
   ·
    have hd1 : ¬ (d : Int) = 0 := by omega
    have hdb : ((d : Int) == 0) = false := by simpa using hd1
    obtain ⟨P, hP⟩ : ∃ P, bs (padded d (decDigits a0_1.natAbs)) = P := ⟨_, rfl⟩
    have HP := Lib.hid hP
    have hTl : T.size = (decDigits a0_1.natAbs).length := by rw [← HT.out, bs_size]
    have hPs : P.size = d + 1 - T.size + T.size := by rw [← hP, bs_size]; unfold padded; rw [List.length_append, List.length_replicate, hTl]
    have HTl := Lib.hid hTl
    have hPd : d + 1 ≤ P.size := by omega
    have hPm : P.size ≤ 17 := by omega
    clear hP hPs hTl
    go_upto_if 38 with (fail)
    go_cut [6] (fun v6 wc => v6 = .string P ∧ Hid (wc.heap[w.heap.size]? = some (.cells #[.string a0_0, .int .i64 a0_1] 30 (0, 0))) ∧ Hid (Below w.heap.size w wc))
    case first =>
     by_cases hlt : T.size < d + 1
     ·
      obtain ⟨c, hc⟩ : ∃ c : Nat, (d : Int) + 1 - T.size = c := ⟨d + 1 - T.size, by omega⟩
      have hcn : c = d + 1 - T.size := by omega
      have hR : strings_Repeat.f ⟨#[48]⟩ ((d : Int) + 1 - T.size) = some (bs (List.replicate c 48)) := by
       unfold strings_Repeat.f
       rw [hc, if_pos ⟨by omega, by omega, by show 1 * _ ≤ _; simp; omega⟩, Int.toNat_natCast]
       show some (bs (Lib.repeatL [48] c)) = _
       rw [repeat_zeros]
      have HR := Lib.hid hR
      have HC := Lib.hid hcn
      have hrs : (bs (List.replicate c 48)).size ≤ 4 := by rw [bs_size, List.length_replicate]; omega
      generalize hRR : bs (List.replicate c 48) = RR at HR hrs
      have HRR := Lib.hid hRR
      have hlt' : (T.size : Int) < (d : Int) + 1 := by omega
      clear hc hR hcn hRR hlt
      go_wp2_with fail
      refine (strings_Repeat.calls _ _ RR _ HR.out).mono ?_
      rintro e w4 ⟨rfl, hb⟩
      have HB7 := Lib.hid (below_onto HB6.out HB6.out.size hb)
      have HK7 := Lib.hid ((hb.block w.heap.size (blk_lt HK6.out)).trans HK6.out)
      clear hb
      go_wp2_with fail
      go_meet
      case rel => exact ⟨str_of (by rw [← HP.out, ← HRR.out, ← HT.out, bs_app, HC.out, HTl.out]; rfl), HK7, HB7⟩
     ·
      have hlt' : ¬ (T.size : Int) < (d : Int) + 1 := by omega
      have H0 := Lib.hid (show d + 1 - T.size = 0 by omega)
      go_wp2_with fail
      go_meet
      case rel => exact ⟨str_of (by rw [← HP.out, ← HT.out]; unfold padded; rw [← HTl.out, H0.out]; rfl), HK6, HB6⟩
    case rest =>
     obtain ⟨rfl, HK8, HB8⟩ := hcut
     clear HK6 HB6 k0 k1
     have k0 : wc.cell? ⟨w.heap.size, 0, none⟩ = some (.string a0_0) := (blk_cell HK8.out 0).trans rfl
     have k1 : wc.cell? ⟨w.heap.size, 1, none⟩ = some (.int .i64 a0_1) := (blk_cell HK8.out 1).trans rfl
     obtain ⟨q, hq⟩ : ∃ q : Nat, (P.size : Int) - d = q := ⟨P.size - d, by omega⟩
     have HQ := Lib.hid (show q = P.size - d by omega)
     have hq1 : (0 : Int) ≤ (q : Int) := by omega
     have hq2 : (q : Int) ≤ (P.size : Int) := by omega
     have hq3 : q ≤ P.size := by omega
     go_upto_region 14 with (fail)
     clear hq
     go_quiet (fail)
     go_wp2_with fail
     go_ret
     refine ⟨ret_of ?_, pw_below_drewN HB8.out nq⟩
     have e := money_glue a0_0 a0_1 d q SG P HSG.out HP.out HQ.out
     rw [e]
     unfold moneyT amountL
     rw [if_pos HM.out, HD.out, if_neg hd0]
     rfl
end Go.Proofs.YtkblmomfiimkiaaGreatDoor.P
end
