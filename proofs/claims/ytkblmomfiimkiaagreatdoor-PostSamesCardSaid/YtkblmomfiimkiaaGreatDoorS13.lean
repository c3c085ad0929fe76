/- What the claim's theorem leans on. Conditions: none of its own. (Written by prune.py out of the texts Px17, without what the claim doesn't lean on.) -/
import Derived.Test.YtkblmomfiimkiaaGreatDoorS2
import Derived.Test.YtkblmomfiimkiaaGreatDoorS7
import Derived.Test.YtkblmomfiimkiaaGreatDoorS10
import Derived.Test.YtkblmomfiimkiaaGreatDoorS12
section
namespace Go.Proofs.YtkblmomfiimkiaaGreatDoor.P
open Go.RowKit Go.Proofs.YtkblmomfiimkiaaGreatDoorW.PrintWords Go.Proofs.YtkblmomfiimkiaaGreatDoorW.PrintLast Go.Proofs.YtkblmomfiimkiaaGreatDoorW.PrintMore
attribute [local go_sem] max2_int min2_int max_two min_two max_three min_three max_four min_four   -- for this text's walks alone
set_option linter.unusedVariables false
set_option linter.unusedSimpArgs false
mutual
def post_record.l0 : Nat → List (S43) → List (S38) → Int → Int → ByteArray → ByteArray → Int → Int → Int → ByteArray → ByteArray → ByteArray → Int → Int → ByteArray → Int → List (S38) → List ByteArray → Option ((List (S43)))
 | 0, _, _, _, _, _, _, _, _, _, _, _, _, _, _, _, _, _, _ => none
 | k + 1, x4, x56, x57, x58, x143000, x143001, x143002, x143003, x143004, x143005, x143006, x143007, x143008, x143009, x143010, x143011, x143012, x143013 => if x58 < x57 then (if 0 ≤ x58 then (if x58 < (x56.length : Int) then ((field_Doc.f k ((rd_T38 x56 x58).f0) ((rd_T38 x56 x58).f1) ((rd_T38 x56 x58).f2) ((rd_T38 x56 x58).f3)).bind fun bt154 => (if x4.length < 4398046511104 then (post_record.l0 k (x4 ++ [(⟨(⟨#[100, 111, 99]⟩ : ByteArray), bt154.1⟩ : S43)]) x56 x57 (wrap64 (x58 + 1)) x143000 x143001 x143002 x143003 x143004 x143005 x143006 x143007 x143008 x143009 x143010 x143011 x143012 x143013) else (none))) else (none)) else (none)) else (post_record.l1 k x4 x143013 (x143013.length : Int) 0)
def post_record.l1 : Nat → List (S43) → List ByteArray → Int → Int → Option ((List (S43)))
 | 0, _, _, _, _ => none
 | k + 1, x4, x74, x75, x76 => if x76 < x75 then (if 0 ≤ x76 then (if x76 < (x74.length : Int) then (if x4.length < 4398046511104 then (post_record.l1 k (x4 ++ [(⟨(⟨#[98, 111, 120]⟩ : ByteArray), rdOf ByteArray.empty x74 x76⟩ : S43)]) x74 x75 (wrap64 (x76 + 1))) else (none)) else (none)) else (none)) else (some x4)
end
def post_record.f (k : Nat) (a0_0 : ByteArray) (a0_1 : ByteArray) (a0_2 : Int) (a0_3 : Int) (a0_4 : Int) (a0_5 : ByteArray) (a0_6 : ByteArray) (a0_7 : ByteArray) (a0_8 : Int) (a0_9 : Int) (a0_10 : ByteArray) (a0_11 : Int) (l0_12 : List (S38)) (l0_13 : List ByteArray) : Option ((List (S43))) := (strconv_Itoa.f a0_2).bind fun t143 => ((post_Name.f a0_3).bind fun t144 => ((strconv_Itoa.f a0_4).bind fun t145 => ((strconv_Itoa.f a0_8).bind fun t146 => ((strconv_Itoa.f a0_9).bind fun t147 => ((post_sum.f a0_10 a0_11).bind fun t148 => (post_record.l0 k (([(⟨(⟨#[102, 114, 111, 109]⟩ : ByteArray), a0_0⟩ : S43), (⟨(⟨#[116, 111]⟩ : ByteArray), a0_1⟩ : S43), (⟨(⟨#[110, 117, 109, 98, 101, 114]⟩ : ByteArray), t143⟩ : S43), (⟨(⟨#[107, 105, 110, 100]⟩ : ByteArray), t144⟩ : S43), (⟨(⟨#[97, 99, 107]⟩ : ByteArray), t145⟩ : S43), (⟨(⟨#[100, 101, 97, 108]⟩ : ByteArray), a0_5⟩ : S43), (⟨(⟨#[116, 101, 120, 116]⟩ : ByteArray), a0_6⟩ : S43), (⟨(⟨#[112, 97, 114, 116, 121]⟩ : ByteArray), a0_7⟩ : S43), (⟨(⟨#[105, 110, 100, 101, 120]⟩ : ByteArray), t146⟩ : S43), (⟨(⟨#[100, 97, 121]⟩ : ByteArray), t147⟩ : S43), (⟨(⟨#[115, 117, 109]⟩ : ByteArray), t148⟩ : S43)] : List (S43))) l0_12 (l0_12.length : Int) 0 a0_0 a0_1 a0_2 a0_3 a0_4 a0_5 a0_6 a0_7 a0_8 a0_9 a0_10 a0_11 l0_12 l0_13))))))
theorem post_record.mono_l : ∀ k, (∀ y0 y1 y2 y3 y4 y5 y6 y7 y8 y9 y10 y11 y12 y13 y14 y15 y16 y17, LeO (post_record.l0 k y0 y1 y2 y3 y4 y5 y6 y7 y8 y9 y10 y11 y12 y13 y14 y15 y16 y17) (post_record.l0 (k + 1) y0 y1 y2 y3 y4 y5 y6 y7 y8 y9 y10 y11 y12 y13 y14 y15 y16 y17)) ∧ (∀ y0 y1 y2 y3, LeO (post_record.l1 k y0 y1 y2 y3) (post_record.l1 (k + 1) y0 y1 y2 y3))
 | 0 => ⟨fun _ _ _ _ _ _ _ _ _ _ _ _ _ _ _ _ _ _ r h => by simp [post_record.l0] at h, fun _ _ _ _ r h => by simp [post_record.l1] at h⟩
 | k + 1 => by
  obtain ⟨ih0, ih1⟩ := post_record.mono_l k
  refine ⟨?_, ?_⟩
  ·
   intro y0 y1 y2 y3 y4 y5 y6 y7 y8 y9 y10 y11 y12 y13 y14 y15 y16 y17
   unfold post_record.l0
   repeat' first
   | (with_reducible exact ih0 _ _ _ _ _ _ _ _ _ _ _ _ _ _ _ _ _ _)
   | (with_reducible exact ih1 _ _ _ _)
   | (with_reducible exact field_Doc.mono _ _ _ _ _)
   | (with_reducible exact LeO.refl _)
   | (with_reducible exact LeO.none _)
   | (with_reducible refine LeO.ite ?_ ?_)
   | (with_reducible refine LeO.bind ?_ (fun _ => ?_))
   | exact ih0 _ _ _ _ _ _ _ _ _ _ _ _ _ _ _ _ _ _
   | exact ih1 _ _ _ _
   | exact field_Doc.mono _ _ _ _ _
   | exact LeO.none _
   | refine LeO.ite ?_ ?_
   | refine LeO.bind ?_ (fun _ => ?_)
  ·
   intro y0 y1 y2 y3
   unfold post_record.l1
   repeat' first
   | (with_reducible exact ih0 _ _ _ _ _ _ _ _ _ _ _ _ _ _ _ _ _ _)
   | (with_reducible exact ih1 _ _ _ _)
   | (with_reducible exact field_Doc.mono _ _ _ _ _)
   | (with_reducible exact LeO.refl _)
   | (with_reducible exact LeO.none _)
   | (with_reducible refine LeO.ite ?_ ?_)
   | (with_reducible refine LeO.bind ?_ (fun _ => ?_))
   | exact ih0 _ _ _ _ _ _ _ _ _ _ _ _ _ _ _ _ _ _
   | exact ih1 _ _ _ _
   | exact field_Doc.mono _ _ _ _ _
   | exact LeO.none _
   | refine LeO.ite ?_ ?_
   | refine LeO.bind ?_ (fun _ => ?_)
theorem post_record.mono : ∀ a0 a1 a2 a3 a4 a5 a6 a7 a8 a9 a10 a11 a12 a13 k, LeO (post_record.f k a0 a1 a2 a3 a4 a5 a6 a7 a8 a9 a10 a11 a12 a13) (post_record.f (k + 1) a0 a1 a2 a3 a4 a5 a6 a7 a8 a9 a10 a11 a12 a13) := by
 intro a0 a1 a2 a3 a4 a5 a6 a7 a8 a9 a10 a11 a12 a13 k
 obtain ⟨ih0, ih1⟩ := post_record.mono_l k
 unfold post_record.f
 repeat' first
   | (with_reducible exact ih0 _ _ _ _ _ _ _ _ _ _ _ _ _ _ _ _ _ _)
   | (with_reducible exact ih1 _ _ _ _)
   | (with_reducible exact field_Doc.mono _ _ _ _ _)
   | (with_reducible exact LeO.refl _)
   | (with_reducible exact LeO.none _)
   | (with_reducible refine LeO.ite ?_ ?_)
   | (with_reducible refine LeO.bind ?_ (fun _ => ?_))
   | exact ih0 _ _ _ _ _ _ _ _ _ _ _ _ _ _ _ _ _ _
   | exact ih1 _ _ _ _
   | exact field_Doc.mono _ _ _ _ _
   | exact LeO.none _
   | refine LeO.ite ?_ ?_
   | refine LeO.bind ?_ (fun _ => ?_)
def post_record.T2 : Bool × List (List Nat × List Nat) := (true, [([], []), ([0], [0]), ([1], [1]), ([], []), ([3], [3]), ([4], [4]), ([], []), ([], []), ([7], [7]), ([6, 8], [6, 8]), ([9], [9]), ([], []), ([11], [11]), ([12, 9], [12]), ([13], [13]), ([], []), ([], []), ([16], [16]), ([15, 17, 13], [15, 17]), ([18], [18]), ([], []), ([20], [20]), ([21], [21]), ([], []), ([23], [23]), ([24], [24]), ([], []), ([26], [26]), ([27], [27]), ([], []), ([], []), ([30], [30]), ([29, 31, 18], [29, 31]), ([32], [32]), ([], []), ([], []), ([35], [35]), ([34, 36, 32], [34, 36]), ([37], [37]), ([], []), ([39], [39]), ([40, 37], [40]), ([41], [41]), ([2, 5, 10, 14, 19, 22, 25, 28, 33, 38, 42], [2, 5, 10, 14, 19, 22, 25, 28, 33, 38, 42]), ([43, 41, 0, 1, 2, 3, 4, 5, 6, 7, 8, 9, 10, 11, 12, 13, 14, 15, 16, 17, 18, 19, 20, 21, 22, 23, 24, 25, 26, 27, 28, 29, 30, 31, 32, 33, 34, 35, 36, 37, 38, 39, 40, 41, 42, 43], [43])])
def post_record.B2 : List Nat := [0, 1, 3, 0, 8, 24, 0, 0, 128, 448, 960, 0, 2048, 7104, 15296, 0, 0, 65536, 244672, 506816, 0, 1048576, 3145728, 0, 8388608, 25165824, 0, 67108864, 201326592, 0, 0, 1073741824, 3758603200, 8053570496, 0, 0, 34359738368, 128312654784, 265751608256, 0, 549755813888, 1915019049920, 4114042305472, 8796093022207, 17592186044415]
theorem post_record.tab2 : rtab .any (opsOf Tryz.f51 2) = post_record.T2 := by kernel_rfl
theorem post_record.bits2 : waitsOk post_record.T2.2 post_record.B2 = true := by kernel_rfl
set_option maxHeartbeats 8000000 in
set_option maxRecDepth 100000 in
theorem post_record.calls (k : Nat) (a0_0 : ByteArray) (a0_1 : ByteArray) (a0_2 : Int) (a0_3 : Int) (a0_4 : Int) (a0_5 : ByteArray) (a0_6 : ByteArray) (a0_7 : ByteArray) (a0_8 : Int) (a0_9 : Int) (a0_10 : ByteArray) (a0_11 : Int) (A0_12 : Option Addr) (c0_12 : Nat) (l0_12 : List (S38)) (A0_13 : Option Addr) (c0_13 : Nat) (l0_13 : List ByteArray) (r : List (S43)) (w : World) (hr0_12 : Kd.C k38 w A0_12 l0_12.length l0_12) (hc0_12 : l0_12.length ≤ c0_12) (hr0_13 : Kd.C Kd.string w A0_13 l0_13.length l0_13) (hc0_13 : l0_13.length ≤ c0_13) (hG : Glob w) (h : post_record.f k a0_0 a0_1 a0_2 a0_3 a0_4 a0_5 a0_6 a0_7 a0_8 a0_9 a0_10 a0_11 l0_12 l0_13 = some r) :
  Calls Tryz.prog 51 #[.agg #[.string a0_0, .string a0_1, .int .i64 a0_2, .int .i64 a0_3, .int .i64 a0_4, .string a0_5, .string a0_6, .string a0_7, .int .i64 a0_8, .int .i64 a0_9, .string a0_10, .int .i64 a0_11, .slice A0_12 l0_12.length c0_12, .slice A0_13 l0_13.length c0_13]] w fun e w' => ∃ v0_ : Value, e = .returned (v0_) ∧ Kd.R k43 43 w' w.heap.size (fun _ => True) v0_ r ∧ Below w.heap.size w w' := by
 have HGL := Aside0.mk hG
 clear hG
 have hu33 := Tryz.underlying33
 have hu43 := Tryz.underlying43
 have hu30 := Tryz.underlying30
 have hu38 := Tryz.underlying38
 have HR0_12 := Aside0.mk hr0_12
 have HC0_12 := Aside0.mk hc0_12
 clear hr0_12 hc0_12
 have HR0_13 := Aside0.mk hr0_13
 have HC0_13 := Aside0.mk hc0_13
 clear hr0_13 hc0_13
 have HB := Aside0.mk (Below.refl w.heap.size w)
 have H : ((strconv_Itoa.f a0_2).bind fun t143 => ((post_Name.f a0_3).bind fun t144 => ((strconv_Itoa.f a0_4).bind fun t145 => ((strconv_Itoa.f a0_8).bind fun t146 => ((strconv_Itoa.f a0_9).bind fun t147 => ((post_sum.f a0_10 a0_11).bind fun t148 => (post_record.l0 k (([(⟨(⟨#[102, 114, 111, 109]⟩ : ByteArray), a0_0⟩ : S43), (⟨(⟨#[116, 111]⟩ : ByteArray), a0_1⟩ : S43), (⟨(⟨#[110, 117, 109, 98, 101, 114]⟩ : ByteArray), t143⟩ : S43), (⟨(⟨#[107, 105, 110, 100]⟩ : ByteArray), t144⟩ : S43), (⟨(⟨#[97, 99, 107]⟩ : ByteArray), t145⟩ : S43), (⟨(⟨#[100, 101, 97, 108]⟩ : ByteArray), a0_5⟩ : S43), (⟨(⟨#[116, 101, 120, 116]⟩ : ByteArray), a0_6⟩ : S43), (⟨(⟨#[112, 97, 114, 116, 121]⟩ : ByteArray), a0_7⟩ : S43), (⟨(⟨#[105, 110, 100, 101, 120]⟩ : ByteArray), t146⟩ : S43), (⟨(⟨#[100, 97, 121]⟩ : ByteArray), t147⟩ : S43), (⟨(⟨#[115, 117, 109]⟩ : ByteArray), t148⟩ : S43)] : List (S43))) l0_12 (l0_12.length : Int) 0 a0_0 a0_1 a0_2 a0_3 a0_4 a0_5 a0_6 a0_7 a0_8 a0_9 a0_10 a0_11 l0_12 l0_13))))))) = some r := h
 clear h
 replace H := Option.bind_eq_some_iff.mp H
 obtain ⟨t143, A20, H⟩ := H
 replace H : ((post_Name.f a0_3).bind fun t144 => ((strconv_Itoa.f a0_4).bind fun t145 => ((strconv_Itoa.f a0_8).bind fun t146 => ((strconv_Itoa.f a0_9).bind fun t147 => ((post_sum.f a0_10 a0_11).bind fun t148 => (post_record.l0 k (([(⟨(⟨#[102, 114, 111, 109]⟩ : ByteArray), a0_0⟩ : S43), (⟨(⟨#[116, 111]⟩ : ByteArray), a0_1⟩ : S43), (⟨(⟨#[110, 117, 109, 98, 101, 114]⟩ : ByteArray), t143⟩ : S43), (⟨(⟨#[107, 105, 110, 100]⟩ : ByteArray), t144⟩ : S43), (⟨(⟨#[97, 99, 107]⟩ : ByteArray), t145⟩ : S43), (⟨(⟨#[100, 101, 97, 108]⟩ : ByteArray), a0_5⟩ : S43), (⟨(⟨#[116, 101, 120, 116]⟩ : ByteArray), a0_6⟩ : S43), (⟨(⟨#[112, 97, 114, 116, 121]⟩ : ByteArray), a0_7⟩ : S43), (⟨(⟨#[105, 110, 100, 101, 120]⟩ : ByteArray), t146⟩ : S43), (⟨(⟨#[100, 97, 121]⟩ : ByteArray), t147⟩ : S43), (⟨(⟨#[115, 117, 109]⟩ : ByteArray), t148⟩ : S43)] : List (S43))) l0_12 (l0_12.length : Int) 0 a0_0 a0_1 a0_2 a0_3 a0_4 a0_5 a0_6 a0_7 a0_8 a0_9 a0_10 a0_11 l0_12 l0_13)))))) = some r := H
 have A2 := Aside0.mk A20
 clear A20
 replace H := Option.bind_eq_some_iff.mp H
 obtain ⟨t144, A30, H⟩ := H
 replace H : ((strconv_Itoa.f a0_4).bind fun t145 => ((strconv_Itoa.f a0_8).bind fun t146 => ((strconv_Itoa.f a0_9).bind fun t147 => ((post_sum.f a0_10 a0_11).bind fun t148 => (post_record.l0 k (([(⟨(⟨#[102, 114, 111, 109]⟩ : ByteArray), a0_0⟩ : S43), (⟨(⟨#[116, 111]⟩ : ByteArray), a0_1⟩ : S43), (⟨(⟨#[110, 117, 109, 98, 101, 114]⟩ : ByteArray), t143⟩ : S43), (⟨(⟨#[107, 105, 110, 100]⟩ : ByteArray), t144⟩ : S43), (⟨(⟨#[97, 99, 107]⟩ : ByteArray), t145⟩ : S43), (⟨(⟨#[100, 101, 97, 108]⟩ : ByteArray), a0_5⟩ : S43), (⟨(⟨#[116, 101, 120, 116]⟩ : ByteArray), a0_6⟩ : S43), (⟨(⟨#[112, 97, 114, 116, 121]⟩ : ByteArray), a0_7⟩ : S43), (⟨(⟨#[105, 110, 100, 101, 120]⟩ : ByteArray), t146⟩ : S43), (⟨(⟨#[100, 97, 121]⟩ : ByteArray), t147⟩ : S43), (⟨(⟨#[115, 117, 109]⟩ : ByteArray), t148⟩ : S43)] : List (S43))) l0_12 (l0_12.length : Int) 0 a0_0 a0_1 a0_2 a0_3 a0_4 a0_5 a0_6 a0_7 a0_8 a0_9 a0_10 a0_11 l0_12 l0_13))))) = some r := H
 have A3 := Aside0.mk A30
 clear A30
 replace H := Option.bind_eq_some_iff.mp H
 obtain ⟨t145, A40, H⟩ := H
 replace H : ((strconv_Itoa.f a0_8).bind fun t146 => ((strconv_Itoa.f a0_9).bind fun t147 => ((post_sum.f a0_10 a0_11).bind fun t148 => (post_record.l0 k (([(⟨(⟨#[102, 114, 111, 109]⟩ : ByteArray), a0_0⟩ : S43), (⟨(⟨#[116, 111]⟩ : ByteArray), a0_1⟩ : S43), (⟨(⟨#[110, 117, 109, 98, 101, 114]⟩ : ByteArray), t143⟩ : S43), (⟨(⟨#[107, 105, 110, 100]⟩ : ByteArray), t144⟩ : S43), (⟨(⟨#[97, 99, 107]⟩ : ByteArray), t145⟩ : S43), (⟨(⟨#[100, 101, 97, 108]⟩ : ByteArray), a0_5⟩ : S43), (⟨(⟨#[116, 101, 120, 116]⟩ : ByteArray), a0_6⟩ : S43), (⟨(⟨#[112, 97, 114, 116, 121]⟩ : ByteArray), a0_7⟩ : S43), (⟨(⟨#[105, 110, 100, 101, 120]⟩ : ByteArray), t146⟩ : S43), (⟨(⟨#[100, 97, 121]⟩ : ByteArray), t147⟩ : S43), (⟨(⟨#[115, 117, 109]⟩ : ByteArray), t148⟩ : S43)] : List (S43))) l0_12 (l0_12.length : Int) 0 a0_0 a0_1 a0_2 a0_3 a0_4 a0_5 a0_6 a0_7 a0_8 a0_9 a0_10 a0_11 l0_12 l0_13)))) = some r := H
 have A4 := Aside0.mk A40
 clear A40
 replace H := Option.bind_eq_some_iff.mp H
 obtain ⟨t146, A50, H⟩ := H
 replace H : ((strconv_Itoa.f a0_9).bind fun t147 => ((post_sum.f a0_10 a0_11).bind fun t148 => (post_record.l0 k (([(⟨(⟨#[102, 114, 111, 109]⟩ : ByteArray), a0_0⟩ : S43), (⟨(⟨#[116, 111]⟩ : ByteArray), a0_1⟩ : S43), (⟨(⟨#[110, 117, 109, 98, 101, 114]⟩ : ByteArray), t143⟩ : S43), (⟨(⟨#[107, 105, 110, 100]⟩ : ByteArray), t144⟩ : S43), (⟨(⟨#[97, 99, 107]⟩ : ByteArray), t145⟩ : S43), (⟨(⟨#[100, 101, 97, 108]⟩ : ByteArray), a0_5⟩ : S43), (⟨(⟨#[116, 101, 120, 116]⟩ : ByteArray), a0_6⟩ : S43), (⟨(⟨#[112, 97, 114, 116, 121]⟩ : ByteArray), a0_7⟩ : S43), (⟨(⟨#[105, 110, 100, 101, 120]⟩ : ByteArray), t146⟩ : S43), (⟨(⟨#[100, 97, 121]⟩ : ByteArray), t147⟩ : S43), (⟨(⟨#[115, 117, 109]⟩ : ByteArray), t148⟩ : S43)] : List (S43))) l0_12 (l0_12.length : Int) 0 a0_0 a0_1 a0_2 a0_3 a0_4 a0_5 a0_6 a0_7 a0_8 a0_9 a0_10 a0_11 l0_12 l0_13))) = some r := H
 have A5 := Aside0.mk A50
 clear A50
 replace H := Option.bind_eq_some_iff.mp H
 obtain ⟨t147, A60, H⟩ := H
 replace H : ((post_sum.f a0_10 a0_11).bind fun t148 => (post_record.l0 k (([(⟨(⟨#[102, 114, 111, 109]⟩ : ByteArray), a0_0⟩ : S43), (⟨(⟨#[116, 111]⟩ : ByteArray), a0_1⟩ : S43), (⟨(⟨#[110, 117, 109, 98, 101, 114]⟩ : ByteArray), t143⟩ : S43), (⟨(⟨#[107, 105, 110, 100]⟩ : ByteArray), t144⟩ : S43), (⟨(⟨#[97, 99, 107]⟩ : ByteArray), t145⟩ : S43), (⟨(⟨#[100, 101, 97, 108]⟩ : ByteArray), a0_5⟩ : S43), (⟨(⟨#[116, 101, 120, 116]⟩ : ByteArray), a0_6⟩ : S43), (⟨(⟨#[112, 97, 114, 116, 121]⟩ : ByteArray), a0_7⟩ : S43), (⟨(⟨#[105, 110, 100, 101, 120]⟩ : ByteArray), t146⟩ : S43), (⟨(⟨#[100, 97, 121]⟩ : ByteArray), t147⟩ : S43), (⟨(⟨#[115, 117, 109]⟩ : ByteArray), t148⟩ : S43)] : List (S43))) l0_12 (l0_12.length : Int) 0 a0_0 a0_1 a0_2 a0_3 a0_4 a0_5 a0_6 a0_7 a0_8 a0_9 a0_10 a0_11 l0_12 l0_13)) = some r := H
 have A6 := Aside0.mk A60
 clear A60
 replace H := Option.bind_eq_some_iff.mp H
 obtain ⟨t148, A70, H⟩ := H
 replace H : (post_record.l0 k (([(⟨(⟨#[102, 114, 111, 109]⟩ : ByteArray), a0_0⟩ : S43), (⟨(⟨#[116, 111]⟩ : ByteArray), a0_1⟩ : S43), (⟨(⟨#[110, 117, 109, 98, 101, 114]⟩ : ByteArray), t143⟩ : S43), (⟨(⟨#[107, 105, 110, 100]⟩ : ByteArray), t144⟩ : S43), (⟨(⟨#[97, 99, 107]⟩ : ByteArray), t145⟩ : S43), (⟨(⟨#[100, 101, 97, 108]⟩ : ByteArray), a0_5⟩ : S43), (⟨(⟨#[116, 101, 120, 116]⟩ : ByteArray), a0_6⟩ : S43), (⟨(⟨#[112, 97, 114, 116, 121]⟩ : ByteArray), a0_7⟩ : S43), (⟨(⟨#[105, 110, 100, 101, 120]⟩ : ByteArray), t146⟩ : S43), (⟨(⟨#[100, 97, 121]⟩ : ByteArray), t147⟩ : S43), (⟨(⟨#[115, 117, 109]⟩ : ByteArray), t148⟩ : S43)] : List (S43))) l0_12 (l0_12.length : Int) 0 a0_0 a0_1 a0_2 a0_3 a0_4 a0_5 a0_6 a0_7 a0_8 a0_9 a0_10 a0_11 l0_12 l0_13) = some r := H
 have A7 := Aside0.mk A70
 clear A70
 obtain ⟨y149, hy149⟩ : ∃ y_ : List (S43), y_ = (([(⟨(⟨#[102, 114, 111, 109]⟩ : ByteArray), a0_0⟩ : S43), (⟨(⟨#[116, 111]⟩ : ByteArray), a0_1⟩ : S43), (⟨(⟨#[110, 117, 109, 98, 101, 114]⟩ : ByteArray), t143⟩ : S43), (⟨(⟨#[107, 105, 110, 100]⟩ : ByteArray), t144⟩ : S43), (⟨(⟨#[97, 99, 107]⟩ : ByteArray), t145⟩ : S43), (⟨(⟨#[100, 101, 97, 108]⟩ : ByteArray), a0_5⟩ : S43), (⟨(⟨#[116, 101, 120, 116]⟩ : ByteArray), a0_6⟩ : S43), (⟨(⟨#[112, 97, 114, 116, 121]⟩ : ByteArray), a0_7⟩ : S43), (⟨(⟨#[105, 110, 100, 101, 120]⟩ : ByteArray), t146⟩ : S43), (⟨(⟨#[100, 97, 121]⟩ : ByteArray), t147⟩ : S43), (⟨(⟨#[115, 117, 109]⟩ : ByteArray), t148⟩ : S43)] : List (S43))) := ⟨_, rfl⟩
 replace H : (post_record.l0 k y149 l0_12 (l0_12.length : Int) 0 a0_0 a0_1 a0_2 a0_3 a0_4 a0_5 a0_6 a0_7 a0_8 a0_9 a0_10 a0_11 l0_12 l0_13) = some r := by first | (rw [hy149]; with_reducible exact H) | (have H2_ := (Option.bind_some _ _).symm.trans H; rw [hy149]; with_reducible exact H2_) | (have H2_ := (Option.bind_some _ _).symm.trans H; with_reducible exact H2_) | with_reducible exact H | (rw [hy149]; exact H) | exact H
 have Ny149 := Aside0.mk hy149
 clear hy149
 have H' := Aside0.mk H
 clear H
 go_enter Tryz.func51, Tryz.ntmps51
 try go_wp2_with (first | ((with_reducible refine gate_dst (N := 1) rfl ?_); refine box_event ?hg (N := 1) ?hd (cs := #[.string a0_0, .string a0_1, .int .i64 a0_2, .int .i64 a0_3, .int .i64 a0_4, .string a0_5, .string a0_6, .string a0_7, .int .i64 a0_8, .int .i64 a0_9, .string a0_10, .int .i64 a0_11, .slice A0_12 l0_12.length c0_12, .slice A0_13 l0_13.length c0_13]) (t := 33) ?hr ?_; (case hd => rfl); (case hg => rfl); (case hr => first | (go_simp; done) | (go_simp; rfl)); intro gb142 hg w8 hbox hb; have n0_ := Aside0.mk (below_step (by repeat (first | (with_reducible first | exact HB.out | apply below_alloc | apply pw_below_drewN | apply below_drew1) | exact HB.out)) hb); have n1_ := Aside0.mk (hbox); have n2_ := Aside0.mk ((by rw [hg]; exact (below_size (by repeat (first | (with_reducible first | exact HB.out | apply below_alloc | apply pw_below_drewN | apply below_drew1) | exact HB.out))) : w.heap.size ≤ gb142)); have n3_ := Aside0.mk ((by rw [hg]; exact (below_size (by repeat (first | (with_reducible first | exact HB.out | apply below_alloc | apply pw_below_drewN | apply below_drew1) | exact HB.out))) : w.heap.size ≤ gb142)); clear HB; have HB := n0_; have BK142 := n1_; have GW142 := n2_; have GE142 := n3_; clear n0_ n1_ n2_ n3_; clear hb hbox hg))
 have n0_ := Aside0.mk (blk_drew BK142.out)
 have n1_ := Aside0.mk (below_drew1 HB.out)
 clear BK142
 clear HB
 have BK142 := n0_
 have HB := n1_
 clear n0_ n1_
 refine start_ (n := 45) (S := fun w' => w'.cell? ⟨gb142, 0, none⟩ = some (.string a0_0) ∧ w'.cell? ⟨gb142, 1, none⟩ = some (.string a0_1) ∧ w'.cell? ⟨gb142, 2, none⟩ = some (.int .i64 a0_2) ∧ w'.cell? ⟨gb142, 3, none⟩ = some (.int .i64 a0_3) ∧ w'.cell? ⟨gb142, 4, none⟩ = some (.int .i64 a0_4) ∧ w'.cell? ⟨gb142, 5, none⟩ = some (.string a0_5) ∧ w'.cell? ⟨gb142, 6, none⟩ = some (.string a0_6) ∧ w'.cell? ⟨gb142, 7, none⟩ = some (.string a0_7) ∧ w'.cell? ⟨gb142, 8, none⟩ = some (.int .i64 a0_8) ∧ w'.cell? ⟨gb142, 9, none⟩ = some (.int .i64 a0_9) ∧ w'.cell? ⟨gb142, 10, none⟩ = some (.string a0_10) ∧ w'.cell? ⟨gb142, 11, none⟩ = some (.int .i64 a0_11) ∧ w'.cell? ⟨gb142, 12, none⟩ = some (.slice A0_12 l0_12.length c0_12) ∧ w'.cell? ⟨gb142, 13, none⟩ = some (.slice A0_13 l0_13.length c0_13)) (ds := []) #[false, false, false, false, false, false, false, false, false, false, false, false, false, false, false, false, false, false, false, false, false, false, false, false, false, false, false, false, false, false, false, false, false, false, false, false, false, false, false, false, false, false, false, false, false] (by kernel_rfl) rfl rfl ⟨(blk_cell BK142.out 0).trans rfl, (blk_cell BK142.out 1).trans rfl, (blk_cell BK142.out 2).trans rfl, (blk_cell BK142.out 3).trans rfl, (blk_cell BK142.out 4).trans rfl, (blk_cell BK142.out 5).trans rfl, (blk_cell BK142.out 6).trans rfl, (blk_cell BK142.out 7).trans rfl, (blk_cell BK142.out 8).trans rfl, (blk_cell BK142.out 9).trans rfl, (blk_cell BK142.out 10).trans rfl, (blk_cell BK142.out 11).trans rfl, (blk_cell BK142.out 12).trans rfl, (blk_cell BK142.out 13).trans rfl⟩ (fun hHeld => ?_); refine with_tabW post_record.tab2 post_record.bits2 (fun HT_ HW_ => ?_)
 generalize w8.drew = w9 at BK142 HB hHeld ⊢
 refine pure_ (i := 0) (N := some 11) (v := ?_) (a' := ?_) #[true, false, false, false, false, false, false, false, false, false, false, false, false, false, false, false, false, false, false, false, false, false, false, false, false, false, false, false, false, false, false, false, false, false, false, false, false, false, false, false, false, false, false, false, false] rfl rfl (any_of HT_.out (by kernel_rfl)) (fun _ _ _ h => h) (Or.inl ⟨by rfl, ?_⟩) ?_ ?_
 rotate_left
 ·
  intro w'
  go_simp
  with_reducible rfl
 rotate_left
 ·
  simp only [Act.put, List.setIfInBounds_toArray, List.set_cons_zero, List.set_cons_succ, i64_w, i32_w]
  rfl
 refine pure_ (i := 3) (N := some 14) (v := ?_) (a' := ?_) #[true, false, false, true, false, false, false, false, false, false, false, false, false, false, false, false, false, false, false, false, false, false, false, false, false, false, false, false, false, false, false, false, false, false, false, false, false, false, false, false, false, false, false, false, false] rfl rfl (any_of HT_.out (by kernel_rfl)) (fun _ _ _ h => h) (Or.inl ⟨by rfl, ?_⟩) ?_ ?_
 rotate_left
 ·
  intro w'
  go_simp
  with_reducible rfl
 rotate_left
 ·
  simp only [Act.put, List.setIfInBounds_toArray, List.set_cons_zero, List.set_cons_succ, i64_w, i32_w]
  rfl
 refine pure_ (i := 6) (N := some 17) (v := ?_) (a' := ?_) #[true, false, false, true, false, false, true, false, false, false, false, false, false, false, false, false, false, false, false, false, false, false, false, false, false, false, false, false, false, false, false, false, false, false, false, false, false, false, false, false, false, false, false, false, false] rfl rfl (any_of HT_.out (by kernel_rfl)) (fun _ _ _ h => h) (Or.inl ⟨by rfl, ?_⟩) ?_ ?_
 rotate_left
 ·
  intro w'
  go_simp
  with_reducible rfl
 rotate_left
 ·
  simp only [Act.put, List.setIfInBounds_toArray, List.set_cons_zero, List.set_cons_succ, i64_w, i32_w]
  rfl
 refine pure_ (i := 7) (N := some 18) (v := ?_) (a' := ?_) #[true, false, false, true, false, false, true, true, false, false, false, false, false, false, false, false, false, false, false, false, false, false, false, false, false, false, false, false, false, false, false, false, false, false, false, false, false, false, false, false, false, false, false, false, false] rfl rfl (any_of HT_.out (by kernel_rfl)) (fun _ _ _ h => h) (Or.inl ⟨by rfl, ?_⟩) ?_ ?_
 rotate_left
 ·
  intro w'
  go_simp
  with_reducible rfl
 rotate_left
 ·
  simp only [Act.put, List.setIfInBounds_toArray, List.set_cons_zero, List.set_cons_succ, i64_w, i32_w]
  rfl
 refine pure_ (i := 11) (N := some 22) (v := ?_) (a' := ?_) #[true, false, false, true, false, false, true, true, false, false, false, true, false, false, false, false, false, false, false, false, false, false, false, false, false, false, false, false, false, false, false, false, false, false, false, false, false, false, false, false, false, false, false, false, false] rfl rfl (any_of HT_.out (by kernel_rfl)) (fun _ _ _ h => h) (Or.inl ⟨by rfl, ?_⟩) ?_ ?_
 rotate_left
 ·
  intro w'
  go_simp
  with_reducible rfl
 rotate_left
 ·
  simp only [Act.put, List.setIfInBounds_toArray, List.set_cons_zero, List.set_cons_succ, i64_w, i32_w]
  rfl
 refine pure_ (i := 15) (N := some 26) (v := ?_) (a' := ?_) #[true, false, false, true, false, false, true, true, false, false, false, true, false, false, false, true, false, false, false, false, false, false, false, false, false, false, false, false, false, false, false, false, false, false, false, false, false, false, false, false, false, false, false, false, false] rfl rfl (any_of HT_.out (by kernel_rfl)) (fun _ _ _ h => h) (Or.inl ⟨by rfl, ?_⟩) ?_ ?_
 rotate_left
 ·
  intro w'
  go_simp
  with_reducible rfl
 rotate_left
 ·
  simp only [Act.put, List.setIfInBounds_toArray, List.set_cons_zero, List.set_cons_succ, i64_w, i32_w]
  rfl
 refine pure_ (i := 16) (N := some 27) (v := ?_) (a' := ?_) #[true, false, false, true, false, false, true, true, false, false, false, true, false, false, false, true, true, false, false, false, false, false, false, false, false, false, false, false, false, false, false, false, false, false, false, false, false, false, false, false, false, false, false, false, false] rfl rfl (any_of HT_.out (by kernel_rfl)) (fun _ _ _ h => h) (Or.inl ⟨by rfl, ?_⟩) ?_ ?_
 rotate_left
 ·
  intro w'
  go_simp
  with_reducible rfl
 rotate_left
 ·
  simp only [Act.put, List.setIfInBounds_toArray, List.set_cons_zero, List.set_cons_succ, i64_w, i32_w]
  rfl
 refine pure_ (i := 20) (N := some 31) (v := ?_) (a' := ?_) #[true, false, false, true, false, false, true, true, false, false, false, true, false, false, false, true, true, false, false, false, true, false, false, false, false, false, false, false, false, false, false, false, false, false, false, false, false, false, false, false, false, false, false, false, false] rfl rfl (any_of HT_.out (by kernel_rfl)) (fun _ _ _ h => h) (Or.inl ⟨by rfl, ?_⟩) ?_ ?_
 rotate_left
 ·
  intro w'
  go_simp
  with_reducible rfl
 rotate_left
 ·
  simp only [Act.put, List.setIfInBounds_toArray, List.set_cons_zero, List.set_cons_succ, i64_w, i32_w]
  rfl
 refine pure_ (i := 23) (N := some 34) (v := ?_) (a' := ?_) #[true, false, false, true, false, false, true, true, false, false, false, true, false, false, false, true, true, false, false, false, true, false, false, true, false, false, false, false, false, false, false, false, false, false, false, false, false, false, false, false, false, false, false, false, false] rfl rfl (any_of HT_.out (by kernel_rfl)) (fun _ _ _ h => h) (Or.inl ⟨by rfl, ?_⟩) ?_ ?_
 rotate_left
 ·
  intro w'
  go_simp
  with_reducible rfl
 rotate_left
 ·
  simp only [Act.put, List.setIfInBounds_toArray, List.set_cons_zero, List.set_cons_succ, i64_w, i32_w]
  rfl
 refine pure_ (i := 26) (N := some 37) (v := ?_) (a' := ?_) #[true, false, false, true, false, false, true, true, false, false, false, true, false, false, false, true, true, false, false, false, true, false, false, true, false, false, true, false, false, false, false, false, false, false, false, false, false, false, false, false, false, false, false, false, false] rfl rfl (any_of HT_.out (by kernel_rfl)) (fun _ _ _ h => h) (Or.inl ⟨by rfl, ?_⟩) ?_ ?_
 rotate_left
 ·
  intro w'
  go_simp
  with_reducible rfl
 rotate_left
 ·
  simp only [Act.put, List.setIfInBounds_toArray, List.set_cons_zero, List.set_cons_succ, i64_w, i32_w]
  rfl
 refine pure_ (i := 29) (N := some 40) (v := ?_) (a' := ?_) #[true, false, false, true, false, false, true, true, false, false, false, true, false, false, false, true, true, false, false, false, true, false, false, true, false, false, true, false, false, true, false, false, false, false, false, false, false, false, false, false, false, false, false, false, false] rfl rfl (any_of HT_.out (by kernel_rfl)) (fun _ _ _ h => h) (Or.inl ⟨by rfl, ?_⟩) ?_ ?_
 rotate_left
 ·
  intro w'
  go_simp
  with_reducible rfl
 rotate_left
 ·
  simp only [Act.put, List.setIfInBounds_toArray, List.set_cons_zero, List.set_cons_succ, i64_w, i32_w]
  rfl
 refine pure_ (i := 30) (N := some 41) (v := ?_) (a' := ?_) #[true, false, false, true, false, false, true, true, false, false, false, true, false, false, false, true, true, false, false, false, true, false, false, true, false, false, true, false, false, true, true, false, false, false, false, false, false, false, false, false, false, false, false, false, false] rfl rfl (any_of HT_.out (by kernel_rfl)) (fun _ _ _ h => h) (Or.inl ⟨by rfl, ?_⟩) ?_ ?_
 rotate_left
 ·
  intro w'
  go_simp
  with_reducible rfl
 rotate_left
 ·
  simp only [Act.put, List.setIfInBounds_toArray, List.set_cons_zero, List.set_cons_succ, i64_w, i32_w]
  rfl
 refine pure_ (i := 34) (N := some 45) (v := ?_) (a' := ?_) #[true, false, false, true, false, false, true, true, false, false, false, true, false, false, false, true, true, false, false, false, true, false, false, true, false, false, true, false, false, true, true, false, false, false, true, false, false, false, false, false, false, false, false, false, false] rfl rfl (any_of HT_.out (by kernel_rfl)) (fun _ _ _ h => h) (Or.inl ⟨by rfl, ?_⟩) ?_ ?_
 rotate_left
 ·
  intro w'
  go_simp
  with_reducible rfl
 rotate_left
 ·
  simp only [Act.put, List.setIfInBounds_toArray, List.set_cons_zero, List.set_cons_succ, i64_w, i32_w]
  rfl
 refine pure_ (i := 35) (N := some 46) (v := ?_) (a' := ?_) #[true, false, false, true, false, false, true, true, false, false, false, true, false, false, false, true, true, false, false, false, true, false, false, true, false, false, true, false, false, true, true, false, false, false, true, true, false, false, false, false, false, false, false, false, false] rfl rfl (any_of HT_.out (by kernel_rfl)) (fun _ _ _ h => h) (Or.inl ⟨by rfl, ?_⟩) ?_ ?_
 rotate_left
 ·
  intro w'
  go_simp
  with_reducible rfl
 rotate_left
 ·
  simp only [Act.put, List.setIfInBounds_toArray, List.set_cons_zero, List.set_cons_succ, i64_w, i32_w]
  rfl
 refine pure_ (i := 39) (N := some 50) (v := ?_) (a' := ?_) #[true, false, false, true, false, false, true, true, false, false, false, true, false, false, false, true, true, false, false, false, true, false, false, true, false, false, true, false, false, true, true, false, false, false, true, true, false, false, false, true, false, false, false, false, false] rfl rfl (any_of HT_.out (by kernel_rfl)) (fun _ _ _ h => h) (Or.inl ⟨by rfl, ?_⟩) ?_ ?_
 rotate_left
 ·
  intro w'
  go_simp
  with_reducible rfl
 rotate_left
 ·
  simp only [Act.put, List.setIfInBounds_toArray, List.set_cons_zero, List.set_cons_succ, i64_w, i32_w]
  rfl
 refine take_ (i := 1) (N := some 12) (v := ?_) (a' := ?_) #[true, true, false, true, false, false, true, true, false, false, false, true, false, false, false, true, true, false, false, false, true, false, false, true, false, false, true, false, false, true, true, false, false, false, true, true, false, false, false, true, false, false, false, false, false] rfl rfl (take_ofW HT_.out HW_.out (by kernel_rfl)) (fun _ _ _ h => h) (Or.inl ⟨by rfl, ?_⟩) hHeld ?_ ?_
 rotate_left
 ·
  rintro w' ⟨s0, s1, s2, s3, s4, s5, s6, s7, s8, s9, s10, s11, s12, s13⟩
  go_simp
  with_reducible rfl
 rotate_left
 ·
  simp only [Act.put, List.setIfInBounds_toArray, List.set_cons_zero, List.set_cons_succ, i64_w, i32_w]
  rfl
 refine pure_ (i := 2) (N := some 13) (v := ?_) (a' := ?_) #[true, true, true, true, false, false, true, true, false, false, false, true, false, false, false, true, true, false, false, false, true, false, false, true, false, false, true, false, false, true, true, false, false, false, true, true, false, false, false, true, false, false, false, false, false] rfl rfl (any_of HT_.out (by kernel_rfl)) (fun _ _ _ h => h) (Or.inl ⟨by rfl, ?_⟩) ?_ ?_
 rotate_left
 ·
  intro w'
  go_simp
  with_reducible rfl
 rotate_left
 ·
  simp only [Act.put, List.setIfInBounds_toArray, List.set_cons_zero, List.set_cons_succ, i64_w, i32_w]
  rfl
 refine take_ (i := 4) (N := some 15) (v := ?_) (a' := ?_) #[true, true, true, true, true, false, true, true, false, false, false, true, false, false, false, true, true, false, false, false, true, false, false, true, false, false, true, false, false, true, true, false, false, false, true, true, false, false, false, true, false, false, false, false, false] rfl rfl (take_ofW HT_.out HW_.out (by kernel_rfl)) (fun _ _ _ h => h) (Or.inl ⟨by rfl, ?_⟩) hHeld ?_ ?_
 rotate_left
 ·
  rintro w' ⟨s0, s1, s2, s3, s4, s5, s6, s7, s8, s9, s10, s11, s12, s13⟩
  go_simp
  with_reducible rfl
 rotate_left
 ·
  simp only [Act.put, List.setIfInBounds_toArray, List.set_cons_zero, List.set_cons_succ, i64_w, i32_w]
  rfl
 refine pure_ (i := 5) (N := some 16) (v := ?_) (a' := ?_) #[true, true, true, true, true, true, true, true, false, false, false, true, false, false, false, true, true, false, false, false, true, false, false, true, false, false, true, false, false, true, true, false, false, false, true, true, false, false, false, true, false, false, false, false, false] rfl rfl (any_of HT_.out (by kernel_rfl)) (fun _ _ _ h => h) (Or.inl ⟨by rfl, ?_⟩) ?_ ?_
 rotate_left
 ·
  intro w'
  go_simp
  with_reducible rfl
 rotate_left
 ·
  simp only [Act.put, List.setIfInBounds_toArray, List.set_cons_zero, List.set_cons_succ, i64_w, i32_w]
  rfl
 refine take_ (i := 8) (N := some 19) (v := ?_) (a' := ?_) #[true, true, true, true, true, true, true, true, true, false, false, true, false, false, false, true, true, false, false, false, true, false, false, true, false, false, true, false, false, true, true, false, false, false, true, true, false, false, false, true, false, false, false, false, false] rfl rfl (take_ofW HT_.out HW_.out (by kernel_rfl)) (fun _ _ _ h => h) (Or.inl ⟨by rfl, ?_⟩) hHeld ?_ ?_
 rotate_left
 ·
  rintro w' ⟨s0, s1, s2, s3, s4, s5, s6, s7, s8, s9, s10, s11, s12, s13⟩
  go_simp
  with_reducible rfl
 rotate_left
 ·
  simp only [Act.put, List.setIfInBounds_toArray, List.set_cons_zero, List.set_cons_succ, i64_w, i32_w]
  rfl
 refine take_ (i := 12) (N := some 23) (v := ?_) (a' := ?_) #[true, true, true, true, true, true, true, true, true, false, false, true, true, false, false, true, true, false, false, false, true, false, false, true, false, false, true, false, false, true, true, false, false, false, true, true, false, false, false, true, false, false, false, false, false] rfl rfl (take_ofW HT_.out HW_.out (by kernel_rfl)) (fun _ _ _ h => h) (Or.inl ⟨by rfl, ?_⟩) hHeld ?_ ?_
 rotate_left
 ·
  rintro w' ⟨s0, s1, s2, s3, s4, s5, s6, s7, s8, s9, s10, s11, s12, s13⟩
  go_simp
  with_reducible rfl
 rotate_left
 ·
  simp only [Act.put, List.setIfInBounds_toArray, List.set_cons_zero, List.set_cons_succ, i64_w, i32_w]
  rfl
 refine take_ (i := 17) (N := some 28) (v := ?_) (a' := ?_) #[true, true, true, true, true, true, true, true, true, false, false, true, true, false, false, true, true, true, false, false, true, false, false, true, false, false, true, false, false, true, true, false, false, false, true, true, false, false, false, true, false, false, false, false, false] rfl rfl (take_ofW HT_.out HW_.out (by kernel_rfl)) (fun _ _ _ h => h) (Or.inl ⟨by rfl, ?_⟩) hHeld ?_ ?_
 rotate_left
 ·
  rintro w' ⟨s0, s1, s2, s3, s4, s5, s6, s7, s8, s9, s10, s11, s12, s13⟩
  go_simp
  with_reducible rfl
 rotate_left
 ·
  simp only [Act.put, List.setIfInBounds_toArray, List.set_cons_zero, List.set_cons_succ, i64_w, i32_w]
  rfl
 refine take_ (i := 21) (N := some 32) (v := ?_) (a' := ?_) #[true, true, true, true, true, true, true, true, true, false, false, true, true, false, false, true, true, true, false, false, true, true, false, true, false, false, true, false, false, true, true, false, false, false, true, true, false, false, false, true, false, false, false, false, false] rfl rfl (take_ofW HT_.out HW_.out (by kernel_rfl)) (fun _ _ _ h => h) (Or.inl ⟨by rfl, ?_⟩) hHeld ?_ ?_
 rotate_left
 ·
  rintro w' ⟨s0, s1, s2, s3, s4, s5, s6, s7, s8, s9, s10, s11, s12, s13⟩
  go_simp
  with_reducible rfl
 rotate_left
 ·
  simp only [Act.put, List.setIfInBounds_toArray, List.set_cons_zero, List.set_cons_succ, i64_w, i32_w]
  rfl
 refine pure_ (i := 22) (N := some 33) (v := ?_) (a' := ?_) #[true, true, true, true, true, true, true, true, true, false, false, true, true, false, false, true, true, true, false, false, true, true, true, true, false, false, true, false, false, true, true, false, false, false, true, true, false, false, false, true, false, false, false, false, false] rfl rfl (any_of HT_.out (by kernel_rfl)) (fun _ _ _ h => h) (Or.inl ⟨by rfl, ?_⟩) ?_ ?_
 rotate_left
 ·
  intro w'
  go_simp
  with_reducible rfl
 rotate_left
 ·
  simp only [Act.put, List.setIfInBounds_toArray, List.set_cons_zero, List.set_cons_succ, i64_w, i32_w]
  rfl
 refine take_ (i := 24) (N := some 35) (v := ?_) (a' := ?_) #[true, true, true, true, true, true, true, true, true, false, false, true, true, false, false, true, true, true, false, false, true, true, true, true, true, false, true, false, false, true, true, false, false, false, true, true, false, false, false, true, false, false, false, false, false] rfl rfl (take_ofW HT_.out HW_.out (by kernel_rfl)) (fun _ _ _ h => h) (Or.inl ⟨by rfl, ?_⟩) hHeld ?_ ?_
 rotate_left
 ·
  rintro w' ⟨s0, s1, s2, s3, s4, s5, s6, s7, s8, s9, s10, s11, s12, s13⟩
  go_simp
  with_reducible rfl
 rotate_left
 ·
  simp only [Act.put, List.setIfInBounds_toArray, List.set_cons_zero, List.set_cons_succ, i64_w, i32_w]
  rfl
 refine pure_ (i := 25) (N := some 36) (v := ?_) (a' := ?_) #[true, true, true, true, true, true, true, true, true, false, false, true, true, false, false, true, true, true, false, false, true, true, true, true, true, true, true, false, false, true, true, false, false, false, true, true, false, false, false, true, false, false, false, false, false] rfl rfl (any_of HT_.out (by kernel_rfl)) (fun _ _ _ h => h) (Or.inl ⟨by rfl, ?_⟩) ?_ ?_
 rotate_left
 ·
  intro w'
  go_simp
  with_reducible rfl
 rotate_left
 ·
  simp only [Act.put, List.setIfInBounds_toArray, List.set_cons_zero, List.set_cons_succ, i64_w, i32_w]
  rfl
 refine take_ (i := 27) (N := some 38) (v := ?_) (a' := ?_) #[true, true, true, true, true, true, true, true, true, false, false, true, true, false, false, true, true, true, false, false, true, true, true, true, true, true, true, true, false, true, true, false, false, false, true, true, false, false, false, true, false, false, false, false, false] rfl rfl (take_ofW HT_.out HW_.out (by kernel_rfl)) (fun _ _ _ h => h) (Or.inl ⟨by rfl, ?_⟩) hHeld ?_ ?_
 rotate_left
 ·
  rintro w' ⟨s0, s1, s2, s3, s4, s5, s6, s7, s8, s9, s10, s11, s12, s13⟩
  go_simp
  with_reducible rfl
 rotate_left
 ·
  simp only [Act.put, List.setIfInBounds_toArray, List.set_cons_zero, List.set_cons_succ, i64_w, i32_w]
  rfl
 refine pure_ (i := 28) (N := some 39) (v := ?_) (a' := ?_) #[true, true, true, true, true, true, true, true, true, false, false, true, true, false, false, true, true, true, false, false, true, true, true, true, true, true, true, true, true, true, true, false, false, false, true, true, false, false, false, true, false, false, false, false, false] rfl rfl (any_of HT_.out (by kernel_rfl)) (fun _ _ _ h => h) (Or.inl ⟨by rfl, ?_⟩) ?_ ?_
 rotate_left
 ·
  intro w'
  go_simp
  with_reducible rfl
 rotate_left
 ·
  simp only [Act.put, List.setIfInBounds_toArray, List.set_cons_zero, List.set_cons_succ, i64_w, i32_w]
  rfl
 refine take_ (i := 31) (N := some 42) (v := ?_) (a' := ?_) #[true, true, true, true, true, true, true, true, true, false, false, true, true, false, false, true, true, true, false, false, true, true, true, true, true, true, true, true, true, true, true, true, false, false, true, true, false, false, false, true, false, false, false, false, false] rfl rfl (take_ofW HT_.out HW_.out (by kernel_rfl)) (fun _ _ _ h => h) (Or.inl ⟨by rfl, ?_⟩) hHeld ?_ ?_
 rotate_left
 ·
  rintro w' ⟨s0, s1, s2, s3, s4, s5, s6, s7, s8, s9, s10, s11, s12, s13⟩
  go_simp
  with_reducible rfl
 rotate_left
 ·
  simp only [Act.put, List.setIfInBounds_toArray, List.set_cons_zero, List.set_cons_succ, i64_w, i32_w]
  rfl
 refine take_ (i := 36) (N := some 47) (v := ?_) (a' := ?_) #[true, true, true, true, true, true, true, true, true, false, false, true, true, false, false, true, true, true, false, false, true, true, true, true, true, true, true, true, true, true, true, true, false, false, true, true, true, false, false, true, false, false, false, false, false] rfl rfl (take_ofW HT_.out HW_.out (by kernel_rfl)) (fun _ _ _ h => h) (Or.inl ⟨by rfl, ?_⟩) hHeld ?_ ?_
 rotate_left
 ·
  rintro w' ⟨s0, s1, s2, s3, s4, s5, s6, s7, s8, s9, s10, s11, s12, s13⟩
  go_simp
  with_reducible rfl
 rotate_left
 ·
  simp only [Act.put, List.setIfInBounds_toArray, List.set_cons_zero, List.set_cons_succ, i64_w, i32_w]
  rfl
 refine take_ (i := 40) (N := some 51) (v := ?_) (a' := ?_) #[true, true, true, true, true, true, true, true, true, false, false, true, true, false, false, true, true, true, false, false, true, true, true, true, true, true, true, true, true, true, true, true, false, false, true, true, true, false, false, true, true, false, false, false, false] rfl rfl (take_ofW HT_.out HW_.out (by kernel_rfl)) (fun _ _ _ h => h) (Or.inl ⟨by rfl, ?_⟩) hHeld ?_ ?_
 rotate_left
 ·
  rintro w' ⟨s0, s1, s2, s3, s4, s5, s6, s7, s8, s9, s10, s11, s12, s13⟩
  go_simp
  with_reducible rfl
 rotate_left
 ·
  simp only [Act.put, List.setIfInBounds_toArray, List.set_cons_zero, List.set_cons_succ, i64_w, i32_w]
  rfl
 refine one_ (i := 9) (N := some 20) #[true, true, true, true, true, true, true, true, true, true, false, true, true, false, false, true, true, true, false, false, true, true, true, true, true, true, true, true, true, true, true, true, false, false, true, true, true, false, false, true, true, false, false, false, false] rfl rfl (one_of HT_.out (by kernel_rfl)) (by decide) (fun K hK => ?_)
 refine goesV_ Tryz.func73 (by kernel_rfl) rfl #[.int .i64 a0_2] (by rfl) rfl rfl (by rfl) (by (try simp only [List.map_toArray, List.map_cons, List.map_nil]); first | done | rfl | (simp only [List.length_drop, List.length_take]; rfl)) ?_
 with_reducible refine (strconv_Itoa.calls a0_2 t143 _ ?sideG A2.out).mono ?_
 case sideG => exact glob_below HGL.out (by repeat (first | (with_reducible first | exact HB.out | apply below_alloc | apply pw_below_drewN | apply below_drew1) | exact HB.out))
 rintro e w10 ⟨rfl, hb⟩
 refine ⟨_, rfl, ?_⟩
 have n0_ := Aside0.mk (blk_below (g := gb142) (o := .cells #[.string a0_0, .string a0_1, .int .i64 a0_2, .int .i64 a0_3, .int .i64 a0_4, .string a0_5, .string a0_6, .string a0_7, .int .i64 a0_8, .int .i64 a0_9, .string a0_10, .int .i64 a0_11, .slice A0_12 l0_12.length c0_12, .slice A0_13 l0_13.length c0_13] 33 (0, 0)) (by (with_reducible repeat (first | refine blk_drewN ?_ _ | refine blk_drew ?_ | refine blk_alloc ?_ _)); exact BK142.out) hb)
 have n1_ := Aside0.mk (below_step (by repeat (first | (with_reducible first | exact HB.out | apply below_alloc | apply pw_below_drewN | apply below_drew1 | refine below_set ?_ GE142.out) | exact HB.out)) hb)
 clear BK142
 clear HB
 have BK142 := n0_
 have HB := n1_
 clear n0_ n1_
 (try clear hb)
 (try clear hb2)
 (try clear hk)
 (try clear hi)
 refine hK.out _ _ ⟨(blk_cell BK142.out 0).trans rfl, (blk_cell BK142.out 1).trans rfl, (blk_cell BK142.out 2).trans rfl, (blk_cell BK142.out 3).trans rfl, (blk_cell BK142.out 4).trans rfl, (blk_cell BK142.out 5).trans rfl, (blk_cell BK142.out 6).trans rfl, (blk_cell BK142.out 7).trans rfl, (blk_cell BK142.out 8).trans rfl, (blk_cell BK142.out 9).trans rfl, (blk_cell BK142.out 10).trans rfl, (blk_cell BK142.out 11).trans rfl, (blk_cell BK142.out 12).trans rfl, (blk_cell BK142.out 13).trans rfl⟩ (fun hHeld => ?_)
 clear hK K
 refine norm_ (a' := ?_) ?_ ?_
 rotate_left
 ·
  show Act.put _ (some 20) _ = _
  simp only [Act.put, List.setIfInBounds_toArray, List.set_cons_zero, List.set_cons_succ, i64_w, i32_w]
  rfl
 refine pure_ (i := 10) (N := some 21) (v := ?_) (a' := ?_) #[true, true, true, true, true, true, true, true, true, true, true, true, true, false, false, true, true, true, false, false, true, true, true, true, true, true, true, true, true, true, true, true, false, false, true, true, true, false, false, true, true, false, false, false, false] rfl rfl (any_of HT_.out (by kernel_rfl)) (fun _ _ _ h => h) (Or.inl ⟨by rfl, ?_⟩) ?_ ?_
 rotate_left
 ·
  intro w'
  go_simp
  with_reducible rfl
 rotate_left
 ·
  simp only [Act.put, List.setIfInBounds_toArray, List.set_cons_zero, List.set_cons_succ, i64_w, i32_w]
  rfl
 refine one_ (i := 13) (N := some 24) #[true, true, true, true, true, true, true, true, true, true, true, true, true, true, false, true, true, true, false, false, true, true, true, true, true, true, true, true, true, true, true, true, false, false, true, true, true, false, false, true, true, false, false, false, false] rfl rfl (one_of HT_.out (by kernel_rfl)) (by decide) (fun K hK => ?_)
 refine goes_ Tryz.func12 (by kernel_rfl) rfl #[.int .i64 a0_3] (by rfl) rfl rfl (by (try simp only [List.map_toArray, List.map_cons, List.map_nil]); first | done | rfl | (simp only [List.length_drop, List.length_take]; rfl)) ?_
 with_reducible refine (post_Name.calls a0_3 t144 _ ?sideG A3.out).mono ?_
 case sideG => exact glob_below HGL.out (by repeat (first | (with_reducible first | exact HB.out | apply below_alloc | apply pw_below_drewN | apply below_drew1) | exact HB.out))
 rintro e w11 ⟨rfl, hb⟩
 refine ⟨_, rfl, ?_⟩
 have n0_ := Aside0.mk (blk_below (g := gb142) (o := .cells #[.string a0_0, .string a0_1, .int .i64 a0_2, .int .i64 a0_3, .int .i64 a0_4, .string a0_5, .string a0_6, .string a0_7, .int .i64 a0_8, .int .i64 a0_9, .string a0_10, .int .i64 a0_11, .slice A0_12 l0_12.length c0_12, .slice A0_13 l0_13.length c0_13] 33 (0, 0)) (by (with_reducible repeat (first | refine blk_drewN ?_ _ | refine blk_drew ?_ | refine blk_alloc ?_ _)); exact BK142.out) hb)
 have n1_ := Aside0.mk (below_step (by repeat (first | (with_reducible first | exact HB.out | apply below_alloc | apply pw_below_drewN | apply below_drew1 | refine below_set ?_ GE142.out) | exact HB.out)) hb)
 clear BK142
 clear HB
 have BK142 := n0_
 have HB := n1_
 clear n0_ n1_
 (try clear hb)
 (try clear hb2)
 (try clear hk)
 (try clear hi)
 refine hK.out _ _ ⟨(blk_cell BK142.out 0).trans rfl, (blk_cell BK142.out 1).trans rfl, (blk_cell BK142.out 2).trans rfl, (blk_cell BK142.out 3).trans rfl, (blk_cell BK142.out 4).trans rfl, (blk_cell BK142.out 5).trans rfl, (blk_cell BK142.out 6).trans rfl, (blk_cell BK142.out 7).trans rfl, (blk_cell BK142.out 8).trans rfl, (blk_cell BK142.out 9).trans rfl, (blk_cell BK142.out 10).trans rfl, (blk_cell BK142.out 11).trans rfl, (blk_cell BK142.out 12).trans rfl, (blk_cell BK142.out 13).trans rfl⟩ (fun hHeld => ?_)
 clear hK K
 refine norm_ (a' := ?_) ?_ ?_
 rotate_left
 ·
  show Act.put _ (some 24) _ = _
  simp only [Act.put, List.setIfInBounds_toArray, List.set_cons_zero, List.set_cons_succ, i64_w, i32_w]
  rfl
 refine pure_ (i := 14) (N := some 25) (v := ?_) (a' := ?_) #[true, true, true, true, true, true, true, true, true, true, true, true, true, true, true, true, true, true, false, false, true, true, true, true, true, true, true, true, true, true, true, true, false, false, true, true, true, false, false, true, true, false, false, false, false] rfl rfl (any_of HT_.out (by kernel_rfl)) (fun _ _ _ h => h) (Or.inl ⟨by rfl, ?_⟩) ?_ ?_
 rotate_left
 ·
  intro w'
  go_simp
  with_reducible rfl
 rotate_left
 ·
  simp only [Act.put, List.setIfInBounds_toArray, List.set_cons_zero, List.set_cons_succ, i64_w, i32_w]
  rfl
 refine one_ (i := 18) (N := some 29) #[true, true, true, true, true, true, true, true, true, true, true, true, true, true, true, true, true, true, true, false, true, true, true, true, true, true, true, true, true, true, true, true, false, false, true, true, true, false, false, true, true, false, false, false, false] rfl rfl (one_of HT_.out (by kernel_rfl)) (by decide) (fun K hK => ?_)
 refine goesV_ Tryz.func73 (by kernel_rfl) rfl #[.int .i64 a0_4] (by rfl) rfl rfl (by rfl) (by (try simp only [List.map_toArray, List.map_cons, List.map_nil]); first | done | rfl | (simp only [List.length_drop, List.length_take]; rfl)) ?_
 with_reducible refine (strconv_Itoa.calls a0_4 t145 _ ?sideG A4.out).mono ?_
 case sideG => exact glob_below HGL.out (by repeat (first | (with_reducible first | exact HB.out | apply below_alloc | apply pw_below_drewN | apply below_drew1) | exact HB.out))
 rintro e w12 ⟨rfl, hb⟩
 refine ⟨_, rfl, ?_⟩
 have n0_ := Aside0.mk (blk_below (g := gb142) (o := .cells #[.string a0_0, .string a0_1, .int .i64 a0_2, .int .i64 a0_3, .int .i64 a0_4, .string a0_5, .string a0_6, .string a0_7, .int .i64 a0_8, .int .i64 a0_9, .string a0_10, .int .i64 a0_11, .slice A0_12 l0_12.length c0_12, .slice A0_13 l0_13.length c0_13] 33 (0, 0)) (by (with_reducible repeat (first | refine blk_drewN ?_ _ | refine blk_drew ?_ | refine blk_alloc ?_ _)); exact BK142.out) hb)
 have n1_ := Aside0.mk (below_step (by repeat (first | (with_reducible first | exact HB.out | apply below_alloc | apply pw_below_drewN | apply below_drew1 | refine below_set ?_ GE142.out) | exact HB.out)) hb)
 clear BK142
 clear HB
 have BK142 := n0_
 have HB := n1_
 clear n0_ n1_
 (try clear hb)
 (try clear hb2)
 (try clear hk)
 (try clear hi)
 refine hK.out _ _ ⟨(blk_cell BK142.out 0).trans rfl, (blk_cell BK142.out 1).trans rfl, (blk_cell BK142.out 2).trans rfl, (blk_cell BK142.out 3).trans rfl, (blk_cell BK142.out 4).trans rfl, (blk_cell BK142.out 5).trans rfl, (blk_cell BK142.out 6).trans rfl, (blk_cell BK142.out 7).trans rfl, (blk_cell BK142.out 8).trans rfl, (blk_cell BK142.out 9).trans rfl, (blk_cell BK142.out 10).trans rfl, (blk_cell BK142.out 11).trans rfl, (blk_cell BK142.out 12).trans rfl, (blk_cell BK142.out 13).trans rfl⟩ (fun hHeld => ?_)
 clear hK K
 refine norm_ (a' := ?_) ?_ ?_
 rotate_left
 ·
  show Act.put _ (some 29) _ = _
  simp only [Act.put, List.setIfInBounds_toArray, List.set_cons_zero, List.set_cons_succ, i64_w, i32_w]
  rfl
 refine pure_ (i := 19) (N := some 30) (v := ?_) (a' := ?_) #[true, true, true, true, true, true, true, true, true, true, true, true, true, true, true, true, true, true, true, true, true, true, true, true, true, true, true, true, true, true, true, true, false, false, true, true, true, false, false, true, true, false, false, false, false] rfl rfl (any_of HT_.out (by kernel_rfl)) (fun _ _ _ h => h) (Or.inl ⟨by rfl, ?_⟩) ?_ ?_
 rotate_left
 ·
  intro w'
  go_simp
  with_reducible rfl
 rotate_left
 ·
  simp only [Act.put, List.setIfInBounds_toArray, List.set_cons_zero, List.set_cons_succ, i64_w, i32_w]
  rfl
 refine one_ (i := 32) (N := some 43) #[true, true, true, true, true, true, true, true, true, true, true, true, true, true, true, true, true, true, true, true, true, true, true, true, true, true, true, true, true, true, true, true, true, false, true, true, true, false, false, true, true, false, false, false, false] rfl rfl (one_of HT_.out (by kernel_rfl)) (by decide) (fun K hK => ?_)
 refine goesV_ Tryz.func73 (by kernel_rfl) rfl #[.int .i64 a0_8] (by rfl) rfl rfl (by rfl) (by (try simp only [List.map_toArray, List.map_cons, List.map_nil]); first | done | rfl | (simp only [List.length_drop, List.length_take]; rfl)) ?_
 with_reducible refine (strconv_Itoa.calls a0_8 t146 _ ?sideG A5.out).mono ?_
 case sideG => exact glob_below HGL.out (by repeat (first | (with_reducible first | exact HB.out | apply below_alloc | apply pw_below_drewN | apply below_drew1) | exact HB.out))
 rintro e w13 ⟨rfl, hb⟩
 refine ⟨_, rfl, ?_⟩
 have n0_ := Aside0.mk (blk_below (g := gb142) (o := .cells #[.string a0_0, .string a0_1, .int .i64 a0_2, .int .i64 a0_3, .int .i64 a0_4, .string a0_5, .string a0_6, .string a0_7, .int .i64 a0_8, .int .i64 a0_9, .string a0_10, .int .i64 a0_11, .slice A0_12 l0_12.length c0_12, .slice A0_13 l0_13.length c0_13] 33 (0, 0)) (by (with_reducible repeat (first | refine blk_drewN ?_ _ | refine blk_drew ?_ | refine blk_alloc ?_ _)); exact BK142.out) hb)
 have n1_ := Aside0.mk (below_step (by repeat (first | (with_reducible first | exact HB.out | apply below_alloc | apply pw_below_drewN | apply below_drew1 | refine below_set ?_ GE142.out) | exact HB.out)) hb)
 clear BK142
 clear HB
 have BK142 := n0_
 have HB := n1_
 clear n0_ n1_
 (try clear hb)
 (try clear hb2)
 (try clear hk)
 (try clear hi)
 refine hK.out _ _ ⟨(blk_cell BK142.out 0).trans rfl, (blk_cell BK142.out 1).trans rfl, (blk_cell BK142.out 2).trans rfl, (blk_cell BK142.out 3).trans rfl, (blk_cell BK142.out 4).trans rfl, (blk_cell BK142.out 5).trans rfl, (blk_cell BK142.out 6).trans rfl, (blk_cell BK142.out 7).trans rfl, (blk_cell BK142.out 8).trans rfl, (blk_cell BK142.out 9).trans rfl, (blk_cell BK142.out 10).trans rfl, (blk_cell BK142.out 11).trans rfl, (blk_cell BK142.out 12).trans rfl, (blk_cell BK142.out 13).trans rfl⟩ (fun hHeld => ?_)
 clear hK K
 refine norm_ (a' := ?_) ?_ ?_
 rotate_left
 ·
  show Act.put _ (some 43) _ = _
  simp only [Act.put, List.setIfInBounds_toArray, List.set_cons_zero, List.set_cons_succ, i64_w, i32_w]
  rfl
 refine pure_ (i := 33) (N := some 44) (v := ?_) (a' := ?_) #[true, true, true, true, true, true, true, true, true, true, true, true, true, true, true, true, true, true, true, true, true, true, true, true, true, true, true, true, true, true, true, true, true, true, true, true, true, false, false, true, true, false, false, false, false] rfl rfl (any_of HT_.out (by kernel_rfl)) (fun _ _ _ h => h) (Or.inl ⟨by rfl, ?_⟩) ?_ ?_
 rotate_left
 ·
  intro w'
  go_simp
  with_reducible rfl
 rotate_left
 ·
  simp only [Act.put, List.setIfInBounds_toArray, List.set_cons_zero, List.set_cons_succ, i64_w, i32_w]
  rfl
 refine one_ (i := 37) (N := some 48) #[true, true, true, true, true, true, true, true, true, true, true, true, true, true, true, true, true, true, true, true, true, true, true, true, true, true, true, true, true, true, true, true, true, true, true, true, true, true, false, true, true, false, false, false, false] rfl rfl (one_of HT_.out (by kernel_rfl)) (by decide) (fun K hK => ?_)
 refine goesV_ Tryz.func73 (by kernel_rfl) rfl #[.int .i64 a0_9] (by rfl) rfl rfl (by rfl) (by (try simp only [List.map_toArray, List.map_cons, List.map_nil]); first | done | rfl | (simp only [List.length_drop, List.length_take]; rfl)) ?_
 with_reducible refine (strconv_Itoa.calls a0_9 t147 _ ?sideG A6.out).mono ?_
 case sideG => exact glob_below HGL.out (by repeat (first | (with_reducible first | exact HB.out | apply below_alloc | apply pw_below_drewN | apply below_drew1) | exact HB.out))
 rintro e w14 ⟨rfl, hb⟩
 refine ⟨_, rfl, ?_⟩
 have n0_ := Aside0.mk (blk_below (g := gb142) (o := .cells #[.string a0_0, .string a0_1, .int .i64 a0_2, .int .i64 a0_3, .int .i64 a0_4, .string a0_5, .string a0_6, .string a0_7, .int .i64 a0_8, .int .i64 a0_9, .string a0_10, .int .i64 a0_11, .slice A0_12 l0_12.length c0_12, .slice A0_13 l0_13.length c0_13] 33 (0, 0)) (by (with_reducible repeat (first | refine blk_drewN ?_ _ | refine blk_drew ?_ | refine blk_alloc ?_ _)); exact BK142.out) hb)
 have n1_ := Aside0.mk (below_step (by repeat (first | (with_reducible first | exact HB.out | apply below_alloc | apply pw_below_drewN | apply below_drew1 | refine below_set ?_ GE142.out) | exact HB.out)) hb)
 clear BK142
 clear HB
 have BK142 := n0_
 have HB := n1_
 clear n0_ n1_
 (try clear hb)
 (try clear hb2)
 (try clear hk)
 (try clear hi)
 refine hK.out _ _ ⟨(blk_cell BK142.out 0).trans rfl, (blk_cell BK142.out 1).trans rfl, (blk_cell BK142.out 2).trans rfl, (blk_cell BK142.out 3).trans rfl, (blk_cell BK142.out 4).trans rfl, (blk_cell BK142.out 5).trans rfl, (blk_cell BK142.out 6).trans rfl, (blk_cell BK142.out 7).trans rfl, (blk_cell BK142.out 8).trans rfl, (blk_cell BK142.out 9).trans rfl, (blk_cell BK142.out 10).trans rfl, (blk_cell BK142.out 11).trans rfl, (blk_cell BK142.out 12).trans rfl, (blk_cell BK142.out 13).trans rfl⟩ (fun hHeld => ?_)
 clear hK K
 refine norm_ (a' := ?_) ?_ ?_
 rotate_left
 ·
  show Act.put _ (some 48) _ = _
  simp only [Act.put, List.setIfInBounds_toArray, List.set_cons_zero, List.set_cons_succ, i64_w, i32_w]
  rfl
 refine pure_ (i := 38) (N := some 49) (v := ?_) (a' := ?_) #[true, true, true, true, true, true, true, true, true, true, true, true, true, true, true, true, true, true, true, true, true, true, true, true, true, true, true, true, true, true, true, true, true, true, true, true, true, true, true, true, true, false, false, false, false] rfl rfl (any_of HT_.out (by kernel_rfl)) (fun _ _ _ h => h) (Or.inl ⟨by rfl, ?_⟩) ?_ ?_
 rotate_left
 ·
  intro w'
  go_simp
  with_reducible rfl
 rotate_left
 ·
  simp only [Act.put, List.setIfInBounds_toArray, List.set_cons_zero, List.set_cons_succ, i64_w, i32_w]
  rfl
 refine one_ (i := 41) (N := some 52) #[true, true, true, true, true, true, true, true, true, true, true, true, true, true, true, true, true, true, true, true, true, true, true, true, true, true, true, true, true, true, true, true, true, true, true, true, true, true, true, true, true, true, false, false, false] rfl rfl (one_of HT_.out (by kernel_rfl)) (by decide) (fun K hK => ?_)
 refine goes_ Tryz.func74 (by kernel_rfl) rfl #[.agg #[.string a0_10, .int .i64 a0_11]] (by rfl) rfl rfl (by (try simp only [List.map_toArray, List.map_cons, List.map_nil]); first | done | rfl | (simp only [List.length_drop, List.length_take]; rfl)) ?_
 with_reducible refine (post_sum.calls a0_10 a0_11 t148 _ ?sideG A7.out).mono ?_
 case sideG => exact glob_below HGL.out (by repeat (first | (with_reducible first | exact HB.out | apply below_alloc | apply pw_below_drewN | apply below_drew1) | exact HB.out))
 rintro e w15 ⟨rfl, hb⟩
 refine ⟨_, rfl, ?_⟩
 have n0_ := Aside0.mk (blk_below (g := gb142) (o := .cells #[.string a0_0, .string a0_1, .int .i64 a0_2, .int .i64 a0_3, .int .i64 a0_4, .string a0_5, .string a0_6, .string a0_7, .int .i64 a0_8, .int .i64 a0_9, .string a0_10, .int .i64 a0_11, .slice A0_12 l0_12.length c0_12, .slice A0_13 l0_13.length c0_13] 33 (0, 0)) (by (with_reducible repeat (first | refine blk_drewN ?_ _ | refine blk_drew ?_ | refine blk_alloc ?_ _)); exact BK142.out) hb)
 have n1_ := Aside0.mk (below_step (by repeat (first | (with_reducible first | exact HB.out | apply below_alloc | apply pw_below_drewN | apply below_drew1 | refine below_set ?_ GE142.out) | exact HB.out)) hb)
 clear BK142
 clear HB
 have BK142 := n0_
 have HB := n1_
 clear n0_ n1_
 (try clear hb)
 (try clear hb2)
 (try clear hk)
 (try clear hi)
 refine hK.out _ _ ⟨(blk_cell BK142.out 0).trans rfl, (blk_cell BK142.out 1).trans rfl, (blk_cell BK142.out 2).trans rfl, (blk_cell BK142.out 3).trans rfl, (blk_cell BK142.out 4).trans rfl, (blk_cell BK142.out 5).trans rfl, (blk_cell BK142.out 6).trans rfl, (blk_cell BK142.out 7).trans rfl, (blk_cell BK142.out 8).trans rfl, (blk_cell BK142.out 9).trans rfl, (blk_cell BK142.out 10).trans rfl, (blk_cell BK142.out 11).trans rfl, (blk_cell BK142.out 12).trans rfl, (blk_cell BK142.out 13).trans rfl⟩ (fun hHeld => ?_)
 clear hK K
 refine norm_ (a' := ?_) ?_ ?_
 rotate_left
 ·
  show Act.put _ (some 52) _ = _
  simp only [Act.put, List.setIfInBounds_toArray, List.set_cons_zero, List.set_cons_succ, i64_w, i32_w]
  rfl
 refine pure_ (i := 42) (N := some 53) (v := ?_) (a' := ?_) #[true, true, true, true, true, true, true, true, true, true, true, true, true, true, true, true, true, true, true, true, true, true, true, true, true, true, true, true, true, true, true, true, true, true, true, true, true, true, true, true, true, true, true, false, false] rfl rfl (any_of HT_.out (by kernel_rfl)) (fun _ _ _ h => h) (Or.inl ⟨by rfl, ?_⟩) ?_ ?_
 rotate_left
 ·
  intro w'
  go_simp
  with_reducible rfl
 rotate_left
 ·
  simp only [Act.put, List.setIfInBounds_toArray, List.set_cons_zero, List.set_cons_succ, i64_w, i32_w]
  rfl
 refine one_ (i := 43) (N := some 54) #[true, true, true, true, true, true, true, true, true, true, true, true, true, true, true, true, true, true, true, true, true, true, true, true, true, true, true, true, true, true, true, true, true, true, true, true, true, true, true, true, true, true, true, true, false] rfl rfl (one_of HT_.out (by kernel_rfl)) (by decide) (fun K hK => ?_)
 refine Kd.R_lit_step k43 _ 43 ?hg (N := 54) ?hd (xs := ([(⟨(⟨#[102, 114, 111, 109]⟩ : ByteArray), a0_0⟩ : S43), (⟨(⟨#[116, 111]⟩ : ByteArray), a0_1⟩ : S43), (⟨(⟨#[110, 117, 109, 98, 101, 114]⟩ : ByteArray), t143⟩ : S43), (⟨(⟨#[107, 105, 110, 100]⟩ : ByteArray), t144⟩ : S43), (⟨(⟨#[97, 99, 107]⟩ : ByteArray), t145⟩ : S43), (⟨(⟨#[100, 101, 97, 108]⟩ : ByteArray), a0_5⟩ : S43), (⟨(⟨#[116, 101, 120, 116]⟩ : ByteArray), a0_6⟩ : S43), (⟨(⟨#[112, 97, 114, 116, 121]⟩ : ByteArray), a0_7⟩ : S43), (⟨(⟨#[105, 110, 100, 101, 120]⟩ : ByteArray), t146⟩ : S43), (⟨(⟨#[100, 97, 121]⟩ : ByteArray), t147⟩ : S43), (⟨(⟨#[115, 117, 109]⟩ : ByteArray), t148⟩ : S43)] : List (S43))) (inner := [.string (⟨#[102, 114, 111, 109]⟩ : ByteArray), .string a0_0, .string (⟨#[116, 111]⟩ : ByteArray), .string a0_1, .string (⟨#[110, 117, 109, 98, 101, 114]⟩ : ByteArray), .string t143, .string (⟨#[107, 105, 110, 100]⟩ : ByteArray), .string t144, .string (⟨#[97, 99, 107]⟩ : ByteArray), .string t145, .string (⟨#[100, 101, 97, 108]⟩ : ByteArray), .string a0_5, .string (⟨#[116, 101, 120, 116]⟩ : ByteArray), .string a0_6, .string (⟨#[112, 97, 114, 116, 121]⟩ : ByteArray), .string a0_7, .string (⟨#[105, 110, 100, 101, 120]⟩ : ByteArray), .string t146, .string (⟨#[100, 97, 121]⟩ : ByteArray), .string t147, .string (⟨#[115, 117, 109]⟩ : ByteArray), .string t148]) (ok := fun _ => True) (okp := fun _ => True) ?hr ?hp (fun _ hk => hk) trivial (Below.refl _ _) (Nat.le_refl _) (by simp) ?_; (case hd => rfl); (case hg => rfl); (case hr => first | (go_simp; done) | (go_simp; rfl)); (case hp => exact (Reps.c2 (show Kd.M k43 _ _ _ (⟨(⟨#[102, 114, 111, 109]⟩ : ByteArray), a0_0⟩ : S43) [.string (⟨#[102, 114, 111, 109]⟩ : ByteArray), .string a0_0] from (k43_mkM _ _ _ (⟨(⟨#[102, 114, 111, 109]⟩ : ByteArray), a0_0⟩ : S43) )) (Reps.c2 (show Kd.M k43 _ _ _ (⟨(⟨#[116, 111]⟩ : ByteArray), a0_1⟩ : S43) [.string (⟨#[116, 111]⟩ : ByteArray), .string a0_1] from (k43_mkM _ _ _ (⟨(⟨#[116, 111]⟩ : ByteArray), a0_1⟩ : S43) )) (Reps.c2 (show Kd.M k43 _ _ _ (⟨(⟨#[110, 117, 109, 98, 101, 114]⟩ : ByteArray), t143⟩ : S43) [.string (⟨#[110, 117, 109, 98, 101, 114]⟩ : ByteArray), .string t143] from (k43_mkM _ _ _ (⟨(⟨#[110, 117, 109, 98, 101, 114]⟩ : ByteArray), t143⟩ : S43) )) (Reps.c2 (show Kd.M k43 _ _ _ (⟨(⟨#[107, 105, 110, 100]⟩ : ByteArray), t144⟩ : S43) [.string (⟨#[107, 105, 110, 100]⟩ : ByteArray), .string t144] from (k43_mkM _ _ _ (⟨(⟨#[107, 105, 110, 100]⟩ : ByteArray), t144⟩ : S43) )) (Reps.c2 (show Kd.M k43 _ _ _ (⟨(⟨#[97, 99, 107]⟩ : ByteArray), t145⟩ : S43) [.string (⟨#[97, 99, 107]⟩ : ByteArray), .string t145] from (k43_mkM _ _ _ (⟨(⟨#[97, 99, 107]⟩ : ByteArray), t145⟩ : S43) )) (Reps.c2 (show Kd.M k43 _ _ _ (⟨(⟨#[100, 101, 97, 108]⟩ : ByteArray), a0_5⟩ : S43) [.string (⟨#[100, 101, 97, 108]⟩ : ByteArray), .string a0_5] from (k43_mkM _ _ _ (⟨(⟨#[100, 101, 97, 108]⟩ : ByteArray), a0_5⟩ : S43) )) (Reps.c2 (show Kd.M k43 _ _ _ (⟨(⟨#[116, 101, 120, 116]⟩ : ByteArray), a0_6⟩ : S43) [.string (⟨#[116, 101, 120, 116]⟩ : ByteArray), .string a0_6] from (k43_mkM _ _ _ (⟨(⟨#[116, 101, 120, 116]⟩ : ByteArray), a0_6⟩ : S43) )) (Reps.c2 (show Kd.M k43 _ _ _ (⟨(⟨#[112, 97, 114, 116, 121]⟩ : ByteArray), a0_7⟩ : S43) [.string (⟨#[112, 97, 114, 116, 121]⟩ : ByteArray), .string a0_7] from (k43_mkM _ _ _ (⟨(⟨#[112, 97, 114, 116, 121]⟩ : ByteArray), a0_7⟩ : S43) )) (Reps.c2 (show Kd.M k43 _ _ _ (⟨(⟨#[105, 110, 100, 101, 120]⟩ : ByteArray), t146⟩ : S43) [.string (⟨#[105, 110, 100, 101, 120]⟩ : ByteArray), .string t146] from (k43_mkM _ _ _ (⟨(⟨#[105, 110, 100, 101, 120]⟩ : ByteArray), t146⟩ : S43) )) (Reps.c2 (show Kd.M k43 _ _ _ (⟨(⟨#[100, 97, 121]⟩ : ByteArray), t147⟩ : S43) [.string (⟨#[100, 97, 121]⟩ : ByteArray), .string t147] from (k43_mkM _ _ _ (⟨(⟨#[100, 97, 121]⟩ : ByteArray), t147⟩ : S43) )) (Reps.c2 (show Kd.M k43 _ _ _ (⟨(⟨#[115, 117, 109]⟩ : ByteArray), t148⟩ : S43) [.string (⟨#[115, 117, 109]⟩ : ByteArray), .string t148] from (k43_mkM _ _ _ (⟨(⟨#[115, 117, 109]⟩ : ByteArray), t148⟩ : S43) )) (Reps.none _ _)))))))))))))
 intro v150 w16 ho17 hb hg_ hnew_
 clear hg_ hnew_
 (first | rw [← Ny149.out] at ho17 | (simp only [Int.reduceToNat] at ho17; rw [← Ny149.out] at ho17))
 have n0_ := Aside0.mk (Kd.R_lower ho17 (below_size (by repeat (first | (with_reducible first | exact HB.out | apply below_alloc | apply pw_below_drewN | apply below_drew1 | refine below_set ?_ GE142.out) | exact HB.out))))
 have n1_ := Aside0.mk (blk_below (g := gb142) (o := .cells #[.string a0_0, .string a0_1, .int .i64 a0_2, .int .i64 a0_3, .int .i64 a0_4, .string a0_5, .string a0_6, .string a0_7, .int .i64 a0_8, .int .i64 a0_9, .string a0_10, .int .i64 a0_11, .slice A0_12 l0_12.length c0_12, .slice A0_13 l0_13.length c0_13] 33 (0, 0)) (by (with_reducible repeat (first | refine blk_drewN ?_ _ | refine blk_drew ?_ | refine blk_alloc ?_ _)); exact BK142.out) hb)
 have n2_ := Aside0.mk (below_step (by repeat (first | (with_reducible first | exact HB.out | apply below_alloc | apply pw_below_drewN | apply below_drew1 | refine below_set ?_ GE142.out) | exact HB.out)) hb)
 clear BK142
 clear HB
 have HO151 := n0_
 have BK142 := n1_
 have HB := n2_
 clear n0_ n1_ n2_
 clear hb ho17
 refine hK.out _ _ ⟨(blk_cell BK142.out 0).trans rfl, (blk_cell BK142.out 1).trans rfl, (blk_cell BK142.out 2).trans rfl, (blk_cell BK142.out 3).trans rfl, (blk_cell BK142.out 4).trans rfl, (blk_cell BK142.out 5).trans rfl, (blk_cell BK142.out 6).trans rfl, (blk_cell BK142.out 7).trans rfl, (blk_cell BK142.out 8).trans rfl, (blk_cell BK142.out 9).trans rfl, (blk_cell BK142.out 10).trans rfl, (blk_cell BK142.out 11).trans rfl, (blk_cell BK142.out 12).trans rfl, (blk_cell BK142.out 13).trans rfl⟩ (fun hHeld => ?_)
 clear hK K
 refine norm_ (a' := ?_) ?_ ?_
 rotate_left
 ·
  show Act.put _ (some 54) _ = _
  simp only [Act.put, List.setIfInBounds_toArray, List.set_cons_zero, List.set_cons_succ, i64_w, i32_w]
  rfl
 refine pure_ (i := 44) (N := some 4) (v := ?_) (a' := ?_) #[true, true, true, true, true, true, true, true, true, true, true, true, true, true, true, true, true, true, true, true, true, true, true, true, true, true, true, true, true, true, true, true, true, true, true, true, true, true, true, true, true, true, true, true, true] rfl rfl (any_of HT_.out (by kernel_rfl)) (fun _ _ _ h => h) (Or.inl ⟨by rfl, ?_⟩) ?_ ?_
 rotate_left
 ·
  intro w'
  go_simp
  with_reducible rfl
 rotate_left
 ·
  simp only [Act.put, List.setIfInBounds_toArray, List.set_cons_zero, List.set_cons_succ, i64_w, i32_w]
  rfl
 refine done_ (done_of HT_.out (by kernel_rfl)) ?_
 have hcz18_0 : w16.cell? ⟨gb142, 0, none⟩ = some (.string a0_0) := (blk_cell BK142.out 0).trans rfl
 have hcz18_1 : w16.cell? ⟨gb142, 1, none⟩ = some (.string a0_1) := (blk_cell BK142.out 1).trans rfl
 have hcz18_2 : w16.cell? ⟨gb142, 2, none⟩ = some (.int .i64 a0_2) := (blk_cell BK142.out 2).trans rfl
 have hcz18_3 : w16.cell? ⟨gb142, 3, none⟩ = some (.int .i64 a0_3) := (blk_cell BK142.out 3).trans rfl
 have hcz18_4 : w16.cell? ⟨gb142, 4, none⟩ = some (.int .i64 a0_4) := (blk_cell BK142.out 4).trans rfl
 have hcz18_5 : w16.cell? ⟨gb142, 5, none⟩ = some (.string a0_5) := (blk_cell BK142.out 5).trans rfl
 have hcz18_6 : w16.cell? ⟨gb142, 6, none⟩ = some (.string a0_6) := (blk_cell BK142.out 6).trans rfl
 have hcz18_7 : w16.cell? ⟨gb142, 7, none⟩ = some (.string a0_7) := (blk_cell BK142.out 7).trans rfl
 have hcz18_8 : w16.cell? ⟨gb142, 8, none⟩ = some (.int .i64 a0_8) := (blk_cell BK142.out 8).trans rfl
 have hcz18_9 : w16.cell? ⟨gb142, 9, none⟩ = some (.int .i64 a0_9) := (blk_cell BK142.out 9).trans rfl
 have hcz18_10 : w16.cell? ⟨gb142, 10, none⟩ = some (.string a0_10) := (blk_cell BK142.out 10).trans rfl
 have hcz18_11 : w16.cell? ⟨gb142, 11, none⟩ = some (.int .i64 a0_11) := (blk_cell BK142.out 11).trans rfl
 have hcz18_12 : w16.cell? ⟨gb142, 12, none⟩ = some (.slice A0_12 l0_12.length c0_12) := (blk_cell BK142.out 12).trans rfl
 have hcz18_13 : w16.cell? ⟨gb142, 13, none⟩ = some (.slice A0_13 l0_13.length c0_13) := (blk_cell BK142.out 13).trans rfl
 have hfz18_0 := blk_frozen BK142.out 0
 have hfz18_1 := blk_frozen BK142.out 1
 have hfz18_2 := blk_frozen BK142.out 2
 have hfz18_3 := blk_frozen BK142.out 3
 have hfz18_4 := blk_frozen BK142.out 4
 have hfz18_5 := blk_frozen BK142.out 5
 have hfz18_6 := blk_frozen BK142.out 6
 have hfz18_7 := blk_frozen BK142.out 7
 have hfz18_8 := blk_frozen BK142.out 8
 have hfz18_9 := blk_frozen BK142.out 9
 have hfz18_10 := blk_frozen BK142.out 10
 have hfz18_11 := blk_frozen BK142.out 11
 have hfz18_12 := blk_frozen BK142.out 12
 have hfz18_13 := blk_frozen BK142.out 13
 try go_wp2
 go_loopg [4, 58] k (fun kq v4 v58 w' => ∃ (x4_1 : List (S43)) (x58_1 : Int), v58 = .int .i64 x58_1 ∧ Aside0 (post_record.l0 kq x4_1 l0_12 (l0_12.length : Int) x58_1 a0_0 a0_1 a0_2 a0_3 a0_4 a0_5 a0_6 a0_7 a0_8 a0_9 a0_10 a0_11 l0_12 l0_13 = some r) ∧ Aside0 (kq ≤ k) ∧ Aside0 (Kd.R k43 43 w' w.heap.size (fun _ => True) v4 x4_1) ∧ Aside0 (w'.heap[gb142]? = some (.cells #[.string a0_0, .string a0_1, .int .i64 a0_2, .int .i64 a0_3, .int .i64 a0_4, .string a0_5, .string a0_6, .string a0_7, .int .i64 a0_8, .int .i64 a0_9, .string a0_10, .int .i64 a0_11, (.slice A0_12 l0_12.length c0_12), (.slice A0_13 l0_13.length c0_13)] 33 (0, 0))) ∧ Aside0 (Below w.heap.size w w'))
 case atStart => exact ⟨(y149), (0), (by first | rfl | (simp; done) | (simp [*]; done)), H', ⟨Nat.le_refl _⟩, ⟨by (with_reducible repeat (first | apply Kd.R_alloc | apply Kd.R_drewN | apply Kd.R_drew)); exact HO151.out⟩, ⟨by (with_reducible repeat (first | refine blk_drewN ?_ _ | refine blk_drew ?_ | refine blk_alloc ?_ _)); exact BK142.out⟩, ⟨by repeat (first | (with_reducible first | exact HB.out | apply below_alloc | apply pw_below_drewN | apply below_drew1 | refine below_set ?_ GE142.out) | exact HB.out)⟩⟩
 case round =>
  clear H'
  try clear c1
  try clear c2
  try clear p2
  try clear c5
  try clear c7
  try clear c12
  try clear hcz18_0
  try clear hcz18_1
  try clear hcz18_10
  try clear hcz18_11
  try clear hcz18_12
  try clear hcz18_13
  try clear hcz18_2
  try clear hcz18_3
  try clear hcz18_4
  try clear hcz18_5
  try clear hcz18_6
  try clear hcz18_7
  try clear hcz18_8
  try clear hcz18_9
  try clear hfz18_0
  try clear hfz18_1
  try clear hfz18_10
  try clear hfz18_11
  try clear hfz18_12
  try clear hfz18_13
  try clear hfz18_2
  try clear hfz18_3
  try clear hfz18_4
  try clear hfz18_5
  try clear hfz18_6
  try clear hfz18_7
  try clear hfz18_8
  try clear hfz18_9
  obtain ⟨x4_1, x58_1, rfl, HA, HK1, HO_4, BK142, HB⟩ := hrel
  cases gk with
  | zero => exact absurd HA.out (by simp [post_record.l0])
  | succ k1 =>
   have H := HA.out
   clear HA
   simp only [post_record.l0] at H
   by_cases c19 : x58_1 < (l0_12.length : Int)
   ·
    rw [if_pos c19] at H
    have c19b0 : decide (x58_1 < (l0_12.length : Int)) = true := decide_eq_true c19
    clear c19
    by_cases c20 : 0 ≤ x58_1
    ·
     rw [if_pos c20] at H
     have c20b0 : decide (0 ≤ x58_1) = true := decide_eq_true c20
     clear c20
     by_cases c21 : x58_1 < (l0_12.length : Int)
     ·
      rw [if_pos c21] at H
      have c21b0 : decide (x58_1 < (l0_12.length : Int)) = true := decide_eq_true c21
      clear c21
      replace H := Option.bind_eq_some_iff.mp H
      obtain ⟨⟨t154, t155⟩, A220, H⟩ := H
      replace H : (if x4_1.length < 4398046511104 then (post_record.l0 k1 (x4_1 ++ [(⟨(⟨#[100, 111, 99]⟩ : ByteArray), t154⟩ : S43)]) l0_12 (l0_12.length : Int) (wrap64 (x58_1 + 1)) a0_0 a0_1 a0_2 a0_3 a0_4 a0_5 a0_6 a0_7 a0_8 a0_9 a0_10 a0_11 l0_12 l0_13) else (none)) = some r := H
      have A22 := Aside0.mk A220
      clear A220
      by_cases c23 : x4_1.length < 4398046511104
      ·
       rw [if_pos c23] at H
       have LMc23 := Aside0.mk c23
       clear c23
       obtain ⟨y156, hy156⟩ : ∃ y_ : List (S43), y_ = (x4_1 ++ [(⟨(⟨#[100, 111, 99]⟩ : ByteArray), t154⟩ : S43)]) := ⟨_, rfl⟩
       replace H : (post_record.l0 k1 y156 l0_12 (l0_12.length : Int) (wrap64 (x58_1 + 1)) a0_0 a0_1 a0_2 a0_3 a0_4 a0_5 a0_6 a0_7 a0_8 a0_9 a0_10 a0_11 l0_12 l0_13) = some r := by first | (rw [hy156]; with_reducible exact H) | (have H2_ := (Option.bind_some _ _).symm.trans H; rw [hy156]; with_reducible exact H2_) | (have H2_ := (Option.bind_some _ _).symm.trans H; with_reducible exact H2_) | with_reducible exact H | (rw [hy156]; exact H) | exact H
       have Ny156 := Aside0.mk hy156
       clear hy156
       have H' := Aside0.mk H
       clear H
       have p152 : 0 ≤ (x58_1 : Int) := of_decide_eq_true (by first | (with_reducible assumption) | assumption)
       have q152 : x58_1 < (l0_12.length : Int) := of_decide_eq_true (by first | (with_reducible assumption) | assumption)
       obtain ⟨ad152, A152_3, c152_3, e152, hx152_0, hx152_1, hx152_2, hx152_3, hl152_3, hi152_3⟩ := at_T38 HR0_12.out x58_1 p152 q152
       cases e152
       replace hx152_0 := (HB.out.cell (World.block_lt_of_cell? w _ hx152_0)).trans hx152_0
       replace hx152_1 := (HB.out.cell (World.block_lt_of_cell? w _ hx152_1)).trans hx152_1
       replace hx152_2 := (HB.out.cell (World.block_lt_of_cell? w _ hx152_2)).trans hx152_2
       replace hx152_3 := (HB.out.cell (World.block_lt_of_cell? w _ hx152_3)).trans hx152_3
       have HR152_3 := Aside0.mk hi152_3
       have HC152_3 := Aside0.mk hl152_3
       clear hi152_3 hl152_3
       replace p152 := eq_true p152
       replace q152 := eq_true q152
       go_wp2_with (first | ((with_reducible refine gate_dst (N := 6) rfl ?_); refine box_event ?hg (N := 6) ?hd (cs := #[.int .i64 0, .string (⟨#[]⟩ : ByteArray), .string (⟨#[]⟩ : ByteArray), .slice none 0 0]) (t := 38) ?hr ?_; (case hd => rfl); (case hg => rfl); (case hr => first | (go_simp; done) | (go_simp; rfl)); intro gb153 hg w24 hbox hb; have n0_ := Aside0.mk (Kd.R_below (by (with_reducible repeat (first | apply Kd.R_alloc | apply Kd.R_drewN | apply Kd.R_drew)); exact HO_4.out) hb); have n1_ := Aside0.mk (blk_below (g := gb142) (o := .cells #[.string a0_0, .string a0_1, .int .i64 a0_2, .int .i64 a0_3, .int .i64 a0_4, .string a0_5, .string a0_6, .string a0_7, .int .i64 a0_8, .int .i64 a0_9, .string a0_10, .int .i64 a0_11, .slice (some ad152) l0_12.length c0_12, .slice A0_13 l0_13.length c0_13] 33 (0, 0)) (by (with_reducible repeat (first | refine blk_drewN ?_ _ | refine blk_drew ?_ | refine blk_alloc ?_ _)); exact BK142.out) hb); have n2_ := Aside0.mk (below_step (by repeat (first | (with_reducible first | exact HB.out | apply below_alloc | apply pw_below_drewN | apply below_drew1 | refine below_set ?_ GE142.out) | exact HB.out)) hb); have n3_ := Aside0.mk (hbox); have n4_ := Aside0.mk ((by rw [hg]; exact (below_size (by repeat (first | (with_reducible first | exact HB.out | apply below_alloc | apply pw_below_drewN | apply below_drew1 | refine below_set ?_ GE142.out) | exact HB.out))) : w.heap.size ≤ gb153)); have n5_ := Aside0.mk ((by rw [hg]; exact (below_size (by repeat (first | (with_reducible first | exact HB.out | apply below_alloc | apply pw_below_drewN | apply below_drew1 | refine below_set ?_ GE142.out) | exact HB.out))) : w.heap.size ≤ gb153)); have n6_ := Aside0.mk ((by rw [hg]; exact Nat.ne_of_lt (blk_lt (g := gb142) (o := .cells #[.string a0_0, .string a0_1, .int .i64 a0_2, .int .i64 a0_3, .int .i64 a0_4, .string a0_5, .string a0_6, .string a0_7, .int .i64 a0_8, .int .i64 a0_9, .string a0_10, .int .i64 a0_11, .slice (some ad152) l0_12.length c0_12, .slice A0_13 l0_13.length c0_13] 33 (0, 0)) (by (with_reducible repeat (first | refine blk_drewN ?_ _ | refine blk_drew ?_ | refine blk_alloc ?_ _)); exact BK142.out)) : gb142 ≠ gb153)); have n7_ := Aside0.mk ((by rw [hg]; exact Nat.ne_of_gt (blk_lt (g := gb142) (o := .cells #[.string a0_0, .string a0_1, .int .i64 a0_2, .int .i64 a0_3, .int .i64 a0_4, .string a0_5, .string a0_6, .string a0_7, .int .i64 a0_8, .int .i64 a0_9, .string a0_10, .int .i64 a0_11, .slice (some ad152) l0_12.length c0_12, .slice A0_13 l0_13.length c0_13] 33 (0, 0)) (by (with_reducible repeat (first | refine blk_drewN ?_ _ | refine blk_drew ?_ | refine blk_alloc ?_ _)); exact BK142.out)) : gb153 ≠ gb142)); clear HO_4; clear BK142; clear HB; have HO_4 := n0_; have BK142 := n1_; have HB := n2_; have BK153 := n3_; have GW153 := n4_; have GE153 := n5_; have NB142_153 := n6_; have NB153_142 := n7_; clear n0_ n1_ n2_ n3_ n4_ n5_ n6_ n7_; clear hb hbox hg; have hnb25 := NB153_142.out; have hnc25 := NB142_153.out; have hcz26_0 : w24.cell? ⟨gb153, 0, none⟩ = some (.int .i64 0) := (blk_cell BK153.out 0).trans rfl; have hcz26_1 : w24.cell? ⟨gb153, 1, none⟩ = some (.string (⟨#[]⟩ : ByteArray)) := (blk_cell BK153.out 1).trans rfl; have hcz26_2 : w24.cell? ⟨gb153, 2, none⟩ = some (.string (⟨#[]⟩ : ByteArray)) := (blk_cell BK153.out 2).trans rfl; have hcz26_3 : w24.cell? ⟨gb153, 3, none⟩ = some (.slice none 0 0) := (blk_cell BK153.out 3).trans rfl; have hfz26_0 := blk_frozen BK153.out 0; have hfz26_1 := blk_frozen BK153.out 1; have hfz26_2 := blk_frozen BK153.out 2; have hfz26_3 := blk_frozen BK153.out 3) | ((with_reducible refine gate_callee (f := 68) rfl ?_); refine goesL_ (some 64) rfl rfl Tryz.func68 (by kernel_rfl) rfl #[.agg #[.int .i64 ((rd_T38 l0_12 x58_1).f0), .string ((rd_T38 l0_12 x58_1).f1), .string ((rd_T38 l0_12 x58_1).f2), .slice A152_3 ((rd_T38 l0_12 x58_1).f3).length c152_3]] rfl (by (try simp only [List.map_toArray, List.map_cons, List.map_nil]); first | done | rfl | (simp only [List.length_drop, List.length_take]; rfl)) ?_; (with_reducible refine (field_Doc.calls k1 ((rd_T38 l0_12 x58_1).f0) ((rd_T38 l0_12 x58_1).f1) ((rd_T38 l0_12 x58_1).f2) _ _ ((rd_T38 l0_12 x58_1).f3) t154 t155 _ ?side1 ?side2 A22.out).mono ?_); (case side1 => exact Kd.C_below HR152_3.out (by repeat (first | (with_reducible first | exact HB.out | apply below_alloc | apply pw_below_drewN | apply below_drew1 | refine below_set ?_ GE142.out | refine below_set ?_ GE153.out) | exact HB.out))); (case side2 => exact HC152_3.out); rintro e w27 ⟨rfl, hb⟩; refine ⟨_, rfl, ?_⟩; have n0_ := Aside0.mk (Kd.R_below (by (with_reducible repeat (first | apply Kd.R_alloc | apply Kd.R_drewN | apply Kd.R_drew)); exact (Kd.R_mono (Kd.R_far (p := ⟨gb153, 3, none⟩) (Kd.R_far (p := ⟨gb153, 2, none⟩) (Kd.R_far (p := ⟨gb153, 1, none⟩) (Kd.R_far (p := ⟨gb153, 0, none⟩) (Kd.R_types HO_4.out BK153.out (by decide)) (fun _ hk => hk.2) (.int .i64 ((rd_T38 l0_12 x58_1).f0))) (fun _ hk => hk.2) (.string ((rd_T38 l0_12 x58_1).f1))) (fun _ hk => hk.2) (.string ((rd_T38 l0_12 x58_1).f2))) (fun _ hk => hk.2) (.slice A152_3 ((rd_T38 l0_12 x58_1).f3).length c152_3)) (fun _ h_ => h_.1))) hb); have n1_ := Aside0.mk (blk_below (g := gb142) (o := .cells #[.string a0_0, .string a0_1, .int .i64 a0_2, .int .i64 a0_3, .int .i64 a0_4, .string a0_5, .string a0_6, .string a0_7, .int .i64 a0_8, .int .i64 a0_9, .string a0_10, .int .i64 a0_11, .slice (some ad152) l0_12.length c0_12, .slice A0_13 l0_13.length c0_13] 33 (0, 0)) (by (with_reducible repeat (first | refine blk_drewN ?_ _ | refine blk_drew ?_ | refine blk_alloc ?_ _)); refine blk_far ?_ NB142_153.out _; (with_reducible repeat (first | refine blk_drewN ?_ _ | refine blk_drew ?_ | refine blk_alloc ?_ _)); refine blk_far ?_ NB142_153.out _; (with_reducible repeat (first | refine blk_drewN ?_ _ | refine blk_drew ?_ | refine blk_alloc ?_ _)); refine blk_far ?_ NB142_153.out _; (with_reducible repeat (first | refine blk_drewN ?_ _ | refine blk_drew ?_ | refine blk_alloc ?_ _)); refine blk_far ?_ NB142_153.out _; (with_reducible repeat (first | refine blk_drewN ?_ _ | refine blk_drew ?_ | refine blk_alloc ?_ _)); exact BK142.out) hb); have n2_ := Aside0.mk (blk_below (g := gb153) (o := .cells #[.int .i64 ((rd_T38 l0_12 x58_1).f0), .string ((rd_T38 l0_12 x58_1).f1), .string ((rd_T38 l0_12 x58_1).f2), .slice A152_3 ((rd_T38 l0_12 x58_1).f3).length c152_3] 38 (0, 0)) (by (with_reducible repeat (first | refine blk_drewN ?_ _ | refine blk_drew ?_ | refine blk_alloc ?_ _)); refine blk_put (cs := #[.int .i64 ((rd_T38 l0_12 x58_1).f0), .string ((rd_T38 l0_12 x58_1).f1), .string ((rd_T38 l0_12 x58_1).f2), .slice none 0 0]) ?_ 3 _ rfl; (with_reducible repeat (first | refine blk_drewN ?_ _ | refine blk_drew ?_ | refine blk_alloc ?_ _)); refine blk_put (cs := #[.int .i64 ((rd_T38 l0_12 x58_1).f0), .string ((rd_T38 l0_12 x58_1).f1), .string (⟨#[]⟩ : ByteArray), .slice none 0 0]) ?_ 2 _ rfl; (with_reducible repeat (first | refine blk_drewN ?_ _ | refine blk_drew ?_ | refine blk_alloc ?_ _)); refine blk_put (cs := #[.int .i64 ((rd_T38 l0_12 x58_1).f0), .string (⟨#[]⟩ : ByteArray), .string (⟨#[]⟩ : ByteArray), .slice none 0 0]) ?_ 1 _ rfl; (with_reducible repeat (first | refine blk_drewN ?_ _ | refine blk_drew ?_ | refine blk_alloc ?_ _)); refine blk_put (cs := #[.int .i64 0, .string (⟨#[]⟩ : ByteArray), .string (⟨#[]⟩ : ByteArray), .slice none 0 0]) ?_ 0 _ rfl; (with_reducible repeat (first | refine blk_drewN ?_ _ | refine blk_drew ?_ | refine blk_alloc ?_ _)); exact BK153.out) hb); have n3_ := Aside0.mk (below_step (by repeat (first | (with_reducible first | exact HB.out | apply below_alloc | apply pw_below_drewN | apply below_drew1 | refine below_set ?_ GE142.out | refine below_set ?_ GE153.out) | exact HB.out)) hb); clear HO_4; clear BK142; clear BK153; clear HB; have HO_4 := n0_; have BK142 := n1_; have BK153 := n2_; have HB := n3_; clear n0_ n1_ n2_ n3_; (try clear hb); (try clear hb2); (try clear hk); (try clear hi)) | ((with_reducible refine gate_builtin (b := .append) (xs := #[.tmp 67, .tmp 70]) rfl ?_); at_builtin; refine Kd.R_append k43 (w0 := w) w.heap.size rfl (.tmp 67) (.tmp 70) 36 43 (.agg #[(.string ⟨#[]⟩), (.string ⟨#[]⟩)]) 32 rfl Tryz.underlying36 info43 rfl (by decide) (by omega) u4 x4_1 (⟨(⟨#[100, 111, 99]⟩ : ByteArray), t154⟩ : S43) [.string (⟨#[100, 111, 99]⟩ : ByteArray), .string t154] (fun _ => True) (fun _ => False) rfl rfl ?aP (fun _ hk => hk.elim) ?aF ?aO ?aB ?aS ?aL ?_; (case aP => exact k43_mkM _ _ _ (⟨(⟨#[100, 111, 99]⟩ : ByteArray), t154⟩ : S43)); (case aB => exact (by repeat (first | (with_reducible first | exact HB.out | apply below_alloc | apply pw_below_drewN | apply below_drew1 | refine below_set ?_ GE142.out | refine below_set ?_ GE153.out) | exact HB.out))); (case aF => exact (fun _ _ => trivial)); (case aO => exact (by (with_reducible repeat (first | apply Kd.R_alloc | apply Kd.R_drewN | apply Kd.R_drew)); exact HO_4.out)); (case aS => exact (below_size (by repeat (first | (with_reducible first | exact HB.out | apply below_alloc | apply pw_below_drewN | apply below_drew1 | refine below_set ?_ GE142.out | refine below_set ?_ GE153.out) | exact HB.out)))); (case aL => have := LMc23.out; omega); intro v157 w28 ho hb hg hat; rw [← Ny156.out] at ho; have n0_ := Aside0.mk (blk_grown (g := gb142) (o := .cells #[.string a0_0, .string a0_1, .int .i64 a0_2, .int .i64 a0_3, .int .i64 a0_4, .string a0_5, .string a0_6, .string a0_7, .int .i64 a0_8, .int .i64 a0_9, .string a0_10, .int .i64 a0_11, .slice (some ad152) l0_12.length c0_12, .slice A0_13 l0_13.length c0_13] 33 (0, 0)) (by (with_reducible repeat (first | refine blk_drewN ?_ _ | refine blk_drew ?_ | refine blk_alloc ?_ _)); exact BK142.out) hg (Kd.R_ne HO_4.out BK142.out (by decide))); have n1_ := Aside0.mk (blk_grown (g := gb153) (o := .cells #[.int .i64 ((rd_T38 l0_12 x58_1).f0), .string ((rd_T38 l0_12 x58_1).f1), .string ((rd_T38 l0_12 x58_1).f2), .slice A152_3 ((rd_T38 l0_12 x58_1).f3).length c152_3] 38 (0, 0)) (by (with_reducible repeat (first | refine blk_drewN ?_ _ | refine blk_drew ?_ | refine blk_alloc ?_ _)); exact BK153.out) hg (Kd.R_ne HO_4.out BK153.out (by decide))); have n2_ := Aside0.mk (hb); have n3_ := Aside0.mk (ho); clear BK142; clear BK153; clear HB; clear HO_4; have BK142 := n0_; have BK153 := n1_; have HB := n2_; have HO158 := n3_; clear n0_ n1_ n2_ n3_; clear ho hb hg hat))
       go_roundg k1
       case measure => have := HK1.out; omega
       case rel => exact ⟨(y156), (wrap64 (x58_1 + 1)), (by first | rfl | (simp; done) | (simp [*]; done)), H', ⟨by have := HK1.out; omega⟩, ⟨by (with_reducible repeat (first | apply Kd.R_alloc | apply Kd.R_drewN | apply Kd.R_drew)); exact HO158.out⟩, ⟨by (with_reducible repeat (first | refine blk_drewN ?_ _ | refine blk_drew ?_ | refine blk_alloc ?_ _)); exact BK142.out⟩, ⟨by repeat (first | (with_reducible first | exact HB.out | apply below_alloc | apply pw_below_drewN | apply below_drew1 | refine below_set ?_ GE142.out | refine below_set ?_ GE153.out) | exact HB.out)⟩⟩
      ·
       rw [if_neg c23] at H
       exact absurd H (by simp)
     ·
      rw [if_neg c21] at H
      exact absurd H (by simp)
    ·
     rw [if_neg c20] at H
     exact absurd H (by simp)
   ·
    rw [if_neg c19] at H
    have c19b0 : decide (x58_1 < (l0_12.length : Int)) = false := decide_eq_false c19
    clear c19
    have H' := Aside0.mk H
    clear H
    have hcz29_0 : wr.cell? ⟨gb142, 0, none⟩ = some (.string a0_0) := (blk_cell BK142.out 0).trans rfl
    have hcz29_1 : wr.cell? ⟨gb142, 1, none⟩ = some (.string a0_1) := (blk_cell BK142.out 1).trans rfl
    have hcz29_2 : wr.cell? ⟨gb142, 2, none⟩ = some (.int .i64 a0_2) := (blk_cell BK142.out 2).trans rfl
    have hcz29_3 : wr.cell? ⟨gb142, 3, none⟩ = some (.int .i64 a0_3) := (blk_cell BK142.out 3).trans rfl
    have hcz29_4 : wr.cell? ⟨gb142, 4, none⟩ = some (.int .i64 a0_4) := (blk_cell BK142.out 4).trans rfl
    have hcz29_5 : wr.cell? ⟨gb142, 5, none⟩ = some (.string a0_5) := (blk_cell BK142.out 5).trans rfl
    have hcz29_6 : wr.cell? ⟨gb142, 6, none⟩ = some (.string a0_6) := (blk_cell BK142.out 6).trans rfl
    have hcz29_7 : wr.cell? ⟨gb142, 7, none⟩ = some (.string a0_7) := (blk_cell BK142.out 7).trans rfl
    have hcz29_8 : wr.cell? ⟨gb142, 8, none⟩ = some (.int .i64 a0_8) := (blk_cell BK142.out 8).trans rfl
    have hcz29_9 : wr.cell? ⟨gb142, 9, none⟩ = some (.int .i64 a0_9) := (blk_cell BK142.out 9).trans rfl
    have hcz29_10 : wr.cell? ⟨gb142, 10, none⟩ = some (.string a0_10) := (blk_cell BK142.out 10).trans rfl
    have hcz29_11 : wr.cell? ⟨gb142, 11, none⟩ = some (.int .i64 a0_11) := (blk_cell BK142.out 11).trans rfl
    have hcz29_12 : wr.cell? ⟨gb142, 12, none⟩ = some (.slice A0_12 l0_12.length c0_12) := (blk_cell BK142.out 12).trans rfl
    have hcz29_13 : wr.cell? ⟨gb142, 13, none⟩ = some (.slice A0_13 l0_13.length c0_13) := (blk_cell BK142.out 13).trans rfl
    have hfz29_0 := blk_frozen BK142.out 0
    have hfz29_1 := blk_frozen BK142.out 1
    have hfz29_2 := blk_frozen BK142.out 2
    have hfz29_3 := blk_frozen BK142.out 3
    have hfz29_4 := blk_frozen BK142.out 4
    have hfz29_5 := blk_frozen BK142.out 5
    have hfz29_6 := blk_frozen BK142.out 6
    have hfz29_7 := blk_frozen BK142.out 7
    have hfz29_8 := blk_frozen BK142.out 8
    have hfz29_9 := blk_frozen BK142.out 9
    have hfz29_10 := blk_frozen BK142.out 10
    have hfz29_11 := blk_frozen BK142.out 11
    have hfz29_12 := blk_frozen BK142.out 12
    have hfz29_13 := blk_frozen BK142.out 13
    go_wp2
    go_loopg [4, 76] k1 (fun kq v4 v76 w' => ∃ (x4_2 : List (S43)) (x76_2 : Int), v76 = .int .i64 x76_2 ∧ Aside0 (post_record.l1 kq x4_2 l0_13 (l0_13.length : Int) x76_2 = some r) ∧ Aside0 (kq ≤ k1) ∧ Aside0 (Kd.R k43 43 w' w.heap.size (fun _ => True) v4 x4_2) ∧ Aside0 (w'.heap[gb142]? = some (.cells #[.string a0_0, .string a0_1, .int .i64 a0_2, .int .i64 a0_3, .int .i64 a0_4, .string a0_5, .string a0_6, .string a0_7, .int .i64 a0_8, .int .i64 a0_9, .string a0_10, .int .i64 a0_11, (.slice A0_12 l0_12.length c0_12), (.slice A0_13 l0_13.length c0_13)] 33 (0, 0))) ∧ Aside0 (Below w.heap.size w w'))
    case atStart => exact ⟨(x4_1), (0), (by first | rfl | (simp; done) | (simp [*]; done)), H', ⟨Nat.le_refl _⟩, ⟨by (with_reducible repeat (first | apply Kd.R_alloc | apply Kd.R_drewN | apply Kd.R_drew)); exact HO_4.out⟩, ⟨by (with_reducible repeat (first | refine blk_drewN ?_ _ | refine blk_drew ?_ | refine blk_alloc ?_ _)); exact BK142.out⟩, ⟨by repeat (first | (with_reducible first | exact HB.out | apply below_alloc | apply pw_below_drewN | apply below_drew1 | refine below_set ?_ GE142.out) | exact HB.out)⟩⟩
    case round =>
     clear H'
     try clear c1
     try clear p1
     try clear q1
     try clear hx1
     try clear c2
     try clear p2
     try clear c5
     try clear c6
     try clear p6
     try clear c7
     try clear c12
     try clear c15
     try clear p15
     try clear q15
     try clear hx15
     try clear c19
     try clear c19b0
     try clear c20
     try clear c20b0
     try clear c21
     try clear c21b0
     try clear c23
     try clear c25
     try clear hcz18_0
     try clear hcz18_1
     try clear hcz18_10
     try clear hcz18_11
     try clear hcz18_12
     try clear hcz18_13
     try clear hcz18_2
     try clear hcz18_3
     try clear hcz18_4
     try clear hcz18_5
     try clear hcz18_6
     try clear hcz18_7
     try clear hcz18_8
     try clear hcz18_9
     try clear hcz26_0
     try clear hcz26_1
     try clear hcz26_2
     try clear hcz26_3
     try clear hcz29_0
     try clear hcz29_1
     try clear hcz29_10
     try clear hcz29_11
     try clear hcz29_12
     try clear hcz29_13
     try clear hcz29_2
     try clear hcz29_3
     try clear hcz29_4
     try clear hcz29_5
     try clear hcz29_6
     try clear hcz29_7
     try clear hcz29_8
     try clear hcz29_9
     try clear hfz18_0
     try clear hfz18_1
     try clear hfz18_10
     try clear hfz18_11
     try clear hfz18_12
     try clear hfz18_13
     try clear hfz18_2
     try clear hfz18_3
     try clear hfz18_4
     try clear hfz18_5
     try clear hfz18_6
     try clear hfz18_7
     try clear hfz18_8
     try clear hfz18_9
     try clear hfz26_0
     try clear hfz26_1
     try clear hfz26_2
     try clear hfz26_3
     try clear hfz29_0
     try clear hfz29_1
     try clear hfz29_10
     try clear hfz29_11
     try clear hfz29_12
     try clear hfz29_13
     try clear hfz29_2
     try clear hfz29_3
     try clear hfz29_4
     try clear hfz29_5
     try clear hfz29_6
     try clear hfz29_7
     try clear hfz29_8
     try clear hfz29_9
     try clear hx152_0
     try clear hx152_1
     try clear hx152_2
     try clear hx152_3
     try clear p152
     try clear p2
     try clear q152
     obtain ⟨x4_2, x76_2, rfl, HA, HK2, HO_4, BK142, HB⟩ := hrel
     cases gk with
     | zero => exact absurd HA.out (by simp [post_record.l1])
     | succ k2 =>
      have H := HA.out
      clear HA
      simp only [post_record.l1] at H
      by_cases c30 : x76_2 < (l0_13.length : Int)
      ·
       rw [if_pos c30] at H
       have c30b0 : decide (x76_2 < (l0_13.length : Int)) = true := decide_eq_true c30
       clear c30
       by_cases c31 : 0 ≤ x76_2
       ·
        rw [if_pos c31] at H
        have c31b0 : decide (0 ≤ x76_2) = true := decide_eq_true c31
        clear c31
        by_cases c32 : x76_2 < (l0_13.length : Int)
        ·
         rw [if_pos c32] at H
         have c32b0 : decide (x76_2 < (l0_13.length : Int)) = true := decide_eq_true c32
         clear c32
         by_cases c33 : x4_2.length < 4398046511104
         ·
          rw [if_pos c33] at H
          have LMc33 := Aside0.mk c33
          clear c33
          obtain ⟨y160, hy160⟩ : ∃ y_ : List (S43), y_ = (x4_2 ++ [(⟨(⟨#[98, 111, 120]⟩ : ByteArray), rdOf ByteArray.empty l0_13 x76_2⟩ : S43)]) := ⟨_, rfl⟩
          replace H : (post_record.l1 k2 y160 l0_13 (l0_13.length : Int) (wrap64 (x76_2 + 1))) = some r := by first | (rw [hy160]; with_reducible exact H) | (have H2_ := (Option.bind_some _ _).symm.trans H; rw [hy160]; with_reducible exact H2_) | (have H2_ := (Option.bind_some _ _).symm.trans H; with_reducible exact H2_) | with_reducible exact H | (rw [hy160]; exact H) | exact H
          have Ny160 := Aside0.mk hy160
          clear hy160
          have H' := Aside0.mk H
          clear H
          have p159 : 0 ≤ (x76_2 : Int) := of_decide_eq_true (by first | (with_reducible assumption) | assumption)
          have q159 : x76_2 < (l0_13.length : Int) := of_decide_eq_true (by first | (with_reducible assumption) | assumption)
          obtain ⟨ad159, e159, hx159_0⟩ := Kd.at_string HR0_13.out x76_2 p159 q159
          cases e159
          replace hx159_0 := (HB.out.cell (World.block_lt_of_cell? w _ hx159_0)).trans hx159_0
          replace p159 := eq_true p159
          replace q159 := eq_true q159
          go_wp2_with (first | ((with_reducible refine gate_builtin (b := .append) (xs := #[.tmp 80, .tmp 83]) rfl ?_); at_builtin; refine Kd.R_append k43 (w0 := w) w.heap.size rfl (.tmp 80) (.tmp 83) 36 43 (.agg #[(.string ⟨#[]⟩), (.string ⟨#[]⟩)]) 32 rfl Tryz.underlying36 info43 rfl (by decide) (by omega) u4 x4_2 (⟨(⟨#[98, 111, 120]⟩ : ByteArray), rdOf ByteArray.empty l0_13 x76_2⟩ : S43) [.string (⟨#[98, 111, 120]⟩ : ByteArray), .string (rdOf ByteArray.empty l0_13 x76_2)] (fun _ => True) (fun _ => False) rfl rfl ?aP (fun _ hk => hk.elim) ?aF ?aO ?aB ?aS ?aL ?_; (case aP => exact k43_mkM _ _ _ (⟨(⟨#[98, 111, 120]⟩ : ByteArray), rdOf ByteArray.empty l0_13 x76_2⟩ : S43)); (case aB => exact (by repeat (first | (with_reducible first | exact HB.out | apply below_alloc | apply pw_below_drewN | apply below_drew1 | refine below_set ?_ GE142.out) | exact HB.out))); (case aF => exact (fun _ _ => trivial)); (case aO => exact (by (with_reducible repeat (first | apply Kd.R_alloc | apply Kd.R_drewN | apply Kd.R_drew)); exact HO_4.out)); (case aS => exact (below_size (by repeat (first | (with_reducible first | exact HB.out | apply below_alloc | apply pw_below_drewN | apply below_drew1 | refine below_set ?_ GE142.out) | exact HB.out)))); (case aL => have := LMc33.out; omega); intro v161 w34 ho hb hg hat; rw [← Ny160.out] at ho; have n0_ := Aside0.mk (blk_grown (g := gb142) (o := .cells #[.string a0_0, .string a0_1, .int .i64 a0_2, .int .i64 a0_3, .int .i64 a0_4, .string a0_5, .string a0_6, .string a0_7, .int .i64 a0_8, .int .i64 a0_9, .string a0_10, .int .i64 a0_11, .slice A0_12 l0_12.length c0_12, .slice (some ad159) l0_13.length c0_13] 33 (0, 0)) (by (with_reducible repeat (first | refine blk_drewN ?_ _ | refine blk_drew ?_ | refine blk_alloc ?_ _)); exact BK142.out) hg (Kd.R_ne HO_4.out BK142.out (by decide))); have n1_ := Aside0.mk (hb); have n2_ := Aside0.mk (ho); clear BK142; clear HB; clear HO_4; have BK142 := n0_; have HB := n1_; have HO162 := n2_; clear n0_ n1_ n2_; clear ho hb hg hat))
          go_roundg k2
          case measure => have := HK1.out; have := HK2.out; omega
          case rel => exact ⟨(y160), (wrap64 (x76_2 + 1)), (by first | rfl | (simp; done) | (simp [*]; done)), H', ⟨by have := HK1.out; have := HK2.out; omega⟩, ⟨by (with_reducible repeat (first | apply Kd.R_alloc | apply Kd.R_drewN | apply Kd.R_drew)); exact HO162.out⟩, ⟨by (with_reducible repeat (first | refine blk_drewN ?_ _ | refine blk_drew ?_ | refine blk_alloc ?_ _)); exact BK142.out⟩, ⟨by repeat (first | (with_reducible first | exact HB.out | apply below_alloc | apply pw_below_drewN | apply below_drew1 | refine below_set ?_ GE142.out) | exact HB.out)⟩⟩
         ·
          rw [if_neg c33] at H
          exact absurd H (by simp)
        ·
         rw [if_neg c32] at H
         exact absurd H (by simp)
       ·
        rw [if_neg c31] at H
        exact absurd H (by simp)
      ·
       rw [if_neg c30] at H
       have c30b0 : decide (x76_2 < (l0_13.length : Int)) = false := decide_eq_false c30
       clear c30
       obtain rfl := Option.some.inj H
       go_wp2
       go_ret
       exact ⟨_, by first | rfl | (simp [errW_none, errW_some] <;> rfl) | (simp [*, errW_none, errW_some] <;> rfl), by (with_reducible repeat (first | apply Kd.R_alloc | apply Kd.R_drewN | apply Kd.R_drew)); exact HO_4.out, by repeat (first | (with_reducible first | exact HB.out | apply below_alloc | apply pw_below_drewN | apply below_drew1 | refine below_set ?_ GE142.out) | exact HB.out)⟩
end Go.Proofs.YtkblmomfiimkiaaGreatDoor.P
end
