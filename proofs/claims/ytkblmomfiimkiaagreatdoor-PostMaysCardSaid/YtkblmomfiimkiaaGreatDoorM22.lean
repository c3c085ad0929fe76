/- What the claim's theorem leans on. Conditions: none of its own. (Written by prune.py out of the texts Px44, without what the claim doesn't lean on.) -/
import Derived.Test.YtkblmomfiimkiaaGreatDoorM2
import Derived.Test.YtkblmomfiimkiaaGreatDoorM15
import Derived.Test.YtkblmomfiimkiaaGreatDoorM16
import Derived.Test.YtkblmomfiimkiaaGreatDoorM17
import Derived.Test.YtkblmomfiimkiaaGreatDoorM20
import Derived.Test.YtkblmomfiimkiaaGreatDoorM21
section
namespace Go.Proofs.YtkblmomfiimkiaaGreatDoor.P
open Go.RowKit Go.Proofs.YtkblmomfiimkiaaGreatDoorW.PrintWords Go.Proofs.YtkblmomfiimkiaaGreatDoorW.PrintLast Go.Proofs.YtkblmomfiimkiaaGreatDoorW.PrintMore
attribute [local go_sem] max2_int min2_int max_two min_two max_three min_three max_four min_four   -- for this text's walks alone
set_option linter.unusedVariables false
set_option linter.unusedSimpArgs false
mutual
noncomputable def supercargoref09_Fields.j0 : Nat → ByteArray → ByteArray → ByteArray → Int → Int → Int → ByteArray → ByteArray → ByteArray → Int → Int → ByteArray → Int → List (S38) → List ByteArray → Option ((List (S43)))
 | 0, _, _, _, _, _, _, _, _, _, _, _, _, _, _, _ => none
 | k + 1, x3, x290000, x290001, x290002, x290003, x290004, x290005, x290006, x290007, x290008, x290009, x290010, x290011, x290012, x290013 => (supercargoref09_number.f k (⟨#[110, 117, 109, 98, 101, 114]⟩ : ByteArray) x290002).bind fun bt293 => ((supercargoref09_Names.f).bind fun t295 => (if 0 ≤ x290003 then (if x290003 < (t295.length : Int) then ((supercargoref09_number.f k (⟨#[97, 99, 107]⟩ : ByteArray) x290004).bind fun bt299 => ((supercargoref09_number.f k (⟨#[105, 110, 100, 101, 120]⟩ : ByteArray) x290008).bind fun bt301 => ((supercargoref09_number.f k (⟨#[100, 97, 121]⟩ : ByteArray) x290009).bind fun bt303 => (supercargoref09_Fields.l0 k (([(⟨(⟨#[102, 114, 111, 109]⟩ : ByteArray), x290000⟩ : S43), (⟨(⟨#[116, 111]⟩ : ByteArray), x290001⟩ : S43), (⟨bt293.1, bt293.2⟩ : S43), (⟨(⟨#[107, 105, 110, 100]⟩ : ByteArray), rdOf ByteArray.empty t295 x290003⟩ : S43), (⟨bt299.1, bt299.2⟩ : S43), (⟨(⟨#[100, 101, 97, 108]⟩ : ByteArray), x290005⟩ : S43), (⟨(⟨#[116, 101, 120, 116]⟩ : ByteArray), x290006⟩ : S43), (⟨(⟨#[112, 97, 114, 116, 121]⟩ : ByteArray), x290007⟩ : S43), (⟨bt301.1, bt301.2⟩ : S43), (⟨bt303.1, bt303.2⟩ : S43), (⟨(⟨#[115, 117, 109]⟩ : ByteArray), x3⟩ : S43)] : List (S43))) 0 x290000 x290001 x290002 x290003 x290004 x290005 x290006 x290007 x290008 x290009 x290010 x290011 x290012 x290013)))) else (none)) else (none)))
noncomputable def supercargoref09_Fields.l0 : Nat → List (S43) → Int → ByteArray → ByteArray → Int → Int → Int → ByteArray → ByteArray → ByteArray → Int → Int → ByteArray → Int → List (S38) → List ByteArray → Option ((List (S43)))
 | 0, _, _, _, _, _, _, _, _, _, _, _, _, _, _, _, _ => none
 | k + 1, x4, x5, x290000, x290001, x290002, x290003, x290004, x290005, x290006, x290007, x290008, x290009, x290010, x290011, x290012, x290013 => if x5 < (x290012.length : Int) then (if 0 ≤ x5 then ((supercargoref05_Record.f ((rd_T38 x290012 x5).f0) ((rd_T38 x290012 x5).f1) ((rd_T38 x290012 x5).f2) ((rd_T38 x290012 x5).f3)).bind fun t309 => ((supercargoref05_Text.f k t309).bind fun bt312 => (if x4.length < 4398046511104 then (supercargoref09_Fields.l0 k (x4 ++ [(⟨(⟨#[100, 111, 99]⟩ : ByteArray), bt312.1⟩ : S43)]) (wrap64 (x5 + 1)) x290000 x290001 x290002 x290003 x290004 x290005 x290006 x290007 x290008 x290009 x290010 x290011 x290012 x290013) else (none)))) else (none)) else (supercargoref09_Fields.l1 k x4 0 x290000 x290001 x290002 x290003 x290004 x290005 x290006 x290007 x290008 x290009 x290010 x290011 x290012 x290013)
noncomputable def supercargoref09_Fields.l1 : Nat → List (S43) → Int → ByteArray → ByteArray → Int → Int → Int → ByteArray → ByteArray → ByteArray → Int → Int → ByteArray → Int → List (S38) → List ByteArray → Option ((List (S43)))
 | 0, _, _, _, _, _, _, _, _, _, _, _, _, _, _, _, _ => none
 | k + 1, x4, x8, x290000, x290001, x290002, x290003, x290004, x290005, x290006, x290007, x290008, x290009, x290010, x290011, x290012, x290013 => if x8 < (x290013.length : Int) then (if 0 ≤ x8 then (if x4.length < 4398046511104 then (supercargoref09_Fields.l1 k (x4 ++ [(⟨(⟨#[98, 111, 120]⟩ : ByteArray), rdOf ByteArray.empty x290013 x8⟩ : S43)]) (wrap64 (x8 + 1)) x290000 x290001 x290002 x290003 x290004 x290005 x290006 x290007 x290008 x290009 x290010 x290011 x290012 x290013) else (none)) else (none)) else (some x4)
end
noncomputable def supercargoref09_Fields.f (k : Nat) (a0_0 : ByteArray) (a0_1 : ByteArray) (a0_2 : Int) (a0_3 : Int) (a0_4 : Int) (a0_5 : ByteArray) (a0_6 : ByteArray) (a0_7 : ByteArray) (a0_8 : Int) (a0_9 : Int) (a0_10 : ByteArray) (a0_11 : Int) (l0_12 : List (S38)) (l0_13 : List ByteArray) : Option ((List (S43))) := (supercargoref09_May.f a0_0 a0_1 a0_2 a0_3 a0_4 a0_5 a0_6 a0_7 a0_8 a0_9 a0_10 a0_11 l0_12 l0_13).bind fun t290 => (if t290 = true then ((supercargoref09_none.f a0_10 a0_11).bind fun t291 => (if t291 = true then (supercargoref09_Fields.j0 k (⟨#[]⟩ : ByteArray) a0_0 a0_1 a0_2 a0_3 a0_4 a0_5 a0_6 a0_7 a0_8 a0_9 a0_10 a0_11 l0_12 l0_13) else ((supercargoref01_Text.f k a0_10 a0_11).bind fun t292 => (supercargoref09_Fields.j0 k t292 a0_0 a0_1 a0_2 a0_3 a0_4 a0_5 a0_6 a0_7 a0_8 a0_9 a0_10 a0_11 l0_12 l0_13)))) else (some ([] : List (S43))))
theorem supercargoref09_Fields.mono_l : ∀ k, (∀ y0 y1 y2 y3 y4 y5 y6 y7 y8 y9 y10 y11 y12 y13 y14, LeO (supercargoref09_Fields.j0 k y0 y1 y2 y3 y4 y5 y6 y7 y8 y9 y10 y11 y12 y13 y14) (supercargoref09_Fields.j0 (k + 1) y0 y1 y2 y3 y4 y5 y6 y7 y8 y9 y10 y11 y12 y13 y14)) ∧ (∀ y0 y1 y2 y3 y4 y5 y6 y7 y8 y9 y10 y11 y12 y13 y14 y15, LeO (supercargoref09_Fields.l0 k y0 y1 y2 y3 y4 y5 y6 y7 y8 y9 y10 y11 y12 y13 y14 y15) (supercargoref09_Fields.l0 (k + 1) y0 y1 y2 y3 y4 y5 y6 y7 y8 y9 y10 y11 y12 y13 y14 y15)) ∧ (∀ y0 y1 y2 y3 y4 y5 y6 y7 y8 y9 y10 y11 y12 y13 y14 y15, LeO (supercargoref09_Fields.l1 k y0 y1 y2 y3 y4 y5 y6 y7 y8 y9 y10 y11 y12 y13 y14 y15) (supercargoref09_Fields.l1 (k + 1) y0 y1 y2 y3 y4 y5 y6 y7 y8 y9 y10 y11 y12 y13 y14 y15))
 | 0 => ⟨fun _ _ _ _ _ _ _ _ _ _ _ _ _ _ _ r h => by simp [supercargoref09_Fields.j0] at h, fun _ _ _ _ _ _ _ _ _ _ _ _ _ _ _ _ r h => by simp [supercargoref09_Fields.l0] at h, fun _ _ _ _ _ _ _ _ _ _ _ _ _ _ _ _ r h => by simp [supercargoref09_Fields.l1] at h⟩
 | k + 1 => by
  obtain ⟨ih0, ih1, ih2⟩ := supercargoref09_Fields.mono_l k
  refine ⟨?_, ?_, ?_⟩
  ·
   intro y0 y1 y2 y3 y4 y5 y6 y7 y8 y9 y10 y11 y12 y13 y14
   unfold supercargoref09_Fields.j0
   repeat' first
   | (with_reducible exact ih0 _ _ _ _ _ _ _ _ _ _ _ _ _ _ _)
   | (with_reducible exact ih1 _ _ _ _ _ _ _ _ _ _ _ _ _ _ _ _)
   | (with_reducible exact ih2 _ _ _ _ _ _ _ _ _ _ _ _ _ _ _ _)
   | (with_reducible exact supercargoref01_Text.mono _ _ _)
   | (with_reducible exact supercargoref05_Text.mono _ _)
   | (with_reducible exact supercargoref09_number.mono _ _ _)
   | (with_reducible exact LeO.refl _)
   | (with_reducible exact LeO.none _)
   | (with_reducible refine LeO.ite ?_ ?_)
   | (with_reducible refine LeO.bind ?_ (fun _ => ?_))
   | exact ih0 _ _ _ _ _ _ _ _ _ _ _ _ _ _ _
   | exact ih1 _ _ _ _ _ _ _ _ _ _ _ _ _ _ _ _
   | exact ih2 _ _ _ _ _ _ _ _ _ _ _ _ _ _ _ _
   | exact supercargoref01_Text.mono _ _ _
   | exact supercargoref05_Text.mono _ _
   | exact supercargoref09_number.mono _ _ _
   | exact LeO.none _
   | refine LeO.ite ?_ ?_
   | refine LeO.bind ?_ (fun _ => ?_)
  ·
   intro y0 y1 y2 y3 y4 y5 y6 y7 y8 y9 y10 y11 y12 y13 y14 y15
   unfold supercargoref09_Fields.l0
   repeat' first
   | (with_reducible exact ih0 _ _ _ _ _ _ _ _ _ _ _ _ _ _ _)
   | (with_reducible exact ih1 _ _ _ _ _ _ _ _ _ _ _ _ _ _ _ _)
   | (with_reducible exact ih2 _ _ _ _ _ _ _ _ _ _ _ _ _ _ _ _)
   | (with_reducible exact supercargoref01_Text.mono _ _ _)
   | (with_reducible exact supercargoref05_Text.mono _ _)
   | (with_reducible exact supercargoref09_number.mono _ _ _)
   | (with_reducible exact LeO.refl _)
   | (with_reducible exact LeO.none _)
   | (with_reducible refine LeO.ite ?_ ?_)
   | (with_reducible refine LeO.bind ?_ (fun _ => ?_))
   | exact ih0 _ _ _ _ _ _ _ _ _ _ _ _ _ _ _
   | exact ih1 _ _ _ _ _ _ _ _ _ _ _ _ _ _ _ _
   | exact ih2 _ _ _ _ _ _ _ _ _ _ _ _ _ _ _ _
   | exact supercargoref01_Text.mono _ _ _
   | exact supercargoref05_Text.mono _ _
   | exact supercargoref09_number.mono _ _ _
   | exact LeO.none _
   | refine LeO.ite ?_ ?_
   | refine LeO.bind ?_ (fun _ => ?_)
  ·
   intro y0 y1 y2 y3 y4 y5 y6 y7 y8 y9 y10 y11 y12 y13 y14 y15
   unfold supercargoref09_Fields.l1
   repeat' first
   | (with_reducible exact ih0 _ _ _ _ _ _ _ _ _ _ _ _ _ _ _)
   | (with_reducible exact ih1 _ _ _ _ _ _ _ _ _ _ _ _ _ _ _ _)
   | (with_reducible exact ih2 _ _ _ _ _ _ _ _ _ _ _ _ _ _ _ _)
   | (with_reducible exact supercargoref01_Text.mono _ _ _)
   | (with_reducible exact supercargoref05_Text.mono _ _)
   | (with_reducible exact supercargoref09_number.mono _ _ _)
   | (with_reducible exact LeO.refl _)
   | (with_reducible exact LeO.none _)
   | (with_reducible refine LeO.ite ?_ ?_)
   | (with_reducible refine LeO.bind ?_ (fun _ => ?_))
   | exact ih0 _ _ _ _ _ _ _ _ _ _ _ _ _ _ _
   | exact ih1 _ _ _ _ _ _ _ _ _ _ _ _ _ _ _ _
   | exact ih2 _ _ _ _ _ _ _ _ _ _ _ _ _ _ _ _
   | exact supercargoref01_Text.mono _ _ _
   | exact supercargoref05_Text.mono _ _
   | exact supercargoref09_number.mono _ _ _
   | exact LeO.none _
   | refine LeO.ite ?_ ?_
   | refine LeO.bind ?_ (fun _ => ?_)
theorem supercargoref09_Fields.mono : ∀ a0 a1 a2 a3 a4 a5 a6 a7 a8 a9 a10 a11 a12 a13 k, LeO (supercargoref09_Fields.f k a0 a1 a2 a3 a4 a5 a6 a7 a8 a9 a10 a11 a12 a13) (supercargoref09_Fields.f (k + 1) a0 a1 a2 a3 a4 a5 a6 a7 a8 a9 a10 a11 a12 a13) := by
 intro a0 a1 a2 a3 a4 a5 a6 a7 a8 a9 a10 a11 a12 a13 k
 obtain ⟨ih0, ih1, ih2⟩ := supercargoref09_Fields.mono_l k
 unfold supercargoref09_Fields.f
 repeat' first
   | (with_reducible exact ih0 _ _ _ _ _ _ _ _ _ _ _ _ _ _ _)
   | (with_reducible exact ih1 _ _ _ _ _ _ _ _ _ _ _ _ _ _ _ _)
   | (with_reducible exact ih2 _ _ _ _ _ _ _ _ _ _ _ _ _ _ _ _)
   | (with_reducible exact supercargoref01_Text.mono _ _ _)
   | (with_reducible exact supercargoref05_Text.mono _ _)
   | (with_reducible exact supercargoref09_number.mono _ _ _)
   | (with_reducible exact LeO.refl _)
   | (with_reducible exact LeO.none _)
   | (with_reducible refine LeO.ite ?_ ?_)
   | (with_reducible refine LeO.bind ?_ (fun _ => ?_))
   | exact ih0 _ _ _ _ _ _ _ _ _ _ _ _ _ _ _
   | exact ih1 _ _ _ _ _ _ _ _ _ _ _ _ _ _ _ _
   | exact ih2 _ _ _ _ _ _ _ _ _ _ _ _ _ _ _ _
   | exact supercargoref01_Text.mono _ _ _
   | exact supercargoref05_Text.mono _ _
   | exact supercargoref09_number.mono _ _ _
   | exact LeO.none _
   | refine LeO.ite ?_ ?_
   | refine LeO.bind ?_ (fun _ => ?_)
def supercargoref09_Fields.T6 : Bool × List (List Nat × List Nat) := (true, [([], []), ([0], [0]), ([1], [1]), ([], []), ([3], [3]), ([4], [4]), ([], []), ([6], [6]), ([7], [7]), ([8], []), ([], []), ([10], [10]), ([9, 11], [9, 11]), ([12], [12]), ([13], [13]), ([], []), ([15], [15]), ([16, 9], [16]), ([], []), ([18], [18]), ([19], [19]), ([], []), ([21], [21]), ([22], [22]), ([], []), ([24], [24]), ([25], [25]), ([], []), ([27], [27]), ([28, 17], [28]), ([], []), ([30], [30]), ([31, 29], [31]), ([], []), ([33], [33]), ([2, 5, 8, 14, 17, 20, 23, 26, 29, 32, 34], [2, 5, 8, 14, 17, 20, 23, 26, 29, 32, 34]), ([35, 32, 0, 1, 2, 3, 4, 5, 6, 7, 8, 9, 10, 11, 12, 13, 14, 15, 16, 17, 18, 19, 20, 21, 22, 23, 24, 25, 26, 27, 28, 29, 30, 31, 32, 33, 34, 35], [35])])
def supercargoref09_Fields.B6 : List Nat := [0, 1, 3, 0, 8, 24, 0, 64, 192, 448, 0, 1024, 4032, 8128, 16320, 0, 32768, 99264, 0, 262144, 786432, 0, 2097152, 6291456, 0, 16777216, 50331648, 0, 134217728, 402883520, 0, 1073741824, 4160979904, 0, 8589934592, 34359738367, 68719476735]
theorem supercargoref09_Fields.tab6 : rtab .any (opsOf Tryz.f20 6) = supercargoref09_Fields.T6 := by kernel_rfl
theorem supercargoref09_Fields.bits6 : waitsOk supercargoref09_Fields.T6.2 supercargoref09_Fields.B6 = true := by kernel_rfl
set_option maxHeartbeats 8000000 in
set_option maxRecDepth 100000 in
theorem supercargoref09_Fields.calls (k : Nat) (a0_0 : ByteArray) (a0_1 : ByteArray) (a0_2 : Int) (a0_3 : Int) (a0_4 : Int) (a0_5 : ByteArray) (a0_6 : ByteArray) (a0_7 : ByteArray) (a0_8 : Int) (a0_9 : Int) (a0_10 : ByteArray) (a0_11 : Int) (A0_12 : Option Addr) (c0_12 : Nat) (l0_12 : List (S38)) (A0_13 : Option Addr) (c0_13 : Nat) (l0_13 : List ByteArray) (r : List (S43)) (w : World) (hr0_12 : Kd.C k38 w A0_12 l0_12.length l0_12) (hc0_12 : l0_12.length ≤ c0_12) (hr0_13 : Kd.C Kd.string w A0_13 l0_13.length l0_13) (hc0_13 : l0_13.length ≤ c0_13) (h : supercargoref09_Fields.f k a0_0 a0_1 a0_2 a0_3 a0_4 a0_5 a0_6 a0_7 a0_8 a0_9 a0_10 a0_11 l0_12 l0_13 = some r) :
  Calls Tryz.prog 20 #[.agg #[.string a0_0, .string a0_1, .int .i64 a0_2, .int .i64 a0_3, .int .i64 a0_4, .string a0_5, .string a0_6, .string a0_7, .int .i64 a0_8, .int .i64 a0_9, .string a0_10, .int .i64 a0_11, .slice A0_12 l0_12.length c0_12, .slice A0_13 l0_13.length c0_13]] w fun e w' => ∃ v0_ : Value, e = .returned (v0_) ∧ Kd.R k43 43 w' w.heap.size (fun _ => True) v0_ r ∧ Below w.heap.size w w' := by
 have hu33 := Tryz.underlying33
 have hu30 := Tryz.underlying30
 have hu43 := Tryz.underlying43
 have hu38 := Tryz.underlying38
 have HR0_12 := Aside0.mk hr0_12
 have HC0_12 := Aside0.mk hc0_12
 clear hr0_12 hc0_12
 have HR0_13 := Aside0.mk hr0_13
 have HC0_13 := Aside0.mk hc0_13
 clear hr0_13 hc0_13
 have HB := Aside0.mk (Below.refl w.heap.size w)
 have H : ((supercargoref09_May.f a0_0 a0_1 a0_2 a0_3 a0_4 a0_5 a0_6 a0_7 a0_8 a0_9 a0_10 a0_11 l0_12 l0_13).bind fun t290 => (if t290 = true then ((supercargoref09_none.f a0_10 a0_11).bind fun t291 => (if t291 = true then (supercargoref09_Fields.j0 k (⟨#[]⟩ : ByteArray) a0_0 a0_1 a0_2 a0_3 a0_4 a0_5 a0_6 a0_7 a0_8 a0_9 a0_10 a0_11 l0_12 l0_13) else ((supercargoref01_Text.f k a0_10 a0_11).bind fun t292 => (supercargoref09_Fields.j0 k t292 a0_0 a0_1 a0_2 a0_3 a0_4 a0_5 a0_6 a0_7 a0_8 a0_9 a0_10 a0_11 l0_12 l0_13)))) else (some ([] : List (S43))))) = some r := h
 clear h
 replace H := Option.bind_eq_some_iff.mp H
 obtain ⟨t290, A20, H⟩ := H
 replace H : (if t290 = true then ((supercargoref09_none.f a0_10 a0_11).bind fun t291 => (if t291 = true then (supercargoref09_Fields.j0 k (⟨#[]⟩ : ByteArray) a0_0 a0_1 a0_2 a0_3 a0_4 a0_5 a0_6 a0_7 a0_8 a0_9 a0_10 a0_11 l0_12 l0_13) else ((supercargoref01_Text.f k a0_10 a0_11).bind fun t292 => (supercargoref09_Fields.j0 k t292 a0_0 a0_1 a0_2 a0_3 a0_4 a0_5 a0_6 a0_7 a0_8 a0_9 a0_10 a0_11 l0_12 l0_13)))) else (some ([] : List (S43)))) = some r := H
 have A2 := Aside0.mk A20
 clear A20
 by_cases c3 : t290 = true
 ·
  subst c3
  have H1 : ((supercargoref09_none.f a0_10 a0_11).bind fun t291 => (if t291 = true then (supercargoref09_Fields.j0 k (⟨#[]⟩ : ByteArray) a0_0 a0_1 a0_2 a0_3 a0_4 a0_5 a0_6 a0_7 a0_8 a0_9 a0_10 a0_11 l0_12 l0_13) else ((supercargoref01_Text.f k a0_10 a0_11).bind fun t292 => (supercargoref09_Fields.j0 k t292 a0_0 a0_1 a0_2 a0_3 a0_4 a0_5 a0_6 a0_7 a0_8 a0_9 a0_10 a0_11 l0_12 l0_13)))) = some r := by rw [if_pos rfl] at H; exact H
  clear H
  have H := H1
  clear H1
  replace H := Option.bind_eq_some_iff.mp H
  obtain ⟨t291, A40, H⟩ := H
  replace H : (if t291 = true then (supercargoref09_Fields.j0 k (⟨#[]⟩ : ByteArray) a0_0 a0_1 a0_2 a0_3 a0_4 a0_5 a0_6 a0_7 a0_8 a0_9 a0_10 a0_11 l0_12 l0_13) else ((supercargoref01_Text.f k a0_10 a0_11).bind fun t292 => (supercargoref09_Fields.j0 k t292 a0_0 a0_1 a0_2 a0_3 a0_4 a0_5 a0_6 a0_7 a0_8 a0_9 a0_10 a0_11 l0_12 l0_13))) = some r := H
  have A4 := Aside0.mk A40
  clear A40
  have HC5 := Aside0.mk H
  clear H
  go_enter Tryz.func20, Tryz.ntmps20
  go_upto_if 15 with (first | ((with_reducible refine gate_dst (N := 1) rfl ?_); refine box_event ?hg (N := 1) ?hd (cs := #[.string a0_0, .string a0_1, .int .i64 a0_2, .int .i64 a0_3, .int .i64 a0_4, .string a0_5, .string a0_6, .string a0_7, .int .i64 a0_8, .int .i64 a0_9, .string a0_10, .int .i64 a0_11, .slice A0_12 l0_12.length c0_12, .slice A0_13 l0_13.length c0_13]) (t := 33) ?hr ?_; (case hd => rfl); (case hg => rfl); (case hr => first | (go_simp; done) | (go_simp; rfl)); intro gb289 hg w6 hbox hb; have n0_ := Aside0.mk (below_step (by repeat (first | (with_reducible first | exact HB.out | apply below_alloc | apply pw_below_drewN | apply below_drew1) | exact HB.out)) hb); have n1_ := Aside0.mk (hbox); have n2_ := Aside0.mk ((by rw [hg]; exact (below_size (by repeat (first | (with_reducible first | exact HB.out | apply below_alloc | apply pw_below_drewN | apply below_drew1) | exact HB.out))) : w.heap.size ≤ gb289)); have n3_ := Aside0.mk ((by rw [hg]; exact (below_size (by repeat (first | (with_reducible first | exact HB.out | apply below_alloc | apply pw_below_drewN | apply below_drew1) | exact HB.out))) : w.heap.size ≤ gb289)); clear HB; have HB := n0_; have BK289 := n1_; have GW289 := n2_; have GE289 := n3_; clear n0_ n1_ n2_ n3_; clear hb hbox hg; have hcz7_0 : w6.cell? ⟨gb289, 0, none⟩ = some (.string a0_0) := (blk_cell BK289.out 0).trans rfl; have hcz7_1 : w6.cell? ⟨gb289, 1, none⟩ = some (.string a0_1) := (blk_cell BK289.out 1).trans rfl; have hcz7_2 : w6.cell? ⟨gb289, 2, none⟩ = some (.int .i64 a0_2) := (blk_cell BK289.out 2).trans rfl; have hcz7_3 : w6.cell? ⟨gb289, 3, none⟩ = some (.int .i64 a0_3) := (blk_cell BK289.out 3).trans rfl; have hcz7_4 : w6.cell? ⟨gb289, 4, none⟩ = some (.int .i64 a0_4) := (blk_cell BK289.out 4).trans rfl; have hcz7_5 : w6.cell? ⟨gb289, 5, none⟩ = some (.string a0_5) := (blk_cell BK289.out 5).trans rfl; have hcz7_6 : w6.cell? ⟨gb289, 6, none⟩ = some (.string a0_6) := (blk_cell BK289.out 6).trans rfl; have hcz7_7 : w6.cell? ⟨gb289, 7, none⟩ = some (.string a0_7) := (blk_cell BK289.out 7).trans rfl; have hcz7_8 : w6.cell? ⟨gb289, 8, none⟩ = some (.int .i64 a0_8) := (blk_cell BK289.out 8).trans rfl; have hcz7_9 : w6.cell? ⟨gb289, 9, none⟩ = some (.int .i64 a0_9) := (blk_cell BK289.out 9).trans rfl; have hcz7_10 : w6.cell? ⟨gb289, 10, none⟩ = some (.string a0_10) := (blk_cell BK289.out 10).trans rfl; have hcz7_11 : w6.cell? ⟨gb289, 11, none⟩ = some (.int .i64 a0_11) := (blk_cell BK289.out 11).trans rfl; have hcz7_12 : w6.cell? ⟨gb289, 12, none⟩ = some (.slice A0_12 l0_12.length c0_12) := (blk_cell BK289.out 12).trans rfl; have hcz7_13 : w6.cell? ⟨gb289, 13, none⟩ = some (.slice A0_13 l0_13.length c0_13) := (blk_cell BK289.out 13).trans rfl; have hfz7_0 := blk_frozen BK289.out 0; have hfz7_1 := blk_frozen BK289.out 1; have hfz7_2 := blk_frozen BK289.out 2; have hfz7_3 := blk_frozen BK289.out 3; have hfz7_4 := blk_frozen BK289.out 4; have hfz7_5 := blk_frozen BK289.out 5; have hfz7_6 := blk_frozen BK289.out 6; have hfz7_7 := blk_frozen BK289.out 7; have hfz7_8 := blk_frozen BK289.out 8; have hfz7_9 := blk_frozen BK289.out 9; have hfz7_10 := blk_frozen BK289.out 10; have hfz7_11 := blk_frozen BK289.out 11; have hfz7_12 := blk_frozen BK289.out 12; have hfz7_13 := blk_frozen BK289.out 13) | ((with_reducible refine gate_callee (f := 17) rfl ?_); refine goesL_ (some 10) rfl rfl Tryz.func17 (by kernel_rfl) rfl #[.agg #[.string a0_0, .string a0_1, .int .i64 a0_2, .int .i64 a0_3, .int .i64 a0_4, .string a0_5, .string a0_6, .string a0_7, .int .i64 a0_8, .int .i64 a0_9, .string a0_10, .int .i64 a0_11, .slice A0_12 l0_12.length c0_12, .slice A0_13 l0_13.length c0_13]] rfl (by (try simp only [List.map_toArray, List.map_cons, List.map_nil]); first | done | rfl | (simp only [List.length_drop, List.length_take]; rfl)) ?_; (with_reducible refine (supercargoref09_May.calls a0_0 a0_1 a0_2 a0_3 a0_4 a0_5 a0_6 a0_7 a0_8 a0_9 a0_10 a0_11 _ _ l0_12 _ _ l0_13 true _ ?side1 ?side2 ?side3 ?side4 A2.out).mono ?_); (case side1 => repeat (first | exact (Kd.C_below HR0_12.out HB.out) | (with_reducible refine Kd.C_alloc ?_ _) | (with_reducible refine Kd.C_drewN ?_ _) | (with_reducible refine Kd.C_drew ?_))); (case side2 => exact HC0_12.out); (case side3 => repeat (first | exact (Kd.C_below HR0_13.out HB.out) | (with_reducible refine Kd.C_alloc ?_ _) | (with_reducible refine Kd.C_drewN ?_ _) | (with_reducible refine Kd.C_drew ?_))); (case side4 => exact HC0_13.out); rintro e w8 ⟨rfl, hb⟩; refine ⟨_, rfl, ?_⟩; have n0_ := Aside0.mk (blk_below (g := gb289) (o := .cells #[.string a0_0, .string a0_1, .int .i64 a0_2, .int .i64 a0_3, .int .i64 a0_4, .string a0_5, .string a0_6, .string a0_7, .int .i64 a0_8, .int .i64 a0_9, .string a0_10, .int .i64 a0_11, .slice A0_12 l0_12.length c0_12, .slice A0_13 l0_13.length c0_13] 33 (0, 0)) (by (with_reducible repeat (first | refine blk_drewN ?_ _ | refine blk_drew ?_ | refine blk_alloc ?_ _)); exact BK289.out) hb); have n1_ := Aside0.mk (below_step (by repeat (first | (with_reducible first | exact HB.out | apply below_alloc | apply pw_below_drewN | apply below_drew1 | refine below_set ?_ GE289.out) | exact HB.out)) hb); clear BK289; clear HB; have BK289 := n0_; have HB := n1_; clear n0_ n1_; (try clear hb); (try clear hb2); (try clear hk); (try clear hi); have hcz9_0 : w8.cell? ⟨gb289, 0, none⟩ = some (.string a0_0) := (blk_cell BK289.out 0).trans rfl; have hcz9_1 : w8.cell? ⟨gb289, 1, none⟩ = some (.string a0_1) := (blk_cell BK289.out 1).trans rfl; have hcz9_2 : w8.cell? ⟨gb289, 2, none⟩ = some (.int .i64 a0_2) := (blk_cell BK289.out 2).trans rfl; have hcz9_3 : w8.cell? ⟨gb289, 3, none⟩ = some (.int .i64 a0_3) := (blk_cell BK289.out 3).trans rfl; have hcz9_4 : w8.cell? ⟨gb289, 4, none⟩ = some (.int .i64 a0_4) := (blk_cell BK289.out 4).trans rfl; have hcz9_5 : w8.cell? ⟨gb289, 5, none⟩ = some (.string a0_5) := (blk_cell BK289.out 5).trans rfl; have hcz9_6 : w8.cell? ⟨gb289, 6, none⟩ = some (.string a0_6) := (blk_cell BK289.out 6).trans rfl; have hcz9_7 : w8.cell? ⟨gb289, 7, none⟩ = some (.string a0_7) := (blk_cell BK289.out 7).trans rfl; have hcz9_8 : w8.cell? ⟨gb289, 8, none⟩ = some (.int .i64 a0_8) := (blk_cell BK289.out 8).trans rfl; have hcz9_9 : w8.cell? ⟨gb289, 9, none⟩ = some (.int .i64 a0_9) := (blk_cell BK289.out 9).trans rfl; have hcz9_10 : w8.cell? ⟨gb289, 10, none⟩ = some (.string a0_10) := (blk_cell BK289.out 10).trans rfl; have hcz9_11 : w8.cell? ⟨gb289, 11, none⟩ = some (.int .i64 a0_11) := (blk_cell BK289.out 11).trans rfl; have hcz9_12 : w8.cell? ⟨gb289, 12, none⟩ = some (.slice A0_12 l0_12.length c0_12) := (blk_cell BK289.out 12).trans rfl; have hcz9_13 : w8.cell? ⟨gb289, 13, none⟩ = some (.slice A0_13 l0_13.length c0_13) := (blk_cell BK289.out 13).trans rfl; have hfz9_0 := blk_frozen BK289.out 0; have hfz9_1 := blk_frozen BK289.out 1; have hfz9_2 := blk_frozen BK289.out 2; have hfz9_3 := blk_frozen BK289.out 3; have hfz9_4 := blk_frozen BK289.out 4; have hfz9_5 := blk_frozen BK289.out 5; have hfz9_6 := blk_frozen BK289.out 6; have hfz9_7 := blk_frozen BK289.out 7; have hfz9_8 := blk_frozen BK289.out 8; have hfz9_9 := blk_frozen BK289.out 9; have hfz9_10 := blk_frozen BK289.out 10; have hfz9_11 := blk_frozen BK289.out 11; have hfz9_12 := blk_frozen BK289.out 12; have hfz9_13 := blk_frozen BK289.out 13) | ((with_reducible refine gate_callee (f := 47) rfl ?_); refine goesL_ (some 14) rfl rfl Tryz.func47 (by kernel_rfl) rfl #[.agg #[.string a0_10, .int .i64 a0_11]] rfl (by (try simp only [List.map_toArray, List.map_cons, List.map_nil]); first | done | rfl | (simp only [List.length_drop, List.length_take]; rfl)) ?_; (with_reducible refine (supercargoref09_none.calls a0_10 a0_11 t291 _ A4.out).mono ?_); rintro e w10 ⟨rfl, hb⟩; refine ⟨_, rfl, ?_⟩; have n0_ := Aside0.mk (blk_below (g := gb289) (o := .cells #[.string a0_0, .string a0_1, .int .i64 a0_2, .int .i64 a0_3, .int .i64 a0_4, .string a0_5, .string a0_6, .string a0_7, .int .i64 a0_8, .int .i64 a0_9, .string a0_10, .int .i64 a0_11, .slice A0_12 l0_12.length c0_12, .slice A0_13 l0_13.length c0_13] 33 (0, 0)) (by (with_reducible repeat (first | refine blk_drewN ?_ _ | refine blk_drew ?_ | refine blk_alloc ?_ _)); exact BK289.out) hb); have n1_ := Aside0.mk (below_step (by repeat (first | (with_reducible first | exact HB.out | apply below_alloc | apply pw_below_drewN | apply below_drew1 | refine below_set ?_ GE289.out) | exact HB.out)) hb); clear BK289; clear HB; have BK289 := n0_; have HB := n1_; clear n0_ n1_; (try clear hb); (try clear hb2); (try clear hk); (try clear hi)))
  (try simp only [Act.put, List.setIfInBounds_toArray, List.set_cons_zero, List.set_cons_succ])
  go_cut [3] (fun v3 wc => ∃ (kq : Nat) (x3_4 : ByteArray), v3 = .string x3_4 ∧ Aside0 (supercargoref09_Fields.j0 kq x3_4 a0_0 a0_1 a0_2 a0_3 a0_4 a0_5 a0_6 a0_7 a0_8 a0_9 a0_10 a0_11 l0_12 l0_13 = some r) ∧ Aside0 (kq ≤ k) ∧ Aside0 (wc.heap[gb289]? = some (.cells #[.string a0_0, .string a0_1, .int .i64 a0_2, .int .i64 a0_3, .int .i64 a0_4, .string a0_5, .string a0_6, .string a0_7, .int .i64 a0_8, .int .i64 a0_9, .string a0_10, .int .i64 a0_11, (.slice A0_12 l0_12.length c0_12), (.slice A0_13 l0_13.length c0_13)] 33 (0, 0))) ∧ Aside0 (Below w.heap.size w wc))
  case first =>
   have H := HC5.out
   clear HC5
   by_cases c11 : t291 = true
   ·
    subst c11
    have H1 : (supercargoref09_Fields.j0 k (⟨#[]⟩ : ByteArray) a0_0 a0_1 a0_2 a0_3 a0_4 a0_5 a0_6 a0_7 a0_8 a0_9 a0_10 a0_11 l0_12 l0_13) = some r := by rw [if_pos rfl] at H; exact H
    clear H
    have H := H1
    clear H1
    have H' := Aside0.mk H
    clear H
    go_wp2
    go_meet
    case rel => exact ⟨_, ((⟨#[]⟩ : ByteArray)), (by first | rfl | (simp; done) | (simp [*]; done)), H', ⟨by first | omega | exact Nat.le_refl _⟩, ⟨by (with_reducible repeat (first | refine blk_drewN ?_ _ | refine blk_drew ?_ | refine blk_alloc ?_ _)); exact BK289.out⟩, ⟨by repeat (first | (with_reducible first | exact HB.out | apply below_alloc | apply pw_below_drewN | apply below_drew1 | refine below_set ?_ GE289.out) | exact HB.out)⟩⟩
   ·
    replace c11 := Bool.eq_false_iff.mpr c11
    subst c11
    have H1 : ((supercargoref01_Text.f k a0_10 a0_11).bind fun t292 => (supercargoref09_Fields.j0 k t292 a0_0 a0_1 a0_2 a0_3 a0_4 a0_5 a0_6 a0_7 a0_8 a0_9 a0_10 a0_11 l0_12 l0_13)) = some r := by rw [if_neg (show ¬ (false = true) by decide)] at H; exact H
    clear H
    have H := H1
    clear H1
    replace H := Option.bind_eq_some_iff.mp H
    obtain ⟨t292, A120, H⟩ := H
    replace H : (supercargoref09_Fields.j0 k t292 a0_0 a0_1 a0_2 a0_3 a0_4 a0_5 a0_6 a0_7 a0_8 a0_9 a0_10 a0_11 l0_12 l0_13) = some r := H
    have A12 := Aside0.mk A120
    clear A120
    have H' := Aside0.mk H
    clear H
    have hcz13_0 : w10.cell? ⟨gb289, 0, none⟩ = some (.string a0_0) := (blk_cell BK289.out 0).trans rfl
    have hcz13_1 : w10.cell? ⟨gb289, 1, none⟩ = some (.string a0_1) := (blk_cell BK289.out 1).trans rfl
    have hcz13_2 : w10.cell? ⟨gb289, 2, none⟩ = some (.int .i64 a0_2) := (blk_cell BK289.out 2).trans rfl
    have hcz13_3 : w10.cell? ⟨gb289, 3, none⟩ = some (.int .i64 a0_3) := (blk_cell BK289.out 3).trans rfl
    have hcz13_4 : w10.cell? ⟨gb289, 4, none⟩ = some (.int .i64 a0_4) := (blk_cell BK289.out 4).trans rfl
    have hcz13_5 : w10.cell? ⟨gb289, 5, none⟩ = some (.string a0_5) := (blk_cell BK289.out 5).trans rfl
    have hcz13_6 : w10.cell? ⟨gb289, 6, none⟩ = some (.string a0_6) := (blk_cell BK289.out 6).trans rfl
    have hcz13_7 : w10.cell? ⟨gb289, 7, none⟩ = some (.string a0_7) := (blk_cell BK289.out 7).trans rfl
    have hcz13_8 : w10.cell? ⟨gb289, 8, none⟩ = some (.int .i64 a0_8) := (blk_cell BK289.out 8).trans rfl
    have hcz13_9 : w10.cell? ⟨gb289, 9, none⟩ = some (.int .i64 a0_9) := (blk_cell BK289.out 9).trans rfl
    have hcz13_10 : w10.cell? ⟨gb289, 10, none⟩ = some (.string a0_10) := (blk_cell BK289.out 10).trans rfl
    have hcz13_11 : w10.cell? ⟨gb289, 11, none⟩ = some (.int .i64 a0_11) := (blk_cell BK289.out 11).trans rfl
    have hcz13_12 : w10.cell? ⟨gb289, 12, none⟩ = some (.slice A0_12 l0_12.length c0_12) := (blk_cell BK289.out 12).trans rfl
    have hcz13_13 : w10.cell? ⟨gb289, 13, none⟩ = some (.slice A0_13 l0_13.length c0_13) := (blk_cell BK289.out 13).trans rfl
    have hfz13_0 := blk_frozen BK289.out 0
    have hfz13_1 := blk_frozen BK289.out 1
    have hfz13_2 := blk_frozen BK289.out 2
    have hfz13_3 := blk_frozen BK289.out 3
    have hfz13_4 := blk_frozen BK289.out 4
    have hfz13_5 := blk_frozen BK289.out 5
    have hfz13_6 := blk_frozen BK289.out 6
    have hfz13_7 := blk_frozen BK289.out 7
    have hfz13_8 := blk_frozen BK289.out 8
    have hfz13_9 := blk_frozen BK289.out 9
    have hfz13_10 := blk_frozen BK289.out 10
    have hfz13_11 := blk_frozen BK289.out 11
    have hfz13_12 := blk_frozen BK289.out 12
    have hfz13_13 := blk_frozen BK289.out 13
    go_wp2_with (first | ((with_reducible refine gate_callee (f := 52) rfl ?_); refine goesL_ (some 18) rfl rfl Tryz.func52 (by kernel_rfl) rfl #[.agg #[.string a0_10, .int .i64 a0_11]] rfl (by (try simp only [List.map_toArray, List.map_cons, List.map_nil]); first | done | rfl | (simp only [List.length_drop, List.length_take]; rfl)) ?_; (with_reducible refine (supercargoref01_Text.calls k a0_10 a0_11 t292 _ A12.out).mono ?_); rintro e w14 ⟨rfl, hb⟩; refine ⟨_, rfl, ?_⟩; have n0_ := Aside0.mk (blk_below (g := gb289) (o := .cells #[.string a0_0, .string a0_1, .int .i64 a0_2, .int .i64 a0_3, .int .i64 a0_4, .string a0_5, .string a0_6, .string a0_7, .int .i64 a0_8, .int .i64 a0_9, .string a0_10, .int .i64 a0_11, .slice A0_12 l0_12.length c0_12, .slice A0_13 l0_13.length c0_13] 33 (0, 0)) (by (with_reducible repeat (first | refine blk_drewN ?_ _ | refine blk_drew ?_ | refine blk_alloc ?_ _)); exact BK289.out) hb); have n1_ := Aside0.mk (below_step (by repeat (first | (with_reducible first | exact HB.out | apply below_alloc | apply pw_below_drewN | apply below_drew1 | refine below_set ?_ GE289.out) | exact HB.out)) hb); clear BK289; clear HB; have BK289 := n0_; have HB := n1_; clear n0_ n1_; (try clear hb); (try clear hb2); (try clear hk); (try clear hi)))
    go_meet
    case rel => exact ⟨_, (t292), (by first | rfl | (simp; done) | (simp [*]; done)), H', ⟨by first | omega | exact Nat.le_refl _⟩, ⟨by (with_reducible repeat (first | refine blk_drewN ?_ _ | refine blk_drew ?_ | refine blk_alloc ?_ _)); exact BK289.out⟩, ⟨by repeat (first | (with_reducible first | exact HB.out | apply below_alloc | apply pw_below_drewN | apply below_drew1 | refine below_set ?_ GE289.out) | exact HB.out)⟩⟩
  case rest =>
   clear HC5
   try clear c1
   try clear c2
   try clear p2
   try clear c3
   try clear c4
   try clear c5
   try clear c11
   try clear hcz13_0
   try clear hcz13_1
   try clear hcz13_10
   try clear hcz13_11
   try clear hcz13_12
   try clear hcz13_13
   try clear hcz13_2
   try clear hcz13_3
   try clear hcz13_4
   try clear hcz13_5
   try clear hcz13_6
   try clear hcz13_7
   try clear hcz13_8
   try clear hcz13_9
   try clear hcz7_0
   try clear hcz7_1
   try clear hcz7_10
   try clear hcz7_11
   try clear hcz7_12
   try clear hcz7_13
   try clear hcz7_2
   try clear hcz7_3
   try clear hcz7_4
   try clear hcz7_5
   try clear hcz7_6
   try clear hcz7_7
   try clear hcz7_8
   try clear hcz7_9
   try clear hcz9_0
   try clear hcz9_1
   try clear hcz9_10
   try clear hcz9_11
   try clear hcz9_12
   try clear hcz9_13
   try clear hcz9_2
   try clear hcz9_3
   try clear hcz9_4
   try clear hcz9_5
   try clear hcz9_6
   try clear hcz9_7
   try clear hcz9_8
   try clear hcz9_9
   try clear hfz13_0
   try clear hfz13_1
   try clear hfz13_10
   try clear hfz13_11
   try clear hfz13_12
   try clear hfz13_13
   try clear hfz13_2
   try clear hfz13_3
   try clear hfz13_4
   try clear hfz13_5
   try clear hfz13_6
   try clear hfz13_7
   try clear hfz13_8
   try clear hfz13_9
   try clear hfz7_0
   try clear hfz7_1
   try clear hfz7_10
   try clear hfz7_11
   try clear hfz7_12
   try clear hfz7_13
   try clear hfz7_2
   try clear hfz7_3
   try clear hfz7_4
   try clear hfz7_5
   try clear hfz7_6
   try clear hfz7_7
   try clear hfz7_8
   try clear hfz7_9
   try clear hfz9_0
   try clear hfz9_1
   try clear hfz9_10
   try clear hfz9_11
   try clear hfz9_12
   try clear hfz9_13
   try clear hfz9_2
   try clear hfz9_3
   try clear hfz9_4
   try clear hfz9_5
   try clear hfz9_6
   try clear hfz9_7
   try clear hfz9_8
   try clear hfz9_9
   obtain ⟨kq, x3_4, rfl, HA, HJ4, BK289, HB⟩ := hcut
   cases kq with
   | zero => exact absurd HA.out (by simp [supercargoref09_Fields.j0])
   | succ kj4 =>
    have H := HA.out
    clear HA
    simp only [supercargoref09_Fields.j0] at H
    replace H := Option.bind_eq_some_iff.mp H
    obtain ⟨⟨t293, t294⟩, A150, H⟩ := H
    replace H : ((supercargoref09_Names.f).bind fun t295 => (if 0 ≤ a0_3 then (if a0_3 < (t295.length : Int) then ((supercargoref09_number.f kj4 (⟨#[97, 99, 107]⟩ : ByteArray) a0_4).bind fun bt299 => ((supercargoref09_number.f kj4 (⟨#[105, 110, 100, 101, 120]⟩ : ByteArray) a0_8).bind fun bt301 => ((supercargoref09_number.f kj4 (⟨#[100, 97, 121]⟩ : ByteArray) a0_9).bind fun bt303 => (supercargoref09_Fields.l0 kj4 (([(⟨(⟨#[102, 114, 111, 109]⟩ : ByteArray), a0_0⟩ : S43), (⟨(⟨#[116, 111]⟩ : ByteArray), a0_1⟩ : S43), (⟨t293, t294⟩ : S43), (⟨(⟨#[107, 105, 110, 100]⟩ : ByteArray), rdOf ByteArray.empty t295 a0_3⟩ : S43), (⟨bt299.1, bt299.2⟩ : S43), (⟨(⟨#[100, 101, 97, 108]⟩ : ByteArray), a0_5⟩ : S43), (⟨(⟨#[116, 101, 120, 116]⟩ : ByteArray), a0_6⟩ : S43), (⟨(⟨#[112, 97, 114, 116, 121]⟩ : ByteArray), a0_7⟩ : S43), (⟨bt301.1, bt301.2⟩ : S43), (⟨bt303.1, bt303.2⟩ : S43), (⟨(⟨#[115, 117, 109]⟩ : ByteArray), x3_4⟩ : S43)] : List (S43))) 0 a0_0 a0_1 a0_2 a0_3 a0_4 a0_5 a0_6 a0_7 a0_8 a0_9 a0_10 a0_11 l0_12 l0_13)))) else (none)) else (none))) = some r := H
    have A15 := Aside0.mk A150
    clear A150
    replace H := Option.bind_eq_some_iff.mp H
    obtain ⟨t295, A160, H⟩ := H
    replace H : (if 0 ≤ a0_3 then (if a0_3 < (t295.length : Int) then ((supercargoref09_number.f kj4 (⟨#[97, 99, 107]⟩ : ByteArray) a0_4).bind fun bt299 => ((supercargoref09_number.f kj4 (⟨#[105, 110, 100, 101, 120]⟩ : ByteArray) a0_8).bind fun bt301 => ((supercargoref09_number.f kj4 (⟨#[100, 97, 121]⟩ : ByteArray) a0_9).bind fun bt303 => (supercargoref09_Fields.l0 kj4 (([(⟨(⟨#[102, 114, 111, 109]⟩ : ByteArray), a0_0⟩ : S43), (⟨(⟨#[116, 111]⟩ : ByteArray), a0_1⟩ : S43), (⟨t293, t294⟩ : S43), (⟨(⟨#[107, 105, 110, 100]⟩ : ByteArray), rdOf ByteArray.empty t295 a0_3⟩ : S43), (⟨bt299.1, bt299.2⟩ : S43), (⟨(⟨#[100, 101, 97, 108]⟩ : ByteArray), a0_5⟩ : S43), (⟨(⟨#[116, 101, 120, 116]⟩ : ByteArray), a0_6⟩ : S43), (⟨(⟨#[112, 97, 114, 116, 121]⟩ : ByteArray), a0_7⟩ : S43), (⟨bt301.1, bt301.2⟩ : S43), (⟨bt303.1, bt303.2⟩ : S43), (⟨(⟨#[115, 117, 109]⟩ : ByteArray), x3_4⟩ : S43)] : List (S43))) 0 a0_0 a0_1 a0_2 a0_3 a0_4 a0_5 a0_6 a0_7 a0_8 a0_9 a0_10 a0_11 l0_12 l0_13)))) else (none)) else (none)) = some r := H
    have A16 := Aside0.mk A160
    clear A160
    by_cases c17 : 0 ≤ a0_3
    ·
     rw [if_pos c17] at H
     have c17b0 : decide (0 ≤ a0_3) = true := decide_eq_true c17
     clear c17
     by_cases c18 : a0_3 < (t295.length : Int)
     ·
      rw [if_pos c18] at H
      have c18b0 : decide (a0_3 < (t295.length : Int)) = true := decide_eq_true c18
      clear c18
      replace H := Option.bind_eq_some_iff.mp H
      obtain ⟨⟨t299, t300⟩, A190, H⟩ := H
      replace H : ((supercargoref09_number.f kj4 (⟨#[105, 110, 100, 101, 120]⟩ : ByteArray) a0_8).bind fun bt301 => ((supercargoref09_number.f kj4 (⟨#[100, 97, 121]⟩ : ByteArray) a0_9).bind fun bt303 => (supercargoref09_Fields.l0 kj4 (([(⟨(⟨#[102, 114, 111, 109]⟩ : ByteArray), a0_0⟩ : S43), (⟨(⟨#[116, 111]⟩ : ByteArray), a0_1⟩ : S43), (⟨t293, t294⟩ : S43), (⟨(⟨#[107, 105, 110, 100]⟩ : ByteArray), rdOf ByteArray.empty t295 a0_3⟩ : S43), (⟨t299, t300⟩ : S43), (⟨(⟨#[100, 101, 97, 108]⟩ : ByteArray), a0_5⟩ : S43), (⟨(⟨#[116, 101, 120, 116]⟩ : ByteArray), a0_6⟩ : S43), (⟨(⟨#[112, 97, 114, 116, 121]⟩ : ByteArray), a0_7⟩ : S43), (⟨bt301.1, bt301.2⟩ : S43), (⟨bt303.1, bt303.2⟩ : S43), (⟨(⟨#[115, 117, 109]⟩ : ByteArray), x3_4⟩ : S43)] : List (S43))) 0 a0_0 a0_1 a0_2 a0_3 a0_4 a0_5 a0_6 a0_7 a0_8 a0_9 a0_10 a0_11 l0_12 l0_13))) = some r := H
      have A19 := Aside0.mk A190
      clear A190
      replace H := Option.bind_eq_some_iff.mp H
      obtain ⟨⟨t301, t302⟩, A200, H⟩ := H
      replace H : ((supercargoref09_number.f kj4 (⟨#[100, 97, 121]⟩ : ByteArray) a0_9).bind fun bt303 => (supercargoref09_Fields.l0 kj4 (([(⟨(⟨#[102, 114, 111, 109]⟩ : ByteArray), a0_0⟩ : S43), (⟨(⟨#[116, 111]⟩ : ByteArray), a0_1⟩ : S43), (⟨t293, t294⟩ : S43), (⟨(⟨#[107, 105, 110, 100]⟩ : ByteArray), rdOf ByteArray.empty t295 a0_3⟩ : S43), (⟨t299, t300⟩ : S43), (⟨(⟨#[100, 101, 97, 108]⟩ : ByteArray), a0_5⟩ : S43), (⟨(⟨#[116, 101, 120, 116]⟩ : ByteArray), a0_6⟩ : S43), (⟨(⟨#[112, 97, 114, 116, 121]⟩ : ByteArray), a0_7⟩ : S43), (⟨t301, t302⟩ : S43), (⟨bt303.1, bt303.2⟩ : S43), (⟨(⟨#[115, 117, 109]⟩ : ByteArray), x3_4⟩ : S43)] : List (S43))) 0 a0_0 a0_1 a0_2 a0_3 a0_4 a0_5 a0_6 a0_7 a0_8 a0_9 a0_10 a0_11 l0_12 l0_13)) = some r := H
      have A20 := Aside0.mk A200
      clear A200
      replace H := Option.bind_eq_some_iff.mp H
      obtain ⟨⟨t303, t304⟩, A210, H⟩ := H
      replace H : (supercargoref09_Fields.l0 kj4 (([(⟨(⟨#[102, 114, 111, 109]⟩ : ByteArray), a0_0⟩ : S43), (⟨(⟨#[116, 111]⟩ : ByteArray), a0_1⟩ : S43), (⟨t293, t294⟩ : S43), (⟨(⟨#[107, 105, 110, 100]⟩ : ByteArray), rdOf ByteArray.empty t295 a0_3⟩ : S43), (⟨t299, t300⟩ : S43), (⟨(⟨#[100, 101, 97, 108]⟩ : ByteArray), a0_5⟩ : S43), (⟨(⟨#[116, 101, 120, 116]⟩ : ByteArray), a0_6⟩ : S43), (⟨(⟨#[112, 97, 114, 116, 121]⟩ : ByteArray), a0_7⟩ : S43), (⟨t301, t302⟩ : S43), (⟨t303, t304⟩ : S43), (⟨(⟨#[115, 117, 109]⟩ : ByteArray), x3_4⟩ : S43)] : List (S43))) 0 a0_0 a0_1 a0_2 a0_3 a0_4 a0_5 a0_6 a0_7 a0_8 a0_9 a0_10 a0_11 l0_12 l0_13) = some r := H
      have A21 := Aside0.mk A210
      clear A210
      obtain ⟨y305, hy305⟩ : ∃ y_ : List (S43), y_ = (([(⟨(⟨#[102, 114, 111, 109]⟩ : ByteArray), a0_0⟩ : S43), (⟨(⟨#[116, 111]⟩ : ByteArray), a0_1⟩ : S43), (⟨t293, t294⟩ : S43), (⟨(⟨#[107, 105, 110, 100]⟩ : ByteArray), rdOf ByteArray.empty t295 a0_3⟩ : S43), (⟨t299, t300⟩ : S43), (⟨(⟨#[100, 101, 97, 108]⟩ : ByteArray), a0_5⟩ : S43), (⟨(⟨#[116, 101, 120, 116]⟩ : ByteArray), a0_6⟩ : S43), (⟨(⟨#[112, 97, 114, 116, 121]⟩ : ByteArray), a0_7⟩ : S43), (⟨t301, t302⟩ : S43), (⟨t303, t304⟩ : S43), (⟨(⟨#[115, 117, 109]⟩ : ByteArray), x3_4⟩ : S43)] : List (S43))) := ⟨_, rfl⟩
      replace H : (supercargoref09_Fields.l0 kj4 y305 0 a0_0 a0_1 a0_2 a0_3 a0_4 a0_5 a0_6 a0_7 a0_8 a0_9 a0_10 a0_11 l0_12 l0_13) = some r := by first | (rw [hy305]; with_reducible exact H) | (have H2_ := (Option.bind_some _ _).symm.trans H; rw [hy305]; with_reducible exact H2_) | (have H2_ := (Option.bind_some _ _).symm.trans H; with_reducible exact H2_) | with_reducible exact H | (rw [hy305]; exact H) | exact H
      have Ny305 := Aside0.mk hy305
      clear hy305
      have H' := Aside0.mk H
      clear H
      try go_wp2
      have n0_ := Aside0.mk (blk_drew BK289.out)
      have n1_ := Aside0.mk (below_drew1 HB.out)
      clear BK289
      clear HB
      have BK289 := n0_
      have HB := n1_
      clear n0_ n1_
      refine start_ (n := 37) (S := fun w' => w'.cell? ⟨gb289, 0, none⟩ = some (.string a0_0) ∧ w'.cell? ⟨gb289, 1, none⟩ = some (.string a0_1) ∧ w'.cell? ⟨gb289, 2, none⟩ = some (.int .i64 a0_2) ∧ w'.cell? ⟨gb289, 3, none⟩ = some (.int .i64 a0_3) ∧ w'.cell? ⟨gb289, 4, none⟩ = some (.int .i64 a0_4) ∧ w'.cell? ⟨gb289, 5, none⟩ = some (.string a0_5) ∧ w'.cell? ⟨gb289, 6, none⟩ = some (.string a0_6) ∧ w'.cell? ⟨gb289, 7, none⟩ = some (.string a0_7) ∧ w'.cell? ⟨gb289, 8, none⟩ = some (.int .i64 a0_8) ∧ w'.cell? ⟨gb289, 9, none⟩ = some (.int .i64 a0_9) ∧ w'.cell? ⟨gb289, 10, none⟩ = some (.string a0_10) ∧ w'.cell? ⟨gb289, 11, none⟩ = some (.int .i64 a0_11) ∧ w'.cell? ⟨gb289, 12, none⟩ = some (.slice A0_12 l0_12.length c0_12) ∧ w'.cell? ⟨gb289, 13, none⟩ = some (.slice A0_13 l0_13.length c0_13)) (ds := []) #[false, false, false, false, false, false, false, false, false, false, false, false, false, false, false, false, false, false, false, false, false, false, false, false, false, false, false, false, false, false, false, false, false, false, false, false, false] (by kernel_rfl) rfl rfl ⟨(blk_cell BK289.out 0).trans rfl, (blk_cell BK289.out 1).trans rfl, (blk_cell BK289.out 2).trans rfl, (blk_cell BK289.out 3).trans rfl, (blk_cell BK289.out 4).trans rfl, (blk_cell BK289.out 5).trans rfl, (blk_cell BK289.out 6).trans rfl, (blk_cell BK289.out 7).trans rfl, (blk_cell BK289.out 8).trans rfl, (blk_cell BK289.out 9).trans rfl, (blk_cell BK289.out 10).trans rfl, (blk_cell BK289.out 11).trans rfl, (blk_cell BK289.out 12).trans rfl, (blk_cell BK289.out 13).trans rfl⟩ (fun hHeld => ?_); refine with_tabW supercargoref09_Fields.tab6 supercargoref09_Fields.bits6 (fun HT_ HW_ => ?_)
      generalize wc.drew = w22 at BK289 HB hHeld ⊢
      refine pure_ (i := 0) (N := some 19) (v := ?_) (a' := ?_) #[true, false, false, false, false, false, false, false, false, false, false, false, false, false, false, false, false, false, false, false, false, false, false, false, false, false, false, false, false, false, false, false, false, false, false, false, false] rfl rfl (any_of HT_.out (by kernel_rfl)) (fun _ _ _ h => h) (Or.inl ⟨by rfl, ?_⟩) ?_ ?_
      rotate_left
      ·
       intro w'
       go_simp
       with_reducible rfl
      rotate_left
      ·
       simp only [Act.put, List.setIfInBounds_toArray, List.set_cons_zero, List.set_cons_succ, i64_w, i32_w]
       rfl
      refine pure_ (i := 3) (N := some 22) (v := ?_) (a' := ?_) #[true, false, false, true, false, false, false, false, false, false, false, false, false, false, false, false, false, false, false, false, false, false, false, false, false, false, false, false, false, false, false, false, false, false, false, false, false] rfl rfl (any_of HT_.out (by kernel_rfl)) (fun _ _ _ h => h) (Or.inl ⟨by rfl, ?_⟩) ?_ ?_
      rotate_left
      ·
       intro w'
       go_simp
       with_reducible rfl
      rotate_left
      ·
       simp only [Act.put, List.setIfInBounds_toArray, List.set_cons_zero, List.set_cons_succ, i64_w, i32_w]
       rfl
      refine pure_ (i := 6) (N := some 25) (v := ?_) (a' := ?_) #[true, false, false, true, false, false, true, false, false, false, false, false, false, false, false, false, false, false, false, false, false, false, false, false, false, false, false, false, false, false, false, false, false, false, false, false, false] rfl rfl (any_of HT_.out (by kernel_rfl)) (fun _ _ _ h => h) (Or.inl ⟨by rfl, ?_⟩) ?_ ?_
      rotate_left
      ·
       intro w'
       go_simp
       with_reducible rfl
      rotate_left
      ·
       simp only [Act.put, List.setIfInBounds_toArray, List.set_cons_zero, List.set_cons_succ, i64_w, i32_w]
       rfl
      refine pure_ (i := 10) (N := some 29) (v := ?_) (a' := ?_) #[true, false, false, true, false, false, true, false, false, false, true, false, false, false, false, false, false, false, false, false, false, false, false, false, false, false, false, false, false, false, false, false, false, false, false, false, false] rfl rfl (any_of HT_.out (by kernel_rfl)) (fun _ _ _ h => h) (Or.inl ⟨by rfl, ?_⟩) ?_ ?_
      rotate_left
      ·
       intro w'
       go_simp
       with_reducible rfl
      rotate_left
      ·
       simp only [Act.put, List.setIfInBounds_toArray, List.set_cons_zero, List.set_cons_succ, i64_w, i32_w]
       rfl
      refine pure_ (i := 15) (N := some 34) (v := ?_) (a' := ?_) #[true, false, false, true, false, false, true, false, false, false, true, false, false, false, false, true, false, false, false, false, false, false, false, false, false, false, false, false, false, false, false, false, false, false, false, false, false] rfl rfl (any_of HT_.out (by kernel_rfl)) (fun _ _ _ h => h) (Or.inl ⟨by rfl, ?_⟩) ?_ ?_
      rotate_left
      ·
       intro w'
       go_simp
       with_reducible rfl
      rotate_left
      ·
       simp only [Act.put, List.setIfInBounds_toArray, List.set_cons_zero, List.set_cons_succ, i64_w, i32_w]
       rfl
      refine pure_ (i := 18) (N := some 37) (v := ?_) (a' := ?_) #[true, false, false, true, false, false, true, false, false, false, true, false, false, false, false, true, false, false, true, false, false, false, false, false, false, false, false, false, false, false, false, false, false, false, false, false, false] rfl rfl (any_of HT_.out (by kernel_rfl)) (fun _ _ _ h => h) (Or.inl ⟨by rfl, ?_⟩) ?_ ?_
      rotate_left
      ·
       intro w'
       go_simp
       with_reducible rfl
      rotate_left
      ·
       simp only [Act.put, List.setIfInBounds_toArray, List.set_cons_zero, List.set_cons_succ, i64_w, i32_w]
       rfl
      refine pure_ (i := 21) (N := some 40) (v := ?_) (a' := ?_) #[true, false, false, true, false, false, true, false, false, false, true, false, false, false, false, true, false, false, true, false, false, true, false, false, false, false, false, false, false, false, false, false, false, false, false, false, false] rfl rfl (any_of HT_.out (by kernel_rfl)) (fun _ _ _ h => h) (Or.inl ⟨by rfl, ?_⟩) ?_ ?_
      rotate_left
      ·
       intro w'
       go_simp
       with_reducible rfl
      rotate_left
      ·
       simp only [Act.put, List.setIfInBounds_toArray, List.set_cons_zero, List.set_cons_succ, i64_w, i32_w]
       rfl
      refine pure_ (i := 24) (N := some 43) (v := ?_) (a' := ?_) #[true, false, false, true, false, false, true, false, false, false, true, false, false, false, false, true, false, false, true, false, false, true, false, false, true, false, false, false, false, false, false, false, false, false, false, false, false] rfl rfl (any_of HT_.out (by kernel_rfl)) (fun _ _ _ h => h) (Or.inl ⟨by rfl, ?_⟩) ?_ ?_
      rotate_left
      ·
       intro w'
       go_simp
       with_reducible rfl
      rotate_left
      ·
       simp only [Act.put, List.setIfInBounds_toArray, List.set_cons_zero, List.set_cons_succ, i64_w, i32_w]
       rfl
      refine pure_ (i := 27) (N := some 46) (v := ?_) (a' := ?_) #[true, false, false, true, false, false, true, false, false, false, true, false, false, false, false, true, false, false, true, false, false, true, false, false, true, false, false, true, false, false, false, false, false, false, false, false, false] rfl rfl (any_of HT_.out (by kernel_rfl)) (fun _ _ _ h => h) (Or.inl ⟨by rfl, ?_⟩) ?_ ?_
      rotate_left
      ·
       intro w'
       go_simp
       with_reducible rfl
      rotate_left
      ·
       simp only [Act.put, List.setIfInBounds_toArray, List.set_cons_zero, List.set_cons_succ, i64_w, i32_w]
       rfl
      refine pure_ (i := 30) (N := some 49) (v := ?_) (a' := ?_) #[true, false, false, true, false, false, true, false, false, false, true, false, false, false, false, true, false, false, true, false, false, true, false, false, true, false, false, true, false, false, true, false, false, false, false, false, false] rfl rfl (any_of HT_.out (by kernel_rfl)) (fun _ _ _ h => h) (Or.inl ⟨by rfl, ?_⟩) ?_ ?_
      rotate_left
      ·
       intro w'
       go_simp
       with_reducible rfl
      rotate_left
      ·
       simp only [Act.put, List.setIfInBounds_toArray, List.set_cons_zero, List.set_cons_succ, i64_w, i32_w]
       rfl
      refine pure_ (i := 33) (N := some 52) (v := ?_) (a' := ?_) #[true, false, false, true, false, false, true, false, false, false, true, false, false, false, false, true, false, false, true, false, false, true, false, false, true, false, false, true, false, false, true, false, false, true, false, false, false] rfl rfl (any_of HT_.out (by kernel_rfl)) (fun _ _ _ h => h) (Or.inl ⟨by rfl, ?_⟩) ?_ ?_
      rotate_left
      ·
       intro w'
       go_simp
       with_reducible rfl
      rotate_left
      ·
       simp only [Act.put, List.setIfInBounds_toArray, List.set_cons_zero, List.set_cons_succ, i64_w, i32_w]
       rfl
      refine pure_ (i := 34) (N := some 53) (v := ?_) (a' := ?_) #[true, false, false, true, false, false, true, false, false, false, true, false, false, false, false, true, false, false, true, false, false, true, false, false, true, false, false, true, false, false, true, false, false, true, true, false, false] rfl rfl (any_of HT_.out (by kernel_rfl)) (fun _ _ _ h => h) (Or.inl ⟨by rfl, ?_⟩) ?_ ?_
      rotate_left
      ·
       intro w'
       go_simp
       with_reducible rfl
      rotate_left
      ·
       simp only [Act.put, List.setIfInBounds_toArray, List.set_cons_zero, List.set_cons_succ, i64_w, i32_w]
       rfl
      refine take_ (i := 1) (N := some 20) (v := ?_) (a' := ?_) #[true, true, false, true, false, false, true, false, false, false, true, false, false, false, false, true, false, false, true, false, false, true, false, false, true, false, false, true, false, false, true, false, false, true, true, false, false] rfl rfl (take_ofW HT_.out HW_.out (by kernel_rfl)) (fun _ _ _ h => h) (Or.inl ⟨by rfl, ?_⟩) hHeld ?_ ?_
      rotate_left
      ·
       rintro w' ⟨s0, s1, s2, s3, s4, s5, s6, s7, s8, s9, s10, s11, s12, s13⟩
       go_simp
       with_reducible rfl
      rotate_left
      ·
       simp only [Act.put, List.setIfInBounds_toArray, List.set_cons_zero, List.set_cons_succ, i64_w, i32_w]
       rfl
      refine pure_ (i := 2) (N := some 21) (v := ?_) (a' := ?_) #[true, true, true, true, false, false, true, false, false, false, true, false, false, false, false, true, false, false, true, false, false, true, false, false, true, false, false, true, false, false, true, false, false, true, true, false, false] rfl rfl (any_of HT_.out (by kernel_rfl)) (fun _ _ _ h => h) (Or.inl ⟨by rfl, ?_⟩) ?_ ?_
      rotate_left
      ·
       intro w'
       go_simp
       with_reducible rfl
      rotate_left
      ·
       simp only [Act.put, List.setIfInBounds_toArray, List.set_cons_zero, List.set_cons_succ, i64_w, i32_w]
       rfl
      refine take_ (i := 4) (N := some 23) (v := ?_) (a' := ?_) #[true, true, true, true, true, false, true, false, false, false, true, false, false, false, false, true, false, false, true, false, false, true, false, false, true, false, false, true, false, false, true, false, false, true, true, false, false] rfl rfl (take_ofW HT_.out HW_.out (by kernel_rfl)) (fun _ _ _ h => h) (Or.inl ⟨by rfl, ?_⟩) hHeld ?_ ?_
      rotate_left
      ·
       rintro w' ⟨s0, s1, s2, s3, s4, s5, s6, s7, s8, s9, s10, s11, s12, s13⟩
       go_simp
       with_reducible rfl
      rotate_left
      ·
       simp only [Act.put, List.setIfInBounds_toArray, List.set_cons_zero, List.set_cons_succ, i64_w, i32_w]
       rfl
      refine pure_ (i := 5) (N := some 24) (v := ?_) (a' := ?_) #[true, true, true, true, true, true, true, false, false, false, true, false, false, false, false, true, false, false, true, false, false, true, false, false, true, false, false, true, false, false, true, false, false, true, true, false, false] rfl rfl (any_of HT_.out (by kernel_rfl)) (fun _ _ _ h => h) (Or.inl ⟨by rfl, ?_⟩) ?_ ?_
      rotate_left
      ·
       intro w'
       go_simp
       with_reducible rfl
      rotate_left
      ·
       simp only [Act.put, List.setIfInBounds_toArray, List.set_cons_zero, List.set_cons_succ, i64_w, i32_w]
       rfl
      refine take_ (i := 7) (N := some 26) (v := ?_) (a' := ?_) #[true, true, true, true, true, true, true, true, false, false, true, false, false, false, false, true, false, false, true, false, false, true, false, false, true, false, false, true, false, false, true, false, false, true, true, false, false] rfl rfl (take_ofW HT_.out HW_.out (by kernel_rfl)) (fun _ _ _ h => h) (Or.inl ⟨by rfl, ?_⟩) hHeld ?_ ?_
      rotate_left
      ·
       rintro w' ⟨s0, s1, s2, s3, s4, s5, s6, s7, s8, s9, s10, s11, s12, s13⟩
       go_simp
       with_reducible rfl
      rotate_left
      ·
       simp only [Act.put, List.setIfInBounds_toArray, List.set_cons_zero, List.set_cons_succ, i64_w, i32_w]
       rfl
      refine take_ (i := 11) (N := some 30) (v := ?_) (a' := ?_) #[true, true, true, true, true, true, true, true, false, false, true, true, false, false, false, true, false, false, true, false, false, true, false, false, true, false, false, true, false, false, true, false, false, true, true, false, false] rfl rfl (take_ofW HT_.out HW_.out (by kernel_rfl)) (fun _ _ _ h => h) (Or.inl ⟨by rfl, ?_⟩) hHeld ?_ ?_
      rotate_left
      ·
       rintro w' ⟨s0, s1, s2, s3, s4, s5, s6, s7, s8, s9, s10, s11, s12, s13⟩
       go_simp
       with_reducible rfl
      rotate_left
      ·
       simp only [Act.put, List.setIfInBounds_toArray, List.set_cons_zero, List.set_cons_succ, i64_w, i32_w]
       rfl
      refine take_ (i := 16) (N := some 35) (v := ?_) (a' := ?_) #[true, true, true, true, true, true, true, true, false, false, true, true, false, false, false, true, true, false, true, false, false, true, false, false, true, false, false, true, false, false, true, false, false, true, true, false, false] rfl rfl (take_ofW HT_.out HW_.out (by kernel_rfl)) (fun _ _ _ h => h) (Or.inl ⟨by rfl, ?_⟩) hHeld ?_ ?_
      rotate_left
      ·
       rintro w' ⟨s0, s1, s2, s3, s4, s5, s6, s7, s8, s9, s10, s11, s12, s13⟩
       go_simp
       with_reducible rfl
      rotate_left
      ·
       simp only [Act.put, List.setIfInBounds_toArray, List.set_cons_zero, List.set_cons_succ, i64_w, i32_w]
       rfl
      refine take_ (i := 19) (N := some 38) (v := ?_) (a' := ?_) #[true, true, true, true, true, true, true, true, false, false, true, true, false, false, false, true, true, false, true, true, false, true, false, false, true, false, false, true, false, false, true, false, false, true, true, false, false] rfl rfl (take_ofW HT_.out HW_.out (by kernel_rfl)) (fun _ _ _ h => h) (Or.inl ⟨by rfl, ?_⟩) hHeld ?_ ?_
      rotate_left
      ·
       rintro w' ⟨s0, s1, s2, s3, s4, s5, s6, s7, s8, s9, s10, s11, s12, s13⟩
       go_simp
       with_reducible rfl
      rotate_left
      ·
       simp only [Act.put, List.setIfInBounds_toArray, List.set_cons_zero, List.set_cons_succ, i64_w, i32_w]
       rfl
      refine pure_ (i := 20) (N := some 39) (v := ?_) (a' := ?_) #[true, true, true, true, true, true, true, true, false, false, true, true, false, false, false, true, true, false, true, true, true, true, false, false, true, false, false, true, false, false, true, false, false, true, true, false, false] rfl rfl (any_of HT_.out (by kernel_rfl)) (fun _ _ _ h => h) (Or.inl ⟨by rfl, ?_⟩) ?_ ?_
      rotate_left
      ·
       intro w'
       go_simp
       with_reducible rfl
      rotate_left
      ·
       simp only [Act.put, List.setIfInBounds_toArray, List.set_cons_zero, List.set_cons_succ, i64_w, i32_w]
       rfl
      refine take_ (i := 22) (N := some 41) (v := ?_) (a' := ?_) #[true, true, true, true, true, true, true, true, false, false, true, true, false, false, false, true, true, false, true, true, true, true, true, false, true, false, false, true, false, false, true, false, false, true, true, false, false] rfl rfl (take_ofW HT_.out HW_.out (by kernel_rfl)) (fun _ _ _ h => h) (Or.inl ⟨by rfl, ?_⟩) hHeld ?_ ?_
      rotate_left
      ·
       rintro w' ⟨s0, s1, s2, s3, s4, s5, s6, s7, s8, s9, s10, s11, s12, s13⟩
       go_simp
       with_reducible rfl
      rotate_left
      ·
       simp only [Act.put, List.setIfInBounds_toArray, List.set_cons_zero, List.set_cons_succ, i64_w, i32_w]
       rfl
      refine pure_ (i := 23) (N := some 42) (v := ?_) (a' := ?_) #[true, true, true, true, true, true, true, true, false, false, true, true, false, false, false, true, true, false, true, true, true, true, true, true, true, false, false, true, false, false, true, false, false, true, true, false, false] rfl rfl (any_of HT_.out (by kernel_rfl)) (fun _ _ _ h => h) (Or.inl ⟨by rfl, ?_⟩) ?_ ?_
      rotate_left
      ·
       intro w'
       go_simp
       with_reducible rfl
      rotate_left
      ·
       simp only [Act.put, List.setIfInBounds_toArray, List.set_cons_zero, List.set_cons_succ, i64_w, i32_w]
       rfl
      refine take_ (i := 25) (N := some 44) (v := ?_) (a' := ?_) #[true, true, true, true, true, true, true, true, false, false, true, true, false, false, false, true, true, false, true, true, true, true, true, true, true, true, false, true, false, false, true, false, false, true, true, false, false] rfl rfl (take_ofW HT_.out HW_.out (by kernel_rfl)) (fun _ _ _ h => h) (Or.inl ⟨by rfl, ?_⟩) hHeld ?_ ?_
      rotate_left
      ·
       rintro w' ⟨s0, s1, s2, s3, s4, s5, s6, s7, s8, s9, s10, s11, s12, s13⟩
       go_simp
       with_reducible rfl
      rotate_left
      ·
       simp only [Act.put, List.setIfInBounds_toArray, List.set_cons_zero, List.set_cons_succ, i64_w, i32_w]
       rfl
      refine pure_ (i := 26) (N := some 45) (v := ?_) (a' := ?_) #[true, true, true, true, true, true, true, true, false, false, true, true, false, false, false, true, true, false, true, true, true, true, true, true, true, true, true, true, false, false, true, false, false, true, true, false, false] rfl rfl (any_of HT_.out (by kernel_rfl)) (fun _ _ _ h => h) (Or.inl ⟨by rfl, ?_⟩) ?_ ?_
      rotate_left
      ·
       intro w'
       go_simp
       with_reducible rfl
      rotate_left
      ·
       simp only [Act.put, List.setIfInBounds_toArray, List.set_cons_zero, List.set_cons_succ, i64_w, i32_w]
       rfl
      refine take_ (i := 28) (N := some 47) (v := ?_) (a' := ?_) #[true, true, true, true, true, true, true, true, false, false, true, true, false, false, false, true, true, false, true, true, true, true, true, true, true, true, true, true, true, false, true, false, false, true, true, false, false] rfl rfl (take_ofW HT_.out HW_.out (by kernel_rfl)) (fun _ _ _ h => h) (Or.inl ⟨by rfl, ?_⟩) hHeld ?_ ?_
      rotate_left
      ·
       rintro w' ⟨s0, s1, s2, s3, s4, s5, s6, s7, s8, s9, s10, s11, s12, s13⟩
       go_simp
       with_reducible rfl
      rotate_left
      ·
       simp only [Act.put, List.setIfInBounds_toArray, List.set_cons_zero, List.set_cons_succ, i64_w, i32_w]
       rfl
      refine take_ (i := 31) (N := some 50) (v := ?_) (a' := ?_) #[true, true, true, true, true, true, true, true, false, false, true, true, false, false, false, true, true, false, true, true, true, true, true, true, true, true, true, true, true, false, true, true, false, true, true, false, false] rfl rfl (take_ofW HT_.out HW_.out (by kernel_rfl)) (fun _ _ _ h => h) (Or.inl ⟨by rfl, ?_⟩) hHeld ?_ ?_
      rotate_left
      ·
       rintro w' ⟨s0, s1, s2, s3, s4, s5, s6, s7, s8, s9, s10, s11, s12, s13⟩
       go_simp
       with_reducible rfl
      rotate_left
      ·
       simp only [Act.put, List.setIfInBounds_toArray, List.set_cons_zero, List.set_cons_succ, i64_w, i32_w]
       rfl
      refine one_ (i := 8) (N := some 27) #[true, true, true, true, true, true, true, true, true, false, true, true, false, false, false, true, true, false, true, true, true, true, true, true, true, true, true, true, true, false, true, true, false, true, true, false, false] rfl rfl (one_of HT_.out (by kernel_rfl)) (by decide) (fun K hK => ?_)
      refine goes_ Tryz.func53 (by kernel_rfl) rfl #[.string (⟨#[110, 117, 109, 98, 101, 114]⟩ : ByteArray), .int .i64 a0_2] (by rfl) rfl rfl (by (try simp only [List.map_toArray, List.map_cons, List.map_nil]); first | done | rfl | (simp only [List.length_drop, List.length_take]; rfl)) ?_
      with_reducible refine (supercargoref09_number.calls kj4 (⟨#[110, 117, 109, 98, 101, 114]⟩ : ByteArray) a0_2 t293 t294 _ A15.out).mono ?_
      rintro e w23 ⟨rfl, hb⟩
      refine ⟨_, rfl, ?_⟩
      have n0_ := Aside0.mk (blk_below (g := gb289) (o := .cells #[.string a0_0, .string a0_1, .int .i64 a0_2, .int .i64 a0_3, .int .i64 a0_4, .string a0_5, .string a0_6, .string a0_7, .int .i64 a0_8, .int .i64 a0_9, .string a0_10, .int .i64 a0_11, .slice A0_12 l0_12.length c0_12, .slice A0_13 l0_13.length c0_13] 33 (0, 0)) (by (with_reducible repeat (first | refine blk_drewN ?_ _ | refine blk_drew ?_ | refine blk_alloc ?_ _)); exact BK289.out) hb)
      have n1_ := Aside0.mk (below_step (by repeat (first | (with_reducible first | exact HB.out | apply below_alloc | apply pw_below_drewN | apply below_drew1 | refine below_set ?_ GE289.out) | exact HB.out)) hb)
      clear BK289
      clear HB
      have BK289 := n0_
      have HB := n1_
      clear n0_ n1_
      (try clear hb)
      (try clear hb2)
      (try clear hk)
      (try clear hi)
      refine hK.out _ _ ⟨(blk_cell BK289.out 0).trans rfl, (blk_cell BK289.out 1).trans rfl, (blk_cell BK289.out 2).trans rfl, (blk_cell BK289.out 3).trans rfl, (blk_cell BK289.out 4).trans rfl, (blk_cell BK289.out 5).trans rfl, (blk_cell BK289.out 6).trans rfl, (blk_cell BK289.out 7).trans rfl, (blk_cell BK289.out 8).trans rfl, (blk_cell BK289.out 9).trans rfl, (blk_cell BK289.out 10).trans rfl, (blk_cell BK289.out 11).trans rfl, (blk_cell BK289.out 12).trans rfl, (blk_cell BK289.out 13).trans rfl⟩ (fun hHeld => ?_)
      clear hK K
      refine norm_ (a' := ?_) ?_ ?_
      rotate_left
      ·
       show Act.put _ (some 27) _ = _
       simp only [Act.put, List.setIfInBounds_toArray, List.set_cons_zero, List.set_cons_succ, i64_w, i32_w]
       rfl
      refine one_ (i := 9) (N := some 28) #[true, true, true, true, true, true, true, true, true, true, true, true, false, false, false, true, true, false, true, true, true, true, true, true, true, true, true, true, true, false, true, true, false, true, true, false, false] rfl rfl (one_of HT_.out (by kernel_rfl)) (by decide) (fun K hK => ?_)
      refine goes_ Tryz.func10 (by kernel_rfl) rfl #[] (by rfl) rfl rfl (by (try simp only [List.map_toArray, List.map_cons, List.map_nil]); first | done | rfl | (simp only [List.length_drop, List.length_take]; rfl)) ?_
      with_reducible refine (supercargoref09_Names.calls  t295 _ A16.out).mono ?_
      rintro e w24 ⟨v296, rfl, ho0, hb⟩
      refine ⟨_, rfl, ?_⟩
      have n0_ := Aside0.mk (Kd.R_lower ho0 (below_size (by repeat (first | (with_reducible first | exact HB.out | apply below_alloc | apply pw_below_drewN | apply below_drew1 | refine below_set ?_ GE289.out) | exact HB.out))))
      have n1_ := Aside0.mk (blk_below (g := gb289) (o := .cells #[.string a0_0, .string a0_1, .int .i64 a0_2, .int .i64 a0_3, .int .i64 a0_4, .string a0_5, .string a0_6, .string a0_7, .int .i64 a0_8, .int .i64 a0_9, .string a0_10, .int .i64 a0_11, .slice A0_12 l0_12.length c0_12, .slice A0_13 l0_13.length c0_13] 33 (0, 0)) (by (with_reducible repeat (first | refine blk_drewN ?_ _ | refine blk_drew ?_ | refine blk_alloc ?_ _)); exact BK289.out) hb)
      have n2_ := Aside0.mk (below_step (by repeat (first | (with_reducible first | exact HB.out | apply below_alloc | apply pw_below_drewN | apply below_drew1 | refine below_set ?_ GE289.out) | exact HB.out)) hb)
      clear BK289
      clear HB
      have HO297 := n0_
      have BK289 := n1_
      have HB := n2_
      clear n0_ n1_ n2_
      (try clear hb)
      (try clear hb2)
      (try clear hk)
      (try clear hi)
      (try clear ho0)
      obtain ⟨Ao25, co25, eo25⟩ := Kd.R_slice HO297.out
      (first | subst eo25 | (injection eo25 with f1_ f2_ f3_; have f4_ := f1_.symm; have f5_ := f3_.symm; clear f1_ f2_ f3_; subst f4_; subst f5_))
      have p298 : 0 ≤ (a0_3 : Int) := of_decide_eq_true (by first | (with_reducible assumption) | assumption)
      have q298 : a0_3 < (t295.length : Int) := of_decide_eq_true (by first | (with_reducible assumption) | assumption)
      obtain ⟨ad298, e298, hx298_0⟩ := Kd.at_string (Kd.R_reads' HO297.out).2.2 a0_3 p298 q298
      cases e298
      replace p298 := eq_true p298
      replace q298 := eq_true q298
      refine hK.out _ _ ⟨(blk_cell BK289.out 0).trans rfl, (blk_cell BK289.out 1).trans rfl, (blk_cell BK289.out 2).trans rfl, (blk_cell BK289.out 3).trans rfl, (blk_cell BK289.out 4).trans rfl, (blk_cell BK289.out 5).trans rfl, (blk_cell BK289.out 6).trans rfl, (blk_cell BK289.out 7).trans rfl, (blk_cell BK289.out 8).trans rfl, (blk_cell BK289.out 9).trans rfl, (blk_cell BK289.out 10).trans rfl, (blk_cell BK289.out 11).trans rfl, (blk_cell BK289.out 12).trans rfl, (blk_cell BK289.out 13).trans rfl⟩ (fun hHeld => ?_)
      clear hK K
      clear hHeld
      refine last_more (fun w' => w'.cell? ⟨gb289, 0, none⟩ = some (.string a0_0) ∧ w'.cell? ⟨gb289, 1, none⟩ = some (.string a0_1) ∧ w'.cell? ⟨gb289, 2, none⟩ = some (.int .i64 a0_2) ∧ w'.cell? ⟨gb289, 3, none⟩ = some (.int .i64 a0_3) ∧ w'.cell? ⟨gb289, 4, none⟩ = some (.int .i64 a0_4) ∧ w'.cell? ⟨gb289, 5, none⟩ = some (.string a0_5) ∧ w'.cell? ⟨gb289, 6, none⟩ = some (.string a0_6) ∧ w'.cell? ⟨gb289, 7, none⟩ = some (.string a0_7) ∧ w'.cell? ⟨gb289, 8, none⟩ = some (.int .i64 a0_8) ∧ w'.cell? ⟨gb289, 9, none⟩ = some (.int .i64 a0_9) ∧ w'.cell? ⟨gb289, 10, none⟩ = some (.string a0_10) ∧ w'.cell? ⟨gb289, 11, none⟩ = some (.int .i64 a0_11) ∧ w'.cell? ⟨gb289, 12, none⟩ = some (.slice A0_12 l0_12.length c0_12) ∧ w'.cell? ⟨gb289, 13, none⟩ = some (.slice A0_13 l0_13.length c0_13) ∧ w'.cell? (ad298.add (a0_3).toNat) = some (.string (rdOf ByteArray.empty t295 a0_3))) (fun w' h => ⟨h.1, h.2.1, h.2.2.1, h.2.2.2.1, h.2.2.2.2.1, h.2.2.2.2.2.1, h.2.2.2.2.2.2.1, h.2.2.2.2.2.2.2.1, h.2.2.2.2.2.2.2.2.1, h.2.2.2.2.2.2.2.2.2.1, h.2.2.2.2.2.2.2.2.2.2.1, h.2.2.2.2.2.2.2.2.2.2.2.1, h.2.2.2.2.2.2.2.2.2.2.2.2.1, h.2.2.2.2.2.2.2.2.2.2.2.2.2.1⟩) ⟨(blk_cell BK289.out 0).trans rfl, (blk_cell BK289.out 1).trans rfl, (blk_cell BK289.out 2).trans rfl, (blk_cell BK289.out 3).trans rfl, (blk_cell BK289.out 4).trans rfl, (blk_cell BK289.out 5).trans rfl, (blk_cell BK289.out 6).trans rfl, (blk_cell BK289.out 7).trans rfl, (blk_cell BK289.out 8).trans rfl, (blk_cell BK289.out 9).trans rfl, (blk_cell BK289.out 10).trans rfl, (blk_cell BK289.out 11).trans rfl, (blk_cell BK289.out 12).trans rfl, (blk_cell BK289.out 13).trans rfl, hx298_0⟩ (fun hHeld => ?_)
      refine norm_ (a' := ?_) ?_ ?_
      rotate_left
      ·
       show Act.put _ (some 28) _ = _
       simp only [Act.put, List.setIfInBounds_toArray, List.set_cons_zero, List.set_cons_succ, i64_w, i32_w]
       rfl
      refine pure_ (i := 12) (N := some 31) (v := ?_) (a' := ?_) #[true, true, true, true, true, true, true, true, true, true, true, true, true, false, false, true, true, false, true, true, true, true, true, true, true, true, true, true, true, false, true, true, false, true, true, false, false] rfl rfl (any_of HT_.out (by kernel_rfl)) (fun _ _ _ h => h) (Or.inl ⟨by rfl, ?_⟩) ?_ ?_
      rotate_left
      ·
       intro w'
       go_simp
       with_reducible rfl
      rotate_left
      ·
       simp only [Act.put, List.setIfInBounds_toArray, List.set_cons_zero, List.set_cons_succ, i64_w, i32_w]
       rfl
      refine take_ (i := 13) (N := some 32) (v := ?_) (a' := ?_) #[true, true, true, true, true, true, true, true, true, true, true, true, true, true, false, true, true, false, true, true, true, true, true, true, true, true, true, true, true, false, true, true, false, true, true, false, false] rfl rfl (take_ofW HT_.out HW_.out (by kernel_rfl)) (fun _ _ _ h => h) (Or.inl ⟨by rfl, ?_⟩) hHeld ?_ ?_
      rotate_left
      ·
       rintro w' ⟨s0, s1, s2, s3, s4, s5, s6, s7, s8, s9, s10, s11, s12, s13, s14⟩
       go_simp
       with_reducible rfl
      rotate_left
      ·
       simp only [Act.put, List.setIfInBounds_toArray, List.set_cons_zero, List.set_cons_succ, i64_w, i32_w]
       rfl
      refine pure_ (i := 14) (N := some 33) (v := ?_) (a' := ?_) #[true, true, true, true, true, true, true, true, true, true, true, true, true, true, true, true, true, false, true, true, true, true, true, true, true, true, true, true, true, false, true, true, false, true, true, false, false] rfl rfl (any_of HT_.out (by kernel_rfl)) (fun _ _ _ h => h) (Or.inl ⟨by rfl, ?_⟩) ?_ ?_
      rotate_left
      ·
       intro w'
       go_simp
       with_reducible rfl
      rotate_left
      ·
       simp only [Act.put, List.setIfInBounds_toArray, List.set_cons_zero, List.set_cons_succ, i64_w, i32_w]
       rfl
      refine one_ (i := 17) (N := some 36) #[true, true, true, true, true, true, true, true, true, true, true, true, true, true, true, true, true, true, true, true, true, true, true, true, true, true, true, true, true, false, true, true, false, true, true, false, false] rfl rfl (one_of HT_.out (by kernel_rfl)) (by decide) (fun K hK => ?_)
      refine goes_ Tryz.func53 (by kernel_rfl) rfl #[.string (⟨#[97, 99, 107]⟩ : ByteArray), .int .i64 a0_4] (by rfl) rfl rfl (by (try simp only [List.map_toArray, List.map_cons, List.map_nil]); first | done | rfl | (simp only [List.length_drop, List.length_take]; rfl)) ?_
      with_reducible refine (supercargoref09_number.calls kj4 (⟨#[97, 99, 107]⟩ : ByteArray) a0_4 t299 t300 _ A19.out).mono ?_
      rintro e w26 ⟨rfl, hb⟩
      have HS14_ := (hb.cell (World.block_lt_of_cell? _ _ (hHeld.2.2.2.2.2.2.2.2.2.2.2.2.2.2))).trans (hHeld.2.2.2.2.2.2.2.2.2.2.2.2.2.2)
      refine ⟨_, rfl, ?_⟩
      have n0_ := Aside0.mk (Kd.R_below (by (with_reducible repeat (first | apply Kd.R_alloc | apply Kd.R_drewN | apply Kd.R_drew)); exact HO297.out) hb)
      have n1_ := Aside0.mk (blk_below (g := gb289) (o := .cells #[.string a0_0, .string a0_1, .int .i64 a0_2, .int .i64 a0_3, .int .i64 a0_4, .string a0_5, .string a0_6, .string a0_7, .int .i64 a0_8, .int .i64 a0_9, .string a0_10, .int .i64 a0_11, .slice A0_12 l0_12.length c0_12, .slice A0_13 l0_13.length c0_13] 33 (0, 0)) (by (with_reducible repeat (first | refine blk_drewN ?_ _ | refine blk_drew ?_ | refine blk_alloc ?_ _)); exact BK289.out) hb)
      have n2_ := Aside0.mk (below_step (by repeat (first | (with_reducible first | exact HB.out | apply below_alloc | apply pw_below_drewN | apply below_drew1 | refine below_set ?_ GE289.out) | exact HB.out)) hb)
      clear HO297
      clear BK289
      clear HB
      have HO297 := n0_
      have BK289 := n1_
      have HB := n2_
      clear n0_ n1_ n2_
      (try clear hb)
      (try clear hb2)
      (try clear hk)
      (try clear hi)
      refine hK.out _ _ ⟨(blk_cell BK289.out 0).trans rfl, (blk_cell BK289.out 1).trans rfl, (blk_cell BK289.out 2).trans rfl, (blk_cell BK289.out 3).trans rfl, (blk_cell BK289.out 4).trans rfl, (blk_cell BK289.out 5).trans rfl, (blk_cell BK289.out 6).trans rfl, (blk_cell BK289.out 7).trans rfl, (blk_cell BK289.out 8).trans rfl, (blk_cell BK289.out 9).trans rfl, (blk_cell BK289.out 10).trans rfl, (blk_cell BK289.out 11).trans rfl, (blk_cell BK289.out 12).trans rfl, (blk_cell BK289.out 13).trans rfl, HS14_⟩ (fun hHeld => ?_)
      clear hK K
      refine norm_ (a' := ?_) ?_ ?_
      rotate_left
      ·
       show Act.put _ (some 36) _ = _
       simp only [Act.put, List.setIfInBounds_toArray, List.set_cons_zero, List.set_cons_succ, i64_w, i32_w]
       rfl
      refine one_ (i := 29) (N := some 48) #[true, true, true, true, true, true, true, true, true, true, true, true, true, true, true, true, true, true, true, true, true, true, true, true, true, true, true, true, true, true, true, true, false, true, true, false, false] rfl rfl (one_of HT_.out (by kernel_rfl)) (by decide) (fun K hK => ?_)
      refine goes_ Tryz.func53 (by kernel_rfl) rfl #[.string (⟨#[105, 110, 100, 101, 120]⟩ : ByteArray), .int .i64 a0_8] (by rfl) rfl rfl (by (try simp only [List.map_toArray, List.map_cons, List.map_nil]); first | done | rfl | (simp only [List.length_drop, List.length_take]; rfl)) ?_
      with_reducible refine (supercargoref09_number.calls kj4 (⟨#[105, 110, 100, 101, 120]⟩ : ByteArray) a0_8 t301 t302 _ A20.out).mono ?_
      rintro e w27 ⟨rfl, hb⟩
      have HS14_ := (hb.cell (World.block_lt_of_cell? _ _ (hHeld.2.2.2.2.2.2.2.2.2.2.2.2.2.2))).trans (hHeld.2.2.2.2.2.2.2.2.2.2.2.2.2.2)
      refine ⟨_, rfl, ?_⟩
      have n0_ := Aside0.mk (Kd.R_below (by (with_reducible repeat (first | apply Kd.R_alloc | apply Kd.R_drewN | apply Kd.R_drew)); exact HO297.out) hb)
      have n1_ := Aside0.mk (blk_below (g := gb289) (o := .cells #[.string a0_0, .string a0_1, .int .i64 a0_2, .int .i64 a0_3, .int .i64 a0_4, .string a0_5, .string a0_6, .string a0_7, .int .i64 a0_8, .int .i64 a0_9, .string a0_10, .int .i64 a0_11, .slice A0_12 l0_12.length c0_12, .slice A0_13 l0_13.length c0_13] 33 (0, 0)) (by (with_reducible repeat (first | refine blk_drewN ?_ _ | refine blk_drew ?_ | refine blk_alloc ?_ _)); exact BK289.out) hb)
      have n2_ := Aside0.mk (below_step (by repeat (first | (with_reducible first | exact HB.out | apply below_alloc | apply pw_below_drewN | apply below_drew1 | refine below_set ?_ GE289.out) | exact HB.out)) hb)
      clear HO297
      clear BK289
      clear HB
      have HO297 := n0_
      have BK289 := n1_
      have HB := n2_
      clear n0_ n1_ n2_
      (try clear hb)
      (try clear hb2)
      (try clear hk)
      (try clear hi)
      refine hK.out _ _ ⟨(blk_cell BK289.out 0).trans rfl, (blk_cell BK289.out 1).trans rfl, (blk_cell BK289.out 2).trans rfl, (blk_cell BK289.out 3).trans rfl, (blk_cell BK289.out 4).trans rfl, (blk_cell BK289.out 5).trans rfl, (blk_cell BK289.out 6).trans rfl, (blk_cell BK289.out 7).trans rfl, (blk_cell BK289.out 8).trans rfl, (blk_cell BK289.out 9).trans rfl, (blk_cell BK289.out 10).trans rfl, (blk_cell BK289.out 11).trans rfl, (blk_cell BK289.out 12).trans rfl, (blk_cell BK289.out 13).trans rfl, HS14_⟩ (fun hHeld => ?_)
      clear hK K
      refine norm_ (a' := ?_) ?_ ?_
      rotate_left
      ·
       show Act.put _ (some 48) _ = _
       simp only [Act.put, List.setIfInBounds_toArray, List.set_cons_zero, List.set_cons_succ, i64_w, i32_w]
       rfl
      refine one_ (i := 32) (N := some 51) #[true, true, true, true, true, true, true, true, true, true, true, true, true, true, true, true, true, true, true, true, true, true, true, true, true, true, true, true, true, true, true, true, true, true, true, false, false] rfl rfl (one_of HT_.out (by kernel_rfl)) (by decide) (fun K hK => ?_)
      refine goes_ Tryz.func53 (by kernel_rfl) rfl #[.string (⟨#[100, 97, 121]⟩ : ByteArray), .int .i64 a0_9] (by rfl) rfl rfl (by (try simp only [List.map_toArray, List.map_cons, List.map_nil]); first | done | rfl | (simp only [List.length_drop, List.length_take]; rfl)) ?_
      with_reducible refine (supercargoref09_number.calls kj4 (⟨#[100, 97, 121]⟩ : ByteArray) a0_9 t303 t304 _ A21.out).mono ?_
      rintro e w28 ⟨rfl, hb⟩
      have HS14_ := (hb.cell (World.block_lt_of_cell? _ _ (hHeld.2.2.2.2.2.2.2.2.2.2.2.2.2.2))).trans (hHeld.2.2.2.2.2.2.2.2.2.2.2.2.2.2)
      refine ⟨_, rfl, ?_⟩
      have n0_ := Aside0.mk (Kd.R_below (by (with_reducible repeat (first | apply Kd.R_alloc | apply Kd.R_drewN | apply Kd.R_drew)); exact HO297.out) hb)
      have n1_ := Aside0.mk (blk_below (g := gb289) (o := .cells #[.string a0_0, .string a0_1, .int .i64 a0_2, .int .i64 a0_3, .int .i64 a0_4, .string a0_5, .string a0_6, .string a0_7, .int .i64 a0_8, .int .i64 a0_9, .string a0_10, .int .i64 a0_11, .slice A0_12 l0_12.length c0_12, .slice A0_13 l0_13.length c0_13] 33 (0, 0)) (by (with_reducible repeat (first | refine blk_drewN ?_ _ | refine blk_drew ?_ | refine blk_alloc ?_ _)); exact BK289.out) hb)
      have n2_ := Aside0.mk (below_step (by repeat (first | (with_reducible first | exact HB.out | apply below_alloc | apply pw_below_drewN | apply below_drew1 | refine below_set ?_ GE289.out) | exact HB.out)) hb)
      clear HO297
      clear BK289
      clear HB
      have HO297 := n0_
      have BK289 := n1_
      have HB := n2_
      clear n0_ n1_ n2_
      (try clear hb)
      (try clear hb2)
      (try clear hk)
      (try clear hi)
      refine hK.out _ _ ⟨(blk_cell BK289.out 0).trans rfl, (blk_cell BK289.out 1).trans rfl, (blk_cell BK289.out 2).trans rfl, (blk_cell BK289.out 3).trans rfl, (blk_cell BK289.out 4).trans rfl, (blk_cell BK289.out 5).trans rfl, (blk_cell BK289.out 6).trans rfl, (blk_cell BK289.out 7).trans rfl, (blk_cell BK289.out 8).trans rfl, (blk_cell BK289.out 9).trans rfl, (blk_cell BK289.out 10).trans rfl, (blk_cell BK289.out 11).trans rfl, (blk_cell BK289.out 12).trans rfl, (blk_cell BK289.out 13).trans rfl, HS14_⟩ (fun hHeld => ?_)
      clear hK K
      refine norm_ (a' := ?_) ?_ ?_
      rotate_left
      ·
       show Act.put _ (some 51) _ = _
       simp only [Act.put, List.setIfInBounds_toArray, List.set_cons_zero, List.set_cons_succ, i64_w, i32_w]
       rfl
      refine one_ (i := 35) (N := some 54) #[true, true, true, true, true, true, true, true, true, true, true, true, true, true, true, true, true, true, true, true, true, true, true, true, true, true, true, true, true, true, true, true, true, true, true, true, false] rfl rfl (one_of HT_.out (by kernel_rfl)) (by decide) (fun K hK => ?_)
      refine Kd.R_lit_step k43 _ 43 ?hg (N := 54) ?hd (xs := ([(⟨(⟨#[102, 114, 111, 109]⟩ : ByteArray), a0_0⟩ : S43), (⟨(⟨#[116, 111]⟩ : ByteArray), a0_1⟩ : S43), (⟨t293, t294⟩ : S43), (⟨(⟨#[107, 105, 110, 100]⟩ : ByteArray), rdOf ByteArray.empty t295 a0_3⟩ : S43), (⟨t299, t300⟩ : S43), (⟨(⟨#[100, 101, 97, 108]⟩ : ByteArray), a0_5⟩ : S43), (⟨(⟨#[116, 101, 120, 116]⟩ : ByteArray), a0_6⟩ : S43), (⟨(⟨#[112, 97, 114, 116, 121]⟩ : ByteArray), a0_7⟩ : S43), (⟨t301, t302⟩ : S43), (⟨t303, t304⟩ : S43), (⟨(⟨#[115, 117, 109]⟩ : ByteArray), x3_4⟩ : S43)] : List (S43))) (inner := [.string (⟨#[102, 114, 111, 109]⟩ : ByteArray), .string a0_0, .string (⟨#[116, 111]⟩ : ByteArray), .string a0_1, .string t293, .string t294, .string (⟨#[107, 105, 110, 100]⟩ : ByteArray), .string (rdOf ByteArray.empty t295 a0_3), .string t299, .string t300, .string (⟨#[100, 101, 97, 108]⟩ : ByteArray), .string a0_5, .string (⟨#[116, 101, 120, 116]⟩ : ByteArray), .string a0_6, .string (⟨#[112, 97, 114, 116, 121]⟩ : ByteArray), .string a0_7, .string t301, .string t302, .string t303, .string t304, .string (⟨#[115, 117, 109]⟩ : ByteArray), .string x3_4]) (ok := fun _ => True) (okp := fun _ => True) ?hr ?hp (fun _ hk => hk) trivial (Below.refl _ _) (Nat.le_refl _) (by simp) ?_; (case hd => rfl); (case hg => rfl); (case hr => first | (go_simp; done) | (go_simp; rfl)); (case hp => exact (Reps.c2 (show Kd.M k43 _ _ _ (⟨(⟨#[102, 114, 111, 109]⟩ : ByteArray), a0_0⟩ : S43) [.string (⟨#[102, 114, 111, 109]⟩ : ByteArray), .string a0_0] from (k43_mkM _ _ _ (⟨(⟨#[102, 114, 111, 109]⟩ : ByteArray), a0_0⟩ : S43) )) (Reps.c2 (show Kd.M k43 _ _ _ (⟨(⟨#[116, 111]⟩ : ByteArray), a0_1⟩ : S43) [.string (⟨#[116, 111]⟩ : ByteArray), .string a0_1] from (k43_mkM _ _ _ (⟨(⟨#[116, 111]⟩ : ByteArray), a0_1⟩ : S43) )) (Reps.c2 (show Kd.M k43 _ _ _ (⟨t293, t294⟩ : S43) [.string t293, .string t294] from (k43_mkM _ _ _ (⟨t293, t294⟩ : S43) )) (Reps.c2 (show Kd.M k43 _ _ _ (⟨(⟨#[107, 105, 110, 100]⟩ : ByteArray), rdOf ByteArray.empty t295 a0_3⟩ : S43) [.string (⟨#[107, 105, 110, 100]⟩ : ByteArray), .string (rdOf ByteArray.empty t295 a0_3)] from (k43_mkM _ _ _ (⟨(⟨#[107, 105, 110, 100]⟩ : ByteArray), rdOf ByteArray.empty t295 a0_3⟩ : S43) )) (Reps.c2 (show Kd.M k43 _ _ _ (⟨t299, t300⟩ : S43) [.string t299, .string t300] from (k43_mkM _ _ _ (⟨t299, t300⟩ : S43) )) (Reps.c2 (show Kd.M k43 _ _ _ (⟨(⟨#[100, 101, 97, 108]⟩ : ByteArray), a0_5⟩ : S43) [.string (⟨#[100, 101, 97, 108]⟩ : ByteArray), .string a0_5] from (k43_mkM _ _ _ (⟨(⟨#[100, 101, 97, 108]⟩ : ByteArray), a0_5⟩ : S43) )) (Reps.c2 (show Kd.M k43 _ _ _ (⟨(⟨#[116, 101, 120, 116]⟩ : ByteArray), a0_6⟩ : S43) [.string (⟨#[116, 101, 120, 116]⟩ : ByteArray), .string a0_6] from (k43_mkM _ _ _ (⟨(⟨#[116, 101, 120, 116]⟩ : ByteArray), a0_6⟩ : S43) )) (Reps.c2 (show Kd.M k43 _ _ _ (⟨(⟨#[112, 97, 114, 116, 121]⟩ : ByteArray), a0_7⟩ : S43) [.string (⟨#[112, 97, 114, 116, 121]⟩ : ByteArray), .string a0_7] from (k43_mkM _ _ _ (⟨(⟨#[112, 97, 114, 116, 121]⟩ : ByteArray), a0_7⟩ : S43) )) (Reps.c2 (show Kd.M k43 _ _ _ (⟨t301, t302⟩ : S43) [.string t301, .string t302] from (k43_mkM _ _ _ (⟨t301, t302⟩ : S43) )) (Reps.c2 (show Kd.M k43 _ _ _ (⟨t303, t304⟩ : S43) [.string t303, .string t304] from (k43_mkM _ _ _ (⟨t303, t304⟩ : S43) )) (Reps.c2 (show Kd.M k43 _ _ _ (⟨(⟨#[115, 117, 109]⟩ : ByteArray), x3_4⟩ : S43) [.string (⟨#[115, 117, 109]⟩ : ByteArray), .string x3_4] from (k43_mkM _ _ _ (⟨(⟨#[115, 117, 109]⟩ : ByteArray), x3_4⟩ : S43) )) (Reps.none _ _)))))))))))))
      intro v306 w29 ho30 hb hg_ hnew_
      have HS14_ := (hb.cell (World.block_lt_of_cell? _ _ (hHeld.2.2.2.2.2.2.2.2.2.2.2.2.2.2))).trans (hHeld.2.2.2.2.2.2.2.2.2.2.2.2.2.2)
      clear hg_ hnew_
      (first | rw [← Ny305.out] at ho30 | (simp only [Int.reduceToNat] at ho30; rw [← Ny305.out] at ho30))
      have n0_ := Aside0.mk (Kd.R_below (by (with_reducible repeat (first | apply Kd.R_alloc | apply Kd.R_drewN | apply Kd.R_drew)); exact HO297.out) hb)
      have n1_ := Aside0.mk (Kd.R_lower ho30 (below_size (by repeat (first | (with_reducible first | exact HB.out | apply below_alloc | apply pw_below_drewN | apply below_drew1 | refine below_set ?_ GE289.out) | exact HB.out))))
      have n2_ := Aside0.mk (blk_below (g := gb289) (o := .cells #[.string a0_0, .string a0_1, .int .i64 a0_2, .int .i64 a0_3, .int .i64 a0_4, .string a0_5, .string a0_6, .string a0_7, .int .i64 a0_8, .int .i64 a0_9, .string a0_10, .int .i64 a0_11, .slice A0_12 l0_12.length c0_12, .slice A0_13 l0_13.length c0_13] 33 (0, 0)) (by (with_reducible repeat (first | refine blk_drewN ?_ _ | refine blk_drew ?_ | refine blk_alloc ?_ _)); exact BK289.out) hb)
      have n3_ := Aside0.mk (below_step (by repeat (first | (with_reducible first | exact HB.out | apply below_alloc | apply pw_below_drewN | apply below_drew1 | refine below_set ?_ GE289.out) | exact HB.out)) hb)
      clear HO297
      clear BK289
      clear HB
      have HO297 := n0_
      have HO307 := n1_
      have BK289 := n2_
      have HB := n3_
      clear n0_ n1_ n2_ n3_
      clear hb ho30
      refine hK.out _ _ ⟨(blk_cell BK289.out 0).trans rfl, (blk_cell BK289.out 1).trans rfl, (blk_cell BK289.out 2).trans rfl, (blk_cell BK289.out 3).trans rfl, (blk_cell BK289.out 4).trans rfl, (blk_cell BK289.out 5).trans rfl, (blk_cell BK289.out 6).trans rfl, (blk_cell BK289.out 7).trans rfl, (blk_cell BK289.out 8).trans rfl, (blk_cell BK289.out 9).trans rfl, (blk_cell BK289.out 10).trans rfl, (blk_cell BK289.out 11).trans rfl, (blk_cell BK289.out 12).trans rfl, (blk_cell BK289.out 13).trans rfl, HS14_⟩ (fun hHeld => ?_)
      clear hK K
      refine norm_ (a' := ?_) ?_ ?_
      rotate_left
      ·
       show Act.put _ (some 54) _ = _
       simp only [Act.put, List.setIfInBounds_toArray, List.set_cons_zero, List.set_cons_succ, i64_w, i32_w]
       rfl
      refine pure_ (i := 36) (N := some 4) (v := ?_) (a' := ?_) #[true, true, true, true, true, true, true, true, true, true, true, true, true, true, true, true, true, true, true, true, true, true, true, true, true, true, true, true, true, true, true, true, true, true, true, true, true] rfl rfl (any_of HT_.out (by kernel_rfl)) (fun _ _ _ h => h) (Or.inl ⟨by rfl, ?_⟩) ?_ ?_
      rotate_left
      ·
       intro w'
       go_simp
       with_reducible rfl
      rotate_left
      ·
       simp only [Act.put, List.setIfInBounds_toArray, List.set_cons_zero, List.set_cons_succ, i64_w, i32_w]
       rfl
      refine done_ (done_of HT_.out (by kernel_rfl)) ?_
      try go_wp2
      go_loopg [4, 5] kj4 (fun kq v4 v5 w' => ∃ (x4_2 : List (S43)) (x5_2 : Int), v5 = .int .i64 x5_2 ∧ Aside0 (supercargoref09_Fields.l0 kq x4_2 x5_2 a0_0 a0_1 a0_2 a0_3 a0_4 a0_5 a0_6 a0_7 a0_8 a0_9 a0_10 a0_11 l0_12 l0_13 = some r) ∧ Aside0 (kq ≤ kj4) ∧ Aside0 (Kd.R k43 43 w' w.heap.size (fun _ => True) v4 x4_2) ∧ Aside0 (w'.heap[gb289]? = some (.cells #[.string a0_0, .string a0_1, .int .i64 a0_2, .int .i64 a0_3, .int .i64 a0_4, .string a0_5, .string a0_6, .string a0_7, .int .i64 a0_8, .int .i64 a0_9, .string a0_10, .int .i64 a0_11, (.slice A0_12 l0_12.length c0_12), (.slice A0_13 l0_13.length c0_13)] 33 (0, 0))) ∧ Aside0 (Below w.heap.size w w'))
      case atStart => exact ⟨(y305), (0), (by first | rfl | (simp; done) | (simp [*]; done)), H', ⟨Nat.le_refl _⟩, ⟨by (with_reducible repeat (first | apply Kd.R_alloc | apply Kd.R_drewN | apply Kd.R_drew)); exact HO307.out⟩, ⟨by (with_reducible repeat (first | refine blk_drewN ?_ _ | refine blk_drew ?_ | refine blk_alloc ?_ _)); exact BK289.out⟩, ⟨by repeat (first | (with_reducible first | exact HB.out | apply below_alloc | apply pw_below_drewN | apply below_drew1 | refine below_set ?_ GE289.out) | exact HB.out)⟩⟩
      case round =>
       clear H'
       try clear c1
       try clear c2
       try clear p2
       try clear q2
       try clear hx2
       try clear c3
       try clear c4
       try clear c5
       try clear c10
       try clear c11
       try clear c17
       try clear c17b0
       try clear c18
       try clear c18b0
       try clear p29
       try clear q29
       try clear hx29
       try clear hcz13_0
       try clear hcz13_1
       try clear hcz13_10
       try clear hcz13_11
       try clear hcz13_12
       try clear hcz13_13
       try clear hcz13_2
       try clear hcz13_3
       try clear hcz13_4
       try clear hcz13_5
       try clear hcz13_6
       try clear hcz13_7
       try clear hcz13_8
       try clear hcz13_9
       try clear hcz7_0
       try clear hcz7_1
       try clear hcz7_10
       try clear hcz7_11
       try clear hcz7_12
       try clear hcz7_13
       try clear hcz7_2
       try clear hcz7_3
       try clear hcz7_4
       try clear hcz7_5
       try clear hcz7_6
       try clear hcz7_7
       try clear hcz7_8
       try clear hcz7_9
       try clear hcz9_0
       try clear hcz9_1
       try clear hcz9_10
       try clear hcz9_11
       try clear hcz9_12
       try clear hcz9_13
       try clear hcz9_2
       try clear hcz9_3
       try clear hcz9_4
       try clear hcz9_5
       try clear hcz9_6
       try clear hcz9_7
       try clear hcz9_8
       try clear hcz9_9
       try clear hfz13_0
       try clear hfz13_1
       try clear hfz13_10
       try clear hfz13_11
       try clear hfz13_12
       try clear hfz13_13
       try clear hfz13_2
       try clear hfz13_3
       try clear hfz13_4
       try clear hfz13_5
       try clear hfz13_6
       try clear hfz13_7
       try clear hfz13_8
       try clear hfz13_9
       try clear hfz7_0
       try clear hfz7_1
       try clear hfz7_10
       try clear hfz7_11
       try clear hfz7_12
       try clear hfz7_13
       try clear hfz7_2
       try clear hfz7_3
       try clear hfz7_4
       try clear hfz7_5
       try clear hfz7_6
       try clear hfz7_7
       try clear hfz7_8
       try clear hfz7_9
       try clear hfz9_0
       try clear hfz9_1
       try clear hfz9_10
       try clear hfz9_11
       try clear hfz9_12
       try clear hfz9_13
       try clear hfz9_2
       try clear hfz9_3
       try clear hfz9_4
       try clear hfz9_5
       try clear hfz9_6
       try clear hfz9_7
       try clear hfz9_8
       try clear hfz9_9
       try clear hx298_0
       try clear p2
       try clear p298
       try clear q298
       obtain ⟨x4_2, x5_2, rfl, HA, HK2, HO_4, BK289, HB⟩ := hrel
       cases gk with
       | zero => exact absurd HA.out (by simp [supercargoref09_Fields.l0])
       | succ k2 =>
        have H := HA.out
        clear HA
        simp only [supercargoref09_Fields.l0] at H
        by_cases c31 : x5_2 < (l0_12.length : Int)
        ·
         rw [if_pos c31] at H
         have c31b0 : decide (x5_2 < (l0_12.length : Int)) = true := decide_eq_true c31
         clear c31
         by_cases c32 : 0 ≤ x5_2
         ·
          rw [if_pos c32] at H
          have c32b0 : decide (0 ≤ x5_2) = true := decide_eq_true c32
          clear c32
          replace H := Option.bind_eq_some_iff.mp H
          obtain ⟨t309, A330, H⟩ := H
          replace H : ((supercargoref05_Text.f k2 t309).bind fun bt312 => (if x4_2.length < 4398046511104 then (supercargoref09_Fields.l0 k2 (x4_2 ++ [(⟨(⟨#[100, 111, 99]⟩ : ByteArray), bt312.1⟩ : S43)]) (wrap64 (x5_2 + 1)) a0_0 a0_1 a0_2 a0_3 a0_4 a0_5 a0_6 a0_7 a0_8 a0_9 a0_10 a0_11 l0_12 l0_13) else (none))) = some r := H
          have A33 := Aside0.mk A330
          clear A330
          replace H := Option.bind_eq_some_iff.mp H
          obtain ⟨⟨t312, t313⟩, A340, H⟩ := H
          replace H : (if x4_2.length < 4398046511104 then (supercargoref09_Fields.l0 k2 (x4_2 ++ [(⟨(⟨#[100, 111, 99]⟩ : ByteArray), t312⟩ : S43)]) (wrap64 (x5_2 + 1)) a0_0 a0_1 a0_2 a0_3 a0_4 a0_5 a0_6 a0_7 a0_8 a0_9 a0_10 a0_11 l0_12 l0_13) else (none)) = some r := H
          have A34 := Aside0.mk A340
          clear A340
          by_cases c35 : x4_2.length < 4398046511104
          ·
           rw [if_pos c35] at H
           have LMc35 := Aside0.mk c35
           clear c35
           obtain ⟨y314, hy314⟩ : ∃ y_ : List (S43), y_ = (x4_2 ++ [(⟨(⟨#[100, 111, 99]⟩ : ByteArray), t312⟩ : S43)]) := ⟨_, rfl⟩
           replace H : (supercargoref09_Fields.l0 k2 y314 (wrap64 (x5_2 + 1)) a0_0 a0_1 a0_2 a0_3 a0_4 a0_5 a0_6 a0_7 a0_8 a0_9 a0_10 a0_11 l0_12 l0_13) = some r := by first | (rw [hy314]; with_reducible exact H) | (have H2_ := (Option.bind_some _ _).symm.trans H; rw [hy314]; with_reducible exact H2_) | (have H2_ := (Option.bind_some _ _).symm.trans H; with_reducible exact H2_) | with_reducible exact H | (rw [hy314]; exact H) | exact H
           have Ny314 := Aside0.mk hy314
           clear hy314
           have H' := Aside0.mk H
           clear H
           have hcz36_0 : wr.cell? ⟨gb289, 0, none⟩ = some (.string a0_0) := (blk_cell BK289.out 0).trans rfl
           have hcz36_1 : wr.cell? ⟨gb289, 1, none⟩ = some (.string a0_1) := (blk_cell BK289.out 1).trans rfl
           have hcz36_2 : wr.cell? ⟨gb289, 2, none⟩ = some (.int .i64 a0_2) := (blk_cell BK289.out 2).trans rfl
           have hcz36_3 : wr.cell? ⟨gb289, 3, none⟩ = some (.int .i64 a0_3) := (blk_cell BK289.out 3).trans rfl
           have hcz36_4 : wr.cell? ⟨gb289, 4, none⟩ = some (.int .i64 a0_4) := (blk_cell BK289.out 4).trans rfl
           have hcz36_5 : wr.cell? ⟨gb289, 5, none⟩ = some (.string a0_5) := (blk_cell BK289.out 5).trans rfl
           have hcz36_6 : wr.cell? ⟨gb289, 6, none⟩ = some (.string a0_6) := (blk_cell BK289.out 6).trans rfl
           have hcz36_7 : wr.cell? ⟨gb289, 7, none⟩ = some (.string a0_7) := (blk_cell BK289.out 7).trans rfl
           have hcz36_8 : wr.cell? ⟨gb289, 8, none⟩ = some (.int .i64 a0_8) := (blk_cell BK289.out 8).trans rfl
           have hcz36_9 : wr.cell? ⟨gb289, 9, none⟩ = some (.int .i64 a0_9) := (blk_cell BK289.out 9).trans rfl
           have hcz36_10 : wr.cell? ⟨gb289, 10, none⟩ = some (.string a0_10) := (blk_cell BK289.out 10).trans rfl
           have hcz36_11 : wr.cell? ⟨gb289, 11, none⟩ = some (.int .i64 a0_11) := (blk_cell BK289.out 11).trans rfl
           have hcz36_12 : wr.cell? ⟨gb289, 12, none⟩ = some (.slice A0_12 l0_12.length c0_12) := (blk_cell BK289.out 12).trans rfl
           have hcz36_13 : wr.cell? ⟨gb289, 13, none⟩ = some (.slice A0_13 l0_13.length c0_13) := (blk_cell BK289.out 13).trans rfl
           have hfz36_0 := blk_frozen BK289.out 0
           have hfz36_1 := blk_frozen BK289.out 1
           have hfz36_2 := blk_frozen BK289.out 2
           have hfz36_3 := blk_frozen BK289.out 3
           have hfz36_4 := blk_frozen BK289.out 4
           have hfz36_5 := blk_frozen BK289.out 5
           have hfz36_6 := blk_frozen BK289.out 6
           have hfz36_7 := blk_frozen BK289.out 7
           have hfz36_8 := blk_frozen BK289.out 8
           have hfz36_9 := blk_frozen BK289.out 9
           have hfz36_10 := blk_frozen BK289.out 10
           have hfz36_11 := blk_frozen BK289.out 11
           have hfz36_12 := blk_frozen BK289.out 12
           have hfz36_13 := blk_frozen BK289.out 13
           have p308 : 0 ≤ (x5_2 : Int) := of_decide_eq_true (by first | (with_reducible assumption) | assumption)
           have q308 : x5_2 < (l0_12.length : Int) := of_decide_eq_true (by first | (with_reducible assumption) | assumption)
           obtain ⟨ad308, A308_3, c308_3, e308, hx308_0, hx308_1, hx308_2, hx308_3, hl308_3, hi308_3⟩ := at_T38 HR0_12.out x5_2 p308 q308
           cases e308
           replace hx308_0 := (HB.out.cell (World.block_lt_of_cell? w _ hx308_0)).trans hx308_0
           replace hx308_1 := (HB.out.cell (World.block_lt_of_cell? w _ hx308_1)).trans hx308_1
           replace hx308_2 := (HB.out.cell (World.block_lt_of_cell? w _ hx308_2)).trans hx308_2
           replace hx308_3 := (HB.out.cell (World.block_lt_of_cell? w _ hx308_3)).trans hx308_3
           have HR308_3 := Aside0.mk hi308_3
           have HC308_3 := Aside0.mk hl308_3
           clear hi308_3 hl308_3
           replace p308 := eq_true p308
           replace q308 := eq_true q308
           go_wp2_with (first | ((with_reducible refine gate_callee (f := 50) rfl ?_); refine goesL_ (some 68) rfl rfl Tryz.func50 (by kernel_rfl) rfl #[.agg #[.int .i64 ((rd_T38 l0_12 x5_2).f0), .string ((rd_T38 l0_12 x5_2).f1), .string ((rd_T38 l0_12 x5_2).f2), .slice A308_3 ((rd_T38 l0_12 x5_2).f3).length c308_3]] rfl (by (try simp only [List.map_toArray, List.map_cons, List.map_nil]); first | done | rfl | (simp only [List.length_drop, List.length_take]; rfl)) ?_; (with_reducible refine (supercargoref05_Record.calls ((rd_T38 l0_12 x5_2).f0) ((rd_T38 l0_12 x5_2).f1) ((rd_T38 l0_12 x5_2).f2) _ _ ((rd_T38 l0_12 x5_2).f3) t309 _ ?side1 ?side2 A33.out).mono ?_); (case side1 => repeat (first | exact (Kd.C_below HR308_3.out HB.out) | (with_reducible refine Kd.C_alloc ?_ _) | (with_reducible refine Kd.C_drewN ?_ _) | (with_reducible refine Kd.C_drew ?_))); (case side2 => exact HC308_3.out); rintro e w37 ⟨v310, rfl, ho0, hb⟩; refine ⟨_, rfl, ?_⟩; have n0_ := Aside0.mk (Kd.R_elder' (by (with_reducible repeat (first | apply Kd.R_alloc | apply Kd.R_drewN | apply Kd.R_drew)); exact HO_4.out) (Kd.R_base ho0) hb); have n1_ := Aside0.mk (Kd.R_lower (Kd.R_new' ho0 (Kd.R_lt (by (with_reducible repeat (first | apply Kd.R_alloc | apply Kd.R_drewN | apply Kd.R_drew)); exact HO_4.out))) (below_size (by repeat (first | (with_reducible first | exact HB.out | apply below_alloc | apply pw_below_drewN | apply below_drew1 | refine below_set ?_ GE289.out) | exact HB.out)))); have n2_ := Aside0.mk (blk_below (g := gb289) (o := .cells #[.string a0_0, .string a0_1, .int .i64 a0_2, .int .i64 a0_3, .int .i64 a0_4, .string a0_5, .string a0_6, .string a0_7, .int .i64 a0_8, .int .i64 a0_9, .string a0_10, .int .i64 a0_11, .slice (some ad308) l0_12.length c0_12, .slice A0_13 l0_13.length c0_13] 33 (0, 0)) (by (with_reducible repeat (first | refine blk_drewN ?_ _ | refine blk_drew ?_ | refine blk_alloc ?_ _)); exact BK289.out) hb); have n3_ := Aside0.mk (below_step (by repeat (first | (with_reducible first | exact HB.out | apply below_alloc | apply pw_below_drewN | apply below_drew1 | refine below_set ?_ GE289.out) | exact HB.out)) hb); clear HO_4; clear BK289; clear HB; have HO_4 := n0_; have HO311 := n1_; have BK289 := n2_; have HB := n3_; clear n0_ n1_ n2_ n3_; (try clear hb); (try clear hb2); (try clear hk); (try clear hi); (try clear ho0); obtain ⟨Ao38, co38, eo38⟩ := Kd.R_slice HO311.out; subst eo38) | ((with_reducible refine gate_callee (f := 24) rfl ?_); refine goesL_ (some 69) rfl rfl Tryz.func24 (by kernel_rfl) rfl #[.slice Ao38 t309.length co38] rfl (by (try simp only [List.map_toArray, List.map_cons, List.map_nil]); first | done | rfl | (simp only [List.length_drop, List.length_take]; rfl)) ?_; (with_reducible refine (supercargoref05_Text.calls k2 _ _ t309 t312 t313 _ ?side1 ?side2 A34.out).mono ?_); (case side1 => repeat (first | exact (Kd.R_reads' HO311.out).2.2 | (with_reducible refine Kd.C_alloc ?_ _) | (with_reducible refine Kd.C_drewN ?_ _) | (with_reducible refine Kd.C_drew ?_))); (case side2 => exact (Kd.R_reads' HO311.out).2.1); rintro e w39 ⟨rfl, hb⟩; refine ⟨_, rfl, ?_⟩; have n0_ := Aside0.mk (Kd.R_below (by (with_reducible repeat (first | apply Kd.R_alloc | apply Kd.R_drewN | apply Kd.R_drew)); exact HO_4.out) hb); have n1_ := Aside0.mk (Kd.R_below (by (with_reducible repeat (first | apply Kd.R_alloc | apply Kd.R_drewN | apply Kd.R_drew)); exact HO311.out) hb); have n2_ := Aside0.mk (blk_below (g := gb289) (o := .cells #[.string a0_0, .string a0_1, .int .i64 a0_2, .int .i64 a0_3, .int .i64 a0_4, .string a0_5, .string a0_6, .string a0_7, .int .i64 a0_8, .int .i64 a0_9, .string a0_10, .int .i64 a0_11, .slice (some ad308) l0_12.length c0_12, .slice A0_13 l0_13.length c0_13] 33 (0, 0)) (by (with_reducible repeat (first | refine blk_drewN ?_ _ | refine blk_drew ?_ | refine blk_alloc ?_ _)); exact BK289.out) hb); have n3_ := Aside0.mk (below_step (by repeat (first | (with_reducible first | exact HB.out | apply below_alloc | apply pw_below_drewN | apply below_drew1 | refine below_set ?_ GE289.out) | exact HB.out)) hb); clear HO_4; clear HO311; clear BK289; clear HB; have HO_4 := n0_; have HO311 := n1_; have BK289 := n2_; have HB := n3_; clear n0_ n1_ n2_ n3_; (try clear hb); (try clear hb2); (try clear hk); (try clear hi)) | ((with_reducible refine gate_builtin (b := .append) (xs := #[.tmp 72, .tmp 75]) rfl ?_); at_builtin; refine Kd.R_append k43 (w0 := w) w.heap.size rfl (.tmp 72) (.tmp 75) 36 43 (.agg #[(.string ⟨#[]⟩), (.string ⟨#[]⟩)]) 32 rfl Tryz.underlying36 info43 rfl (by decide) (by omega) u4 x4_2 (⟨(⟨#[100, 111, 99]⟩ : ByteArray), t312⟩ : S43) [.string (⟨#[100, 111, 99]⟩ : ByteArray), .string t312] (fun k_ => some k_ ≠ (.slice Ao38 t309.length co38 : Value).ownBlock) (fun _ => False) rfl rfl ?aP (fun _ hk => hk.elim) ?aF ?aO ?aB ?aS ?aL ?_; (case aP => exact k43_mkM _ _ _ (⟨(⟨#[100, 111, 99]⟩ : ByteArray), t312⟩ : S43)); (case aB => exact (by repeat (first | (with_reducible first | exact HB.out | apply below_alloc | apply pw_below_drewN | apply below_drew1 | refine below_set ?_ GE289.out) | exact HB.out))); (case aF => exact (fun k_ hk => Kd.fresh' (Kd.R_lt (by (with_reducible repeat (first | apply Kd.R_alloc | apply Kd.R_drewN | apply Kd.R_drew)); exact HO311.out)) k_ hk)); (case aO => exact (by (with_reducible repeat (first | apply Kd.R_alloc | apply Kd.R_drewN | apply Kd.R_drew)); exact Kd.R_mono HO_4.out (fun _ hk => hk.2))); (case aS => exact (below_size (by repeat (first | (with_reducible first | exact HB.out | apply below_alloc | apply pw_below_drewN | apply below_drew1 | refine below_set ?_ GE289.out) | exact HB.out)))); (case aL => have := LMc35.out; omega); intro v315 w40 ho hb hg hat; rw [← Ny314.out] at ho; have n0_ := Aside0.mk (blk_grown (g := gb289) (o := .cells #[.string a0_0, .string a0_1, .int .i64 a0_2, .int .i64 a0_3, .int .i64 a0_4, .string a0_5, .string a0_6, .string a0_7, .int .i64 a0_8, .int .i64 a0_9, .string a0_10, .int .i64 a0_11, .slice (some ad308) l0_12.length c0_12, .slice A0_13 l0_13.length c0_13] 33 (0, 0)) (by (with_reducible repeat (first | refine blk_drewN ?_ _ | refine blk_drew ?_ | refine blk_alloc ?_ _)); exact BK289.out) hg (Kd.R_ne HO_4.out BK289.out (by decide))); have n1_ := Aside0.mk (Kd.R_after (ok := (fun _ => True)) (by (with_reducible repeat (first | apply Kd.R_alloc | apply Kd.R_drewN | apply Kd.R_drew)); exact HO311.out) hg hat); have n2_ := Aside0.mk (hb); have n3_ := Aside0.mk (ho); clear BK289; clear HO311; clear HB; clear HO_4; have BK289 := n0_; have HO311 := n1_; have HB := n2_; have HO316 := n3_; clear n0_ n1_ n2_ n3_; clear ho hb hg hat))
           go_roundg k2
           case measure => have := HJ4.out; have := HK2.out; omega
           case rel => exact ⟨(y314), (wrap64 (x5_2 + 1)), (by first | rfl | (simp; done) | (simp [*]; done)), H', ⟨by have := HJ4.out; have := HK2.out; omega⟩, ⟨by (with_reducible repeat (first | apply Kd.R_alloc | apply Kd.R_drewN | apply Kd.R_drew)); exact Kd.R_mono HO316.out (fun _ hk => trivial)⟩, ⟨by (with_reducible repeat (first | refine blk_drewN ?_ _ | refine blk_drew ?_ | refine blk_alloc ?_ _)); exact BK289.out⟩, ⟨by repeat (first | (with_reducible first | exact HB.out | apply below_alloc | apply pw_below_drewN | apply below_drew1 | refine below_set ?_ GE289.out) | exact HB.out)⟩⟩
          ·
           rw [if_neg c35] at H
           exact absurd H (by simp)
         ·
          rw [if_neg c32] at H
          exact absurd H (by simp)
        ·
         rw [if_neg c31] at H
         have c31b0 : decide (x5_2 < (l0_12.length : Int)) = false := decide_eq_false c31
         clear c31
         have H' := Aside0.mk H
         clear H
         have hcz41_0 : wr.cell? ⟨gb289, 0, none⟩ = some (.string a0_0) := (blk_cell BK289.out 0).trans rfl
         have hcz41_1 : wr.cell? ⟨gb289, 1, none⟩ = some (.string a0_1) := (blk_cell BK289.out 1).trans rfl
         have hcz41_2 : wr.cell? ⟨gb289, 2, none⟩ = some (.int .i64 a0_2) := (blk_cell BK289.out 2).trans rfl
         have hcz41_3 : wr.cell? ⟨gb289, 3, none⟩ = some (.int .i64 a0_3) := (blk_cell BK289.out 3).trans rfl
         have hcz41_4 : wr.cell? ⟨gb289, 4, none⟩ = some (.int .i64 a0_4) := (blk_cell BK289.out 4).trans rfl
         have hcz41_5 : wr.cell? ⟨gb289, 5, none⟩ = some (.string a0_5) := (blk_cell BK289.out 5).trans rfl
         have hcz41_6 : wr.cell? ⟨gb289, 6, none⟩ = some (.string a0_6) := (blk_cell BK289.out 6).trans rfl
         have hcz41_7 : wr.cell? ⟨gb289, 7, none⟩ = some (.string a0_7) := (blk_cell BK289.out 7).trans rfl
         have hcz41_8 : wr.cell? ⟨gb289, 8, none⟩ = some (.int .i64 a0_8) := (blk_cell BK289.out 8).trans rfl
         have hcz41_9 : wr.cell? ⟨gb289, 9, none⟩ = some (.int .i64 a0_9) := (blk_cell BK289.out 9).trans rfl
         have hcz41_10 : wr.cell? ⟨gb289, 10, none⟩ = some (.string a0_10) := (blk_cell BK289.out 10).trans rfl
         have hcz41_11 : wr.cell? ⟨gb289, 11, none⟩ = some (.int .i64 a0_11) := (blk_cell BK289.out 11).trans rfl
         have hcz41_12 : wr.cell? ⟨gb289, 12, none⟩ = some (.slice A0_12 l0_12.length c0_12) := (blk_cell BK289.out 12).trans rfl
         have hcz41_13 : wr.cell? ⟨gb289, 13, none⟩ = some (.slice A0_13 l0_13.length c0_13) := (blk_cell BK289.out 13).trans rfl
         have hfz41_0 := blk_frozen BK289.out 0
         have hfz41_1 := blk_frozen BK289.out 1
         have hfz41_2 := blk_frozen BK289.out 2
         have hfz41_3 := blk_frozen BK289.out 3
         have hfz41_4 := blk_frozen BK289.out 4
         have hfz41_5 := blk_frozen BK289.out 5
         have hfz41_6 := blk_frozen BK289.out 6
         have hfz41_7 := blk_frozen BK289.out 7
         have hfz41_8 := blk_frozen BK289.out 8
         have hfz41_9 := blk_frozen BK289.out 9
         have hfz41_10 := blk_frozen BK289.out 10
         have hfz41_11 := blk_frozen BK289.out 11
         have hfz41_12 := blk_frozen BK289.out 12
         have hfz41_13 := blk_frozen BK289.out 13
         go_wp2
         go_loopg [4, 8] k2 (fun kq v4 v8 w' => ∃ (x4_3 : List (S43)) (x8_3 : Int), v8 = .int .i64 x8_3 ∧ Aside0 (supercargoref09_Fields.l1 kq x4_3 x8_3 a0_0 a0_1 a0_2 a0_3 a0_4 a0_5 a0_6 a0_7 a0_8 a0_9 a0_10 a0_11 l0_12 l0_13 = some r) ∧ Aside0 (kq ≤ k2) ∧ Aside0 (Kd.R k43 43 w' w.heap.size (fun _ => True) v4 x4_3) ∧ Aside0 (w'.heap[gb289]? = some (.cells #[.string a0_0, .string a0_1, .int .i64 a0_2, .int .i64 a0_3, .int .i64 a0_4, .string a0_5, .string a0_6, .string a0_7, .int .i64 a0_8, .int .i64 a0_9, .string a0_10, .int .i64 a0_11, (.slice A0_12 l0_12.length c0_12), (.slice A0_13 l0_13.length c0_13)] 33 (0, 0))) ∧ Aside0 (Below w.heap.size w w'))
         case atStart => exact ⟨(x4_2), (0), (by first | rfl | (simp; done) | (simp [*]; done)), H', ⟨Nat.le_refl _⟩, ⟨by (with_reducible repeat (first | apply Kd.R_alloc | apply Kd.R_drewN | apply Kd.R_drew)); exact HO_4.out⟩, ⟨by (with_reducible repeat (first | refine blk_drewN ?_ _ | refine blk_drew ?_ | refine blk_alloc ?_ _)); exact BK289.out⟩, ⟨by repeat (first | (with_reducible first | exact HB.out | apply below_alloc | apply pw_below_drewN | apply below_drew1 | refine below_set ?_ GE289.out) | exact HB.out)⟩⟩
         case round =>
          clear H'
          try clear c1
          try clear c2
          try clear p2
          try clear q2
          try clear hx2
          try clear c3
          try clear p3
          try clear q3
          try clear hx3
          try clear c4
          try clear c5
          try clear p6
          try clear c10
          try clear c11
          try clear c17
          try clear c17b0
          try clear c18
          try clear c18b0
          try clear c24
          try clear p29
          try clear q29
          try clear hx29
          try clear c30
          try clear p30
          try clear q30
          try clear hx30
          try clear c31
          try clear c31b0
          try clear c32
          try clear c32b0
          try clear c35
          try clear hcz13_0
          try clear hcz13_1
          try clear hcz13_10
          try clear hcz13_11
          try clear hcz13_12
          try clear hcz13_13
          try clear hcz13_2
          try clear hcz13_3
          try clear hcz13_4
          try clear hcz13_5
          try clear hcz13_6
          try clear hcz13_7
          try clear hcz13_8
          try clear hcz13_9
          try clear hcz36_0
          try clear hcz36_1
          try clear hcz36_10
          try clear hcz36_11
          try clear hcz36_12
          try clear hcz36_13
          try clear hcz36_2
          try clear hcz36_3
          try clear hcz36_4
          try clear hcz36_5
          try clear hcz36_6
          try clear hcz36_7
          try clear hcz36_8
          try clear hcz36_9
          try clear hcz41_0
          try clear hcz41_1
          try clear hcz41_10
          try clear hcz41_11
          try clear hcz41_12
          try clear hcz41_13
          try clear hcz41_2
          try clear hcz41_3
          try clear hcz41_4
          try clear hcz41_5
          try clear hcz41_6
          try clear hcz41_7
          try clear hcz41_8
          try clear hcz41_9
          try clear hcz7_0
          try clear hcz7_1
          try clear hcz7_10
          try clear hcz7_11
          try clear hcz7_12
          try clear hcz7_13
          try clear hcz7_2
          try clear hcz7_3
          try clear hcz7_4
          try clear hcz7_5
          try clear hcz7_6
          try clear hcz7_7
          try clear hcz7_8
          try clear hcz7_9
          try clear hcz9_0
          try clear hcz9_1
          try clear hcz9_10
          try clear hcz9_11
          try clear hcz9_12
          try clear hcz9_13
          try clear hcz9_2
          try clear hcz9_3
          try clear hcz9_4
          try clear hcz9_5
          try clear hcz9_6
          try clear hcz9_7
          try clear hcz9_8
          try clear hcz9_9
          try clear hfz13_0
          try clear hfz13_1
          try clear hfz13_10
          try clear hfz13_11
          try clear hfz13_12
          try clear hfz13_13
          try clear hfz13_2
          try clear hfz13_3
          try clear hfz13_4
          try clear hfz13_5
          try clear hfz13_6
          try clear hfz13_7
          try clear hfz13_8
          try clear hfz13_9
          try clear hfz36_0
          try clear hfz36_1
          try clear hfz36_10
          try clear hfz36_11
          try clear hfz36_12
          try clear hfz36_13
          try clear hfz36_2
          try clear hfz36_3
          try clear hfz36_4
          try clear hfz36_5
          try clear hfz36_6
          try clear hfz36_7
          try clear hfz36_8
          try clear hfz36_9
          try clear hfz41_0
          try clear hfz41_1
          try clear hfz41_10
          try clear hfz41_11
          try clear hfz41_12
          try clear hfz41_13
          try clear hfz41_2
          try clear hfz41_3
          try clear hfz41_4
          try clear hfz41_5
          try clear hfz41_6
          try clear hfz41_7
          try clear hfz41_8
          try clear hfz41_9
          try clear hfz7_0
          try clear hfz7_1
          try clear hfz7_10
          try clear hfz7_11
          try clear hfz7_12
          try clear hfz7_13
          try clear hfz7_2
          try clear hfz7_3
          try clear hfz7_4
          try clear hfz7_5
          try clear hfz7_6
          try clear hfz7_7
          try clear hfz7_8
          try clear hfz7_9
          try clear hfz9_0
          try clear hfz9_1
          try clear hfz9_10
          try clear hfz9_11
          try clear hfz9_12
          try clear hfz9_13
          try clear hfz9_2
          try clear hfz9_3
          try clear hfz9_4
          try clear hfz9_5
          try clear hfz9_6
          try clear hfz9_7
          try clear hfz9_8
          try clear hfz9_9
          try clear hx298_0
          try clear hx308_0
          try clear hx308_1
          try clear hx308_2
          try clear hx308_3
          try clear p2
          try clear p29
          try clear p298
          try clear p308
          try clear q2
          try clear q29
          try clear q298
          try clear q308
          obtain ⟨x4_3, x8_3, rfl, HA, HK3, HO_4, BK289, HB⟩ := hrel
          cases gk with
          | zero => exact absurd HA.out (by simp [supercargoref09_Fields.l1])
          | succ k3 =>
           have H := HA.out
           clear HA
           simp only [supercargoref09_Fields.l1] at H
           by_cases c42 : x8_3 < (l0_13.length : Int)
           ·
            rw [if_pos c42] at H
            have c42b0 : decide (x8_3 < (l0_13.length : Int)) = true := decide_eq_true c42
            clear c42
            by_cases c43 : 0 ≤ x8_3
            ·
             rw [if_pos c43] at H
             have c43b0 : decide (0 ≤ x8_3) = true := decide_eq_true c43
             clear c43
             by_cases c44 : x4_3.length < 4398046511104
             ·
              rw [if_pos c44] at H
              have LMc44 := Aside0.mk c44
              clear c44
              obtain ⟨y318, hy318⟩ : ∃ y_ : List (S43), y_ = (x4_3 ++ [(⟨(⟨#[98, 111, 120]⟩ : ByteArray), rdOf ByteArray.empty l0_13 x8_3⟩ : S43)]) := ⟨_, rfl⟩
              replace H : (supercargoref09_Fields.l1 k3 y318 (wrap64 (x8_3 + 1)) a0_0 a0_1 a0_2 a0_3 a0_4 a0_5 a0_6 a0_7 a0_8 a0_9 a0_10 a0_11 l0_12 l0_13) = some r := by first | (rw [hy318]; with_reducible exact H) | (have H2_ := (Option.bind_some _ _).symm.trans H; rw [hy318]; with_reducible exact H2_) | (have H2_ := (Option.bind_some _ _).symm.trans H; with_reducible exact H2_) | with_reducible exact H | (rw [hy318]; exact H) | exact H
              have Ny318 := Aside0.mk hy318
              clear hy318
              have H' := Aside0.mk H
              clear H
              have hcz45_0 : wr.cell? ⟨gb289, 0, none⟩ = some (.string a0_0) := (blk_cell BK289.out 0).trans rfl
              have hcz45_1 : wr.cell? ⟨gb289, 1, none⟩ = some (.string a0_1) := (blk_cell BK289.out 1).trans rfl
              have hcz45_2 : wr.cell? ⟨gb289, 2, none⟩ = some (.int .i64 a0_2) := (blk_cell BK289.out 2).trans rfl
              have hcz45_3 : wr.cell? ⟨gb289, 3, none⟩ = some (.int .i64 a0_3) := (blk_cell BK289.out 3).trans rfl
              have hcz45_4 : wr.cell? ⟨gb289, 4, none⟩ = some (.int .i64 a0_4) := (blk_cell BK289.out 4).trans rfl
              have hcz45_5 : wr.cell? ⟨gb289, 5, none⟩ = some (.string a0_5) := (blk_cell BK289.out 5).trans rfl
              have hcz45_6 : wr.cell? ⟨gb289, 6, none⟩ = some (.string a0_6) := (blk_cell BK289.out 6).trans rfl
              have hcz45_7 : wr.cell? ⟨gb289, 7, none⟩ = some (.string a0_7) := (blk_cell BK289.out 7).trans rfl
              have hcz45_8 : wr.cell? ⟨gb289, 8, none⟩ = some (.int .i64 a0_8) := (blk_cell BK289.out 8).trans rfl
              have hcz45_9 : wr.cell? ⟨gb289, 9, none⟩ = some (.int .i64 a0_9) := (blk_cell BK289.out 9).trans rfl
              have hcz45_10 : wr.cell? ⟨gb289, 10, none⟩ = some (.string a0_10) := (blk_cell BK289.out 10).trans rfl
              have hcz45_11 : wr.cell? ⟨gb289, 11, none⟩ = some (.int .i64 a0_11) := (blk_cell BK289.out 11).trans rfl
              have hcz45_12 : wr.cell? ⟨gb289, 12, none⟩ = some (.slice A0_12 l0_12.length c0_12) := (blk_cell BK289.out 12).trans rfl
              have hcz45_13 : wr.cell? ⟨gb289, 13, none⟩ = some (.slice A0_13 l0_13.length c0_13) := (blk_cell BK289.out 13).trans rfl
              have hfz45_0 := blk_frozen BK289.out 0
              have hfz45_1 := blk_frozen BK289.out 1
              have hfz45_2 := blk_frozen BK289.out 2
              have hfz45_3 := blk_frozen BK289.out 3
              have hfz45_4 := blk_frozen BK289.out 4
              have hfz45_5 := blk_frozen BK289.out 5
              have hfz45_6 := blk_frozen BK289.out 6
              have hfz45_7 := blk_frozen BK289.out 7
              have hfz45_8 := blk_frozen BK289.out 8
              have hfz45_9 := blk_frozen BK289.out 9
              have hfz45_10 := blk_frozen BK289.out 10
              have hfz45_11 := blk_frozen BK289.out 11
              have hfz45_12 := blk_frozen BK289.out 12
              have hfz45_13 := blk_frozen BK289.out 13
              have p317 : 0 ≤ (x8_3 : Int) := of_decide_eq_true (by first | (with_reducible assumption) | assumption)
              have q317 : x8_3 < (l0_13.length : Int) := of_decide_eq_true (by first | (with_reducible assumption) | assumption)
              obtain ⟨ad317, e317, hx317_0⟩ := Kd.at_string HR0_13.out x8_3 p317 q317
              cases e317
              replace hx317_0 := (HB.out.cell (World.block_lt_of_cell? w _ hx317_0)).trans hx317_0
              replace p317 := eq_true p317
              replace q317 := eq_true q317
              go_wp2_with (first | ((with_reducible refine gate_builtin (b := .append) (xs := #[.tmp 84, .tmp 91]) rfl ?_); at_builtin; refine Kd.R_append k43 (w0 := w) w.heap.size rfl (.tmp 84) (.tmp 91) 36 43 (.agg #[(.string ⟨#[]⟩), (.string ⟨#[]⟩)]) 32 rfl Tryz.underlying36 info43 rfl (by decide) (by omega) u4 x4_3 (⟨(⟨#[98, 111, 120]⟩ : ByteArray), rdOf ByteArray.empty l0_13 x8_3⟩ : S43) [.string (⟨#[98, 111, 120]⟩ : ByteArray), .string (rdOf ByteArray.empty l0_13 x8_3)] (fun _ => True) (fun _ => False) rfl rfl ?aP (fun _ hk => hk.elim) ?aF ?aO ?aB ?aS ?aL ?_; (case aP => exact k43_mkM _ _ _ (⟨(⟨#[98, 111, 120]⟩ : ByteArray), rdOf ByteArray.empty l0_13 x8_3⟩ : S43)); (case aB => exact (by repeat (first | (with_reducible first | exact HB.out | apply below_alloc | apply pw_below_drewN | apply below_drew1 | refine below_set ?_ GE289.out) | exact HB.out))); (case aF => exact (fun _ _ => trivial)); (case aO => exact (by (with_reducible repeat (first | apply Kd.R_alloc | apply Kd.R_drewN | apply Kd.R_drew)); exact HO_4.out)); (case aS => exact (below_size (by repeat (first | (with_reducible first | exact HB.out | apply below_alloc | apply pw_below_drewN | apply below_drew1 | refine below_set ?_ GE289.out) | exact HB.out)))); (case aL => have := LMc44.out; omega); intro v319 w46 ho hb hg hat; rw [← Ny318.out] at ho; have n0_ := Aside0.mk (blk_grown (g := gb289) (o := .cells #[.string a0_0, .string a0_1, .int .i64 a0_2, .int .i64 a0_3, .int .i64 a0_4, .string a0_5, .string a0_6, .string a0_7, .int .i64 a0_8, .int .i64 a0_9, .string a0_10, .int .i64 a0_11, .slice A0_12 l0_12.length c0_12, .slice (some ad317) l0_13.length c0_13] 33 (0, 0)) (by (with_reducible repeat (first | refine blk_drewN ?_ _ | refine blk_drew ?_ | refine blk_alloc ?_ _)); exact BK289.out) hg (Kd.R_ne HO_4.out BK289.out (by decide))); have n1_ := Aside0.mk (hb); have n2_ := Aside0.mk (ho); clear BK289; clear HB; clear HO_4; have BK289 := n0_; have HB := n1_; have HO320 := n2_; clear n0_ n1_ n2_; clear ho hb hg hat))
              go_roundg k3
              case measure => have := HJ4.out; have := HK2.out; have := HK3.out; omega
              case rel => exact ⟨(y318), (wrap64 (x8_3 + 1)), (by first | rfl | (simp; done) | (simp [*]; done)), H', ⟨by have := HJ4.out; have := HK2.out; have := HK3.out; omega⟩, ⟨by (with_reducible repeat (first | apply Kd.R_alloc | apply Kd.R_drewN | apply Kd.R_drew)); exact HO320.out⟩, ⟨by (with_reducible repeat (first | refine blk_drewN ?_ _ | refine blk_drew ?_ | refine blk_alloc ?_ _)); exact BK289.out⟩, ⟨by repeat (first | (with_reducible first | exact HB.out | apply below_alloc | apply pw_below_drewN | apply below_drew1 | refine below_set ?_ GE289.out) | exact HB.out)⟩⟩
             ·
              rw [if_neg c44] at H
              exact absurd H (by simp)
            ·
             rw [if_neg c43] at H
             exact absurd H (by simp)
           ·
            rw [if_neg c42] at H
            have c42b0 : decide (x8_3 < (l0_13.length : Int)) = false := decide_eq_false c42
            clear c42
            obtain rfl := Option.some.inj H
            have hcz47_0 : wr.cell? ⟨gb289, 0, none⟩ = some (.string a0_0) := (blk_cell BK289.out 0).trans rfl
            have hcz47_1 : wr.cell? ⟨gb289, 1, none⟩ = some (.string a0_1) := (blk_cell BK289.out 1).trans rfl
            have hcz47_2 : wr.cell? ⟨gb289, 2, none⟩ = some (.int .i64 a0_2) := (blk_cell BK289.out 2).trans rfl
            have hcz47_3 : wr.cell? ⟨gb289, 3, none⟩ = some (.int .i64 a0_3) := (blk_cell BK289.out 3).trans rfl
            have hcz47_4 : wr.cell? ⟨gb289, 4, none⟩ = some (.int .i64 a0_4) := (blk_cell BK289.out 4).trans rfl
            have hcz47_5 : wr.cell? ⟨gb289, 5, none⟩ = some (.string a0_5) := (blk_cell BK289.out 5).trans rfl
            have hcz47_6 : wr.cell? ⟨gb289, 6, none⟩ = some (.string a0_6) := (blk_cell BK289.out 6).trans rfl
            have hcz47_7 : wr.cell? ⟨gb289, 7, none⟩ = some (.string a0_7) := (blk_cell BK289.out 7).trans rfl
            have hcz47_8 : wr.cell? ⟨gb289, 8, none⟩ = some (.int .i64 a0_8) := (blk_cell BK289.out 8).trans rfl
            have hcz47_9 : wr.cell? ⟨gb289, 9, none⟩ = some (.int .i64 a0_9) := (blk_cell BK289.out 9).trans rfl
            have hcz47_10 : wr.cell? ⟨gb289, 10, none⟩ = some (.string a0_10) := (blk_cell BK289.out 10).trans rfl
            have hcz47_11 : wr.cell? ⟨gb289, 11, none⟩ = some (.int .i64 a0_11) := (blk_cell BK289.out 11).trans rfl
            have hcz47_12 : wr.cell? ⟨gb289, 12, none⟩ = some (.slice A0_12 l0_12.length c0_12) := (blk_cell BK289.out 12).trans rfl
            have hcz47_13 : wr.cell? ⟨gb289, 13, none⟩ = some (.slice A0_13 l0_13.length c0_13) := (blk_cell BK289.out 13).trans rfl
            have hfz47_0 := blk_frozen BK289.out 0
            have hfz47_1 := blk_frozen BK289.out 1
            have hfz47_2 := blk_frozen BK289.out 2
            have hfz47_3 := blk_frozen BK289.out 3
            have hfz47_4 := blk_frozen BK289.out 4
            have hfz47_5 := blk_frozen BK289.out 5
            have hfz47_6 := blk_frozen BK289.out 6
            have hfz47_7 := blk_frozen BK289.out 7
            have hfz47_8 := blk_frozen BK289.out 8
            have hfz47_9 := blk_frozen BK289.out 9
            have hfz47_10 := blk_frozen BK289.out 10
            have hfz47_11 := blk_frozen BK289.out 11
            have hfz47_12 := blk_frozen BK289.out 12
            have hfz47_13 := blk_frozen BK289.out 13
            go_wp2
            go_ret
            exact ⟨_, by first | rfl | (simp [errW_none, errW_some] <;> rfl) | (simp [*, errW_none, errW_some] <;> rfl), by (with_reducible repeat (first | apply Kd.R_alloc | apply Kd.R_drewN | apply Kd.R_drew)); exact HO_4.out, by repeat (first | (with_reducible first | exact HB.out | apply below_alloc | apply pw_below_drewN | apply below_drew1 | refine below_set ?_ GE289.out) | exact HB.out)⟩
     ·
      rw [if_neg c18] at H
      exact absurd H (by simp)
    ·
     rw [if_neg c17] at H
     exact absurd H (by simp)
 ·
  replace c3 := Bool.eq_false_iff.mpr c3
  subst c3
  have H1 : (some ([] : List (S43))) = some r := by rw [if_neg (show ¬ (false = true) by decide)] at H; exact H
  clear H
  have H := H1
  clear H1
  obtain rfl := Option.some.inj H
  go_enter Tryz.func20, Tryz.ntmps20
  go_wp2_with (first | ((with_reducible refine gate_dst (N := 1) rfl ?_); refine box_event ?hg (N := 1) ?hd (cs := #[.string a0_0, .string a0_1, .int .i64 a0_2, .int .i64 a0_3, .int .i64 a0_4, .string a0_5, .string a0_6, .string a0_7, .int .i64 a0_8, .int .i64 a0_9, .string a0_10, .int .i64 a0_11, .slice A0_12 l0_12.length c0_12, .slice A0_13 l0_13.length c0_13]) (t := 33) ?hr ?_; (case hd => rfl); (case hg => rfl); (case hr => first | (go_simp; done) | (go_simp; rfl)); intro gb289 hg w48 hbox hb; have n0_ := Aside0.mk (below_step (by repeat (first | (with_reducible first | exact HB.out | apply below_alloc | apply pw_below_drewN | apply below_drew1) | exact HB.out)) hb); have n1_ := Aside0.mk (hbox); have n2_ := Aside0.mk ((by rw [hg]; exact (below_size (by repeat (first | (with_reducible first | exact HB.out | apply below_alloc | apply pw_below_drewN | apply below_drew1) | exact HB.out))) : w.heap.size ≤ gb289)); have n3_ := Aside0.mk ((by rw [hg]; exact (below_size (by repeat (first | (with_reducible first | exact HB.out | apply below_alloc | apply pw_below_drewN | apply below_drew1) | exact HB.out))) : w.heap.size ≤ gb289)); clear HB; have HB := n0_; have BK289 := n1_; have GW289 := n2_; have GE289 := n3_; clear n0_ n1_ n2_ n3_; clear hb hbox hg; have hcz49_0 : w48.cell? ⟨gb289, 0, none⟩ = some (.string a0_0) := (blk_cell BK289.out 0).trans rfl; have hcz49_1 : w48.cell? ⟨gb289, 1, none⟩ = some (.string a0_1) := (blk_cell BK289.out 1).trans rfl; have hcz49_2 : w48.cell? ⟨gb289, 2, none⟩ = some (.int .i64 a0_2) := (blk_cell BK289.out 2).trans rfl; have hcz49_3 : w48.cell? ⟨gb289, 3, none⟩ = some (.int .i64 a0_3) := (blk_cell BK289.out 3).trans rfl; have hcz49_4 : w48.cell? ⟨gb289, 4, none⟩ = some (.int .i64 a0_4) := (blk_cell BK289.out 4).trans rfl; have hcz49_5 : w48.cell? ⟨gb289, 5, none⟩ = some (.string a0_5) := (blk_cell BK289.out 5).trans rfl; have hcz49_6 : w48.cell? ⟨gb289, 6, none⟩ = some (.string a0_6) := (blk_cell BK289.out 6).trans rfl; have hcz49_7 : w48.cell? ⟨gb289, 7, none⟩ = some (.string a0_7) := (blk_cell BK289.out 7).trans rfl; have hcz49_8 : w48.cell? ⟨gb289, 8, none⟩ = some (.int .i64 a0_8) := (blk_cell BK289.out 8).trans rfl; have hcz49_9 : w48.cell? ⟨gb289, 9, none⟩ = some (.int .i64 a0_9) := (blk_cell BK289.out 9).trans rfl; have hcz49_10 : w48.cell? ⟨gb289, 10, none⟩ = some (.string a0_10) := (blk_cell BK289.out 10).trans rfl; have hcz49_11 : w48.cell? ⟨gb289, 11, none⟩ = some (.int .i64 a0_11) := (blk_cell BK289.out 11).trans rfl; have hcz49_12 : w48.cell? ⟨gb289, 12, none⟩ = some (.slice A0_12 l0_12.length c0_12) := (blk_cell BK289.out 12).trans rfl; have hcz49_13 : w48.cell? ⟨gb289, 13, none⟩ = some (.slice A0_13 l0_13.length c0_13) := (blk_cell BK289.out 13).trans rfl; have hfz49_0 := blk_frozen BK289.out 0; have hfz49_1 := blk_frozen BK289.out 1; have hfz49_2 := blk_frozen BK289.out 2; have hfz49_3 := blk_frozen BK289.out 3; have hfz49_4 := blk_frozen BK289.out 4; have hfz49_5 := blk_frozen BK289.out 5; have hfz49_6 := blk_frozen BK289.out 6; have hfz49_7 := blk_frozen BK289.out 7; have hfz49_8 := blk_frozen BK289.out 8; have hfz49_9 := blk_frozen BK289.out 9; have hfz49_10 := blk_frozen BK289.out 10; have hfz49_11 := blk_frozen BK289.out 11; have hfz49_12 := blk_frozen BK289.out 12; have hfz49_13 := blk_frozen BK289.out 13) | ((with_reducible refine gate_callee (f := 17) rfl ?_); refine goesL_ (some 10) rfl rfl Tryz.func17 (by kernel_rfl) rfl #[.agg #[.string a0_0, .string a0_1, .int .i64 a0_2, .int .i64 a0_3, .int .i64 a0_4, .string a0_5, .string a0_6, .string a0_7, .int .i64 a0_8, .int .i64 a0_9, .string a0_10, .int .i64 a0_11, .slice A0_12 l0_12.length c0_12, .slice A0_13 l0_13.length c0_13]] rfl (by (try simp only [List.map_toArray, List.map_cons, List.map_nil]); first | done | rfl | (simp only [List.length_drop, List.length_take]; rfl)) ?_; (with_reducible refine (supercargoref09_May.calls a0_0 a0_1 a0_2 a0_3 a0_4 a0_5 a0_6 a0_7 a0_8 a0_9 a0_10 a0_11 _ _ l0_12 _ _ l0_13 false _ ?side1 ?side2 ?side3 ?side4 A2.out).mono ?_); (case side1 => repeat (first | exact (Kd.C_below HR0_12.out HB.out) | (with_reducible refine Kd.C_alloc ?_ _) | (with_reducible refine Kd.C_drewN ?_ _) | (with_reducible refine Kd.C_drew ?_))); (case side2 => exact HC0_12.out); (case side3 => repeat (first | exact (Kd.C_below HR0_13.out HB.out) | (with_reducible refine Kd.C_alloc ?_ _) | (with_reducible refine Kd.C_drewN ?_ _) | (with_reducible refine Kd.C_drew ?_))); (case side4 => exact HC0_13.out); rintro e w50 ⟨rfl, hb⟩; refine ⟨_, rfl, ?_⟩; have n0_ := Aside0.mk (blk_below (g := gb289) (o := .cells #[.string a0_0, .string a0_1, .int .i64 a0_2, .int .i64 a0_3, .int .i64 a0_4, .string a0_5, .string a0_6, .string a0_7, .int .i64 a0_8, .int .i64 a0_9, .string a0_10, .int .i64 a0_11, .slice A0_12 l0_12.length c0_12, .slice A0_13 l0_13.length c0_13] 33 (0, 0)) (by (with_reducible repeat (first | refine blk_drewN ?_ _ | refine blk_drew ?_ | refine blk_alloc ?_ _)); exact BK289.out) hb); have n1_ := Aside0.mk (below_step (by repeat (first | (with_reducible first | exact HB.out | apply below_alloc | apply pw_below_drewN | apply below_drew1 | refine below_set ?_ GE289.out) | exact HB.out)) hb); clear BK289; clear HB; have BK289 := n0_; have HB := n1_; clear n0_ n1_; (try clear hb); (try clear hb2); (try clear hk); (try clear hi)))
  go_ret
  exact ⟨_, by first | rfl | (simp [errW_none, errW_some] <;> rfl) | (simp [*, errW_none, errW_some] <;> rfl), by first | exact Kd.R_nil _ _ _ _ _ | exact Kd.N_nil _ _ _ _ _ | exact Kd.V_nil _ _ _ _ _ | exact Kd.Q_nil _ _ _ _ _ | exact Kd.S_nil _ _ _ _ _, by repeat (first | (with_reducible first | exact HB.out | apply below_alloc | apply pw_below_drewN | apply below_drew1 | refine below_set ?_ GE289.out) | exact HB.out)⟩
end Go.Proofs.YtkblmomfiimkiaaGreatDoor.P
end
