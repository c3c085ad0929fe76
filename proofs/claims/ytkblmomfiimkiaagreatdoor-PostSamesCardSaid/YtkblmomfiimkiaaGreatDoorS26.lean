/- What the claim's theorem leans on. Conditions: none of its own. (Written by prune.py out of the texts Px25, without what the claim doesn't lean on.) -/
import Derived.Test.YtkblmomfiimkiaaGreatDoorS2
import Derived.Test.YtkblmomfiimkiaaGreatDoorS25
section
namespace Go.Proofs.YtkblmomfiimkiaaGreatDoor.P
open Go.RowKit Go.Proofs.YtkblmomfiimkiaaGreatDoorW.PrintWords Go.Proofs.YtkblmomfiimkiaaGreatDoorW.PrintLast Go.Proofs.YtkblmomfiimkiaaGreatDoorW.PrintMore
attribute [local go_sem] max2_int min2_int max_two min_two max_three min_three max_four min_four   -- for this text's walks alone
set_option linter.unusedVariables false
set_option linter.unusedSimpArgs false
attribute [local go_sem high] eqA30
mutual
def supercargoref09_Same.j0 : Nat → Bool → ByteArray → ByteArray → Int → Int → Int → ByteArray → ByteArray → ByteArray → Int → Int → ByteArray → Int → List (S38) → List ByteArray → ByteArray → ByteArray → Int → Int → Int → ByteArray → ByteArray → ByteArray → Int → Int → ByteArray → Int → List (S38) → List ByteArray → Option (Bool)
 | 0, _, _, _, _, _, _, _, _, _, _, _, _, _, _, _, _, _, _, _, _, _, _, _, _, _, _, _, _, _ => none
 | k + 1, x99, x200000, x200001, x200002, x200003, x200004, x200005, x200006, x200007, x200008, x200009, x200010, x200011, x200012, x200013, x201000, x201001, x201002, x201003, x201004, x201005, x201006, x201007, x201008, x201009, x201010, x201011, x201012, x201013 => if x99 = true then (some false) else (supercargoref09_Same.l0 k 0 x200000 x200001 x200002 x200003 x200004 x200005 x200006 x200007 x200008 x200009 x200010 x200011 x200012 x200013 x201000 x201001 x201002 x201003 x201004 x201005 x201006 x201007 x201008 x201009 x201010 x201011 x201012 x201013)
def supercargoref09_Same.l0 : Nat → Int → ByteArray → ByteArray → Int → Int → Int → ByteArray → ByteArray → ByteArray → Int → Int → ByteArray → Int → List (S38) → List ByteArray → ByteArray → ByteArray → Int → Int → Int → ByteArray → ByteArray → ByteArray → Int → Int → ByteArray → Int → List (S38) → List ByteArray → Option (Bool)
 | 0, _, _, _, _, _, _, _, _, _, _, _, _, _, _, _, _, _, _, _, _, _, _, _, _, _, _, _, _, _ => none
 | k + 1, x5, x200000, x200001, x200002, x200003, x200004, x200005, x200006, x200007, x200008, x200009, x200010, x200011, x200012, x200013, x201000, x201001, x201002, x201003, x201004, x201005, x201006, x201007, x201008, x201009, x201010, x201011, x201012, x201013 => if x5 < (x200012.length : Int) then (if 0 ≤ x5 then (if x5 < (x201012.length : Int) then ((supercargoref05_Alike.f k ((rd_T38 x200012 x5).f0) ((rd_T38 x200012 x5).f1) ((rd_T38 x200012 x5).f2) ((rd_T38 x200012 x5).f3) ((rd_T38 x201012 x5).f0) ((rd_T38 x201012 x5).f1) ((rd_T38 x201012 x5).f2) ((rd_T38 x201012 x5).f3)).bind fun t203 => (if t203 = true then (supercargoref09_Same.l0 k (wrap64 (x5 + 1)) x200000 x200001 x200002 x200003 x200004 x200005 x200006 x200007 x200008 x200009 x200010 x200011 x200012 x200013 x201000 x201001 x201002 x201003 x201004 x201005 x201006 x201007 x201008 x201009 x201010 x201011 x201012 x201013) else (some false))) else (none)) else (none)) else (supercargoref09_Same.l1 k 0 x200000 x200001 x200002 x200003 x200004 x200005 x200006 x200007 x200008 x200009 x200010 x200011 x200012 x200013 x201000 x201001 x201002 x201003 x201004 x201005 x201006 x201007 x201008 x201009 x201010 x201011 x201012 x201013)
def supercargoref09_Same.l1 : Nat → Int → ByteArray → ByteArray → Int → Int → Int → ByteArray → ByteArray → ByteArray → Int → Int → ByteArray → Int → List (S38) → List ByteArray → ByteArray → ByteArray → Int → Int → Int → ByteArray → ByteArray → ByteArray → Int → Int → ByteArray → Int → List (S38) → List ByteArray → Option (Bool)
 | 0, _, _, _, _, _, _, _, _, _, _, _, _, _, _, _, _, _, _, _, _, _, _, _, _, _, _, _, _, _ => none
 | k + 1, x6, x200000, x200001, x200002, x200003, x200004, x200005, x200006, x200007, x200008, x200009, x200010, x200011, x200012, x200013, x201000, x201001, x201002, x201003, x201004, x201005, x201006, x201007, x201008, x201009, x201010, x201011, x201012, x201013 => if x6 < (x200013.length : Int) then (if 0 ≤ x6 then (if x6 < (x201013.length : Int) then (if (rdOf ByteArray.empty x200013 x6).toList = (rdOf ByteArray.empty x201013 x6).toList then (supercargoref09_Same.l1 k (wrap64 (x6 + 1)) x200000 x200001 x200002 x200003 x200004 x200005 x200006 x200007 x200008 x200009 x200010 x200011 x200012 x200013 x201000 x201001 x201002 x201003 x201004 x201005 x201006 x201007 x201008 x201009 x201010 x201011 x201012 x201013) else (some false)) else (none)) else (none)) else (some true)
end
def supercargoref09_Same.f (k : Nat) (a0_0 : ByteArray) (a0_1 : ByteArray) (a0_2 : Int) (a0_3 : Int) (a0_4 : Int) (a0_5 : ByteArray) (a0_6 : ByteArray) (a0_7 : ByteArray) (a0_8 : Int) (a0_9 : Int) (a0_10 : ByteArray) (a0_11 : Int) (l0_12 : List (S38)) (l0_13 : List ByteArray) (a1_0 : ByteArray) (a1_1 : ByteArray) (a1_2 : Int) (a1_3 : Int) (a1_4 : Int) (a1_5 : ByteArray) (a1_6 : ByteArray) (a1_7 : ByteArray) (a1_8 : Int) (a1_9 : Int) (a1_10 : ByteArray) (a1_11 : Int) (l1_12 : List (S38)) (l1_13 : List ByteArray) : Option (Bool) := if a0_0.toList = a1_0.toList then (if a0_1.toList = a1_1.toList then (if a0_2 = a1_2 then (if a0_3 = a1_3 then (if a0_4 = a1_4 then (if a0_5.toList = a1_5.toList then (if a0_6.toList = a1_6.toList then (if a0_7.toList = a1_7.toList then (if a0_8 = a1_8 then (if a0_9 = a1_9 then (if (!(a0_10.toList == a1_10.toList) || (!(a0_11 == a1_11))) = true then (supercargoref09_Same.j0 k true a0_0 a0_1 a0_2 a0_3 a0_4 a0_5 a0_6 a0_7 a0_8 a0_9 a0_10 a0_11 l0_12 l0_13 a1_0 a1_1 a1_2 a1_3 a1_4 a1_5 a1_6 a1_7 a1_8 a1_9 a1_10 a1_11 l1_12 l1_13) else (if (l0_12.length : Int) = (l1_12.length : Int) then (supercargoref09_Same.j0 k ((l0_13.length : Int) != (l1_13.length : Int)) a0_0 a0_1 a0_2 a0_3 a0_4 a0_5 a0_6 a0_7 a0_8 a0_9 a0_10 a0_11 l0_12 l0_13 a1_0 a1_1 a1_2 a1_3 a1_4 a1_5 a1_6 a1_7 a1_8 a1_9 a1_10 a1_11 l1_12 l1_13) else (supercargoref09_Same.j0 k true a0_0 a0_1 a0_2 a0_3 a0_4 a0_5 a0_6 a0_7 a0_8 a0_9 a0_10 a0_11 l0_12 l0_13 a1_0 a1_1 a1_2 a1_3 a1_4 a1_5 a1_6 a1_7 a1_8 a1_9 a1_10 a1_11 l1_12 l1_13))) else (supercargoref09_Same.j0 k true a0_0 a0_1 a0_2 a0_3 a0_4 a0_5 a0_6 a0_7 a0_8 a0_9 a0_10 a0_11 l0_12 l0_13 a1_0 a1_1 a1_2 a1_3 a1_4 a1_5 a1_6 a1_7 a1_8 a1_9 a1_10 a1_11 l1_12 l1_13)) else (supercargoref09_Same.j0 k true a0_0 a0_1 a0_2 a0_3 a0_4 a0_5 a0_6 a0_7 a0_8 a0_9 a0_10 a0_11 l0_12 l0_13 a1_0 a1_1 a1_2 a1_3 a1_4 a1_5 a1_6 a1_7 a1_8 a1_9 a1_10 a1_11 l1_12 l1_13)) else (supercargoref09_Same.j0 k true a0_0 a0_1 a0_2 a0_3 a0_4 a0_5 a0_6 a0_7 a0_8 a0_9 a0_10 a0_11 l0_12 l0_13 a1_0 a1_1 a1_2 a1_3 a1_4 a1_5 a1_6 a1_7 a1_8 a1_9 a1_10 a1_11 l1_12 l1_13)) else (supercargoref09_Same.j0 k true a0_0 a0_1 a0_2 a0_3 a0_4 a0_5 a0_6 a0_7 a0_8 a0_9 a0_10 a0_11 l0_12 l0_13 a1_0 a1_1 a1_2 a1_3 a1_4 a1_5 a1_6 a1_7 a1_8 a1_9 a1_10 a1_11 l1_12 l1_13)) else (supercargoref09_Same.j0 k true a0_0 a0_1 a0_2 a0_3 a0_4 a0_5 a0_6 a0_7 a0_8 a0_9 a0_10 a0_11 l0_12 l0_13 a1_0 a1_1 a1_2 a1_3 a1_4 a1_5 a1_6 a1_7 a1_8 a1_9 a1_10 a1_11 l1_12 l1_13)) else (supercargoref09_Same.j0 k true a0_0 a0_1 a0_2 a0_3 a0_4 a0_5 a0_6 a0_7 a0_8 a0_9 a0_10 a0_11 l0_12 l0_13 a1_0 a1_1 a1_2 a1_3 a1_4 a1_5 a1_6 a1_7 a1_8 a1_9 a1_10 a1_11 l1_12 l1_13)) else (supercargoref09_Same.j0 k true a0_0 a0_1 a0_2 a0_3 a0_4 a0_5 a0_6 a0_7 a0_8 a0_9 a0_10 a0_11 l0_12 l0_13 a1_0 a1_1 a1_2 a1_3 a1_4 a1_5 a1_6 a1_7 a1_8 a1_9 a1_10 a1_11 l1_12 l1_13)) else (supercargoref09_Same.j0 k true a0_0 a0_1 a0_2 a0_3 a0_4 a0_5 a0_6 a0_7 a0_8 a0_9 a0_10 a0_11 l0_12 l0_13 a1_0 a1_1 a1_2 a1_3 a1_4 a1_5 a1_6 a1_7 a1_8 a1_9 a1_10 a1_11 l1_12 l1_13)) else (supercargoref09_Same.j0 k true a0_0 a0_1 a0_2 a0_3 a0_4 a0_5 a0_6 a0_7 a0_8 a0_9 a0_10 a0_11 l0_12 l0_13 a1_0 a1_1 a1_2 a1_3 a1_4 a1_5 a1_6 a1_7 a1_8 a1_9 a1_10 a1_11 l1_12 l1_13)) else (supercargoref09_Same.j0 k true a0_0 a0_1 a0_2 a0_3 a0_4 a0_5 a0_6 a0_7 a0_8 a0_9 a0_10 a0_11 l0_12 l0_13 a1_0 a1_1 a1_2 a1_3 a1_4 a1_5 a1_6 a1_7 a1_8 a1_9 a1_10 a1_11 l1_12 l1_13)
theorem supercargoref09_Same.mono_l : ∀ k, (∀ y0 y1 y2 y3 y4 y5 y6 y7 y8 y9 y10 y11 y12 y13 y14 y15 y16 y17 y18 y19 y20 y21 y22 y23 y24 y25 y26 y27 y28, LeO (supercargoref09_Same.j0 k y0 y1 y2 y3 y4 y5 y6 y7 y8 y9 y10 y11 y12 y13 y14 y15 y16 y17 y18 y19 y20 y21 y22 y23 y24 y25 y26 y27 y28) (supercargoref09_Same.j0 (k + 1) y0 y1 y2 y3 y4 y5 y6 y7 y8 y9 y10 y11 y12 y13 y14 y15 y16 y17 y18 y19 y20 y21 y22 y23 y24 y25 y26 y27 y28)) ∧ (∀ y0 y1 y2 y3 y4 y5 y6 y7 y8 y9 y10 y11 y12 y13 y14 y15 y16 y17 y18 y19 y20 y21 y22 y23 y24 y25 y26 y27 y28, LeO (supercargoref09_Same.l0 k y0 y1 y2 y3 y4 y5 y6 y7 y8 y9 y10 y11 y12 y13 y14 y15 y16 y17 y18 y19 y20 y21 y22 y23 y24 y25 y26 y27 y28) (supercargoref09_Same.l0 (k + 1) y0 y1 y2 y3 y4 y5 y6 y7 y8 y9 y10 y11 y12 y13 y14 y15 y16 y17 y18 y19 y20 y21 y22 y23 y24 y25 y26 y27 y28)) ∧ (∀ y0 y1 y2 y3 y4 y5 y6 y7 y8 y9 y10 y11 y12 y13 y14 y15 y16 y17 y18 y19 y20 y21 y22 y23 y24 y25 y26 y27 y28, LeO (supercargoref09_Same.l1 k y0 y1 y2 y3 y4 y5 y6 y7 y8 y9 y10 y11 y12 y13 y14 y15 y16 y17 y18 y19 y20 y21 y22 y23 y24 y25 y26 y27 y28) (supercargoref09_Same.l1 (k + 1) y0 y1 y2 y3 y4 y5 y6 y7 y8 y9 y10 y11 y12 y13 y14 y15 y16 y17 y18 y19 y20 y21 y22 y23 y24 y25 y26 y27 y28))
 | 0 => ⟨fun _ _ _ _ _ _ _ _ _ _ _ _ _ _ _ _ _ _ _ _ _ _ _ _ _ _ _ _ _ r h => by simp [supercargoref09_Same.j0] at h, fun _ _ _ _ _ _ _ _ _ _ _ _ _ _ _ _ _ _ _ _ _ _ _ _ _ _ _ _ _ r h => by simp [supercargoref09_Same.l0] at h, fun _ _ _ _ _ _ _ _ _ _ _ _ _ _ _ _ _ _ _ _ _ _ _ _ _ _ _ _ _ r h => by simp [supercargoref09_Same.l1] at h⟩
 | k + 1 => by
  obtain ⟨ih0, ih1, ih2⟩ := supercargoref09_Same.mono_l k
  refine ⟨?_, ?_, ?_⟩
  ·
   intro y0 y1 y2 y3 y4 y5 y6 y7 y8 y9 y10 y11 y12 y13 y14 y15 y16 y17 y18 y19 y20 y21 y22 y23 y24 y25 y26 y27 y28
   unfold supercargoref09_Same.j0
   repeat' first
   | (with_reducible exact ih0 _ _ _ _ _ _ _ _ _ _ _ _ _ _ _ _ _ _ _ _ _ _ _ _ _ _ _ _ _)
   | (with_reducible exact ih1 _ _ _ _ _ _ _ _ _ _ _ _ _ _ _ _ _ _ _ _ _ _ _ _ _ _ _ _ _)
   | (with_reducible exact ih2 _ _ _ _ _ _ _ _ _ _ _ _ _ _ _ _ _ _ _ _ _ _ _ _ _ _ _ _ _)
   | (with_reducible exact supercargoref05_Alike.mono _ _ _ _ _ _ _ _ _)
   | (with_reducible exact LeO.refl _)
   | (with_reducible exact LeO.none _)
   | (with_reducible refine LeO.ite ?_ ?_)
   | (with_reducible refine LeO.bind ?_ (fun _ => ?_))
   | exact ih0 _ _ _ _ _ _ _ _ _ _ _ _ _ _ _ _ _ _ _ _ _ _ _ _ _ _ _ _ _
   | exact ih1 _ _ _ _ _ _ _ _ _ _ _ _ _ _ _ _ _ _ _ _ _ _ _ _ _ _ _ _ _
   | exact ih2 _ _ _ _ _ _ _ _ _ _ _ _ _ _ _ _ _ _ _ _ _ _ _ _ _ _ _ _ _
   | exact supercargoref05_Alike.mono _ _ _ _ _ _ _ _ _
   | exact LeO.none _
   | refine LeO.ite ?_ ?_
   | refine LeO.bind ?_ (fun _ => ?_)
  ·
   intro y0 y1 y2 y3 y4 y5 y6 y7 y8 y9 y10 y11 y12 y13 y14 y15 y16 y17 y18 y19 y20 y21 y22 y23 y24 y25 y26 y27 y28
   unfold supercargoref09_Same.l0
   repeat' first
   | (with_reducible exact ih0 _ _ _ _ _ _ _ _ _ _ _ _ _ _ _ _ _ _ _ _ _ _ _ _ _ _ _ _ _)
   | (with_reducible exact ih1 _ _ _ _ _ _ _ _ _ _ _ _ _ _ _ _ _ _ _ _ _ _ _ _ _ _ _ _ _)
   | (with_reducible exact ih2 _ _ _ _ _ _ _ _ _ _ _ _ _ _ _ _ _ _ _ _ _ _ _ _ _ _ _ _ _)
   | (with_reducible exact supercargoref05_Alike.mono _ _ _ _ _ _ _ _ _)
   | (with_reducible exact LeO.refl _)
   | (with_reducible exact LeO.none _)
   | (with_reducible refine LeO.ite ?_ ?_)
   | (with_reducible refine LeO.bind ?_ (fun _ => ?_))
   | exact ih0 _ _ _ _ _ _ _ _ _ _ _ _ _ _ _ _ _ _ _ _ _ _ _ _ _ _ _ _ _
   | exact ih1 _ _ _ _ _ _ _ _ _ _ _ _ _ _ _ _ _ _ _ _ _ _ _ _ _ _ _ _ _
   | exact ih2 _ _ _ _ _ _ _ _ _ _ _ _ _ _ _ _ _ _ _ _ _ _ _ _ _ _ _ _ _
   | exact supercargoref05_Alike.mono _ _ _ _ _ _ _ _ _
   | exact LeO.none _
   | refine LeO.ite ?_ ?_
   | refine LeO.bind ?_ (fun _ => ?_)
  ·
   intro y0 y1 y2 y3 y4 y5 y6 y7 y8 y9 y10 y11 y12 y13 y14 y15 y16 y17 y18 y19 y20 y21 y22 y23 y24 y25 y26 y27 y28
   unfold supercargoref09_Same.l1
   repeat' first
   | (with_reducible exact ih0 _ _ _ _ _ _ _ _ _ _ _ _ _ _ _ _ _ _ _ _ _ _ _ _ _ _ _ _ _)
   | (with_reducible exact ih1 _ _ _ _ _ _ _ _ _ _ _ _ _ _ _ _ _ _ _ _ _ _ _ _ _ _ _ _ _)
   | (with_reducible exact ih2 _ _ _ _ _ _ _ _ _ _ _ _ _ _ _ _ _ _ _ _ _ _ _ _ _ _ _ _ _)
   | (with_reducible exact supercargoref05_Alike.mono _ _ _ _ _ _ _ _ _)
   | (with_reducible exact LeO.refl _)
   | (with_reducible exact LeO.none _)
   | (with_reducible refine LeO.ite ?_ ?_)
   | (with_reducible refine LeO.bind ?_ (fun _ => ?_))
   | exact ih0 _ _ _ _ _ _ _ _ _ _ _ _ _ _ _ _ _ _ _ _ _ _ _ _ _ _ _ _ _
   | exact ih1 _ _ _ _ _ _ _ _ _ _ _ _ _ _ _ _ _ _ _ _ _ _ _ _ _ _ _ _ _
   | exact ih2 _ _ _ _ _ _ _ _ _ _ _ _ _ _ _ _ _ _ _ _ _ _ _ _ _ _ _ _ _
   | exact supercargoref05_Alike.mono _ _ _ _ _ _ _ _ _
   | exact LeO.none _
   | refine LeO.ite ?_ ?_
   | refine LeO.bind ?_ (fun _ => ?_)
theorem supercargoref09_Same.mono : ∀ a0 a1 a2 a3 a4 a5 a6 a7 a8 a9 a10 a11 a12 a13 a14 a15 a16 a17 a18 a19 a20 a21 a22 a23 a24 a25 a26 a27 k, LeO (supercargoref09_Same.f k a0 a1 a2 a3 a4 a5 a6 a7 a8 a9 a10 a11 a12 a13 a14 a15 a16 a17 a18 a19 a20 a21 a22 a23 a24 a25 a26 a27) (supercargoref09_Same.f (k + 1) a0 a1 a2 a3 a4 a5 a6 a7 a8 a9 a10 a11 a12 a13 a14 a15 a16 a17 a18 a19 a20 a21 a22 a23 a24 a25 a26 a27) := by
 intro a0 a1 a2 a3 a4 a5 a6 a7 a8 a9 a10 a11 a12 a13 a14 a15 a16 a17 a18 a19 a20 a21 a22 a23 a24 a25 a26 a27 k
 obtain ⟨ih0, ih1, ih2⟩ := supercargoref09_Same.mono_l k
 unfold supercargoref09_Same.f
 repeat' first
   | (with_reducible exact ih0 _ _ _ _ _ _ _ _ _ _ _ _ _ _ _ _ _ _ _ _ _ _ _ _ _ _ _ _ _)
   | (with_reducible exact ih1 _ _ _ _ _ _ _ _ _ _ _ _ _ _ _ _ _ _ _ _ _ _ _ _ _ _ _ _ _)
   | (with_reducible exact ih2 _ _ _ _ _ _ _ _ _ _ _ _ _ _ _ _ _ _ _ _ _ _ _ _ _ _ _ _ _)
   | (with_reducible exact supercargoref05_Alike.mono _ _ _ _ _ _ _ _ _)
   | (with_reducible exact LeO.refl _)
   | (with_reducible exact LeO.none _)
   | (with_reducible refine LeO.ite ?_ ?_)
   | (with_reducible refine LeO.bind ?_ (fun _ => ?_))
   | exact ih0 _ _ _ _ _ _ _ _ _ _ _ _ _ _ _ _ _ _ _ _ _ _ _ _ _ _ _ _ _
   | exact ih1 _ _ _ _ _ _ _ _ _ _ _ _ _ _ _ _ _ _ _ _ _ _ _ _ _ _ _ _ _
   | exact ih2 _ _ _ _ _ _ _ _ _ _ _ _ _ _ _ _ _ _ _ _ _ _ _ _ _ _ _ _ _
   | exact supercargoref05_Alike.mono _ _ _ _ _ _ _ _ _
   | exact LeO.none _
   | refine LeO.ite ?_ ?_
   | refine LeO.bind ?_ (fun _ => ?_)
def supercargoref09_Same.T6 : Bool × List (List Nat × List Nat) := (true, [([], []), ([0], [0]), ([], []), ([1, 2], [1, 2]), ([3], [3]), ([], []), ([5], [5]), ([], []), ([6, 7], [6, 7]), ([8], [8]), ([4, 9], [4, 9]), ([10], [10])])
def supercargoref09_Same.B6 : List Nat := [0, 1, 0, 7, 15, 0, 32, 0, 224, 480, 1023, 2047]
theorem supercargoref09_Same.tab6 : rtab .any (opsOf Tryz.f15 6) = supercargoref09_Same.T6 := by kernel_rfl
theorem supercargoref09_Same.bits6 : waitsOk supercargoref09_Same.T6.2 supercargoref09_Same.B6 = true := by kernel_rfl
def supercargoref09_Same.T11 : Bool × List (List Nat × List Nat) := (true, [([], []), ([0], [0]), ([], []), ([1, 2], [1, 2]), ([3], [3]), ([], []), ([5], [5]), ([], []), ([6, 7], [6, 7]), ([8], [8]), ([4, 9], [4, 9])])
def supercargoref09_Same.B11 : List Nat := [0, 1, 0, 7, 15, 0, 32, 0, 224, 480, 1023]
theorem supercargoref09_Same.tab11 : rtab .any (opsOf Tryz.f15 11) = supercargoref09_Same.T11 := by kernel_rfl
theorem supercargoref09_Same.bits11 : waitsOk supercargoref09_Same.T11.2 supercargoref09_Same.B11 = true := by kernel_rfl
set_option maxHeartbeats 8000000 in
set_option maxRecDepth 100000 in
theorem supercargoref09_Same.calls (k : Nat) (a0_0 : ByteArray) (a0_1 : ByteArray) (a0_2 : Int) (a0_3 : Int) (a0_4 : Int) (a0_5 : ByteArray) (a0_6 : ByteArray) (a0_7 : ByteArray) (a0_8 : Int) (a0_9 : Int) (a0_10 : ByteArray) (a0_11 : Int) (A0_12 : Option Addr) (c0_12 : Nat) (l0_12 : List (S38)) (A0_13 : Option Addr) (c0_13 : Nat) (l0_13 : List ByteArray) (a1_0 : ByteArray) (a1_1 : ByteArray) (a1_2 : Int) (a1_3 : Int) (a1_4 : Int) (a1_5 : ByteArray) (a1_6 : ByteArray) (a1_7 : ByteArray) (a1_8 : Int) (a1_9 : Int) (a1_10 : ByteArray) (a1_11 : Int) (A1_12 : Option Addr) (c1_12 : Nat) (l1_12 : List (S38)) (A1_13 : Option Addr) (c1_13 : Nat) (l1_13 : List ByteArray) (r : Bool) (w : World) (hr0_12 : Kd.C k38 w A0_12 l0_12.length l0_12) (hc0_12 : l0_12.length ≤ c0_12) (hr0_13 : Kd.C Kd.string w A0_13 l0_13.length l0_13) (hc0_13 : l0_13.length ≤ c0_13) (hr1_12 : Kd.C k38 w A1_12 l1_12.length l1_12) (hc1_12 : l1_12.length ≤ c1_12) (hr1_13 : Kd.C Kd.string w A1_13 l1_13.length l1_13) (hc1_13 : l1_13.length ≤ c1_13) (h : supercargoref09_Same.f k a0_0 a0_1 a0_2 a0_3 a0_4 a0_5 a0_6 a0_7 a0_8 a0_9 a0_10 a0_11 l0_12 l0_13 a1_0 a1_1 a1_2 a1_3 a1_4 a1_5 a1_6 a1_7 a1_8 a1_9 a1_10 a1_11 l1_12 l1_13 = some r) :
  Calls Tryz.prog 15 #[.agg #[.string a0_0, .string a0_1, .int .i64 a0_2, .int .i64 a0_3, .int .i64 a0_4, .string a0_5, .string a0_6, .string a0_7, .int .i64 a0_8, .int .i64 a0_9, .string a0_10, .int .i64 a0_11, .slice A0_12 l0_12.length c0_12, .slice A0_13 l0_13.length c0_13], .agg #[.string a1_0, .string a1_1, .int .i64 a1_2, .int .i64 a1_3, .int .i64 a1_4, .string a1_5, .string a1_6, .string a1_7, .int .i64 a1_8, .int .i64 a1_9, .string a1_10, .int .i64 a1_11, .slice A1_12 l1_12.length c1_12, .slice A1_13 l1_13.length c1_13]] w fun e w' => e = .returned (.bool r) ∧ Below w.heap.size w w' := by
 have hu33 := Tryz.underlying33
 have hu30 := Tryz.underlying30
 have hu38 := Tryz.underlying38
 have HR0_12 := Aside0.mk hr0_12
 have HC0_12 := Aside0.mk hc0_12
 clear hr0_12 hc0_12
 have HR0_13 := Aside0.mk hr0_13
 have HC0_13 := Aside0.mk hc0_13
 clear hr0_13 hc0_13
 have HR1_12 := Aside0.mk hr1_12
 have HC1_12 := Aside0.mk hc1_12
 clear hr1_12 hc1_12
 have HR1_13 := Aside0.mk hr1_13
 have HC1_13 := Aside0.mk hc1_13
 clear hr1_13 hc1_13
 have HB := Aside0.mk (Below.refl w.heap.size w)
 have H : (if a0_0.toList = a1_0.toList then (if a0_1.toList = a1_1.toList then (if a0_2 = a1_2 then (if a0_3 = a1_3 then (if a0_4 = a1_4 then (if a0_5.toList = a1_5.toList then (if a0_6.toList = a1_6.toList then (if a0_7.toList = a1_7.toList then (if a0_8 = a1_8 then (if a0_9 = a1_9 then (if (!(a0_10.toList == a1_10.toList) || (!(a0_11 == a1_11))) = true then (supercargoref09_Same.j0 k true a0_0 a0_1 a0_2 a0_3 a0_4 a0_5 a0_6 a0_7 a0_8 a0_9 a0_10 a0_11 l0_12 l0_13 a1_0 a1_1 a1_2 a1_3 a1_4 a1_5 a1_6 a1_7 a1_8 a1_9 a1_10 a1_11 l1_12 l1_13) else (if (l0_12.length : Int) = (l1_12.length : Int) then (supercargoref09_Same.j0 k ((l0_13.length : Int) != (l1_13.length : Int)) a0_0 a0_1 a0_2 a0_3 a0_4 a0_5 a0_6 a0_7 a0_8 a0_9 a0_10 a0_11 l0_12 l0_13 a1_0 a1_1 a1_2 a1_3 a1_4 a1_5 a1_6 a1_7 a1_8 a1_9 a1_10 a1_11 l1_12 l1_13) else (supercargoref09_Same.j0 k true a0_0 a0_1 a0_2 a0_3 a0_4 a0_5 a0_6 a0_7 a0_8 a0_9 a0_10 a0_11 l0_12 l0_13 a1_0 a1_1 a1_2 a1_3 a1_4 a1_5 a1_6 a1_7 a1_8 a1_9 a1_10 a1_11 l1_12 l1_13))) else (supercargoref09_Same.j0 k true a0_0 a0_1 a0_2 a0_3 a0_4 a0_5 a0_6 a0_7 a0_8 a0_9 a0_10 a0_11 l0_12 l0_13 a1_0 a1_1 a1_2 a1_3 a1_4 a1_5 a1_6 a1_7 a1_8 a1_9 a1_10 a1_11 l1_12 l1_13)) else (supercargoref09_Same.j0 k true a0_0 a0_1 a0_2 a0_3 a0_4 a0_5 a0_6 a0_7 a0_8 a0_9 a0_10 a0_11 l0_12 l0_13 a1_0 a1_1 a1_2 a1_3 a1_4 a1_5 a1_6 a1_7 a1_8 a1_9 a1_10 a1_11 l1_12 l1_13)) else (supercargoref09_Same.j0 k true a0_0 a0_1 a0_2 a0_3 a0_4 a0_5 a0_6 a0_7 a0_8 a0_9 a0_10 a0_11 l0_12 l0_13 a1_0 a1_1 a1_2 a1_3 a1_4 a1_5 a1_6 a1_7 a1_8 a1_9 a1_10 a1_11 l1_12 l1_13)) else (supercargoref09_Same.j0 k true a0_0 a0_1 a0_2 a0_3 a0_4 a0_5 a0_6 a0_7 a0_8 a0_9 a0_10 a0_11 l0_12 l0_13 a1_0 a1_1 a1_2 a1_3 a1_4 a1_5 a1_6 a1_7 a1_8 a1_9 a1_10 a1_11 l1_12 l1_13)) else (supercargoref09_Same.j0 k true a0_0 a0_1 a0_2 a0_3 a0_4 a0_5 a0_6 a0_7 a0_8 a0_9 a0_10 a0_11 l0_12 l0_13 a1_0 a1_1 a1_2 a1_3 a1_4 a1_5 a1_6 a1_7 a1_8 a1_9 a1_10 a1_11 l1_12 l1_13)) else (supercargoref09_Same.j0 k true a0_0 a0_1 a0_2 a0_3 a0_4 a0_5 a0_6 a0_7 a0_8 a0_9 a0_10 a0_11 l0_12 l0_13 a1_0 a1_1 a1_2 a1_3 a1_4 a1_5 a1_6 a1_7 a1_8 a1_9 a1_10 a1_11 l1_12 l1_13)) else (supercargoref09_Same.j0 k true a0_0 a0_1 a0_2 a0_3 a0_4 a0_5 a0_6 a0_7 a0_8 a0_9 a0_10 a0_11 l0_12 l0_13 a1_0 a1_1 a1_2 a1_3 a1_4 a1_5 a1_6 a1_7 a1_8 a1_9 a1_10 a1_11 l1_12 l1_13)) else (supercargoref09_Same.j0 k true a0_0 a0_1 a0_2 a0_3 a0_4 a0_5 a0_6 a0_7 a0_8 a0_9 a0_10 a0_11 l0_12 l0_13 a1_0 a1_1 a1_2 a1_3 a1_4 a1_5 a1_6 a1_7 a1_8 a1_9 a1_10 a1_11 l1_12 l1_13)) else (supercargoref09_Same.j0 k true a0_0 a0_1 a0_2 a0_3 a0_4 a0_5 a0_6 a0_7 a0_8 a0_9 a0_10 a0_11 l0_12 l0_13 a1_0 a1_1 a1_2 a1_3 a1_4 a1_5 a1_6 a1_7 a1_8 a1_9 a1_10 a1_11 l1_12 l1_13)) else (supercargoref09_Same.j0 k true a0_0 a0_1 a0_2 a0_3 a0_4 a0_5 a0_6 a0_7 a0_8 a0_9 a0_10 a0_11 l0_12 l0_13 a1_0 a1_1 a1_2 a1_3 a1_4 a1_5 a1_6 a1_7 a1_8 a1_9 a1_10 a1_11 l1_12 l1_13)) = some r := h
 clear h
 have HC3 := Aside0.mk H
 clear H
 go_enter Tryz.func15, Tryz.ntmps15
 go_upto_region 1 with (first | ((with_reducible refine gate_dst (N := 2) rfl ?_); (try (refine gate_guard (by rfl) ?_; dsimp only)); refine box_event ?hg (N := 2) ?hd (cs := #[.string a0_0, .string a0_1, .int .i64 a0_2, .int .i64 a0_3, .int .i64 a0_4, .string a0_5, .string a0_6, .string a0_7, .int .i64 a0_8, .int .i64 a0_9, .string a0_10, .int .i64 a0_11, .slice A0_12 l0_12.length c0_12, .slice A0_13 l0_13.length c0_13]) (t := 33) ?hr ?_; (case hd => rfl); (case hg => rfl); (case hr => first | (go_simp; done) | (go_simp; rfl)); intro gb199 hg w4 hbox hb; have n0_ := Aside0.mk (below_step (by repeat (first | (with_reducible first | exact HB.out | apply below_alloc | apply pw_below_drewN | apply below_drew1) | exact HB.out)) hb); have n1_ := Aside0.mk (hbox); have n2_ := Aside0.mk ((by rw [hg]; exact (below_size (by repeat (first | (with_reducible first | exact HB.out | apply below_alloc | apply pw_below_drewN | apply below_drew1) | exact HB.out))) : w.heap.size ≤ gb199)); have n3_ := Aside0.mk ((by rw [hg]; exact (below_size (by repeat (first | (with_reducible first | exact HB.out | apply below_alloc | apply pw_below_drewN | apply below_drew1) | exact HB.out))) : w.heap.size ≤ gb199)); clear HB; have HB := n0_; have BK199 := n1_; have GW199 := n2_; have GE199 := n3_; clear n0_ n1_ n2_ n3_; clear hb hbox hg) | ((with_reducible refine gate_dst (N := 3) rfl ?_); (try (refine gate_guard (by rfl) ?_; dsimp only)); refine box_event ?hg (N := 3) ?hd (cs := #[.string a1_0, .string a1_1, .int .i64 a1_2, .int .i64 a1_3, .int .i64 a1_4, .string a1_5, .string a1_6, .string a1_7, .int .i64 a1_8, .int .i64 a1_9, .string a1_10, .int .i64 a1_11, .slice A1_12 l1_12.length c1_12, .slice A1_13 l1_13.length c1_13]) (t := 33) ?hr ?_; (case hd => rfl); (case hg => rfl); (case hr => first | (go_simp; done) | (go_simp; rfl)); intro gb200 hg w5 hbox hb; have n0_ := Aside0.mk (blk_below (g := gb199) (o := .cells #[.string a0_0, .string a0_1, .int .i64 a0_2, .int .i64 a0_3, .int .i64 a0_4, .string a0_5, .string a0_6, .string a0_7, .int .i64 a0_8, .int .i64 a0_9, .string a0_10, .int .i64 a0_11, .slice A0_12 l0_12.length c0_12, .slice A0_13 l0_13.length c0_13] 33 (0, 0)) (by (with_reducible repeat (first | refine blk_drewN ?_ _ | refine blk_drew ?_ | refine blk_alloc ?_ _)); exact BK199.out) hb); have n1_ := Aside0.mk (below_step (by repeat (first | (with_reducible first | exact HB.out | apply below_alloc | apply pw_below_drewN | apply below_drew1 | refine below_set ?_ GE199.out) | exact HB.out)) hb); have n2_ := Aside0.mk (hbox); have n3_ := Aside0.mk ((by rw [hg]; exact (below_size (by repeat (first | (with_reducible first | exact HB.out | apply below_alloc | apply pw_below_drewN | apply below_drew1 | refine below_set ?_ GE199.out) | exact HB.out))) : w.heap.size ≤ gb200)); have n4_ := Aside0.mk ((by rw [hg]; exact (below_size (by repeat (first | (with_reducible first | exact HB.out | apply below_alloc | apply pw_below_drewN | apply below_drew1 | refine below_set ?_ GE199.out) | exact HB.out))) : w.heap.size ≤ gb200)); have n5_ := Aside0.mk ((by rw [hg]; exact Nat.ne_of_lt (blk_lt (g := gb199) (o := .cells #[.string a0_0, .string a0_1, .int .i64 a0_2, .int .i64 a0_3, .int .i64 a0_4, .string a0_5, .string a0_6, .string a0_7, .int .i64 a0_8, .int .i64 a0_9, .string a0_10, .int .i64 a0_11, .slice A0_12 l0_12.length c0_12, .slice A0_13 l0_13.length c0_13] 33 (0, 0)) (by (with_reducible repeat (first | refine blk_drewN ?_ _ | refine blk_drew ?_ | refine blk_alloc ?_ _)); exact BK199.out)) : gb199 ≠ gb200)); have n6_ := Aside0.mk ((by rw [hg]; exact Nat.ne_of_gt (blk_lt (g := gb199) (o := .cells #[.string a0_0, .string a0_1, .int .i64 a0_2, .int .i64 a0_3, .int .i64 a0_4, .string a0_5, .string a0_6, .string a0_7, .int .i64 a0_8, .int .i64 a0_9, .string a0_10, .int .i64 a0_11, .slice A0_12 l0_12.length c0_12, .slice A0_13 l0_13.length c0_13] 33 (0, 0)) (by (with_reducible repeat (first | refine blk_drewN ?_ _ | refine blk_drew ?_ | refine blk_alloc ?_ _)); exact BK199.out)) : gb200 ≠ gb199)); clear BK199; clear HB; have BK199 := n0_; have HB := n1_; have BK200 := n2_; have GW200 := n3_; have GE200 := n4_; have NB199_200 := n5_; have NB200_199 := n6_; clear n0_ n1_ n2_ n3_ n4_ n5_ n6_; clear hb hbox hg))
 (try simp only [Act.put, List.setIfInBounds_toArray, List.set_cons_zero, List.set_cons_succ])
 go_cut [99] (fun v99 wc => ∃ (kq : Nat) (x99_2 : Bool), v99 = .bool x99_2 ∧ Aside0 (supercargoref09_Same.j0 kq x99_2 a0_0 a0_1 a0_2 a0_3 a0_4 a0_5 a0_6 a0_7 a0_8 a0_9 a0_10 a0_11 l0_12 l0_13 a1_0 a1_1 a1_2 a1_3 a1_4 a1_5 a1_6 a1_7 a1_8 a1_9 a1_10 a1_11 l1_12 l1_13 = some r) ∧ Aside0 (kq ≤ k) ∧ Aside0 (wc.heap[gb199]? = some (.cells #[.string a0_0, .string a0_1, .int .i64 a0_2, .int .i64 a0_3, .int .i64 a0_4, .string a0_5, .string a0_6, .string a0_7, .int .i64 a0_8, .int .i64 a0_9, .string a0_10, .int .i64 a0_11, (.slice A0_12 l0_12.length c0_12), (.slice A0_13 l0_13.length c0_13)] 33 (0, 0))) ∧ Aside0 (wc.heap[gb200]? = some (.cells #[.string a1_0, .string a1_1, .int .i64 a1_2, .int .i64 a1_3, .int .i64 a1_4, .string a1_5, .string a1_6, .string a1_7, .int .i64 a1_8, .int .i64 a1_9, .string a1_10, .int .i64 a1_11, (.slice A1_12 l1_12.length c1_12), (.slice A1_13 l1_13.length c1_13)] 33 (0, 0))) ∧ Aside0 (Below w.heap.size w wc))
 case first =>
  have H := HC3.out
  clear HC3
  by_cases c6 : a0_0.toList = a1_0.toList
  ·
   rw [if_pos c6] at H
   have c6b0 : (a0_0.toList == a1_0.toList) = true := beq_iff_eq.mpr c6
   have c6b1 : (a0_0.toList != a1_0.toList) = false := bne_eq_false_iff_eq.mpr c6
   clear c6
   (first | rw [c6b0] | (simp only [i64_w, i32_w]; rw [c6b0]) | skip)
   by_cases c7 : a0_1.toList = a1_1.toList
   ·
    rw [if_pos c7] at H
    have c7b0 : (a0_1.toList == a1_1.toList) = true := beq_iff_eq.mpr c7
    have c7b1 : (a0_1.toList != a1_1.toList) = false := bne_eq_false_iff_eq.mpr c7
    clear c7
    by_cases c8 : a0_2 = a1_2
    ·
     rw [if_pos c8] at H
     have c8b0 : (a0_2 == a1_2) = true := beq_iff_eq.mpr c8
     have c8b1 : (a0_2 != a1_2) = false := bne_eq_false_iff_eq.mpr c8
     clear c8
     by_cases c9 : a0_3 = a1_3
     ·
      rw [if_pos c9] at H
      have c9b0 : (a0_3 == a1_3) = true := beq_iff_eq.mpr c9
      have c9b1 : (a0_3 != a1_3) = false := bne_eq_false_iff_eq.mpr c9
      clear c9
      by_cases c10 : a0_4 = a1_4
      ·
       rw [if_pos c10] at H
       have c10b0 : (a0_4 == a1_4) = true := beq_iff_eq.mpr c10
       have c10b1 : (a0_4 != a1_4) = false := bne_eq_false_iff_eq.mpr c10
       clear c10
       by_cases c11 : a0_5.toList = a1_5.toList
       ·
        rw [if_pos c11] at H
        have c11b0 : (a0_5.toList == a1_5.toList) = true := beq_iff_eq.mpr c11
        have c11b1 : (a0_5.toList != a1_5.toList) = false := bne_eq_false_iff_eq.mpr c11
        clear c11
        by_cases c12 : a0_6.toList = a1_6.toList
        ·
         rw [if_pos c12] at H
         have c12b0 : (a0_6.toList == a1_6.toList) = true := beq_iff_eq.mpr c12
         have c12b1 : (a0_6.toList != a1_6.toList) = false := bne_eq_false_iff_eq.mpr c12
         clear c12
         by_cases c13 : a0_7.toList = a1_7.toList
         ·
          rw [if_pos c13] at H
          have c13b0 : (a0_7.toList == a1_7.toList) = true := beq_iff_eq.mpr c13
          have c13b1 : (a0_7.toList != a1_7.toList) = false := bne_eq_false_iff_eq.mpr c13
          clear c13
          by_cases c14 : a0_8 = a1_8
          ·
           rw [if_pos c14] at H
           have c14b0 : (a0_8 == a1_8) = true := beq_iff_eq.mpr c14
           have c14b1 : (a0_8 != a1_8) = false := bne_eq_false_iff_eq.mpr c14
           clear c14
           by_cases c15 : a0_9 = a1_9
           ·
            rw [if_pos c15] at H
            have c15b0 : (a0_9 == a1_9) = true := beq_iff_eq.mpr c15
            have c15b1 : (a0_9 != a1_9) = false := bne_eq_false_iff_eq.mpr c15
            clear c15
            by_cases c16 : (!(a0_10.toList == a1_10.toList) || (!(a0_11 == a1_11))) = true
            ·
             rw [if_pos c16] at H
             have c16b0 : (!(a0_10.toList == a1_10.toList) || (!(a0_11 == a1_11))) = true := c16
             clear c16
             have H' := Aside0.mk H
             clear H
             have hnb17 := NB199_200.out
             have hnc17 := NB200_199.out
             have hcz18_0 : w5.cell? ⟨gb199, 0, none⟩ = some (.string a0_0) := (blk_cell BK199.out 0).trans rfl
             have hcz18_1 : w5.cell? ⟨gb199, 1, none⟩ = some (.string a0_1) := (blk_cell BK199.out 1).trans rfl
             have hcz18_2 : w5.cell? ⟨gb199, 2, none⟩ = some (.int .i64 a0_2) := (blk_cell BK199.out 2).trans rfl
             have hcz18_3 : w5.cell? ⟨gb199, 3, none⟩ = some (.int .i64 a0_3) := (blk_cell BK199.out 3).trans rfl
             have hcz18_4 : w5.cell? ⟨gb199, 4, none⟩ = some (.int .i64 a0_4) := (blk_cell BK199.out 4).trans rfl
             have hcz18_5 : w5.cell? ⟨gb199, 5, none⟩ = some (.string a0_5) := (blk_cell BK199.out 5).trans rfl
             have hcz18_6 : w5.cell? ⟨gb199, 6, none⟩ = some (.string a0_6) := (blk_cell BK199.out 6).trans rfl
             have hcz18_7 : w5.cell? ⟨gb199, 7, none⟩ = some (.string a0_7) := (blk_cell BK199.out 7).trans rfl
             have hcz18_8 : w5.cell? ⟨gb199, 8, none⟩ = some (.int .i64 a0_8) := (blk_cell BK199.out 8).trans rfl
             have hcz18_9 : w5.cell? ⟨gb199, 9, none⟩ = some (.int .i64 a0_9) := (blk_cell BK199.out 9).trans rfl
             have hcz18_10 : w5.cell? ⟨gb199, 10, none⟩ = some (.string a0_10) := (blk_cell BK199.out 10).trans rfl
             have hcz18_11 : w5.cell? ⟨gb199, 11, none⟩ = some (.int .i64 a0_11) := (blk_cell BK199.out 11).trans rfl
             have hcz18_12 : w5.cell? ⟨gb199, 12, none⟩ = some (.slice A0_12 l0_12.length c0_12) := (blk_cell BK199.out 12).trans rfl
             have hcz18_13 : w5.cell? ⟨gb199, 13, none⟩ = some (.slice A0_13 l0_13.length c0_13) := (blk_cell BK199.out 13).trans rfl
             have hfz18_0 := blk_frozen BK199.out 0
             have hfz18_1 := blk_frozen BK199.out 1
             have hfz18_2 := blk_frozen BK199.out 2
             have hfz18_3 := blk_frozen BK199.out 3
             have hfz18_4 := blk_frozen BK199.out 4
             have hfz18_5 := blk_frozen BK199.out 5
             have hfz18_6 := blk_frozen BK199.out 6
             have hfz18_7 := blk_frozen BK199.out 7
             have hfz18_8 := blk_frozen BK199.out 8
             have hfz18_9 := blk_frozen BK199.out 9
             have hfz18_10 := blk_frozen BK199.out 10
             have hfz18_11 := blk_frozen BK199.out 11
             have hfz18_12 := blk_frozen BK199.out 12
             have hfz18_13 := blk_frozen BK199.out 13
             have hcz19_0 : w5.cell? ⟨gb200, 0, none⟩ = some (.string a1_0) := (blk_cell BK200.out 0).trans rfl
             have hcz19_1 : w5.cell? ⟨gb200, 1, none⟩ = some (.string a1_1) := (blk_cell BK200.out 1).trans rfl
             have hcz19_2 : w5.cell? ⟨gb200, 2, none⟩ = some (.int .i64 a1_2) := (blk_cell BK200.out 2).trans rfl
             have hcz19_3 : w5.cell? ⟨gb200, 3, none⟩ = some (.int .i64 a1_3) := (blk_cell BK200.out 3).trans rfl
             have hcz19_4 : w5.cell? ⟨gb200, 4, none⟩ = some (.int .i64 a1_4) := (blk_cell BK200.out 4).trans rfl
             have hcz19_5 : w5.cell? ⟨gb200, 5, none⟩ = some (.string a1_5) := (blk_cell BK200.out 5).trans rfl
             have hcz19_6 : w5.cell? ⟨gb200, 6, none⟩ = some (.string a1_6) := (blk_cell BK200.out 6).trans rfl
             have hcz19_7 : w5.cell? ⟨gb200, 7, none⟩ = some (.string a1_7) := (blk_cell BK200.out 7).trans rfl
             have hcz19_8 : w5.cell? ⟨gb200, 8, none⟩ = some (.int .i64 a1_8) := (blk_cell BK200.out 8).trans rfl
             have hcz19_9 : w5.cell? ⟨gb200, 9, none⟩ = some (.int .i64 a1_9) := (blk_cell BK200.out 9).trans rfl
             have hcz19_10 : w5.cell? ⟨gb200, 10, none⟩ = some (.string a1_10) := (blk_cell BK200.out 10).trans rfl
             have hcz19_11 : w5.cell? ⟨gb200, 11, none⟩ = some (.int .i64 a1_11) := (blk_cell BK200.out 11).trans rfl
             have hcz19_12 : w5.cell? ⟨gb200, 12, none⟩ = some (.slice A1_12 l1_12.length c1_12) := (blk_cell BK200.out 12).trans rfl
             have hcz19_13 : w5.cell? ⟨gb200, 13, none⟩ = some (.slice A1_13 l1_13.length c1_13) := (blk_cell BK200.out 13).trans rfl
             have hfz19_0 := blk_frozen BK200.out 0
             have hfz19_1 := blk_frozen BK200.out 1
             have hfz19_2 := blk_frozen BK200.out 2
             have hfz19_3 := blk_frozen BK200.out 3
             have hfz19_4 := blk_frozen BK200.out 4
             have hfz19_5 := blk_frozen BK200.out 5
             have hfz19_6 := blk_frozen BK200.out 6
             have hfz19_7 := blk_frozen BK200.out 7
             have hfz19_8 := blk_frozen BK200.out 8
             have hfz19_9 := blk_frozen BK200.out 9
             have hfz19_10 := blk_frozen BK200.out 10
             have hfz19_11 := blk_frozen BK200.out 11
             have hfz19_12 := blk_frozen BK200.out 12
             have hfz19_13 := blk_frozen BK200.out 13
             go_wp2
             go_meet
             case rel => exact ⟨_, (true), (by first | rfl | (simp; done) | (simp [*]; done)), H', ⟨by first | omega | exact Nat.le_refl _⟩, ⟨by (with_reducible repeat (first | refine blk_drewN ?_ _ | refine blk_drew ?_ | refine blk_alloc ?_ _)); exact BK199.out⟩, ⟨by (with_reducible repeat (first | refine blk_drewN ?_ _ | refine blk_drew ?_ | refine blk_alloc ?_ _)); exact BK200.out⟩, ⟨by repeat (first | (with_reducible first | exact HB.out | apply below_alloc | apply pw_below_drewN | apply below_drew1 | refine below_set ?_ GE199.out | refine below_set ?_ GE200.out) | exact HB.out)⟩⟩
            ·
             rw [if_neg c16] at H
             have c16b0 : (!(a0_10.toList == a1_10.toList) || (!(a0_11 == a1_11))) = false := by simpa using c16
             clear c16
             by_cases c20 : (l0_12.length : Int) = (l1_12.length : Int)
             ·
              rw [if_pos c20] at H
              have c20b0 : ((l0_12.length : Int) == (l1_12.length : Int)) = true := beq_iff_eq.mpr c20
              have c20b1 : ((l0_12.length : Int) != (l1_12.length : Int)) = false := bne_eq_false_iff_eq.mpr c20
              have c20b2 : (l0_12.length == l1_12.length) = true := by first | simpa using c20 | (simp at c20 ⊢; omega)
              clear c20
              have H' := Aside0.mk H
              clear H
              have hnb21 := NB199_200.out
              have hnc21 := NB200_199.out
              have hcz22_0 : w5.cell? ⟨gb199, 0, none⟩ = some (.string a0_0) := (blk_cell BK199.out 0).trans rfl
              have hcz22_1 : w5.cell? ⟨gb199, 1, none⟩ = some (.string a0_1) := (blk_cell BK199.out 1).trans rfl
              have hcz22_2 : w5.cell? ⟨gb199, 2, none⟩ = some (.int .i64 a0_2) := (blk_cell BK199.out 2).trans rfl
              have hcz22_3 : w5.cell? ⟨gb199, 3, none⟩ = some (.int .i64 a0_3) := (blk_cell BK199.out 3).trans rfl
              have hcz22_4 : w5.cell? ⟨gb199, 4, none⟩ = some (.int .i64 a0_4) := (blk_cell BK199.out 4).trans rfl
              have hcz22_5 : w5.cell? ⟨gb199, 5, none⟩ = some (.string a0_5) := (blk_cell BK199.out 5).trans rfl
              have hcz22_6 : w5.cell? ⟨gb199, 6, none⟩ = some (.string a0_6) := (blk_cell BK199.out 6).trans rfl
              have hcz22_7 : w5.cell? ⟨gb199, 7, none⟩ = some (.string a0_7) := (blk_cell BK199.out 7).trans rfl
              have hcz22_8 : w5.cell? ⟨gb199, 8, none⟩ = some (.int .i64 a0_8) := (blk_cell BK199.out 8).trans rfl
              have hcz22_9 : w5.cell? ⟨gb199, 9, none⟩ = some (.int .i64 a0_9) := (blk_cell BK199.out 9).trans rfl
              have hcz22_10 : w5.cell? ⟨gb199, 10, none⟩ = some (.string a0_10) := (blk_cell BK199.out 10).trans rfl
              have hcz22_11 : w5.cell? ⟨gb199, 11, none⟩ = some (.int .i64 a0_11) := (blk_cell BK199.out 11).trans rfl
              have hcz22_12 : w5.cell? ⟨gb199, 12, none⟩ = some (.slice A0_12 l0_12.length c0_12) := (blk_cell BK199.out 12).trans rfl
              have hcz22_13 : w5.cell? ⟨gb199, 13, none⟩ = some (.slice A0_13 l0_13.length c0_13) := (blk_cell BK199.out 13).trans rfl
              have hfz22_0 := blk_frozen BK199.out 0
              have hfz22_1 := blk_frozen BK199.out 1
              have hfz22_2 := blk_frozen BK199.out 2
              have hfz22_3 := blk_frozen BK199.out 3
              have hfz22_4 := blk_frozen BK199.out 4
              have hfz22_5 := blk_frozen BK199.out 5
              have hfz22_6 := blk_frozen BK199.out 6
              have hfz22_7 := blk_frozen BK199.out 7
              have hfz22_8 := blk_frozen BK199.out 8
              have hfz22_9 := blk_frozen BK199.out 9
              have hfz22_10 := blk_frozen BK199.out 10
              have hfz22_11 := blk_frozen BK199.out 11
              have hfz22_12 := blk_frozen BK199.out 12
              have hfz22_13 := blk_frozen BK199.out 13
              have hcz23_0 : w5.cell? ⟨gb200, 0, none⟩ = some (.string a1_0) := (blk_cell BK200.out 0).trans rfl
              have hcz23_1 : w5.cell? ⟨gb200, 1, none⟩ = some (.string a1_1) := (blk_cell BK200.out 1).trans rfl
              have hcz23_2 : w5.cell? ⟨gb200, 2, none⟩ = some (.int .i64 a1_2) := (blk_cell BK200.out 2).trans rfl
              have hcz23_3 : w5.cell? ⟨gb200, 3, none⟩ = some (.int .i64 a1_3) := (blk_cell BK200.out 3).trans rfl
              have hcz23_4 : w5.cell? ⟨gb200, 4, none⟩ = some (.int .i64 a1_4) := (blk_cell BK200.out 4).trans rfl
              have hcz23_5 : w5.cell? ⟨gb200, 5, none⟩ = some (.string a1_5) := (blk_cell BK200.out 5).trans rfl
              have hcz23_6 : w5.cell? ⟨gb200, 6, none⟩ = some (.string a1_6) := (blk_cell BK200.out 6).trans rfl
              have hcz23_7 : w5.cell? ⟨gb200, 7, none⟩ = some (.string a1_7) := (blk_cell BK200.out 7).trans rfl
              have hcz23_8 : w5.cell? ⟨gb200, 8, none⟩ = some (.int .i64 a1_8) := (blk_cell BK200.out 8).trans rfl
              have hcz23_9 : w5.cell? ⟨gb200, 9, none⟩ = some (.int .i64 a1_9) := (blk_cell BK200.out 9).trans rfl
              have hcz23_10 : w5.cell? ⟨gb200, 10, none⟩ = some (.string a1_10) := (blk_cell BK200.out 10).trans rfl
              have hcz23_11 : w5.cell? ⟨gb200, 11, none⟩ = some (.int .i64 a1_11) := (blk_cell BK200.out 11).trans rfl
              have hcz23_12 : w5.cell? ⟨gb200, 12, none⟩ = some (.slice A1_12 l1_12.length c1_12) := (blk_cell BK200.out 12).trans rfl
              have hcz23_13 : w5.cell? ⟨gb200, 13, none⟩ = some (.slice A1_13 l1_13.length c1_13) := (blk_cell BK200.out 13).trans rfl
              have hfz23_0 := blk_frozen BK200.out 0
              have hfz23_1 := blk_frozen BK200.out 1
              have hfz23_2 := blk_frozen BK200.out 2
              have hfz23_3 := blk_frozen BK200.out 3
              have hfz23_4 := blk_frozen BK200.out 4
              have hfz23_5 := blk_frozen BK200.out 5
              have hfz23_6 := blk_frozen BK200.out 6
              have hfz23_7 := blk_frozen BK200.out 7
              have hfz23_8 := blk_frozen BK200.out 8
              have hfz23_9 := blk_frozen BK200.out 9
              have hfz23_10 := blk_frozen BK200.out 10
              have hfz23_11 := blk_frozen BK200.out 11
              have hfz23_12 := blk_frozen BK200.out 12
              have hfz23_13 := blk_frozen BK200.out 13
              go_wp2
              go_meet
              case rel => exact ⟨_, (((l0_13.length : Int) != (l1_13.length : Int))), (by first | rfl | (simp; done) | (simp [*]; done)), H', ⟨by first | omega | exact Nat.le_refl _⟩, ⟨by (with_reducible repeat (first | refine blk_drewN ?_ _ | refine blk_drew ?_ | refine blk_alloc ?_ _)); exact BK199.out⟩, ⟨by (with_reducible repeat (first | refine blk_drewN ?_ _ | refine blk_drew ?_ | refine blk_alloc ?_ _)); exact BK200.out⟩, ⟨by repeat (first | (with_reducible first | exact HB.out | apply below_alloc | apply pw_below_drewN | apply below_drew1 | refine below_set ?_ GE199.out | refine below_set ?_ GE200.out) | exact HB.out)⟩⟩
             ·
              rw [if_neg c20] at H
              have c20b0 : ((l0_12.length : Int) == (l1_12.length : Int)) = false := beq_eq_false_iff_ne.mpr c20
              have c20b1 : ((l0_12.length : Int) != (l1_12.length : Int)) = true := bne_iff_ne.mpr c20
              have c20b2 : (l0_12.length == l1_12.length) = false := by first | simpa using c20 | (simp at c20 ⊢; omega)
              have H' := Aside0.mk H
              clear H
              have hnb24 := NB199_200.out
              have hnc24 := NB200_199.out
              have hcz25_0 : w5.cell? ⟨gb199, 0, none⟩ = some (.string a0_0) := (blk_cell BK199.out 0).trans rfl
              have hcz25_1 : w5.cell? ⟨gb199, 1, none⟩ = some (.string a0_1) := (blk_cell BK199.out 1).trans rfl
              have hcz25_2 : w5.cell? ⟨gb199, 2, none⟩ = some (.int .i64 a0_2) := (blk_cell BK199.out 2).trans rfl
              have hcz25_3 : w5.cell? ⟨gb199, 3, none⟩ = some (.int .i64 a0_3) := (blk_cell BK199.out 3).trans rfl
              have hcz25_4 : w5.cell? ⟨gb199, 4, none⟩ = some (.int .i64 a0_4) := (blk_cell BK199.out 4).trans rfl
              have hcz25_5 : w5.cell? ⟨gb199, 5, none⟩ = some (.string a0_5) := (blk_cell BK199.out 5).trans rfl
              have hcz25_6 : w5.cell? ⟨gb199, 6, none⟩ = some (.string a0_6) := (blk_cell BK199.out 6).trans rfl
              have hcz25_7 : w5.cell? ⟨gb199, 7, none⟩ = some (.string a0_7) := (blk_cell BK199.out 7).trans rfl
              have hcz25_8 : w5.cell? ⟨gb199, 8, none⟩ = some (.int .i64 a0_8) := (blk_cell BK199.out 8).trans rfl
              have hcz25_9 : w5.cell? ⟨gb199, 9, none⟩ = some (.int .i64 a0_9) := (blk_cell BK199.out 9).trans rfl
              have hcz25_10 : w5.cell? ⟨gb199, 10, none⟩ = some (.string a0_10) := (blk_cell BK199.out 10).trans rfl
              have hcz25_11 : w5.cell? ⟨gb199, 11, none⟩ = some (.int .i64 a0_11) := (blk_cell BK199.out 11).trans rfl
              have hcz25_12 : w5.cell? ⟨gb199, 12, none⟩ = some (.slice A0_12 l0_12.length c0_12) := (blk_cell BK199.out 12).trans rfl
              have hcz25_13 : w5.cell? ⟨gb199, 13, none⟩ = some (.slice A0_13 l0_13.length c0_13) := (blk_cell BK199.out 13).trans rfl
              have hfz25_0 := blk_frozen BK199.out 0
              have hfz25_1 := blk_frozen BK199.out 1
              have hfz25_2 := blk_frozen BK199.out 2
              have hfz25_3 := blk_frozen BK199.out 3
              have hfz25_4 := blk_frozen BK199.out 4
              have hfz25_5 := blk_frozen BK199.out 5
              have hfz25_6 := blk_frozen BK199.out 6
              have hfz25_7 := blk_frozen BK199.out 7
              have hfz25_8 := blk_frozen BK199.out 8
              have hfz25_9 := blk_frozen BK199.out 9
              have hfz25_10 := blk_frozen BK199.out 10
              have hfz25_11 := blk_frozen BK199.out 11
              have hfz25_12 := blk_frozen BK199.out 12
              have hfz25_13 := blk_frozen BK199.out 13
              have hcz26_0 : w5.cell? ⟨gb200, 0, none⟩ = some (.string a1_0) := (blk_cell BK200.out 0).trans rfl
              have hcz26_1 : w5.cell? ⟨gb200, 1, none⟩ = some (.string a1_1) := (blk_cell BK200.out 1).trans rfl
              have hcz26_2 : w5.cell? ⟨gb200, 2, none⟩ = some (.int .i64 a1_2) := (blk_cell BK200.out 2).trans rfl
              have hcz26_3 : w5.cell? ⟨gb200, 3, none⟩ = some (.int .i64 a1_3) := (blk_cell BK200.out 3).trans rfl
              have hcz26_4 : w5.cell? ⟨gb200, 4, none⟩ = some (.int .i64 a1_4) := (blk_cell BK200.out 4).trans rfl
              have hcz26_5 : w5.cell? ⟨gb200, 5, none⟩ = some (.string a1_5) := (blk_cell BK200.out 5).trans rfl
              have hcz26_6 : w5.cell? ⟨gb200, 6, none⟩ = some (.string a1_6) := (blk_cell BK200.out 6).trans rfl
              have hcz26_7 : w5.cell? ⟨gb200, 7, none⟩ = some (.string a1_7) := (blk_cell BK200.out 7).trans rfl
              have hcz26_8 : w5.cell? ⟨gb200, 8, none⟩ = some (.int .i64 a1_8) := (blk_cell BK200.out 8).trans rfl
              have hcz26_9 : w5.cell? ⟨gb200, 9, none⟩ = some (.int .i64 a1_9) := (blk_cell BK200.out 9).trans rfl
              have hcz26_10 : w5.cell? ⟨gb200, 10, none⟩ = some (.string a1_10) := (blk_cell BK200.out 10).trans rfl
              have hcz26_11 : w5.cell? ⟨gb200, 11, none⟩ = some (.int .i64 a1_11) := (blk_cell BK200.out 11).trans rfl
              have hcz26_12 : w5.cell? ⟨gb200, 12, none⟩ = some (.slice A1_12 l1_12.length c1_12) := (blk_cell BK200.out 12).trans rfl
              have hcz26_13 : w5.cell? ⟨gb200, 13, none⟩ = some (.slice A1_13 l1_13.length c1_13) := (blk_cell BK200.out 13).trans rfl
              have hfz26_0 := blk_frozen BK200.out 0
              have hfz26_1 := blk_frozen BK200.out 1
              have hfz26_2 := blk_frozen BK200.out 2
              have hfz26_3 := blk_frozen BK200.out 3
              have hfz26_4 := blk_frozen BK200.out 4
              have hfz26_5 := blk_frozen BK200.out 5
              have hfz26_6 := blk_frozen BK200.out 6
              have hfz26_7 := blk_frozen BK200.out 7
              have hfz26_8 := blk_frozen BK200.out 8
              have hfz26_9 := blk_frozen BK200.out 9
              have hfz26_10 := blk_frozen BK200.out 10
              have hfz26_11 := blk_frozen BK200.out 11
              have hfz26_12 := blk_frozen BK200.out 12
              have hfz26_13 := blk_frozen BK200.out 13
              go_wp2
              go_meet
              case rel => exact ⟨_, (true), (by first | rfl | (simp; done) | (simp [*]; done)), H', ⟨by first | omega | exact Nat.le_refl _⟩, ⟨by (with_reducible repeat (first | refine blk_drewN ?_ _ | refine blk_drew ?_ | refine blk_alloc ?_ _)); exact BK199.out⟩, ⟨by (with_reducible repeat (first | refine blk_drewN ?_ _ | refine blk_drew ?_ | refine blk_alloc ?_ _)); exact BK200.out⟩, ⟨by repeat (first | (with_reducible first | exact HB.out | apply below_alloc | apply pw_below_drewN | apply below_drew1 | refine below_set ?_ GE199.out | refine below_set ?_ GE200.out) | exact HB.out)⟩⟩
           ·
            rw [if_neg c15] at H
            have c15b0 : (a0_9 == a1_9) = false := beq_eq_false_iff_ne.mpr c15
            have c15b1 : (a0_9 != a1_9) = true := bne_iff_ne.mpr c15
            have H' := Aside0.mk H
            clear H
            have hnb27 := NB199_200.out
            have hnc27 := NB200_199.out
            have hcz28_0 : w5.cell? ⟨gb199, 0, none⟩ = some (.string a0_0) := (blk_cell BK199.out 0).trans rfl
            have hcz28_1 : w5.cell? ⟨gb199, 1, none⟩ = some (.string a0_1) := (blk_cell BK199.out 1).trans rfl
            have hcz28_2 : w5.cell? ⟨gb199, 2, none⟩ = some (.int .i64 a0_2) := (blk_cell BK199.out 2).trans rfl
            have hcz28_3 : w5.cell? ⟨gb199, 3, none⟩ = some (.int .i64 a0_3) := (blk_cell BK199.out 3).trans rfl
            have hcz28_4 : w5.cell? ⟨gb199, 4, none⟩ = some (.int .i64 a0_4) := (blk_cell BK199.out 4).trans rfl
            have hcz28_5 : w5.cell? ⟨gb199, 5, none⟩ = some (.string a0_5) := (blk_cell BK199.out 5).trans rfl
            have hcz28_6 : w5.cell? ⟨gb199, 6, none⟩ = some (.string a0_6) := (blk_cell BK199.out 6).trans rfl
            have hcz28_7 : w5.cell? ⟨gb199, 7, none⟩ = some (.string a0_7) := (blk_cell BK199.out 7).trans rfl
            have hcz28_8 : w5.cell? ⟨gb199, 8, none⟩ = some (.int .i64 a0_8) := (blk_cell BK199.out 8).trans rfl
            have hcz28_9 : w5.cell? ⟨gb199, 9, none⟩ = some (.int .i64 a0_9) := (blk_cell BK199.out 9).trans rfl
            have hcz28_10 : w5.cell? ⟨gb199, 10, none⟩ = some (.string a0_10) := (blk_cell BK199.out 10).trans rfl
            have hcz28_11 : w5.cell? ⟨gb199, 11, none⟩ = some (.int .i64 a0_11) := (blk_cell BK199.out 11).trans rfl
            have hcz28_12 : w5.cell? ⟨gb199, 12, none⟩ = some (.slice A0_12 l0_12.length c0_12) := (blk_cell BK199.out 12).trans rfl
            have hcz28_13 : w5.cell? ⟨gb199, 13, none⟩ = some (.slice A0_13 l0_13.length c0_13) := (blk_cell BK199.out 13).trans rfl
            have hfz28_0 := blk_frozen BK199.out 0
            have hfz28_1 := blk_frozen BK199.out 1
            have hfz28_2 := blk_frozen BK199.out 2
            have hfz28_3 := blk_frozen BK199.out 3
            have hfz28_4 := blk_frozen BK199.out 4
            have hfz28_5 := blk_frozen BK199.out 5
            have hfz28_6 := blk_frozen BK199.out 6
            have hfz28_7 := blk_frozen BK199.out 7
            have hfz28_8 := blk_frozen BK199.out 8
            have hfz28_9 := blk_frozen BK199.out 9
            have hfz28_10 := blk_frozen BK199.out 10
            have hfz28_11 := blk_frozen BK199.out 11
            have hfz28_12 := blk_frozen BK199.out 12
            have hfz28_13 := blk_frozen BK199.out 13
            have hcz29_0 : w5.cell? ⟨gb200, 0, none⟩ = some (.string a1_0) := (blk_cell BK200.out 0).trans rfl
            have hcz29_1 : w5.cell? ⟨gb200, 1, none⟩ = some (.string a1_1) := (blk_cell BK200.out 1).trans rfl
            have hcz29_2 : w5.cell? ⟨gb200, 2, none⟩ = some (.int .i64 a1_2) := (blk_cell BK200.out 2).trans rfl
            have hcz29_3 : w5.cell? ⟨gb200, 3, none⟩ = some (.int .i64 a1_3) := (blk_cell BK200.out 3).trans rfl
            have hcz29_4 : w5.cell? ⟨gb200, 4, none⟩ = some (.int .i64 a1_4) := (blk_cell BK200.out 4).trans rfl
            have hcz29_5 : w5.cell? ⟨gb200, 5, none⟩ = some (.string a1_5) := (blk_cell BK200.out 5).trans rfl
            have hcz29_6 : w5.cell? ⟨gb200, 6, none⟩ = some (.string a1_6) := (blk_cell BK200.out 6).trans rfl
            have hcz29_7 : w5.cell? ⟨gb200, 7, none⟩ = some (.string a1_7) := (blk_cell BK200.out 7).trans rfl
            have hcz29_8 : w5.cell? ⟨gb200, 8, none⟩ = some (.int .i64 a1_8) := (blk_cell BK200.out 8).trans rfl
            have hcz29_9 : w5.cell? ⟨gb200, 9, none⟩ = some (.int .i64 a1_9) := (blk_cell BK200.out 9).trans rfl
            have hcz29_10 : w5.cell? ⟨gb200, 10, none⟩ = some (.string a1_10) := (blk_cell BK200.out 10).trans rfl
            have hcz29_11 : w5.cell? ⟨gb200, 11, none⟩ = some (.int .i64 a1_11) := (blk_cell BK200.out 11).trans rfl
            have hcz29_12 : w5.cell? ⟨gb200, 12, none⟩ = some (.slice A1_12 l1_12.length c1_12) := (blk_cell BK200.out 12).trans rfl
            have hcz29_13 : w5.cell? ⟨gb200, 13, none⟩ = some (.slice A1_13 l1_13.length c1_13) := (blk_cell BK200.out 13).trans rfl
            have hfz29_0 := blk_frozen BK200.out 0
            have hfz29_1 := blk_frozen BK200.out 1
            have hfz29_2 := blk_frozen BK200.out 2
            have hfz29_3 := blk_frozen BK200.out 3
            have hfz29_4 := blk_frozen BK200.out 4
            have hfz29_5 := blk_frozen BK200.out 5
            have hfz29_6 := blk_frozen BK200.out 6
            have hfz29_7 := blk_frozen BK200.out 7
            have hfz29_8 := blk_frozen BK200.out 8
            have hfz29_9 := blk_frozen BK200.out 9
            have hfz29_10 := blk_frozen BK200.out 10
            have hfz29_11 := blk_frozen BK200.out 11
            have hfz29_12 := blk_frozen BK200.out 12
            have hfz29_13 := blk_frozen BK200.out 13
            go_wp2
            go_meet
            case rel => exact ⟨_, (true), (by first | rfl | (simp; done) | (simp [*]; done)), H', ⟨by first | omega | exact Nat.le_refl _⟩, ⟨by (with_reducible repeat (first | refine blk_drewN ?_ _ | refine blk_drew ?_ | refine blk_alloc ?_ _)); exact BK199.out⟩, ⟨by (with_reducible repeat (first | refine blk_drewN ?_ _ | refine blk_drew ?_ | refine blk_alloc ?_ _)); exact BK200.out⟩, ⟨by repeat (first | (with_reducible first | exact HB.out | apply below_alloc | apply pw_below_drewN | apply below_drew1 | refine below_set ?_ GE199.out | refine below_set ?_ GE200.out) | exact HB.out)⟩⟩
          ·
           rw [if_neg c14] at H
           have c14b0 : (a0_8 == a1_8) = false := beq_eq_false_iff_ne.mpr c14
           have c14b1 : (a0_8 != a1_8) = true := bne_iff_ne.mpr c14
           have H' := Aside0.mk H
           clear H
           have hnb30 := NB199_200.out
           have hnc30 := NB200_199.out
           have hcz31_0 : w5.cell? ⟨gb199, 0, none⟩ = some (.string a0_0) := (blk_cell BK199.out 0).trans rfl
           have hcz31_1 : w5.cell? ⟨gb199, 1, none⟩ = some (.string a0_1) := (blk_cell BK199.out 1).trans rfl
           have hcz31_2 : w5.cell? ⟨gb199, 2, none⟩ = some (.int .i64 a0_2) := (blk_cell BK199.out 2).trans rfl
           have hcz31_3 : w5.cell? ⟨gb199, 3, none⟩ = some (.int .i64 a0_3) := (blk_cell BK199.out 3).trans rfl
           have hcz31_4 : w5.cell? ⟨gb199, 4, none⟩ = some (.int .i64 a0_4) := (blk_cell BK199.out 4).trans rfl
           have hcz31_5 : w5.cell? ⟨gb199, 5, none⟩ = some (.string a0_5) := (blk_cell BK199.out 5).trans rfl
           have hcz31_6 : w5.cell? ⟨gb199, 6, none⟩ = some (.string a0_6) := (blk_cell BK199.out 6).trans rfl
           have hcz31_7 : w5.cell? ⟨gb199, 7, none⟩ = some (.string a0_7) := (blk_cell BK199.out 7).trans rfl
           have hcz31_8 : w5.cell? ⟨gb199, 8, none⟩ = some (.int .i64 a0_8) := (blk_cell BK199.out 8).trans rfl
           have hcz31_9 : w5.cell? ⟨gb199, 9, none⟩ = some (.int .i64 a0_9) := (blk_cell BK199.out 9).trans rfl
           have hcz31_10 : w5.cell? ⟨gb199, 10, none⟩ = some (.string a0_10) := (blk_cell BK199.out 10).trans rfl
           have hcz31_11 : w5.cell? ⟨gb199, 11, none⟩ = some (.int .i64 a0_11) := (blk_cell BK199.out 11).trans rfl
           have hcz31_12 : w5.cell? ⟨gb199, 12, none⟩ = some (.slice A0_12 l0_12.length c0_12) := (blk_cell BK199.out 12).trans rfl
           have hcz31_13 : w5.cell? ⟨gb199, 13, none⟩ = some (.slice A0_13 l0_13.length c0_13) := (blk_cell BK199.out 13).trans rfl
           have hfz31_0 := blk_frozen BK199.out 0
           have hfz31_1 := blk_frozen BK199.out 1
           have hfz31_2 := blk_frozen BK199.out 2
           have hfz31_3 := blk_frozen BK199.out 3
           have hfz31_4 := blk_frozen BK199.out 4
           have hfz31_5 := blk_frozen BK199.out 5
           have hfz31_6 := blk_frozen BK199.out 6
           have hfz31_7 := blk_frozen BK199.out 7
           have hfz31_8 := blk_frozen BK199.out 8
           have hfz31_9 := blk_frozen BK199.out 9
           have hfz31_10 := blk_frozen BK199.out 10
           have hfz31_11 := blk_frozen BK199.out 11
           have hfz31_12 := blk_frozen BK199.out 12
           have hfz31_13 := blk_frozen BK199.out 13
           have hcz32_0 : w5.cell? ⟨gb200, 0, none⟩ = some (.string a1_0) := (blk_cell BK200.out 0).trans rfl
           have hcz32_1 : w5.cell? ⟨gb200, 1, none⟩ = some (.string a1_1) := (blk_cell BK200.out 1).trans rfl
           have hcz32_2 : w5.cell? ⟨gb200, 2, none⟩ = some (.int .i64 a1_2) := (blk_cell BK200.out 2).trans rfl
           have hcz32_3 : w5.cell? ⟨gb200, 3, none⟩ = some (.int .i64 a1_3) := (blk_cell BK200.out 3).trans rfl
           have hcz32_4 : w5.cell? ⟨gb200, 4, none⟩ = some (.int .i64 a1_4) := (blk_cell BK200.out 4).trans rfl
           have hcz32_5 : w5.cell? ⟨gb200, 5, none⟩ = some (.string a1_5) := (blk_cell BK200.out 5).trans rfl
           have hcz32_6 : w5.cell? ⟨gb200, 6, none⟩ = some (.string a1_6) := (blk_cell BK200.out 6).trans rfl
           have hcz32_7 : w5.cell? ⟨gb200, 7, none⟩ = some (.string a1_7) := (blk_cell BK200.out 7).trans rfl
           have hcz32_8 : w5.cell? ⟨gb200, 8, none⟩ = some (.int .i64 a1_8) := (blk_cell BK200.out 8).trans rfl
           have hcz32_9 : w5.cell? ⟨gb200, 9, none⟩ = some (.int .i64 a1_9) := (blk_cell BK200.out 9).trans rfl
           have hcz32_10 : w5.cell? ⟨gb200, 10, none⟩ = some (.string a1_10) := (blk_cell BK200.out 10).trans rfl
           have hcz32_11 : w5.cell? ⟨gb200, 11, none⟩ = some (.int .i64 a1_11) := (blk_cell BK200.out 11).trans rfl
           have hcz32_12 : w5.cell? ⟨gb200, 12, none⟩ = some (.slice A1_12 l1_12.length c1_12) := (blk_cell BK200.out 12).trans rfl
           have hcz32_13 : w5.cell? ⟨gb200, 13, none⟩ = some (.slice A1_13 l1_13.length c1_13) := (blk_cell BK200.out 13).trans rfl
           have hfz32_0 := blk_frozen BK200.out 0
           have hfz32_1 := blk_frozen BK200.out 1
           have hfz32_2 := blk_frozen BK200.out 2
           have hfz32_3 := blk_frozen BK200.out 3
           have hfz32_4 := blk_frozen BK200.out 4
           have hfz32_5 := blk_frozen BK200.out 5
           have hfz32_6 := blk_frozen BK200.out 6
           have hfz32_7 := blk_frozen BK200.out 7
           have hfz32_8 := blk_frozen BK200.out 8
           have hfz32_9 := blk_frozen BK200.out 9
           have hfz32_10 := blk_frozen BK200.out 10
           have hfz32_11 := blk_frozen BK200.out 11
           have hfz32_12 := blk_frozen BK200.out 12
           have hfz32_13 := blk_frozen BK200.out 13
           go_wp2
           go_meet
           case rel => exact ⟨_, (true), (by first | rfl | (simp; done) | (simp [*]; done)), H', ⟨by first | omega | exact Nat.le_refl _⟩, ⟨by (with_reducible repeat (first | refine blk_drewN ?_ _ | refine blk_drew ?_ | refine blk_alloc ?_ _)); exact BK199.out⟩, ⟨by (with_reducible repeat (first | refine blk_drewN ?_ _ | refine blk_drew ?_ | refine blk_alloc ?_ _)); exact BK200.out⟩, ⟨by repeat (first | (with_reducible first | exact HB.out | apply below_alloc | apply pw_below_drewN | apply below_drew1 | refine below_set ?_ GE199.out | refine below_set ?_ GE200.out) | exact HB.out)⟩⟩
         ·
          rw [if_neg c13] at H
          have c13b0 : (a0_7.toList == a1_7.toList) = false := beq_eq_false_iff_ne.mpr c13
          have c13b1 : (a0_7.toList != a1_7.toList) = true := bne_iff_ne.mpr c13
          have H' := Aside0.mk H
          clear H
          have hnb33 := NB199_200.out
          have hnc33 := NB200_199.out
          have hcz34_0 : w5.cell? ⟨gb199, 0, none⟩ = some (.string a0_0) := (blk_cell BK199.out 0).trans rfl
          have hcz34_1 : w5.cell? ⟨gb199, 1, none⟩ = some (.string a0_1) := (blk_cell BK199.out 1).trans rfl
          have hcz34_2 : w5.cell? ⟨gb199, 2, none⟩ = some (.int .i64 a0_2) := (blk_cell BK199.out 2).trans rfl
          have hcz34_3 : w5.cell? ⟨gb199, 3, none⟩ = some (.int .i64 a0_3) := (blk_cell BK199.out 3).trans rfl
          have hcz34_4 : w5.cell? ⟨gb199, 4, none⟩ = some (.int .i64 a0_4) := (blk_cell BK199.out 4).trans rfl
          have hcz34_5 : w5.cell? ⟨gb199, 5, none⟩ = some (.string a0_5) := (blk_cell BK199.out 5).trans rfl
          have hcz34_6 : w5.cell? ⟨gb199, 6, none⟩ = some (.string a0_6) := (blk_cell BK199.out 6).trans rfl
          have hcz34_7 : w5.cell? ⟨gb199, 7, none⟩ = some (.string a0_7) := (blk_cell BK199.out 7).trans rfl
          have hcz34_8 : w5.cell? ⟨gb199, 8, none⟩ = some (.int .i64 a0_8) := (blk_cell BK199.out 8).trans rfl
          have hcz34_9 : w5.cell? ⟨gb199, 9, none⟩ = some (.int .i64 a0_9) := (blk_cell BK199.out 9).trans rfl
          have hcz34_10 : w5.cell? ⟨gb199, 10, none⟩ = some (.string a0_10) := (blk_cell BK199.out 10).trans rfl
          have hcz34_11 : w5.cell? ⟨gb199, 11, none⟩ = some (.int .i64 a0_11) := (blk_cell BK199.out 11).trans rfl
          have hcz34_12 : w5.cell? ⟨gb199, 12, none⟩ = some (.slice A0_12 l0_12.length c0_12) := (blk_cell BK199.out 12).trans rfl
          have hcz34_13 : w5.cell? ⟨gb199, 13, none⟩ = some (.slice A0_13 l0_13.length c0_13) := (blk_cell BK199.out 13).trans rfl
          have hfz34_0 := blk_frozen BK199.out 0
          have hfz34_1 := blk_frozen BK199.out 1
          have hfz34_2 := blk_frozen BK199.out 2
          have hfz34_3 := blk_frozen BK199.out 3
          have hfz34_4 := blk_frozen BK199.out 4
          have hfz34_5 := blk_frozen BK199.out 5
          have hfz34_6 := blk_frozen BK199.out 6
          have hfz34_7 := blk_frozen BK199.out 7
          have hfz34_8 := blk_frozen BK199.out 8
          have hfz34_9 := blk_frozen BK199.out 9
          have hfz34_10 := blk_frozen BK199.out 10
          have hfz34_11 := blk_frozen BK199.out 11
          have hfz34_12 := blk_frozen BK199.out 12
          have hfz34_13 := blk_frozen BK199.out 13
          have hcz35_0 : w5.cell? ⟨gb200, 0, none⟩ = some (.string a1_0) := (blk_cell BK200.out 0).trans rfl
          have hcz35_1 : w5.cell? ⟨gb200, 1, none⟩ = some (.string a1_1) := (blk_cell BK200.out 1).trans rfl
          have hcz35_2 : w5.cell? ⟨gb200, 2, none⟩ = some (.int .i64 a1_2) := (blk_cell BK200.out 2).trans rfl
          have hcz35_3 : w5.cell? ⟨gb200, 3, none⟩ = some (.int .i64 a1_3) := (blk_cell BK200.out 3).trans rfl
          have hcz35_4 : w5.cell? ⟨gb200, 4, none⟩ = some (.int .i64 a1_4) := (blk_cell BK200.out 4).trans rfl
          have hcz35_5 : w5.cell? ⟨gb200, 5, none⟩ = some (.string a1_5) := (blk_cell BK200.out 5).trans rfl
          have hcz35_6 : w5.cell? ⟨gb200, 6, none⟩ = some (.string a1_6) := (blk_cell BK200.out 6).trans rfl
          have hcz35_7 : w5.cell? ⟨gb200, 7, none⟩ = some (.string a1_7) := (blk_cell BK200.out 7).trans rfl
          have hcz35_8 : w5.cell? ⟨gb200, 8, none⟩ = some (.int .i64 a1_8) := (blk_cell BK200.out 8).trans rfl
          have hcz35_9 : w5.cell? ⟨gb200, 9, none⟩ = some (.int .i64 a1_9) := (blk_cell BK200.out 9).trans rfl
          have hcz35_10 : w5.cell? ⟨gb200, 10, none⟩ = some (.string a1_10) := (blk_cell BK200.out 10).trans rfl
          have hcz35_11 : w5.cell? ⟨gb200, 11, none⟩ = some (.int .i64 a1_11) := (blk_cell BK200.out 11).trans rfl
          have hcz35_12 : w5.cell? ⟨gb200, 12, none⟩ = some (.slice A1_12 l1_12.length c1_12) := (blk_cell BK200.out 12).trans rfl
          have hcz35_13 : w5.cell? ⟨gb200, 13, none⟩ = some (.slice A1_13 l1_13.length c1_13) := (blk_cell BK200.out 13).trans rfl
          have hfz35_0 := blk_frozen BK200.out 0
          have hfz35_1 := blk_frozen BK200.out 1
          have hfz35_2 := blk_frozen BK200.out 2
          have hfz35_3 := blk_frozen BK200.out 3
          have hfz35_4 := blk_frozen BK200.out 4
          have hfz35_5 := blk_frozen BK200.out 5
          have hfz35_6 := blk_frozen BK200.out 6
          have hfz35_7 := blk_frozen BK200.out 7
          have hfz35_8 := blk_frozen BK200.out 8
          have hfz35_9 := blk_frozen BK200.out 9
          have hfz35_10 := blk_frozen BK200.out 10
          have hfz35_11 := blk_frozen BK200.out 11
          have hfz35_12 := blk_frozen BK200.out 12
          have hfz35_13 := blk_frozen BK200.out 13
          go_wp2
          go_meet
          case rel => exact ⟨_, (true), (by first | rfl | (simp; done) | (simp [*]; done)), H', ⟨by first | omega | exact Nat.le_refl _⟩, ⟨by (with_reducible repeat (first | refine blk_drewN ?_ _ | refine blk_drew ?_ | refine blk_alloc ?_ _)); exact BK199.out⟩, ⟨by (with_reducible repeat (first | refine blk_drewN ?_ _ | refine blk_drew ?_ | refine blk_alloc ?_ _)); exact BK200.out⟩, ⟨by repeat (first | (with_reducible first | exact HB.out | apply below_alloc | apply pw_below_drewN | apply below_drew1 | refine below_set ?_ GE199.out | refine below_set ?_ GE200.out) | exact HB.out)⟩⟩
        ·
         rw [if_neg c12] at H
         have c12b0 : (a0_6.toList == a1_6.toList) = false := beq_eq_false_iff_ne.mpr c12
         have c12b1 : (a0_6.toList != a1_6.toList) = true := bne_iff_ne.mpr c12
         have H' := Aside0.mk H
         clear H
         have hnb36 := NB199_200.out
         have hnc36 := NB200_199.out
         have hcz37_0 : w5.cell? ⟨gb199, 0, none⟩ = some (.string a0_0) := (blk_cell BK199.out 0).trans rfl
         have hcz37_1 : w5.cell? ⟨gb199, 1, none⟩ = some (.string a0_1) := (blk_cell BK199.out 1).trans rfl
         have hcz37_2 : w5.cell? ⟨gb199, 2, none⟩ = some (.int .i64 a0_2) := (blk_cell BK199.out 2).trans rfl
         have hcz37_3 : w5.cell? ⟨gb199, 3, none⟩ = some (.int .i64 a0_3) := (blk_cell BK199.out 3).trans rfl
         have hcz37_4 : w5.cell? ⟨gb199, 4, none⟩ = some (.int .i64 a0_4) := (blk_cell BK199.out 4).trans rfl
         have hcz37_5 : w5.cell? ⟨gb199, 5, none⟩ = some (.string a0_5) := (blk_cell BK199.out 5).trans rfl
         have hcz37_6 : w5.cell? ⟨gb199, 6, none⟩ = some (.string a0_6) := (blk_cell BK199.out 6).trans rfl
         have hcz37_7 : w5.cell? ⟨gb199, 7, none⟩ = some (.string a0_7) := (blk_cell BK199.out 7).trans rfl
         have hcz37_8 : w5.cell? ⟨gb199, 8, none⟩ = some (.int .i64 a0_8) := (blk_cell BK199.out 8).trans rfl
         have hcz37_9 : w5.cell? ⟨gb199, 9, none⟩ = some (.int .i64 a0_9) := (blk_cell BK199.out 9).trans rfl
         have hcz37_10 : w5.cell? ⟨gb199, 10, none⟩ = some (.string a0_10) := (blk_cell BK199.out 10).trans rfl
         have hcz37_11 : w5.cell? ⟨gb199, 11, none⟩ = some (.int .i64 a0_11) := (blk_cell BK199.out 11).trans rfl
         have hcz37_12 : w5.cell? ⟨gb199, 12, none⟩ = some (.slice A0_12 l0_12.length c0_12) := (blk_cell BK199.out 12).trans rfl
         have hcz37_13 : w5.cell? ⟨gb199, 13, none⟩ = some (.slice A0_13 l0_13.length c0_13) := (blk_cell BK199.out 13).trans rfl
         have hfz37_0 := blk_frozen BK199.out 0
         have hfz37_1 := blk_frozen BK199.out 1
         have hfz37_2 := blk_frozen BK199.out 2
         have hfz37_3 := blk_frozen BK199.out 3
         have hfz37_4 := blk_frozen BK199.out 4
         have hfz37_5 := blk_frozen BK199.out 5
         have hfz37_6 := blk_frozen BK199.out 6
         have hfz37_7 := blk_frozen BK199.out 7
         have hfz37_8 := blk_frozen BK199.out 8
         have hfz37_9 := blk_frozen BK199.out 9
         have hfz37_10 := blk_frozen BK199.out 10
         have hfz37_11 := blk_frozen BK199.out 11
         have hfz37_12 := blk_frozen BK199.out 12
         have hfz37_13 := blk_frozen BK199.out 13
         have hcz38_0 : w5.cell? ⟨gb200, 0, none⟩ = some (.string a1_0) := (blk_cell BK200.out 0).trans rfl
         have hcz38_1 : w5.cell? ⟨gb200, 1, none⟩ = some (.string a1_1) := (blk_cell BK200.out 1).trans rfl
         have hcz38_2 : w5.cell? ⟨gb200, 2, none⟩ = some (.int .i64 a1_2) := (blk_cell BK200.out 2).trans rfl
         have hcz38_3 : w5.cell? ⟨gb200, 3, none⟩ = some (.int .i64 a1_3) := (blk_cell BK200.out 3).trans rfl
         have hcz38_4 : w5.cell? ⟨gb200, 4, none⟩ = some (.int .i64 a1_4) := (blk_cell BK200.out 4).trans rfl
         have hcz38_5 : w5.cell? ⟨gb200, 5, none⟩ = some (.string a1_5) := (blk_cell BK200.out 5).trans rfl
         have hcz38_6 : w5.cell? ⟨gb200, 6, none⟩ = some (.string a1_6) := (blk_cell BK200.out 6).trans rfl
         have hcz38_7 : w5.cell? ⟨gb200, 7, none⟩ = some (.string a1_7) := (blk_cell BK200.out 7).trans rfl
         have hcz38_8 : w5.cell? ⟨gb200, 8, none⟩ = some (.int .i64 a1_8) := (blk_cell BK200.out 8).trans rfl
         have hcz38_9 : w5.cell? ⟨gb200, 9, none⟩ = some (.int .i64 a1_9) := (blk_cell BK200.out 9).trans rfl
         have hcz38_10 : w5.cell? ⟨gb200, 10, none⟩ = some (.string a1_10) := (blk_cell BK200.out 10).trans rfl
         have hcz38_11 : w5.cell? ⟨gb200, 11, none⟩ = some (.int .i64 a1_11) := (blk_cell BK200.out 11).trans rfl
         have hcz38_12 : w5.cell? ⟨gb200, 12, none⟩ = some (.slice A1_12 l1_12.length c1_12) := (blk_cell BK200.out 12).trans rfl
         have hcz38_13 : w5.cell? ⟨gb200, 13, none⟩ = some (.slice A1_13 l1_13.length c1_13) := (blk_cell BK200.out 13).trans rfl
         have hfz38_0 := blk_frozen BK200.out 0
         have hfz38_1 := blk_frozen BK200.out 1
         have hfz38_2 := blk_frozen BK200.out 2
         have hfz38_3 := blk_frozen BK200.out 3
         have hfz38_4 := blk_frozen BK200.out 4
         have hfz38_5 := blk_frozen BK200.out 5
         have hfz38_6 := blk_frozen BK200.out 6
         have hfz38_7 := blk_frozen BK200.out 7
         have hfz38_8 := blk_frozen BK200.out 8
         have hfz38_9 := blk_frozen BK200.out 9
         have hfz38_10 := blk_frozen BK200.out 10
         have hfz38_11 := blk_frozen BK200.out 11
         have hfz38_12 := blk_frozen BK200.out 12
         have hfz38_13 := blk_frozen BK200.out 13
         go_wp2
         go_meet
         case rel => exact ⟨_, (true), (by first | rfl | (simp; done) | (simp [*]; done)), H', ⟨by first | omega | exact Nat.le_refl _⟩, ⟨by (with_reducible repeat (first | refine blk_drewN ?_ _ | refine blk_drew ?_ | refine blk_alloc ?_ _)); exact BK199.out⟩, ⟨by (with_reducible repeat (first | refine blk_drewN ?_ _ | refine blk_drew ?_ | refine blk_alloc ?_ _)); exact BK200.out⟩, ⟨by repeat (first | (with_reducible first | exact HB.out | apply below_alloc | apply pw_below_drewN | apply below_drew1 | refine below_set ?_ GE199.out | refine below_set ?_ GE200.out) | exact HB.out)⟩⟩
       ·
        rw [if_neg c11] at H
        have c11b0 : (a0_5.toList == a1_5.toList) = false := beq_eq_false_iff_ne.mpr c11
        have c11b1 : (a0_5.toList != a1_5.toList) = true := bne_iff_ne.mpr c11
        have H' := Aside0.mk H
        clear H
        have hnb39 := NB199_200.out
        have hnc39 := NB200_199.out
        have hcz40_0 : w5.cell? ⟨gb199, 0, none⟩ = some (.string a0_0) := (blk_cell BK199.out 0).trans rfl
        have hcz40_1 : w5.cell? ⟨gb199, 1, none⟩ = some (.string a0_1) := (blk_cell BK199.out 1).trans rfl
        have hcz40_2 : w5.cell? ⟨gb199, 2, none⟩ = some (.int .i64 a0_2) := (blk_cell BK199.out 2).trans rfl
        have hcz40_3 : w5.cell? ⟨gb199, 3, none⟩ = some (.int .i64 a0_3) := (blk_cell BK199.out 3).trans rfl
        have hcz40_4 : w5.cell? ⟨gb199, 4, none⟩ = some (.int .i64 a0_4) := (blk_cell BK199.out 4).trans rfl
        have hcz40_5 : w5.cell? ⟨gb199, 5, none⟩ = some (.string a0_5) := (blk_cell BK199.out 5).trans rfl
        have hcz40_6 : w5.cell? ⟨gb199, 6, none⟩ = some (.string a0_6) := (blk_cell BK199.out 6).trans rfl
        have hcz40_7 : w5.cell? ⟨gb199, 7, none⟩ = some (.string a0_7) := (blk_cell BK199.out 7).trans rfl
        have hcz40_8 : w5.cell? ⟨gb199, 8, none⟩ = some (.int .i64 a0_8) := (blk_cell BK199.out 8).trans rfl
        have hcz40_9 : w5.cell? ⟨gb199, 9, none⟩ = some (.int .i64 a0_9) := (blk_cell BK199.out 9).trans rfl
        have hcz40_10 : w5.cell? ⟨gb199, 10, none⟩ = some (.string a0_10) := (blk_cell BK199.out 10).trans rfl
        have hcz40_11 : w5.cell? ⟨gb199, 11, none⟩ = some (.int .i64 a0_11) := (blk_cell BK199.out 11).trans rfl
        have hcz40_12 : w5.cell? ⟨gb199, 12, none⟩ = some (.slice A0_12 l0_12.length c0_12) := (blk_cell BK199.out 12).trans rfl
        have hcz40_13 : w5.cell? ⟨gb199, 13, none⟩ = some (.slice A0_13 l0_13.length c0_13) := (blk_cell BK199.out 13).trans rfl
        have hfz40_0 := blk_frozen BK199.out 0
        have hfz40_1 := blk_frozen BK199.out 1
        have hfz40_2 := blk_frozen BK199.out 2
        have hfz40_3 := blk_frozen BK199.out 3
        have hfz40_4 := blk_frozen BK199.out 4
        have hfz40_5 := blk_frozen BK199.out 5
        have hfz40_6 := blk_frozen BK199.out 6
        have hfz40_7 := blk_frozen BK199.out 7
        have hfz40_8 := blk_frozen BK199.out 8
        have hfz40_9 := blk_frozen BK199.out 9
        have hfz40_10 := blk_frozen BK199.out 10
        have hfz40_11 := blk_frozen BK199.out 11
        have hfz40_12 := blk_frozen BK199.out 12
        have hfz40_13 := blk_frozen BK199.out 13
        have hcz41_0 : w5.cell? ⟨gb200, 0, none⟩ = some (.string a1_0) := (blk_cell BK200.out 0).trans rfl
        have hcz41_1 : w5.cell? ⟨gb200, 1, none⟩ = some (.string a1_1) := (blk_cell BK200.out 1).trans rfl
        have hcz41_2 : w5.cell? ⟨gb200, 2, none⟩ = some (.int .i64 a1_2) := (blk_cell BK200.out 2).trans rfl
        have hcz41_3 : w5.cell? ⟨gb200, 3, none⟩ = some (.int .i64 a1_3) := (blk_cell BK200.out 3).trans rfl
        have hcz41_4 : w5.cell? ⟨gb200, 4, none⟩ = some (.int .i64 a1_4) := (blk_cell BK200.out 4).trans rfl
        have hcz41_5 : w5.cell? ⟨gb200, 5, none⟩ = some (.string a1_5) := (blk_cell BK200.out 5).trans rfl
        have hcz41_6 : w5.cell? ⟨gb200, 6, none⟩ = some (.string a1_6) := (blk_cell BK200.out 6).trans rfl
        have hcz41_7 : w5.cell? ⟨gb200, 7, none⟩ = some (.string a1_7) := (blk_cell BK200.out 7).trans rfl
        have hcz41_8 : w5.cell? ⟨gb200, 8, none⟩ = some (.int .i64 a1_8) := (blk_cell BK200.out 8).trans rfl
        have hcz41_9 : w5.cell? ⟨gb200, 9, none⟩ = some (.int .i64 a1_9) := (blk_cell BK200.out 9).trans rfl
        have hcz41_10 : w5.cell? ⟨gb200, 10, none⟩ = some (.string a1_10) := (blk_cell BK200.out 10).trans rfl
        have hcz41_11 : w5.cell? ⟨gb200, 11, none⟩ = some (.int .i64 a1_11) := (blk_cell BK200.out 11).trans rfl
        have hcz41_12 : w5.cell? ⟨gb200, 12, none⟩ = some (.slice A1_12 l1_12.length c1_12) := (blk_cell BK200.out 12).trans rfl
        have hcz41_13 : w5.cell? ⟨gb200, 13, none⟩ = some (.slice A1_13 l1_13.length c1_13) := (blk_cell BK200.out 13).trans rfl
        have hfz41_0 := blk_frozen BK200.out 0
        have hfz41_1 := blk_frozen BK200.out 1
        have hfz41_2 := blk_frozen BK200.out 2
        have hfz41_3 := blk_frozen BK200.out 3
        have hfz41_4 := blk_frozen BK200.out 4
        have hfz41_5 := blk_frozen BK200.out 5
        have hfz41_6 := blk_frozen BK200.out 6
        have hfz41_7 := blk_frozen BK200.out 7
        have hfz41_8 := blk_frozen BK200.out 8
        have hfz41_9 := blk_frozen BK200.out 9
        have hfz41_10 := blk_frozen BK200.out 10
        have hfz41_11 := blk_frozen BK200.out 11
        have hfz41_12 := blk_frozen BK200.out 12
        have hfz41_13 := blk_frozen BK200.out 13
        go_wp2
        go_meet
        case rel => exact ⟨_, (true), (by first | rfl | (simp; done) | (simp [*]; done)), H', ⟨by first | omega | exact Nat.le_refl _⟩, ⟨by (with_reducible repeat (first | refine blk_drewN ?_ _ | refine blk_drew ?_ | refine blk_alloc ?_ _)); exact BK199.out⟩, ⟨by (with_reducible repeat (first | refine blk_drewN ?_ _ | refine blk_drew ?_ | refine blk_alloc ?_ _)); exact BK200.out⟩, ⟨by repeat (first | (with_reducible first | exact HB.out | apply below_alloc | apply pw_below_drewN | apply below_drew1 | refine below_set ?_ GE199.out | refine below_set ?_ GE200.out) | exact HB.out)⟩⟩
      ·
       rw [if_neg c10] at H
       have c10b0 : (a0_4 == a1_4) = false := beq_eq_false_iff_ne.mpr c10
       have c10b1 : (a0_4 != a1_4) = true := bne_iff_ne.mpr c10
       have H' := Aside0.mk H
       clear H
       have hnb42 := NB199_200.out
       have hnc42 := NB200_199.out
       have hcz43_0 : w5.cell? ⟨gb199, 0, none⟩ = some (.string a0_0) := (blk_cell BK199.out 0).trans rfl
       have hcz43_1 : w5.cell? ⟨gb199, 1, none⟩ = some (.string a0_1) := (blk_cell BK199.out 1).trans rfl
       have hcz43_2 : w5.cell? ⟨gb199, 2, none⟩ = some (.int .i64 a0_2) := (blk_cell BK199.out 2).trans rfl
       have hcz43_3 : w5.cell? ⟨gb199, 3, none⟩ = some (.int .i64 a0_3) := (blk_cell BK199.out 3).trans rfl
       have hcz43_4 : w5.cell? ⟨gb199, 4, none⟩ = some (.int .i64 a0_4) := (blk_cell BK199.out 4).trans rfl
       have hcz43_5 : w5.cell? ⟨gb199, 5, none⟩ = some (.string a0_5) := (blk_cell BK199.out 5).trans rfl
       have hcz43_6 : w5.cell? ⟨gb199, 6, none⟩ = some (.string a0_6) := (blk_cell BK199.out 6).trans rfl
       have hcz43_7 : w5.cell? ⟨gb199, 7, none⟩ = some (.string a0_7) := (blk_cell BK199.out 7).trans rfl
       have hcz43_8 : w5.cell? ⟨gb199, 8, none⟩ = some (.int .i64 a0_8) := (blk_cell BK199.out 8).trans rfl
       have hcz43_9 : w5.cell? ⟨gb199, 9, none⟩ = some (.int .i64 a0_9) := (blk_cell BK199.out 9).trans rfl
       have hcz43_10 : w5.cell? ⟨gb199, 10, none⟩ = some (.string a0_10) := (blk_cell BK199.out 10).trans rfl
       have hcz43_11 : w5.cell? ⟨gb199, 11, none⟩ = some (.int .i64 a0_11) := (blk_cell BK199.out 11).trans rfl
       have hcz43_12 : w5.cell? ⟨gb199, 12, none⟩ = some (.slice A0_12 l0_12.length c0_12) := (blk_cell BK199.out 12).trans rfl
       have hcz43_13 : w5.cell? ⟨gb199, 13, none⟩ = some (.slice A0_13 l0_13.length c0_13) := (blk_cell BK199.out 13).trans rfl
       have hfz43_0 := blk_frozen BK199.out 0
       have hfz43_1 := blk_frozen BK199.out 1
       have hfz43_2 := blk_frozen BK199.out 2
       have hfz43_3 := blk_frozen BK199.out 3
       have hfz43_4 := blk_frozen BK199.out 4
       have hfz43_5 := blk_frozen BK199.out 5
       have hfz43_6 := blk_frozen BK199.out 6
       have hfz43_7 := blk_frozen BK199.out 7
       have hfz43_8 := blk_frozen BK199.out 8
       have hfz43_9 := blk_frozen BK199.out 9
       have hfz43_10 := blk_frozen BK199.out 10
       have hfz43_11 := blk_frozen BK199.out 11
       have hfz43_12 := blk_frozen BK199.out 12
       have hfz43_13 := blk_frozen BK199.out 13
       have hcz44_0 : w5.cell? ⟨gb200, 0, none⟩ = some (.string a1_0) := (blk_cell BK200.out 0).trans rfl
       have hcz44_1 : w5.cell? ⟨gb200, 1, none⟩ = some (.string a1_1) := (blk_cell BK200.out 1).trans rfl
       have hcz44_2 : w5.cell? ⟨gb200, 2, none⟩ = some (.int .i64 a1_2) := (blk_cell BK200.out 2).trans rfl
       have hcz44_3 : w5.cell? ⟨gb200, 3, none⟩ = some (.int .i64 a1_3) := (blk_cell BK200.out 3).trans rfl
       have hcz44_4 : w5.cell? ⟨gb200, 4, none⟩ = some (.int .i64 a1_4) := (blk_cell BK200.out 4).trans rfl
       have hcz44_5 : w5.cell? ⟨gb200, 5, none⟩ = some (.string a1_5) := (blk_cell BK200.out 5).trans rfl
       have hcz44_6 : w5.cell? ⟨gb200, 6, none⟩ = some (.string a1_6) := (blk_cell BK200.out 6).trans rfl
       have hcz44_7 : w5.cell? ⟨gb200, 7, none⟩ = some (.string a1_7) := (blk_cell BK200.out 7).trans rfl
       have hcz44_8 : w5.cell? ⟨gb200, 8, none⟩ = some (.int .i64 a1_8) := (blk_cell BK200.out 8).trans rfl
       have hcz44_9 : w5.cell? ⟨gb200, 9, none⟩ = some (.int .i64 a1_9) := (blk_cell BK200.out 9).trans rfl
       have hcz44_10 : w5.cell? ⟨gb200, 10, none⟩ = some (.string a1_10) := (blk_cell BK200.out 10).trans rfl
       have hcz44_11 : w5.cell? ⟨gb200, 11, none⟩ = some (.int .i64 a1_11) := (blk_cell BK200.out 11).trans rfl
       have hcz44_12 : w5.cell? ⟨gb200, 12, none⟩ = some (.slice A1_12 l1_12.length c1_12) := (blk_cell BK200.out 12).trans rfl
       have hcz44_13 : w5.cell? ⟨gb200, 13, none⟩ = some (.slice A1_13 l1_13.length c1_13) := (blk_cell BK200.out 13).trans rfl
       have hfz44_0 := blk_frozen BK200.out 0
       have hfz44_1 := blk_frozen BK200.out 1
       have hfz44_2 := blk_frozen BK200.out 2
       have hfz44_3 := blk_frozen BK200.out 3
       have hfz44_4 := blk_frozen BK200.out 4
       have hfz44_5 := blk_frozen BK200.out 5
       have hfz44_6 := blk_frozen BK200.out 6
       have hfz44_7 := blk_frozen BK200.out 7
       have hfz44_8 := blk_frozen BK200.out 8
       have hfz44_9 := blk_frozen BK200.out 9
       have hfz44_10 := blk_frozen BK200.out 10
       have hfz44_11 := blk_frozen BK200.out 11
       have hfz44_12 := blk_frozen BK200.out 12
       have hfz44_13 := blk_frozen BK200.out 13
       go_wp2
       go_meet
       case rel => exact ⟨_, (true), (by first | rfl | (simp; done) | (simp [*]; done)), H', ⟨by first | omega | exact Nat.le_refl _⟩, ⟨by (with_reducible repeat (first | refine blk_drewN ?_ _ | refine blk_drew ?_ | refine blk_alloc ?_ _)); exact BK199.out⟩, ⟨by (with_reducible repeat (first | refine blk_drewN ?_ _ | refine blk_drew ?_ | refine blk_alloc ?_ _)); exact BK200.out⟩, ⟨by repeat (first | (with_reducible first | exact HB.out | apply below_alloc | apply pw_below_drewN | apply below_drew1 | refine below_set ?_ GE199.out | refine below_set ?_ GE200.out) | exact HB.out)⟩⟩
     ·
      rw [if_neg c9] at H
      have c9b0 : (a0_3 == a1_3) = false := beq_eq_false_iff_ne.mpr c9
      have c9b1 : (a0_3 != a1_3) = true := bne_iff_ne.mpr c9
      have H' := Aside0.mk H
      clear H
      have hnb45 := NB199_200.out
      have hnc45 := NB200_199.out
      have hcz46_0 : w5.cell? ⟨gb199, 0, none⟩ = some (.string a0_0) := (blk_cell BK199.out 0).trans rfl
      have hcz46_1 : w5.cell? ⟨gb199, 1, none⟩ = some (.string a0_1) := (blk_cell BK199.out 1).trans rfl
      have hcz46_2 : w5.cell? ⟨gb199, 2, none⟩ = some (.int .i64 a0_2) := (blk_cell BK199.out 2).trans rfl
      have hcz46_3 : w5.cell? ⟨gb199, 3, none⟩ = some (.int .i64 a0_3) := (blk_cell BK199.out 3).trans rfl
      have hcz46_4 : w5.cell? ⟨gb199, 4, none⟩ = some (.int .i64 a0_4) := (blk_cell BK199.out 4).trans rfl
      have hcz46_5 : w5.cell? ⟨gb199, 5, none⟩ = some (.string a0_5) := (blk_cell BK199.out 5).trans rfl
      have hcz46_6 : w5.cell? ⟨gb199, 6, none⟩ = some (.string a0_6) := (blk_cell BK199.out 6).trans rfl
      have hcz46_7 : w5.cell? ⟨gb199, 7, none⟩ = some (.string a0_7) := (blk_cell BK199.out 7).trans rfl
      have hcz46_8 : w5.cell? ⟨gb199, 8, none⟩ = some (.int .i64 a0_8) := (blk_cell BK199.out 8).trans rfl
      have hcz46_9 : w5.cell? ⟨gb199, 9, none⟩ = some (.int .i64 a0_9) := (blk_cell BK199.out 9).trans rfl
      have hcz46_10 : w5.cell? ⟨gb199, 10, none⟩ = some (.string a0_10) := (blk_cell BK199.out 10).trans rfl
      have hcz46_11 : w5.cell? ⟨gb199, 11, none⟩ = some (.int .i64 a0_11) := (blk_cell BK199.out 11).trans rfl
      have hcz46_12 : w5.cell? ⟨gb199, 12, none⟩ = some (.slice A0_12 l0_12.length c0_12) := (blk_cell BK199.out 12).trans rfl
      have hcz46_13 : w5.cell? ⟨gb199, 13, none⟩ = some (.slice A0_13 l0_13.length c0_13) := (blk_cell BK199.out 13).trans rfl
      have hfz46_0 := blk_frozen BK199.out 0
      have hfz46_1 := blk_frozen BK199.out 1
      have hfz46_2 := blk_frozen BK199.out 2
      have hfz46_3 := blk_frozen BK199.out 3
      have hfz46_4 := blk_frozen BK199.out 4
      have hfz46_5 := blk_frozen BK199.out 5
      have hfz46_6 := blk_frozen BK199.out 6
      have hfz46_7 := blk_frozen BK199.out 7
      have hfz46_8 := blk_frozen BK199.out 8
      have hfz46_9 := blk_frozen BK199.out 9
      have hfz46_10 := blk_frozen BK199.out 10
      have hfz46_11 := blk_frozen BK199.out 11
      have hfz46_12 := blk_frozen BK199.out 12
      have hfz46_13 := blk_frozen BK199.out 13
      have hcz47_0 : w5.cell? ⟨gb200, 0, none⟩ = some (.string a1_0) := (blk_cell BK200.out 0).trans rfl
      have hcz47_1 : w5.cell? ⟨gb200, 1, none⟩ = some (.string a1_1) := (blk_cell BK200.out 1).trans rfl
      have hcz47_2 : w5.cell? ⟨gb200, 2, none⟩ = some (.int .i64 a1_2) := (blk_cell BK200.out 2).trans rfl
      have hcz47_3 : w5.cell? ⟨gb200, 3, none⟩ = some (.int .i64 a1_3) := (blk_cell BK200.out 3).trans rfl
      have hcz47_4 : w5.cell? ⟨gb200, 4, none⟩ = some (.int .i64 a1_4) := (blk_cell BK200.out 4).trans rfl
      have hcz47_5 : w5.cell? ⟨gb200, 5, none⟩ = some (.string a1_5) := (blk_cell BK200.out 5).trans rfl
      have hcz47_6 : w5.cell? ⟨gb200, 6, none⟩ = some (.string a1_6) := (blk_cell BK200.out 6).trans rfl
      have hcz47_7 : w5.cell? ⟨gb200, 7, none⟩ = some (.string a1_7) := (blk_cell BK200.out 7).trans rfl
      have hcz47_8 : w5.cell? ⟨gb200, 8, none⟩ = some (.int .i64 a1_8) := (blk_cell BK200.out 8).trans rfl
      have hcz47_9 : w5.cell? ⟨gb200, 9, none⟩ = some (.int .i64 a1_9) := (blk_cell BK200.out 9).trans rfl
      have hcz47_10 : w5.cell? ⟨gb200, 10, none⟩ = some (.string a1_10) := (blk_cell BK200.out 10).trans rfl
      have hcz47_11 : w5.cell? ⟨gb200, 11, none⟩ = some (.int .i64 a1_11) := (blk_cell BK200.out 11).trans rfl
      have hcz47_12 : w5.cell? ⟨gb200, 12, none⟩ = some (.slice A1_12 l1_12.length c1_12) := (blk_cell BK200.out 12).trans rfl
      have hcz47_13 : w5.cell? ⟨gb200, 13, none⟩ = some (.slice A1_13 l1_13.length c1_13) := (blk_cell BK200.out 13).trans rfl
      have hfz47_0 := blk_frozen BK200.out 0
      have hfz47_1 := blk_frozen BK200.out 1
      have hfz47_2 := blk_frozen BK200.out 2
      have hfz47_3 := blk_frozen BK200.out 3
      have hfz47_4 := blk_frozen BK200.out 4
      have hfz47_5 := blk_frozen BK200.out 5
      have hfz47_6 := blk_frozen BK200.out 6
      have hfz47_7 := blk_frozen BK200.out 7
      have hfz47_8 := blk_frozen BK200.out 8
      have hfz47_9 := blk_frozen BK200.out 9
      have hfz47_10 := blk_frozen BK200.out 10
      have hfz47_11 := blk_frozen BK200.out 11
      have hfz47_12 := blk_frozen BK200.out 12
      have hfz47_13 := blk_frozen BK200.out 13
      go_wp2
      go_meet
      case rel => exact ⟨_, (true), (by first | rfl | (simp; done) | (simp [*]; done)), H', ⟨by first | omega | exact Nat.le_refl _⟩, ⟨by (with_reducible repeat (first | refine blk_drewN ?_ _ | refine blk_drew ?_ | refine blk_alloc ?_ _)); exact BK199.out⟩, ⟨by (with_reducible repeat (first | refine blk_drewN ?_ _ | refine blk_drew ?_ | refine blk_alloc ?_ _)); exact BK200.out⟩, ⟨by repeat (first | (with_reducible first | exact HB.out | apply below_alloc | apply pw_below_drewN | apply below_drew1 | refine below_set ?_ GE199.out | refine below_set ?_ GE200.out) | exact HB.out)⟩⟩
    ·
     rw [if_neg c8] at H
     have c8b0 : (a0_2 == a1_2) = false := beq_eq_false_iff_ne.mpr c8
     have c8b1 : (a0_2 != a1_2) = true := bne_iff_ne.mpr c8
     have H' := Aside0.mk H
     clear H
     have hnb48 := NB199_200.out
     have hnc48 := NB200_199.out
     have hcz49_0 : w5.cell? ⟨gb199, 0, none⟩ = some (.string a0_0) := (blk_cell BK199.out 0).trans rfl
     have hcz49_1 : w5.cell? ⟨gb199, 1, none⟩ = some (.string a0_1) := (blk_cell BK199.out 1).trans rfl
     have hcz49_2 : w5.cell? ⟨gb199, 2, none⟩ = some (.int .i64 a0_2) := (blk_cell BK199.out 2).trans rfl
     have hcz49_3 : w5.cell? ⟨gb199, 3, none⟩ = some (.int .i64 a0_3) := (blk_cell BK199.out 3).trans rfl
     have hcz49_4 : w5.cell? ⟨gb199, 4, none⟩ = some (.int .i64 a0_4) := (blk_cell BK199.out 4).trans rfl
     have hcz49_5 : w5.cell? ⟨gb199, 5, none⟩ = some (.string a0_5) := (blk_cell BK199.out 5).trans rfl
     have hcz49_6 : w5.cell? ⟨gb199, 6, none⟩ = some (.string a0_6) := (blk_cell BK199.out 6).trans rfl
     have hcz49_7 : w5.cell? ⟨gb199, 7, none⟩ = some (.string a0_7) := (blk_cell BK199.out 7).trans rfl
     have hcz49_8 : w5.cell? ⟨gb199, 8, none⟩ = some (.int .i64 a0_8) := (blk_cell BK199.out 8).trans rfl
     have hcz49_9 : w5.cell? ⟨gb199, 9, none⟩ = some (.int .i64 a0_9) := (blk_cell BK199.out 9).trans rfl
     have hcz49_10 : w5.cell? ⟨gb199, 10, none⟩ = some (.string a0_10) := (blk_cell BK199.out 10).trans rfl
     have hcz49_11 : w5.cell? ⟨gb199, 11, none⟩ = some (.int .i64 a0_11) := (blk_cell BK199.out 11).trans rfl
     have hcz49_12 : w5.cell? ⟨gb199, 12, none⟩ = some (.slice A0_12 l0_12.length c0_12) := (blk_cell BK199.out 12).trans rfl
     have hcz49_13 : w5.cell? ⟨gb199, 13, none⟩ = some (.slice A0_13 l0_13.length c0_13) := (blk_cell BK199.out 13).trans rfl
     have hfz49_0 := blk_frozen BK199.out 0
     have hfz49_1 := blk_frozen BK199.out 1
     have hfz49_2 := blk_frozen BK199.out 2
     have hfz49_3 := blk_frozen BK199.out 3
     have hfz49_4 := blk_frozen BK199.out 4
     have hfz49_5 := blk_frozen BK199.out 5
     have hfz49_6 := blk_frozen BK199.out 6
     have hfz49_7 := blk_frozen BK199.out 7
     have hfz49_8 := blk_frozen BK199.out 8
     have hfz49_9 := blk_frozen BK199.out 9
     have hfz49_10 := blk_frozen BK199.out 10
     have hfz49_11 := blk_frozen BK199.out 11
     have hfz49_12 := blk_frozen BK199.out 12
     have hfz49_13 := blk_frozen BK199.out 13
     have hcz50_0 : w5.cell? ⟨gb200, 0, none⟩ = some (.string a1_0) := (blk_cell BK200.out 0).trans rfl
     have hcz50_1 : w5.cell? ⟨gb200, 1, none⟩ = some (.string a1_1) := (blk_cell BK200.out 1).trans rfl
     have hcz50_2 : w5.cell? ⟨gb200, 2, none⟩ = some (.int .i64 a1_2) := (blk_cell BK200.out 2).trans rfl
     have hcz50_3 : w5.cell? ⟨gb200, 3, none⟩ = some (.int .i64 a1_3) := (blk_cell BK200.out 3).trans rfl
     have hcz50_4 : w5.cell? ⟨gb200, 4, none⟩ = some (.int .i64 a1_4) := (blk_cell BK200.out 4).trans rfl
     have hcz50_5 : w5.cell? ⟨gb200, 5, none⟩ = some (.string a1_5) := (blk_cell BK200.out 5).trans rfl
     have hcz50_6 : w5.cell? ⟨gb200, 6, none⟩ = some (.string a1_6) := (blk_cell BK200.out 6).trans rfl
     have hcz50_7 : w5.cell? ⟨gb200, 7, none⟩ = some (.string a1_7) := (blk_cell BK200.out 7).trans rfl
     have hcz50_8 : w5.cell? ⟨gb200, 8, none⟩ = some (.int .i64 a1_8) := (blk_cell BK200.out 8).trans rfl
     have hcz50_9 : w5.cell? ⟨gb200, 9, none⟩ = some (.int .i64 a1_9) := (blk_cell BK200.out 9).trans rfl
     have hcz50_10 : w5.cell? ⟨gb200, 10, none⟩ = some (.string a1_10) := (blk_cell BK200.out 10).trans rfl
     have hcz50_11 : w5.cell? ⟨gb200, 11, none⟩ = some (.int .i64 a1_11) := (blk_cell BK200.out 11).trans rfl
     have hcz50_12 : w5.cell? ⟨gb200, 12, none⟩ = some (.slice A1_12 l1_12.length c1_12) := (blk_cell BK200.out 12).trans rfl
     have hcz50_13 : w5.cell? ⟨gb200, 13, none⟩ = some (.slice A1_13 l1_13.length c1_13) := (blk_cell BK200.out 13).trans rfl
     have hfz50_0 := blk_frozen BK200.out 0
     have hfz50_1 := blk_frozen BK200.out 1
     have hfz50_2 := blk_frozen BK200.out 2
     have hfz50_3 := blk_frozen BK200.out 3
     have hfz50_4 := blk_frozen BK200.out 4
     have hfz50_5 := blk_frozen BK200.out 5
     have hfz50_6 := blk_frozen BK200.out 6
     have hfz50_7 := blk_frozen BK200.out 7
     have hfz50_8 := blk_frozen BK200.out 8
     have hfz50_9 := blk_frozen BK200.out 9
     have hfz50_10 := blk_frozen BK200.out 10
     have hfz50_11 := blk_frozen BK200.out 11
     have hfz50_12 := blk_frozen BK200.out 12
     have hfz50_13 := blk_frozen BK200.out 13
     go_wp2
     go_meet
     case rel => exact ⟨_, (true), (by first | rfl | (simp; done) | (simp [*]; done)), H', ⟨by first | omega | exact Nat.le_refl _⟩, ⟨by (with_reducible repeat (first | refine blk_drewN ?_ _ | refine blk_drew ?_ | refine blk_alloc ?_ _)); exact BK199.out⟩, ⟨by (with_reducible repeat (first | refine blk_drewN ?_ _ | refine blk_drew ?_ | refine blk_alloc ?_ _)); exact BK200.out⟩, ⟨by repeat (first | (with_reducible first | exact HB.out | apply below_alloc | apply pw_below_drewN | apply below_drew1 | refine below_set ?_ GE199.out | refine below_set ?_ GE200.out) | exact HB.out)⟩⟩
   ·
    rw [if_neg c7] at H
    have c7b0 : (a0_1.toList == a1_1.toList) = false := beq_eq_false_iff_ne.mpr c7
    have c7b1 : (a0_1.toList != a1_1.toList) = true := bne_iff_ne.mpr c7
    have H' := Aside0.mk H
    clear H
    have hnb51 := NB199_200.out
    have hnc51 := NB200_199.out
    have hcz52_0 : w5.cell? ⟨gb199, 0, none⟩ = some (.string a0_0) := (blk_cell BK199.out 0).trans rfl
    have hcz52_1 : w5.cell? ⟨gb199, 1, none⟩ = some (.string a0_1) := (blk_cell BK199.out 1).trans rfl
    have hcz52_2 : w5.cell? ⟨gb199, 2, none⟩ = some (.int .i64 a0_2) := (blk_cell BK199.out 2).trans rfl
    have hcz52_3 : w5.cell? ⟨gb199, 3, none⟩ = some (.int .i64 a0_3) := (blk_cell BK199.out 3).trans rfl
    have hcz52_4 : w5.cell? ⟨gb199, 4, none⟩ = some (.int .i64 a0_4) := (blk_cell BK199.out 4).trans rfl
    have hcz52_5 : w5.cell? ⟨gb199, 5, none⟩ = some (.string a0_5) := (blk_cell BK199.out 5).trans rfl
    have hcz52_6 : w5.cell? ⟨gb199, 6, none⟩ = some (.string a0_6) := (blk_cell BK199.out 6).trans rfl
    have hcz52_7 : w5.cell? ⟨gb199, 7, none⟩ = some (.string a0_7) := (blk_cell BK199.out 7).trans rfl
    have hcz52_8 : w5.cell? ⟨gb199, 8, none⟩ = some (.int .i64 a0_8) := (blk_cell BK199.out 8).trans rfl
    have hcz52_9 : w5.cell? ⟨gb199, 9, none⟩ = some (.int .i64 a0_9) := (blk_cell BK199.out 9).trans rfl
    have hcz52_10 : w5.cell? ⟨gb199, 10, none⟩ = some (.string a0_10) := (blk_cell BK199.out 10).trans rfl
    have hcz52_11 : w5.cell? ⟨gb199, 11, none⟩ = some (.int .i64 a0_11) := (blk_cell BK199.out 11).trans rfl
    have hcz52_12 : w5.cell? ⟨gb199, 12, none⟩ = some (.slice A0_12 l0_12.length c0_12) := (blk_cell BK199.out 12).trans rfl
    have hcz52_13 : w5.cell? ⟨gb199, 13, none⟩ = some (.slice A0_13 l0_13.length c0_13) := (blk_cell BK199.out 13).trans rfl
    have hfz52_0 := blk_frozen BK199.out 0
    have hfz52_1 := blk_frozen BK199.out 1
    have hfz52_2 := blk_frozen BK199.out 2
    have hfz52_3 := blk_frozen BK199.out 3
    have hfz52_4 := blk_frozen BK199.out 4
    have hfz52_5 := blk_frozen BK199.out 5
    have hfz52_6 := blk_frozen BK199.out 6
    have hfz52_7 := blk_frozen BK199.out 7
    have hfz52_8 := blk_frozen BK199.out 8
    have hfz52_9 := blk_frozen BK199.out 9
    have hfz52_10 := blk_frozen BK199.out 10
    have hfz52_11 := blk_frozen BK199.out 11
    have hfz52_12 := blk_frozen BK199.out 12
    have hfz52_13 := blk_frozen BK199.out 13
    have hcz53_0 : w5.cell? ⟨gb200, 0, none⟩ = some (.string a1_0) := (blk_cell BK200.out 0).trans rfl
    have hcz53_1 : w5.cell? ⟨gb200, 1, none⟩ = some (.string a1_1) := (blk_cell BK200.out 1).trans rfl
    have hcz53_2 : w5.cell? ⟨gb200, 2, none⟩ = some (.int .i64 a1_2) := (blk_cell BK200.out 2).trans rfl
    have hcz53_3 : w5.cell? ⟨gb200, 3, none⟩ = some (.int .i64 a1_3) := (blk_cell BK200.out 3).trans rfl
    have hcz53_4 : w5.cell? ⟨gb200, 4, none⟩ = some (.int .i64 a1_4) := (blk_cell BK200.out 4).trans rfl
    have hcz53_5 : w5.cell? ⟨gb200, 5, none⟩ = some (.string a1_5) := (blk_cell BK200.out 5).trans rfl
    have hcz53_6 : w5.cell? ⟨gb200, 6, none⟩ = some (.string a1_6) := (blk_cell BK200.out 6).trans rfl
    have hcz53_7 : w5.cell? ⟨gb200, 7, none⟩ = some (.string a1_7) := (blk_cell BK200.out 7).trans rfl
    have hcz53_8 : w5.cell? ⟨gb200, 8, none⟩ = some (.int .i64 a1_8) := (blk_cell BK200.out 8).trans rfl
    have hcz53_9 : w5.cell? ⟨gb200, 9, none⟩ = some (.int .i64 a1_9) := (blk_cell BK200.out 9).trans rfl
    have hcz53_10 : w5.cell? ⟨gb200, 10, none⟩ = some (.string a1_10) := (blk_cell BK200.out 10).trans rfl
    have hcz53_11 : w5.cell? ⟨gb200, 11, none⟩ = some (.int .i64 a1_11) := (blk_cell BK200.out 11).trans rfl
    have hcz53_12 : w5.cell? ⟨gb200, 12, none⟩ = some (.slice A1_12 l1_12.length c1_12) := (blk_cell BK200.out 12).trans rfl
    have hcz53_13 : w5.cell? ⟨gb200, 13, none⟩ = some (.slice A1_13 l1_13.length c1_13) := (blk_cell BK200.out 13).trans rfl
    have hfz53_0 := blk_frozen BK200.out 0
    have hfz53_1 := blk_frozen BK200.out 1
    have hfz53_2 := blk_frozen BK200.out 2
    have hfz53_3 := blk_frozen BK200.out 3
    have hfz53_4 := blk_frozen BK200.out 4
    have hfz53_5 := blk_frozen BK200.out 5
    have hfz53_6 := blk_frozen BK200.out 6
    have hfz53_7 := blk_frozen BK200.out 7
    have hfz53_8 := blk_frozen BK200.out 8
    have hfz53_9 := blk_frozen BK200.out 9
    have hfz53_10 := blk_frozen BK200.out 10
    have hfz53_11 := blk_frozen BK200.out 11
    have hfz53_12 := blk_frozen BK200.out 12
    have hfz53_13 := blk_frozen BK200.out 13
    go_wp2
    go_meet
    case rel => exact ⟨_, (true), (by first | rfl | (simp; done) | (simp [*]; done)), H', ⟨by first | omega | exact Nat.le_refl _⟩, ⟨by (with_reducible repeat (first | refine blk_drewN ?_ _ | refine blk_drew ?_ | refine blk_alloc ?_ _)); exact BK199.out⟩, ⟨by (with_reducible repeat (first | refine blk_drewN ?_ _ | refine blk_drew ?_ | refine blk_alloc ?_ _)); exact BK200.out⟩, ⟨by repeat (first | (with_reducible first | exact HB.out | apply below_alloc | apply pw_below_drewN | apply below_drew1 | refine below_set ?_ GE199.out | refine below_set ?_ GE200.out) | exact HB.out)⟩⟩
  ·
   rw [if_neg c6] at H
   have c6b0 : (a0_0.toList == a1_0.toList) = false := beq_eq_false_iff_ne.mpr c6
   have c6b1 : (a0_0.toList != a1_0.toList) = true := bne_iff_ne.mpr c6
   (first | rw [c6b0] | (simp only [i64_w, i32_w]; rw [c6b0]) | skip)
   have H' := Aside0.mk H
   clear H
   have hnb54 := NB199_200.out
   have hnc54 := NB200_199.out
   have hcz55_0 : w5.cell? ⟨gb199, 0, none⟩ = some (.string a0_0) := (blk_cell BK199.out 0).trans rfl
   have hcz55_1 : w5.cell? ⟨gb199, 1, none⟩ = some (.string a0_1) := (blk_cell BK199.out 1).trans rfl
   have hcz55_2 : w5.cell? ⟨gb199, 2, none⟩ = some (.int .i64 a0_2) := (blk_cell BK199.out 2).trans rfl
   have hcz55_3 : w5.cell? ⟨gb199, 3, none⟩ = some (.int .i64 a0_3) := (blk_cell BK199.out 3).trans rfl
   have hcz55_4 : w5.cell? ⟨gb199, 4, none⟩ = some (.int .i64 a0_4) := (blk_cell BK199.out 4).trans rfl
   have hcz55_5 : w5.cell? ⟨gb199, 5, none⟩ = some (.string a0_5) := (blk_cell BK199.out 5).trans rfl
   have hcz55_6 : w5.cell? ⟨gb199, 6, none⟩ = some (.string a0_6) := (blk_cell BK199.out 6).trans rfl
   have hcz55_7 : w5.cell? ⟨gb199, 7, none⟩ = some (.string a0_7) := (blk_cell BK199.out 7).trans rfl
   have hcz55_8 : w5.cell? ⟨gb199, 8, none⟩ = some (.int .i64 a0_8) := (blk_cell BK199.out 8).trans rfl
   have hcz55_9 : w5.cell? ⟨gb199, 9, none⟩ = some (.int .i64 a0_9) := (blk_cell BK199.out 9).trans rfl
   have hcz55_10 : w5.cell? ⟨gb199, 10, none⟩ = some (.string a0_10) := (blk_cell BK199.out 10).trans rfl
   have hcz55_11 : w5.cell? ⟨gb199, 11, none⟩ = some (.int .i64 a0_11) := (blk_cell BK199.out 11).trans rfl
   have hcz55_12 : w5.cell? ⟨gb199, 12, none⟩ = some (.slice A0_12 l0_12.length c0_12) := (blk_cell BK199.out 12).trans rfl
   have hcz55_13 : w5.cell? ⟨gb199, 13, none⟩ = some (.slice A0_13 l0_13.length c0_13) := (blk_cell BK199.out 13).trans rfl
   have hfz55_0 := blk_frozen BK199.out 0
   have hfz55_1 := blk_frozen BK199.out 1
   have hfz55_2 := blk_frozen BK199.out 2
   have hfz55_3 := blk_frozen BK199.out 3
   have hfz55_4 := blk_frozen BK199.out 4
   have hfz55_5 := blk_frozen BK199.out 5
   have hfz55_6 := blk_frozen BK199.out 6
   have hfz55_7 := blk_frozen BK199.out 7
   have hfz55_8 := blk_frozen BK199.out 8
   have hfz55_9 := blk_frozen BK199.out 9
   have hfz55_10 := blk_frozen BK199.out 10
   have hfz55_11 := blk_frozen BK199.out 11
   have hfz55_12 := blk_frozen BK199.out 12
   have hfz55_13 := blk_frozen BK199.out 13
   have hcz56_0 : w5.cell? ⟨gb200, 0, none⟩ = some (.string a1_0) := (blk_cell BK200.out 0).trans rfl
   have hcz56_1 : w5.cell? ⟨gb200, 1, none⟩ = some (.string a1_1) := (blk_cell BK200.out 1).trans rfl
   have hcz56_2 : w5.cell? ⟨gb200, 2, none⟩ = some (.int .i64 a1_2) := (blk_cell BK200.out 2).trans rfl
   have hcz56_3 : w5.cell? ⟨gb200, 3, none⟩ = some (.int .i64 a1_3) := (blk_cell BK200.out 3).trans rfl
   have hcz56_4 : w5.cell? ⟨gb200, 4, none⟩ = some (.int .i64 a1_4) := (blk_cell BK200.out 4).trans rfl
   have hcz56_5 : w5.cell? ⟨gb200, 5, none⟩ = some (.string a1_5) := (blk_cell BK200.out 5).trans rfl
   have hcz56_6 : w5.cell? ⟨gb200, 6, none⟩ = some (.string a1_6) := (blk_cell BK200.out 6).trans rfl
   have hcz56_7 : w5.cell? ⟨gb200, 7, none⟩ = some (.string a1_7) := (blk_cell BK200.out 7).trans rfl
   have hcz56_8 : w5.cell? ⟨gb200, 8, none⟩ = some (.int .i64 a1_8) := (blk_cell BK200.out 8).trans rfl
   have hcz56_9 : w5.cell? ⟨gb200, 9, none⟩ = some (.int .i64 a1_9) := (blk_cell BK200.out 9).trans rfl
   have hcz56_10 : w5.cell? ⟨gb200, 10, none⟩ = some (.string a1_10) := (blk_cell BK200.out 10).trans rfl
   have hcz56_11 : w5.cell? ⟨gb200, 11, none⟩ = some (.int .i64 a1_11) := (blk_cell BK200.out 11).trans rfl
   have hcz56_12 : w5.cell? ⟨gb200, 12, none⟩ = some (.slice A1_12 l1_12.length c1_12) := (blk_cell BK200.out 12).trans rfl
   have hcz56_13 : w5.cell? ⟨gb200, 13, none⟩ = some (.slice A1_13 l1_13.length c1_13) := (blk_cell BK200.out 13).trans rfl
   have hfz56_0 := blk_frozen BK200.out 0
   have hfz56_1 := blk_frozen BK200.out 1
   have hfz56_2 := blk_frozen BK200.out 2
   have hfz56_3 := blk_frozen BK200.out 3
   have hfz56_4 := blk_frozen BK200.out 4
   have hfz56_5 := blk_frozen BK200.out 5
   have hfz56_6 := blk_frozen BK200.out 6
   have hfz56_7 := blk_frozen BK200.out 7
   have hfz56_8 := blk_frozen BK200.out 8
   have hfz56_9 := blk_frozen BK200.out 9
   have hfz56_10 := blk_frozen BK200.out 10
   have hfz56_11 := blk_frozen BK200.out 11
   have hfz56_12 := blk_frozen BK200.out 12
   have hfz56_13 := blk_frozen BK200.out 13
   go_wp2
   go_meet
   case rel => exact ⟨_, (true), (by first | rfl | (simp; done) | (simp [*]; done)), H', ⟨by first | omega | exact Nat.le_refl _⟩, ⟨by (with_reducible repeat (first | refine blk_drewN ?_ _ | refine blk_drew ?_ | refine blk_alloc ?_ _)); exact BK199.out⟩, ⟨by (with_reducible repeat (first | refine blk_drewN ?_ _ | refine blk_drew ?_ | refine blk_alloc ?_ _)); exact BK200.out⟩, ⟨by repeat (first | (with_reducible first | exact HB.out | apply below_alloc | apply pw_below_drewN | apply below_drew1 | refine below_set ?_ GE199.out | refine below_set ?_ GE200.out) | exact HB.out)⟩⟩
 case rest =>
  clear HC3
  try clear c1
  try clear p2
  try clear c3
  try clear c4
  try clear c5
  try clear c6
  try clear c6b0
  try clear c6b1
  try clear c7
  try clear c7b0
  try clear c7b1
  try clear c8
  try clear c8b0
  try clear c8b1
  try clear c9
  try clear c9b0
  try clear c9b1
  try clear c10
  try clear c10b0
  try clear c10b1
  try clear c11
  try clear c11b0
  try clear c11b1
  try clear c12
  try clear c12b0
  try clear c12b1
  try clear c13
  try clear c13b0
  try clear c13b1
  try clear c14
  try clear c14b0
  try clear c14b1
  try clear c30
  try clear c33
  try clear c36
  try clear c39
  try clear c42
  try clear c45
  try clear c48
  try clear c51
  try clear c54
  try clear hcz31_0
  try clear hcz31_1
  try clear hcz31_10
  try clear hcz31_11
  try clear hcz31_12
  try clear hcz31_13
  try clear hcz31_2
  try clear hcz31_3
  try clear hcz31_4
  try clear hcz31_5
  try clear hcz31_6
  try clear hcz31_7
  try clear hcz31_8
  try clear hcz31_9
  try clear hcz32_0
  try clear hcz32_1
  try clear hcz32_10
  try clear hcz32_11
  try clear hcz32_12
  try clear hcz32_13
  try clear hcz32_2
  try clear hcz32_3
  try clear hcz32_4
  try clear hcz32_5
  try clear hcz32_6
  try clear hcz32_7
  try clear hcz32_8
  try clear hcz32_9
  try clear hcz34_0
  try clear hcz34_1
  try clear hcz34_10
  try clear hcz34_11
  try clear hcz34_12
  try clear hcz34_13
  try clear hcz34_2
  try clear hcz34_3
  try clear hcz34_4
  try clear hcz34_5
  try clear hcz34_6
  try clear hcz34_7
  try clear hcz34_8
  try clear hcz34_9
  try clear hcz35_0
  try clear hcz35_1
  try clear hcz35_10
  try clear hcz35_11
  try clear hcz35_12
  try clear hcz35_13
  try clear hcz35_2
  try clear hcz35_3
  try clear hcz35_4
  try clear hcz35_5
  try clear hcz35_6
  try clear hcz35_7
  try clear hcz35_8
  try clear hcz35_9
  try clear hcz37_0
  try clear hcz37_1
  try clear hcz37_10
  try clear hcz37_11
  try clear hcz37_12
  try clear hcz37_13
  try clear hcz37_2
  try clear hcz37_3
  try clear hcz37_4
  try clear hcz37_5
  try clear hcz37_6
  try clear hcz37_7
  try clear hcz37_8
  try clear hcz37_9
  try clear hcz38_0
  try clear hcz38_1
  try clear hcz38_10
  try clear hcz38_11
  try clear hcz38_12
  try clear hcz38_13
  try clear hcz38_2
  try clear hcz38_3
  try clear hcz38_4
  try clear hcz38_5
  try clear hcz38_6
  try clear hcz38_7
  try clear hcz38_8
  try clear hcz38_9
  try clear hcz40_0
  try clear hcz40_1
  try clear hcz40_10
  try clear hcz40_11
  try clear hcz40_12
  try clear hcz40_13
  try clear hcz40_2
  try clear hcz40_3
  try clear hcz40_4
  try clear hcz40_5
  try clear hcz40_6
  try clear hcz40_7
  try clear hcz40_8
  try clear hcz40_9
  try clear hcz41_0
  try clear hcz41_1
  try clear hcz41_10
  try clear hcz41_11
  try clear hcz41_12
  try clear hcz41_13
  try clear hcz41_2
  try clear hcz41_3
  try clear hcz41_4
  try clear hcz41_5
  try clear hcz41_6
  try clear hcz41_7
  try clear hcz41_8
  try clear hcz41_9
  try clear hcz43_0
  try clear hcz43_1
  try clear hcz43_10
  try clear hcz43_11
  try clear hcz43_12
  try clear hcz43_13
  try clear hcz43_2
  try clear hcz43_3
  try clear hcz43_4
  try clear hcz43_5
  try clear hcz43_6
  try clear hcz43_7
  try clear hcz43_8
  try clear hcz43_9
  try clear hcz44_0
  try clear hcz44_1
  try clear hcz44_10
  try clear hcz44_11
  try clear hcz44_12
  try clear hcz44_13
  try clear hcz44_2
  try clear hcz44_3
  try clear hcz44_4
  try clear hcz44_5
  try clear hcz44_6
  try clear hcz44_7
  try clear hcz44_8
  try clear hcz44_9
  try clear hcz46_0
  try clear hcz46_1
  try clear hcz46_10
  try clear hcz46_11
  try clear hcz46_12
  try clear hcz46_13
  try clear hcz46_2
  try clear hcz46_3
  try clear hcz46_4
  try clear hcz46_5
  try clear hcz46_6
  try clear hcz46_7
  try clear hcz46_8
  try clear hcz46_9
  try clear hcz47_0
  try clear hcz47_1
  try clear hcz47_10
  try clear hcz47_11
  try clear hcz47_12
  try clear hcz47_13
  try clear hcz47_2
  try clear hcz47_3
  try clear hcz47_4
  try clear hcz47_5
  try clear hcz47_6
  try clear hcz47_7
  try clear hcz47_8
  try clear hcz47_9
  try clear hcz49_0
  try clear hcz49_1
  try clear hcz49_10
  try clear hcz49_11
  try clear hcz49_12
  try clear hcz49_13
  try clear hcz49_2
  try clear hcz49_3
  try clear hcz49_4
  try clear hcz49_5
  try clear hcz49_6
  try clear hcz49_7
  try clear hcz49_8
  try clear hcz49_9
  try clear hcz50_0
  try clear hcz50_1
  try clear hcz50_10
  try clear hcz50_11
  try clear hcz50_12
  try clear hcz50_13
  try clear hcz50_2
  try clear hcz50_3
  try clear hcz50_4
  try clear hcz50_5
  try clear hcz50_6
  try clear hcz50_7
  try clear hcz50_8
  try clear hcz50_9
  try clear hcz52_0
  try clear hcz52_1
  try clear hcz52_10
  try clear hcz52_11
  try clear hcz52_12
  try clear hcz52_13
  try clear hcz52_2
  try clear hcz52_3
  try clear hcz52_4
  try clear hcz52_5
  try clear hcz52_6
  try clear hcz52_7
  try clear hcz52_8
  try clear hcz52_9
  try clear hcz53_0
  try clear hcz53_1
  try clear hcz53_10
  try clear hcz53_11
  try clear hcz53_12
  try clear hcz53_13
  try clear hcz53_2
  try clear hcz53_3
  try clear hcz53_4
  try clear hcz53_5
  try clear hcz53_6
  try clear hcz53_7
  try clear hcz53_8
  try clear hcz53_9
  try clear hcz55_0
  try clear hcz55_1
  try clear hcz55_10
  try clear hcz55_11
  try clear hcz55_12
  try clear hcz55_13
  try clear hcz55_2
  try clear hcz55_3
  try clear hcz55_4
  try clear hcz55_5
  try clear hcz55_6
  try clear hcz55_7
  try clear hcz55_8
  try clear hcz55_9
  try clear hcz56_0
  try clear hcz56_1
  try clear hcz56_10
  try clear hcz56_11
  try clear hcz56_12
  try clear hcz56_13
  try clear hcz56_2
  try clear hcz56_3
  try clear hcz56_4
  try clear hcz56_5
  try clear hcz56_6
  try clear hcz56_7
  try clear hcz56_8
  try clear hcz56_9
  try clear hfz31_0
  try clear hfz31_1
  try clear hfz31_10
  try clear hfz31_11
  try clear hfz31_12
  try clear hfz31_13
  try clear hfz31_2
  try clear hfz31_3
  try clear hfz31_4
  try clear hfz31_5
  try clear hfz31_6
  try clear hfz31_7
  try clear hfz31_8
  try clear hfz31_9
  try clear hfz32_0
  try clear hfz32_1
  try clear hfz32_10
  try clear hfz32_11
  try clear hfz32_12
  try clear hfz32_13
  try clear hfz32_2
  try clear hfz32_3
  try clear hfz32_4
  try clear hfz32_5
  try clear hfz32_6
  try clear hfz32_7
  try clear hfz32_8
  try clear hfz32_9
  try clear hfz34_0
  try clear hfz34_1
  try clear hfz34_10
  try clear hfz34_11
  try clear hfz34_12
  try clear hfz34_13
  try clear hfz34_2
  try clear hfz34_3
  try clear hfz34_4
  try clear hfz34_5
  try clear hfz34_6
  try clear hfz34_7
  try clear hfz34_8
  try clear hfz34_9
  try clear hfz35_0
  try clear hfz35_1
  try clear hfz35_10
  try clear hfz35_11
  try clear hfz35_12
  try clear hfz35_13
  try clear hfz35_2
  try clear hfz35_3
  try clear hfz35_4
  try clear hfz35_5
  try clear hfz35_6
  try clear hfz35_7
  try clear hfz35_8
  try clear hfz35_9
  try clear hfz37_0
  try clear hfz37_1
  try clear hfz37_10
  try clear hfz37_11
  try clear hfz37_12
  try clear hfz37_13
  try clear hfz37_2
  try clear hfz37_3
  try clear hfz37_4
  try clear hfz37_5
  try clear hfz37_6
  try clear hfz37_7
  try clear hfz37_8
  try clear hfz37_9
  try clear hfz38_0
  try clear hfz38_1
  try clear hfz38_10
  try clear hfz38_11
  try clear hfz38_12
  try clear hfz38_13
  try clear hfz38_2
  try clear hfz38_3
  try clear hfz38_4
  try clear hfz38_5
  try clear hfz38_6
  try clear hfz38_7
  try clear hfz38_8
  try clear hfz38_9
  try clear hfz40_0
  try clear hfz40_1
  try clear hfz40_10
  try clear hfz40_11
  try clear hfz40_12
  try clear hfz40_13
  try clear hfz40_2
  try clear hfz40_3
  try clear hfz40_4
  try clear hfz40_5
  try clear hfz40_6
  try clear hfz40_7
  try clear hfz40_8
  try clear hfz40_9
  try clear hfz41_0
  try clear hfz41_1
  try clear hfz41_10
  try clear hfz41_11
  try clear hfz41_12
  try clear hfz41_13
  try clear hfz41_2
  try clear hfz41_3
  try clear hfz41_4
  try clear hfz41_5
  try clear hfz41_6
  try clear hfz41_7
  try clear hfz41_8
  try clear hfz41_9
  try clear hfz43_0
  try clear hfz43_1
  try clear hfz43_10
  try clear hfz43_11
  try clear hfz43_12
  try clear hfz43_13
  try clear hfz43_2
  try clear hfz43_3
  try clear hfz43_4
  try clear hfz43_5
  try clear hfz43_6
  try clear hfz43_7
  try clear hfz43_8
  try clear hfz43_9
  try clear hfz44_0
  try clear hfz44_1
  try clear hfz44_10
  try clear hfz44_11
  try clear hfz44_12
  try clear hfz44_13
  try clear hfz44_2
  try clear hfz44_3
  try clear hfz44_4
  try clear hfz44_5
  try clear hfz44_6
  try clear hfz44_7
  try clear hfz44_8
  try clear hfz44_9
  try clear hfz46_0
  try clear hfz46_1
  try clear hfz46_10
  try clear hfz46_11
  try clear hfz46_12
  try clear hfz46_13
  try clear hfz46_2
  try clear hfz46_3
  try clear hfz46_4
  try clear hfz46_5
  try clear hfz46_6
  try clear hfz46_7
  try clear hfz46_8
  try clear hfz46_9
  try clear hfz47_0
  try clear hfz47_1
  try clear hfz47_10
  try clear hfz47_11
  try clear hfz47_12
  try clear hfz47_13
  try clear hfz47_2
  try clear hfz47_3
  try clear hfz47_4
  try clear hfz47_5
  try clear hfz47_6
  try clear hfz47_7
  try clear hfz47_8
  try clear hfz47_9
  try clear hfz49_0
  try clear hfz49_1
  try clear hfz49_10
  try clear hfz49_11
  try clear hfz49_12
  try clear hfz49_13
  try clear hfz49_2
  try clear hfz49_3
  try clear hfz49_4
  try clear hfz49_5
  try clear hfz49_6
  try clear hfz49_7
  try clear hfz49_8
  try clear hfz49_9
  try clear hfz50_0
  try clear hfz50_1
  try clear hfz50_10
  try clear hfz50_11
  try clear hfz50_12
  try clear hfz50_13
  try clear hfz50_2
  try clear hfz50_3
  try clear hfz50_4
  try clear hfz50_5
  try clear hfz50_6
  try clear hfz50_7
  try clear hfz50_8
  try clear hfz50_9
  try clear hfz52_0
  try clear hfz52_1
  try clear hfz52_10
  try clear hfz52_11
  try clear hfz52_12
  try clear hfz52_13
  try clear hfz52_2
  try clear hfz52_3
  try clear hfz52_4
  try clear hfz52_5
  try clear hfz52_6
  try clear hfz52_7
  try clear hfz52_8
  try clear hfz52_9
  try clear hfz53_0
  try clear hfz53_1
  try clear hfz53_10
  try clear hfz53_11
  try clear hfz53_12
  try clear hfz53_13
  try clear hfz53_2
  try clear hfz53_3
  try clear hfz53_4
  try clear hfz53_5
  try clear hfz53_6
  try clear hfz53_7
  try clear hfz53_8
  try clear hfz53_9
  try clear hfz55_0
  try clear hfz55_1
  try clear hfz55_10
  try clear hfz55_11
  try clear hfz55_12
  try clear hfz55_13
  try clear hfz55_2
  try clear hfz55_3
  try clear hfz55_4
  try clear hfz55_5
  try clear hfz55_6
  try clear hfz55_7
  try clear hfz55_8
  try clear hfz55_9
  try clear hfz56_0
  try clear hfz56_1
  try clear hfz56_10
  try clear hfz56_11
  try clear hfz56_12
  try clear hfz56_13
  try clear hfz56_2
  try clear hfz56_3
  try clear hfz56_4
  try clear hfz56_5
  try clear hfz56_6
  try clear hfz56_7
  try clear hfz56_8
  try clear hfz56_9
  obtain ⟨kq, x99_2, rfl, HA, HJ2, BK199, BK200, HB⟩ := hcut
  cases kq with
  | zero => exact absurd HA.out (by simp [supercargoref09_Same.j0])
  | succ kj2 =>
   have H := HA.out
   clear HA
   simp only [supercargoref09_Same.j0] at H
   by_cases c57 : x99_2 = true
   ·
    subst c57
    have H1 : (some false) = some r := by rw [if_pos rfl] at H; exact H
    clear H
    have H := H1
    clear H1
    obtain rfl := Option.some.inj H
    go_wp2
    go_ret
    exact ⟨by first | rfl | (simp [errW_none, errW_some] <;> rfl) | (simp [*, errW_none, errW_some] <;> rfl), by repeat (first | (with_reducible first | exact HB.out | apply below_alloc | apply pw_below_drewN | apply below_drew1 | refine below_set ?_ GE199.out | refine below_set ?_ GE200.out) | exact HB.out)⟩
   ·
    replace c57 := Bool.eq_false_iff.mpr c57
    subst c57
    have H1 : (supercargoref09_Same.l0 kj2 0 a0_0 a0_1 a0_2 a0_3 a0_4 a0_5 a0_6 a0_7 a0_8 a0_9 a0_10 a0_11 l0_12 l0_13 a1_0 a1_1 a1_2 a1_3 a1_4 a1_5 a1_6 a1_7 a1_8 a1_9 a1_10 a1_11 l1_12 l1_13) = some r := by rw [if_neg (show ¬ (false = true) by decide)] at H; exact H
    clear H
    have H := H1
    clear H1
    have H' := Aside0.mk H
    clear H
    go_wp2
    go_loopg [5] kj2 (fun kq v5 w' => ∃ (x5_2 : Int), v5 = .int .i64 x5_2 ∧ Aside0 (supercargoref09_Same.l0 kq x5_2 a0_0 a0_1 a0_2 a0_3 a0_4 a0_5 a0_6 a0_7 a0_8 a0_9 a0_10 a0_11 l0_12 l0_13 a1_0 a1_1 a1_2 a1_3 a1_4 a1_5 a1_6 a1_7 a1_8 a1_9 a1_10 a1_11 l1_12 l1_13 = some r) ∧ Aside0 (kq ≤ kj2) ∧ Aside0 (w'.heap[gb199]? = some (.cells #[.string a0_0, .string a0_1, .int .i64 a0_2, .int .i64 a0_3, .int .i64 a0_4, .string a0_5, .string a0_6, .string a0_7, .int .i64 a0_8, .int .i64 a0_9, .string a0_10, .int .i64 a0_11, (.slice A0_12 l0_12.length c0_12), (.slice A0_13 l0_13.length c0_13)] 33 (0, 0))) ∧ Aside0 (w'.heap[gb200]? = some (.cells #[.string a1_0, .string a1_1, .int .i64 a1_2, .int .i64 a1_3, .int .i64 a1_4, .string a1_5, .string a1_6, .string a1_7, .int .i64 a1_8, .int .i64 a1_9, .string a1_10, .int .i64 a1_11, (.slice A1_12 l1_12.length c1_12), (.slice A1_13 l1_13.length c1_13)] 33 (0, 0))) ∧ Aside0 (Below w.heap.size w w'))
    case atStart => exact ⟨(0), (by first | rfl | (simp; done) | (simp [*]; done)), H', ⟨Nat.le_refl _⟩, ⟨by (with_reducible repeat (first | refine blk_drewN ?_ _ | refine blk_drew ?_ | refine blk_alloc ?_ _)); exact BK199.out⟩, ⟨by (with_reducible repeat (first | refine blk_drewN ?_ _ | refine blk_drew ?_ | refine blk_alloc ?_ _)); exact BK200.out⟩, ⟨by repeat (first | (with_reducible first | exact HB.out | apply below_alloc | apply pw_below_drewN | apply below_drew1 | refine below_set ?_ GE199.out | refine below_set ?_ GE200.out) | exact HB.out)⟩⟩
    case round =>
     clear H'
     try clear c1
     try clear p2
     try clear c3
     try clear c4
     try clear c5
     try clear c6
     try clear c6b0
     try clear c6b1
     try clear c7
     try clear c7b0
     try clear c7b1
     try clear c8
     try clear c8b0
     try clear c8b1
     try clear c9
     try clear c9b0
     try clear c9b1
     try clear c10
     try clear c10b0
     try clear c10b1
     try clear c11
     try clear c11b0
     try clear c11b1
     try clear c12
     try clear c12b0
     try clear c12b1
     try clear c13
     try clear c13b0
     try clear c13b1
     try clear c14
     try clear c14b0
     try clear c14b1
     try clear c30
     try clear c33
     try clear c36
     try clear c39
     try clear c42
     try clear c45
     try clear c48
     try clear c51
     try clear c54
     try clear c57
     try clear hcz31_0
     try clear hcz31_1
     try clear hcz31_10
     try clear hcz31_11
     try clear hcz31_12
     try clear hcz31_13
     try clear hcz31_2
     try clear hcz31_3
     try clear hcz31_4
     try clear hcz31_5
     try clear hcz31_6
     try clear hcz31_7
     try clear hcz31_8
     try clear hcz31_9
     try clear hcz32_0
     try clear hcz32_1
     try clear hcz32_10
     try clear hcz32_11
     try clear hcz32_12
     try clear hcz32_13
     try clear hcz32_2
     try clear hcz32_3
     try clear hcz32_4
     try clear hcz32_5
     try clear hcz32_6
     try clear hcz32_7
     try clear hcz32_8
     try clear hcz32_9
     try clear hcz34_0
     try clear hcz34_1
     try clear hcz34_10
     try clear hcz34_11
     try clear hcz34_12
     try clear hcz34_13
     try clear hcz34_2
     try clear hcz34_3
     try clear hcz34_4
     try clear hcz34_5
     try clear hcz34_6
     try clear hcz34_7
     try clear hcz34_8
     try clear hcz34_9
     try clear hcz35_0
     try clear hcz35_1
     try clear hcz35_10
     try clear hcz35_11
     try clear hcz35_12
     try clear hcz35_13
     try clear hcz35_2
     try clear hcz35_3
     try clear hcz35_4
     try clear hcz35_5
     try clear hcz35_6
     try clear hcz35_7
     try clear hcz35_8
     try clear hcz35_9
     try clear hcz37_0
     try clear hcz37_1
     try clear hcz37_10
     try clear hcz37_11
     try clear hcz37_12
     try clear hcz37_13
     try clear hcz37_2
     try clear hcz37_3
     try clear hcz37_4
     try clear hcz37_5
     try clear hcz37_6
     try clear hcz37_7
     try clear hcz37_8
     try clear hcz37_9
     try clear hcz38_0
     try clear hcz38_1
     try clear hcz38_10
     try clear hcz38_11
     try clear hcz38_12
     try clear hcz38_13
     try clear hcz38_2
     try clear hcz38_3
     try clear hcz38_4
     try clear hcz38_5
     try clear hcz38_6
     try clear hcz38_7
     try clear hcz38_8
     try clear hcz38_9
     try clear hcz40_0
     try clear hcz40_1
     try clear hcz40_10
     try clear hcz40_11
     try clear hcz40_12
     try clear hcz40_13
     try clear hcz40_2
     try clear hcz40_3
     try clear hcz40_4
     try clear hcz40_5
     try clear hcz40_6
     try clear hcz40_7
     try clear hcz40_8
     try clear hcz40_9
     try clear hcz41_0
     try clear hcz41_1
     try clear hcz41_10
     try clear hcz41_11
     try clear hcz41_12
     try clear hcz41_13
     try clear hcz41_2
     try clear hcz41_3
     try clear hcz41_4
     try clear hcz41_5
     try clear hcz41_6
     try clear hcz41_7
     try clear hcz41_8
     try clear hcz41_9
     try clear hcz43_0
     try clear hcz43_1
     try clear hcz43_10
     try clear hcz43_11
     try clear hcz43_12
     try clear hcz43_13
     try clear hcz43_2
     try clear hcz43_3
     try clear hcz43_4
     try clear hcz43_5
     try clear hcz43_6
     try clear hcz43_7
     try clear hcz43_8
     try clear hcz43_9
     try clear hcz44_0
     try clear hcz44_1
     try clear hcz44_10
     try clear hcz44_11
     try clear hcz44_12
     try clear hcz44_13
     try clear hcz44_2
     try clear hcz44_3
     try clear hcz44_4
     try clear hcz44_5
     try clear hcz44_6
     try clear hcz44_7
     try clear hcz44_8
     try clear hcz44_9
     try clear hcz46_0
     try clear hcz46_1
     try clear hcz46_10
     try clear hcz46_11
     try clear hcz46_12
     try clear hcz46_13
     try clear hcz46_2
     try clear hcz46_3
     try clear hcz46_4
     try clear hcz46_5
     try clear hcz46_6
     try clear hcz46_7
     try clear hcz46_8
     try clear hcz46_9
     try clear hcz47_0
     try clear hcz47_1
     try clear hcz47_10
     try clear hcz47_11
     try clear hcz47_12
     try clear hcz47_13
     try clear hcz47_2
     try clear hcz47_3
     try clear hcz47_4
     try clear hcz47_5
     try clear hcz47_6
     try clear hcz47_7
     try clear hcz47_8
     try clear hcz47_9
     try clear hcz49_0
     try clear hcz49_1
     try clear hcz49_10
     try clear hcz49_11
     try clear hcz49_12
     try clear hcz49_13
     try clear hcz49_2
     try clear hcz49_3
     try clear hcz49_4
     try clear hcz49_5
     try clear hcz49_6
     try clear hcz49_7
     try clear hcz49_8
     try clear hcz49_9
     try clear hcz50_0
     try clear hcz50_1
     try clear hcz50_10
     try clear hcz50_11
     try clear hcz50_12
     try clear hcz50_13
     try clear hcz50_2
     try clear hcz50_3
     try clear hcz50_4
     try clear hcz50_5
     try clear hcz50_6
     try clear hcz50_7
     try clear hcz50_8
     try clear hcz50_9
     try clear hcz52_0
     try clear hcz52_1
     try clear hcz52_10
     try clear hcz52_11
     try clear hcz52_12
     try clear hcz52_13
     try clear hcz52_2
     try clear hcz52_3
     try clear hcz52_4
     try clear hcz52_5
     try clear hcz52_6
     try clear hcz52_7
     try clear hcz52_8
     try clear hcz52_9
     try clear hcz53_0
     try clear hcz53_1
     try clear hcz53_10
     try clear hcz53_11
     try clear hcz53_12
     try clear hcz53_13
     try clear hcz53_2
     try clear hcz53_3
     try clear hcz53_4
     try clear hcz53_5
     try clear hcz53_6
     try clear hcz53_7
     try clear hcz53_8
     try clear hcz53_9
     try clear hcz55_0
     try clear hcz55_1
     try clear hcz55_10
     try clear hcz55_11
     try clear hcz55_12
     try clear hcz55_13
     try clear hcz55_2
     try clear hcz55_3
     try clear hcz55_4
     try clear hcz55_5
     try clear hcz55_6
     try clear hcz55_7
     try clear hcz55_8
     try clear hcz55_9
     try clear hcz56_0
     try clear hcz56_1
     try clear hcz56_10
     try clear hcz56_11
     try clear hcz56_12
     try clear hcz56_13
     try clear hcz56_2
     try clear hcz56_3
     try clear hcz56_4
     try clear hcz56_5
     try clear hcz56_6
     try clear hcz56_7
     try clear hcz56_8
     try clear hcz56_9
     try clear hfz31_0
     try clear hfz31_1
     try clear hfz31_10
     try clear hfz31_11
     try clear hfz31_12
     try clear hfz31_13
     try clear hfz31_2
     try clear hfz31_3
     try clear hfz31_4
     try clear hfz31_5
     try clear hfz31_6
     try clear hfz31_7
     try clear hfz31_8
     try clear hfz31_9
     try clear hfz32_0
     try clear hfz32_1
     try clear hfz32_10
     try clear hfz32_11
     try clear hfz32_12
     try clear hfz32_13
     try clear hfz32_2
     try clear hfz32_3
     try clear hfz32_4
     try clear hfz32_5
     try clear hfz32_6
     try clear hfz32_7
     try clear hfz32_8
     try clear hfz32_9
     try clear hfz34_0
     try clear hfz34_1
     try clear hfz34_10
     try clear hfz34_11
     try clear hfz34_12
     try clear hfz34_13
     try clear hfz34_2
     try clear hfz34_3
     try clear hfz34_4
     try clear hfz34_5
     try clear hfz34_6
     try clear hfz34_7
     try clear hfz34_8
     try clear hfz34_9
     try clear hfz35_0
     try clear hfz35_1
     try clear hfz35_10
     try clear hfz35_11
     try clear hfz35_12
     try clear hfz35_13
     try clear hfz35_2
     try clear hfz35_3
     try clear hfz35_4
     try clear hfz35_5
     try clear hfz35_6
     try clear hfz35_7
     try clear hfz35_8
     try clear hfz35_9
     try clear hfz37_0
     try clear hfz37_1
     try clear hfz37_10
     try clear hfz37_11
     try clear hfz37_12
     try clear hfz37_13
     try clear hfz37_2
     try clear hfz37_3
     try clear hfz37_4
     try clear hfz37_5
     try clear hfz37_6
     try clear hfz37_7
     try clear hfz37_8
     try clear hfz37_9
     try clear hfz38_0
     try clear hfz38_1
     try clear hfz38_10
     try clear hfz38_11
     try clear hfz38_12
     try clear hfz38_13
     try clear hfz38_2
     try clear hfz38_3
     try clear hfz38_4
     try clear hfz38_5
     try clear hfz38_6
     try clear hfz38_7
     try clear hfz38_8
     try clear hfz38_9
     try clear hfz40_0
     try clear hfz40_1
     try clear hfz40_10
     try clear hfz40_11
     try clear hfz40_12
     try clear hfz40_13
     try clear hfz40_2
     try clear hfz40_3
     try clear hfz40_4
     try clear hfz40_5
     try clear hfz40_6
     try clear hfz40_7
     try clear hfz40_8
     try clear hfz40_9
     try clear hfz41_0
     try clear hfz41_1
     try clear hfz41_10
     try clear hfz41_11
     try clear hfz41_12
     try clear hfz41_13
     try clear hfz41_2
     try clear hfz41_3
     try clear hfz41_4
     try clear hfz41_5
     try clear hfz41_6
     try clear hfz41_7
     try clear hfz41_8
     try clear hfz41_9
     try clear hfz43_0
     try clear hfz43_1
     try clear hfz43_10
     try clear hfz43_11
     try clear hfz43_12
     try clear hfz43_13
     try clear hfz43_2
     try clear hfz43_3
     try clear hfz43_4
     try clear hfz43_5
     try clear hfz43_6
     try clear hfz43_7
     try clear hfz43_8
     try clear hfz43_9
     try clear hfz44_0
     try clear hfz44_1
     try clear hfz44_10
     try clear hfz44_11
     try clear hfz44_12
     try clear hfz44_13
     try clear hfz44_2
     try clear hfz44_3
     try clear hfz44_4
     try clear hfz44_5
     try clear hfz44_6
     try clear hfz44_7
     try clear hfz44_8
     try clear hfz44_9
     try clear hfz46_0
     try clear hfz46_1
     try clear hfz46_10
     try clear hfz46_11
     try clear hfz46_12
     try clear hfz46_13
     try clear hfz46_2
     try clear hfz46_3
     try clear hfz46_4
     try clear hfz46_5
     try clear hfz46_6
     try clear hfz46_7
     try clear hfz46_8
     try clear hfz46_9
     try clear hfz47_0
     try clear hfz47_1
     try clear hfz47_10
     try clear hfz47_11
     try clear hfz47_12
     try clear hfz47_13
     try clear hfz47_2
     try clear hfz47_3
     try clear hfz47_4
     try clear hfz47_5
     try clear hfz47_6
     try clear hfz47_7
     try clear hfz47_8
     try clear hfz47_9
     try clear hfz49_0
     try clear hfz49_1
     try clear hfz49_10
     try clear hfz49_11
     try clear hfz49_12
     try clear hfz49_13
     try clear hfz49_2
     try clear hfz49_3
     try clear hfz49_4
     try clear hfz49_5
     try clear hfz49_6
     try clear hfz49_7
     try clear hfz49_8
     try clear hfz49_9
     try clear hfz50_0
     try clear hfz50_1
     try clear hfz50_10
     try clear hfz50_11
     try clear hfz50_12
     try clear hfz50_13
     try clear hfz50_2
     try clear hfz50_3
     try clear hfz50_4
     try clear hfz50_5
     try clear hfz50_6
     try clear hfz50_7
     try clear hfz50_8
     try clear hfz50_9
     try clear hfz52_0
     try clear hfz52_1
     try clear hfz52_10
     try clear hfz52_11
     try clear hfz52_12
     try clear hfz52_13
     try clear hfz52_2
     try clear hfz52_3
     try clear hfz52_4
     try clear hfz52_5
     try clear hfz52_6
     try clear hfz52_7
     try clear hfz52_8
     try clear hfz52_9
     try clear hfz53_0
     try clear hfz53_1
     try clear hfz53_10
     try clear hfz53_11
     try clear hfz53_12
     try clear hfz53_13
     try clear hfz53_2
     try clear hfz53_3
     try clear hfz53_4
     try clear hfz53_5
     try clear hfz53_6
     try clear hfz53_7
     try clear hfz53_8
     try clear hfz53_9
     try clear hfz55_0
     try clear hfz55_1
     try clear hfz55_10
     try clear hfz55_11
     try clear hfz55_12
     try clear hfz55_13
     try clear hfz55_2
     try clear hfz55_3
     try clear hfz55_4
     try clear hfz55_5
     try clear hfz55_6
     try clear hfz55_7
     try clear hfz55_8
     try clear hfz55_9
     try clear hfz56_0
     try clear hfz56_1
     try clear hfz56_10
     try clear hfz56_11
     try clear hfz56_12
     try clear hfz56_13
     try clear hfz56_2
     try clear hfz56_3
     try clear hfz56_4
     try clear hfz56_5
     try clear hfz56_6
     try clear hfz56_7
     try clear hfz56_8
     try clear hfz56_9
     try clear p2
     obtain ⟨x5_2, rfl, HA, HK2, BK199, BK200, HB⟩ := hrel
     cases gk with
     | zero => exact absurd HA.out (by simp [supercargoref09_Same.l0])
     | succ k2 =>
      have H := HA.out
      clear HA
      simp only [supercargoref09_Same.l0] at H
      by_cases c58 : x5_2 < (l0_12.length : Int)
      ·
       rw [if_pos c58] at H
       have c58b0 : decide (x5_2 < (l0_12.length : Int)) = true := decide_eq_true c58
       clear c58
       by_cases c59 : 0 ≤ x5_2
       ·
        rw [if_pos c59] at H
        have c59b0 : decide (0 ≤ x5_2) = true := decide_eq_true c59
        clear c59
        by_cases c60 : x5_2 < (l1_12.length : Int)
        ·
         rw [if_pos c60] at H
         have c60b0 : decide (x5_2 < (l1_12.length : Int)) = true := decide_eq_true c60
         clear c60
         replace H := Option.bind_eq_some_iff.mp H
         obtain ⟨t203, A610, H⟩ := H
         replace H : (if t203 = true then (supercargoref09_Same.l0 k2 (wrap64 (x5_2 + 1)) a0_0 a0_1 a0_2 a0_3 a0_4 a0_5 a0_6 a0_7 a0_8 a0_9 a0_10 a0_11 l0_12 l0_13 a1_0 a1_1 a1_2 a1_3 a1_4 a1_5 a1_6 a1_7 a1_8 a1_9 a1_10 a1_11 l1_12 l1_13) else (some false)) = some r := H
         have A61 := Aside0.mk A610
         clear A610
         by_cases c62 : t203 = true
         ·
          subst c62
          have H1 : (supercargoref09_Same.l0 k2 (wrap64 (x5_2 + 1)) a0_0 a0_1 a0_2 a0_3 a0_4 a0_5 a0_6 a0_7 a0_8 a0_9 a0_10 a0_11 l0_12 l0_13 a1_0 a1_1 a1_2 a1_3 a1_4 a1_5 a1_6 a1_7 a1_8 a1_9 a1_10 a1_11 l1_12 l1_13) = some r := by rw [if_pos rfl] at H; exact H
          clear H
          have H := H1
          clear H1
          have H' := Aside0.mk H
          clear H
          have hnb63 := NB199_200.out
          have hnc63 := NB200_199.out
          have hcz64_0 : wr.cell? ⟨gb199, 0, none⟩ = some (.string a0_0) := (blk_cell BK199.out 0).trans rfl
          have hcz64_1 : wr.cell? ⟨gb199, 1, none⟩ = some (.string a0_1) := (blk_cell BK199.out 1).trans rfl
          have hcz64_2 : wr.cell? ⟨gb199, 2, none⟩ = some (.int .i64 a0_2) := (blk_cell BK199.out 2).trans rfl
          have hcz64_3 : wr.cell? ⟨gb199, 3, none⟩ = some (.int .i64 a0_3) := (blk_cell BK199.out 3).trans rfl
          have hcz64_4 : wr.cell? ⟨gb199, 4, none⟩ = some (.int .i64 a0_4) := (blk_cell BK199.out 4).trans rfl
          have hcz64_5 : wr.cell? ⟨gb199, 5, none⟩ = some (.string a0_5) := (blk_cell BK199.out 5).trans rfl
          have hcz64_6 : wr.cell? ⟨gb199, 6, none⟩ = some (.string a0_6) := (blk_cell BK199.out 6).trans rfl
          have hcz64_7 : wr.cell? ⟨gb199, 7, none⟩ = some (.string a0_7) := (blk_cell BK199.out 7).trans rfl
          have hcz64_8 : wr.cell? ⟨gb199, 8, none⟩ = some (.int .i64 a0_8) := (blk_cell BK199.out 8).trans rfl
          have hcz64_9 : wr.cell? ⟨gb199, 9, none⟩ = some (.int .i64 a0_9) := (blk_cell BK199.out 9).trans rfl
          have hcz64_10 : wr.cell? ⟨gb199, 10, none⟩ = some (.string a0_10) := (blk_cell BK199.out 10).trans rfl
          have hcz64_11 : wr.cell? ⟨gb199, 11, none⟩ = some (.int .i64 a0_11) := (blk_cell BK199.out 11).trans rfl
          have hcz64_12 : wr.cell? ⟨gb199, 12, none⟩ = some (.slice A0_12 l0_12.length c0_12) := (blk_cell BK199.out 12).trans rfl
          have hcz64_13 : wr.cell? ⟨gb199, 13, none⟩ = some (.slice A0_13 l0_13.length c0_13) := (blk_cell BK199.out 13).trans rfl
          have hfz64_0 := blk_frozen BK199.out 0
          have hfz64_1 := blk_frozen BK199.out 1
          have hfz64_2 := blk_frozen BK199.out 2
          have hfz64_3 := blk_frozen BK199.out 3
          have hfz64_4 := blk_frozen BK199.out 4
          have hfz64_5 := blk_frozen BK199.out 5
          have hfz64_6 := blk_frozen BK199.out 6
          have hfz64_7 := blk_frozen BK199.out 7
          have hfz64_8 := blk_frozen BK199.out 8
          have hfz64_9 := blk_frozen BK199.out 9
          have hfz64_10 := blk_frozen BK199.out 10
          have hfz64_11 := blk_frozen BK199.out 11
          have hfz64_12 := blk_frozen BK199.out 12
          have hfz64_13 := blk_frozen BK199.out 13
          try go_wp2
          have n0_ := Aside0.mk (blk_drew BK199.out)
          have n1_ := Aside0.mk (blk_drew BK200.out)
          have n2_ := Aside0.mk (below_drew1 HB.out)
          clear BK199
          clear BK200
          clear HB
          have BK199 := n0_
          have BK200 := n1_
          have HB := n2_
          clear n0_ n1_ n2_
          have p201 : 0 ≤ (x5_2 : Int) := of_decide_eq_true (by first | (with_reducible assumption) | assumption)
          have q201 : x5_2 < (l0_12.length : Int) := of_decide_eq_true (by first | (with_reducible assumption) | assumption)
          obtain ⟨ad201, A201_3, c201_3, e201, hx201_0, hx201_1, hx201_2, hx201_3, hl201_3, hi201_3⟩ := at_T38 HR0_12.out x5_2 p201 q201
          have hw201_3 := hx201_3
          have hw201_2 := hx201_2
          have hw201_1 := hx201_1
          have hw201_0 := hx201_0
          cases e201
          replace hx201_0 := (HB.out.cell (World.block_lt_of_cell? w _ hx201_0)).trans hx201_0
          replace hx201_1 := (HB.out.cell (World.block_lt_of_cell? w _ hx201_1)).trans hx201_1
          replace hx201_2 := (HB.out.cell (World.block_lt_of_cell? w _ hx201_2)).trans hx201_2
          replace hx201_3 := (HB.out.cell (World.block_lt_of_cell? w _ hx201_3)).trans hx201_3
          have HR201_3 := Aside0.mk hi201_3
          have HC201_3 := Aside0.mk hl201_3
          clear hi201_3 hl201_3
          replace p201 := eq_true p201
          replace q201 := eq_true q201
          have p202 : 0 ≤ (x5_2 : Int) := of_decide_eq_true (by first | (with_reducible assumption) | assumption)
          have q202 : x5_2 < (l1_12.length : Int) := of_decide_eq_true (by first | (with_reducible assumption) | assumption)
          obtain ⟨ad202, A202_3, c202_3, e202, hx202_0, hx202_1, hx202_2, hx202_3, hl202_3, hi202_3⟩ := at_T38 HR1_12.out x5_2 p202 q202
          have hw202_3 := hx202_3
          have hw202_2 := hx202_2
          have hw202_1 := hx202_1
          have hw202_0 := hx202_0
          cases e202
          replace hx202_0 := (HB.out.cell (World.block_lt_of_cell? w _ hx202_0)).trans hx202_0
          replace hx202_1 := (HB.out.cell (World.block_lt_of_cell? w _ hx202_1)).trans hx202_1
          replace hx202_2 := (HB.out.cell (World.block_lt_of_cell? w _ hx202_2)).trans hx202_2
          replace hx202_3 := (HB.out.cell (World.block_lt_of_cell? w _ hx202_3)).trans hx202_3
          have HR202_3 := Aside0.mk hi202_3
          have HC202_3 := Aside0.mk hl202_3
          clear hi202_3 hl202_3
          replace p202 := eq_true p202
          replace q202 := eq_true q202
          refine start_ (n := 12) (S := fun w' => w'.cell? ⟨gb199, 0, none⟩ = some (.string a0_0) ∧ w'.cell? ⟨gb199, 1, none⟩ = some (.string a0_1) ∧ w'.cell? ⟨gb199, 2, none⟩ = some (.int .i64 a0_2) ∧ w'.cell? ⟨gb199, 3, none⟩ = some (.int .i64 a0_3) ∧ w'.cell? ⟨gb199, 4, none⟩ = some (.int .i64 a0_4) ∧ w'.cell? ⟨gb199, 5, none⟩ = some (.string a0_5) ∧ w'.cell? ⟨gb199, 6, none⟩ = some (.string a0_6) ∧ w'.cell? ⟨gb199, 7, none⟩ = some (.string a0_7) ∧ w'.cell? ⟨gb199, 8, none⟩ = some (.int .i64 a0_8) ∧ w'.cell? ⟨gb199, 9, none⟩ = some (.int .i64 a0_9) ∧ w'.cell? ⟨gb199, 10, none⟩ = some (.string a0_10) ∧ w'.cell? ⟨gb199, 11, none⟩ = some (.int .i64 a0_11) ∧ w'.cell? ⟨gb199, 12, none⟩ = some (.slice (some ad201) l0_12.length c0_12) ∧ w'.cell? ⟨gb199, 13, none⟩ = some (.slice A0_13 l0_13.length c0_13) ∧ w'.cell? ⟨gb200, 0, none⟩ = some (.string a1_0) ∧ w'.cell? ⟨gb200, 1, none⟩ = some (.string a1_1) ∧ w'.cell? ⟨gb200, 2, none⟩ = some (.int .i64 a1_2) ∧ w'.cell? ⟨gb200, 3, none⟩ = some (.int .i64 a1_3) ∧ w'.cell? ⟨gb200, 4, none⟩ = some (.int .i64 a1_4) ∧ w'.cell? ⟨gb200, 5, none⟩ = some (.string a1_5) ∧ w'.cell? ⟨gb200, 6, none⟩ = some (.string a1_6) ∧ w'.cell? ⟨gb200, 7, none⟩ = some (.string a1_7) ∧ w'.cell? ⟨gb200, 8, none⟩ = some (.int .i64 a1_8) ∧ w'.cell? ⟨gb200, 9, none⟩ = some (.int .i64 a1_9) ∧ w'.cell? ⟨gb200, 10, none⟩ = some (.string a1_10) ∧ w'.cell? ⟨gb200, 11, none⟩ = some (.int .i64 a1_11) ∧ w'.cell? ⟨gb200, 12, none⟩ = some (.slice (some ad202) l1_12.length c1_12) ∧ w'.cell? ⟨gb200, 13, none⟩ = some (.slice A1_13 l1_13.length c1_13) ∧ w'.cell? (ad201.add ((x5_2).toNat * 4)) = some (.int .i64 ((rd_T38 l0_12 x5_2).f0)) ∧ w'.cell? ⟨(ad201.add ((x5_2).toNat * 4)).block, (ad201.add ((x5_2).toNat * 4)).off + 1, none⟩ = some (.string ((rd_T38 l0_12 x5_2).f1)) ∧ w'.cell? ⟨(ad201.add ((x5_2).toNat * 4)).block, (ad201.add ((x5_2).toNat * 4)).off + 2, none⟩ = some (.string ((rd_T38 l0_12 x5_2).f2)) ∧ w'.cell? ⟨(ad201.add ((x5_2).toNat * 4)).block, (ad201.add ((x5_2).toNat * 4)).off + 3, none⟩ = some (.slice A201_3 ((rd_T38 l0_12 x5_2).f3).length c201_3) ∧ w'.cell? (ad202.add ((x5_2).toNat * 4)) = some (.int .i64 ((rd_T38 l1_12 x5_2).f0)) ∧ w'.cell? ⟨(ad202.add ((x5_2).toNat * 4)).block, (ad202.add ((x5_2).toNat * 4)).off + 1, none⟩ = some (.string ((rd_T38 l1_12 x5_2).f1)) ∧ w'.cell? ⟨(ad202.add ((x5_2).toNat * 4)).block, (ad202.add ((x5_2).toNat * 4)).off + 2, none⟩ = some (.string ((rd_T38 l1_12 x5_2).f2)) ∧ w'.cell? ⟨(ad202.add ((x5_2).toNat * 4)).block, (ad202.add ((x5_2).toNat * 4)).off + 3, none⟩ = some (.slice A202_3 ((rd_T38 l1_12 x5_2).f3).length c202_3)) (ds := []) #[false, false, false, false, false, false, false, false, false, false, false, false] (by kernel_rfl) rfl rfl ⟨(blk_cell BK199.out 0).trans rfl, (blk_cell BK199.out 1).trans rfl, (blk_cell BK199.out 2).trans rfl, (blk_cell BK199.out 3).trans rfl, (blk_cell BK199.out 4).trans rfl, (blk_cell BK199.out 5).trans rfl, (blk_cell BK199.out 6).trans rfl, (blk_cell BK199.out 7).trans rfl, (blk_cell BK199.out 8).trans rfl, (blk_cell BK199.out 9).trans rfl, (blk_cell BK199.out 10).trans rfl, (blk_cell BK199.out 11).trans rfl, (blk_cell BK199.out 12).trans rfl, (blk_cell BK199.out 13).trans rfl, (blk_cell BK200.out 0).trans rfl, (blk_cell BK200.out 1).trans rfl, (blk_cell BK200.out 2).trans rfl, (blk_cell BK200.out 3).trans rfl, (blk_cell BK200.out 4).trans rfl, (blk_cell BK200.out 5).trans rfl, (blk_cell BK200.out 6).trans rfl, (blk_cell BK200.out 7).trans rfl, (blk_cell BK200.out 8).trans rfl, (blk_cell BK200.out 9).trans rfl, (blk_cell BK200.out 10).trans rfl, (blk_cell BK200.out 11).trans rfl, (blk_cell BK200.out 12).trans rfl, (blk_cell BK200.out 13).trans rfl, ((HB.out.cell (World.block_lt_of_cell? w _ hw201_0)).trans hw201_0), ((HB.out.cell (World.block_lt_of_cell? w _ hw201_1)).trans hw201_1), ((HB.out.cell (World.block_lt_of_cell? w _ hw201_2)).trans hw201_2), ((HB.out.cell (World.block_lt_of_cell? w _ hw201_3)).trans hw201_3), ((HB.out.cell (World.block_lt_of_cell? w _ hw202_0)).trans hw202_0), ((HB.out.cell (World.block_lt_of_cell? w _ hw202_1)).trans hw202_1), ((HB.out.cell (World.block_lt_of_cell? w _ hw202_2)).trans hw202_2), ((HB.out.cell (World.block_lt_of_cell? w _ hw202_3)).trans hw202_3)⟩ (fun hHeld => ?_); refine with_tabW supercargoref09_Same.tab6 supercargoref09_Same.bits6 (fun HT_ HW_ => ?_)
          generalize wr.drew = w65 at BK199 BK200 HB HR201_3 HR202_3 hx201_0 hx201_1 hx201_2 hx201_3 hx202_0 hx202_1 hx202_2 hx202_3 hHeld ⊢
          refine pure_ (i := 0) (N := some 107) (v := ?_) (a' := ?_) #[true, false, false, false, false, false, false, false, false, false, false, false] rfl rfl (any_of HT_.out (by kernel_rfl)) (fun _ _ _ h => h) (Or.inl ⟨by rfl, ?_⟩) ?_ ?_
          rotate_left
          ·
           intro w'
           go_simp
           with_reducible rfl
          rotate_left
          ·
           simp only [Act.put, List.setIfInBounds_toArray, List.set_cons_zero, List.set_cons_succ, i64_w, i32_w]
           rfl
          refine pure_ (i := 2) (N := some 109) (v := ?_) (a' := ?_) #[true, false, true, false, false, false, false, false, false, false, false, false] rfl rfl (any_of HT_.out (by kernel_rfl)) (fun _ _ _ h => h) (Or.inl ⟨by rfl, ?_⟩) ?_ ?_
          rotate_left
          ·
           intro w'
           go_simp
           with_reducible rfl
          rotate_left
          ·
           simp only [Act.put, List.setIfInBounds_toArray, List.set_cons_zero, List.set_cons_succ, i64_w, i32_w]
           rfl
          refine pure_ (i := 5) (N := some 112) (v := ?_) (a' := ?_) #[true, false, true, false, false, true, false, false, false, false, false, false] rfl rfl (any_of HT_.out (by kernel_rfl)) (fun _ _ _ h => h) (Or.inl ⟨by rfl, ?_⟩) ?_ ?_
          rotate_left
          ·
           intro w'
           go_simp
           with_reducible rfl
          rotate_left
          ·
           simp only [Act.put, List.setIfInBounds_toArray, List.set_cons_zero, List.set_cons_succ, i64_w, i32_w]
           rfl
          refine pure_ (i := 7) (N := some 114) (v := ?_) (a' := ?_) #[true, false, true, false, false, true, false, true, false, false, false, false] rfl rfl (any_of HT_.out (by kernel_rfl)) (fun _ _ _ h => h) (Or.inl ⟨by rfl, ?_⟩) ?_ ?_
          rotate_left
          ·
           intro w'
           go_simp
           with_reducible rfl
          rotate_left
          ·
           simp only [Act.put, List.setIfInBounds_toArray, List.set_cons_zero, List.set_cons_succ, i64_w, i32_w]
           rfl
          refine take_ (i := 1) (N := some 108) (v := ?_) (a' := ?_) #[true, true, true, false, false, true, false, true, false, false, false, false] rfl rfl (take_ofW HT_.out HW_.out (by kernel_rfl)) (fun _ _ _ h => h) (Or.inl ⟨by rfl, ?_⟩) hHeld ?_ ?_
          rotate_left
          ·
           rintro w' ⟨s0, s1, s2, s3, s4, s5, s6, s7, s8, s9, s10, s11, s12, s13, s14, s15, s16, s17, s18, s19, s20, s21, s22, s23, s24, s25, s26, s27, s28, s29, s30, s31, s32, s33, s34, s35⟩
           go_simp
           with_reducible rfl
          rotate_left
          ·
           simp only [Act.put, List.setIfInBounds_toArray, List.set_cons_zero, List.set_cons_succ, i64_w, i32_w]
           rfl
          refine pure_ (i := 3) (N := some 110) (v := ?_) (a' := ?_) #[true, true, true, true, false, true, false, true, false, false, false, false] rfl rfl (any_of HT_.out (by kernel_rfl)) (fun _ _ _ h => h) (Or.inl ⟨by rfl, ?_⟩) ?_ ?_
          rotate_left
          ·
           intro w'
           go_simp
           with_reducible rfl
          rotate_left
          ·
           simp only [Act.put, List.setIfInBounds_toArray, List.set_cons_zero, List.set_cons_succ, i64_w, i32_w]
           rfl
          refine take_ (i := 4) (N := some 111) (v := ?_) (a' := ?_) #[true, true, true, true, true, true, false, true, false, false, false, false] rfl rfl (take_ofW HT_.out HW_.out (by kernel_rfl)) (fun _ _ _ h => h) (Or.inl ⟨by rfl, ?_⟩) hHeld ?_ ?_
          rotate_left
          ·
           rintro w' ⟨s0, s1, s2, s3, s4, s5, s6, s7, s8, s9, s10, s11, s12, s13, s14, s15, s16, s17, s18, s19, s20, s21, s22, s23, s24, s25, s26, s27, s28, s29, s30, s31, s32, s33, s34, s35⟩
           go_simp
           with_reducible rfl
          rotate_left
          ·
           simp only [Act.put, List.setIfInBounds_toArray, List.set_cons_zero, List.set_cons_succ, i64_w, i32_w]
           rfl
          refine take_ (i := 6) (N := some 113) (v := ?_) (a' := ?_) #[true, true, true, true, true, true, true, true, false, false, false, false] rfl rfl (take_ofW HT_.out HW_.out (by kernel_rfl)) (fun _ _ _ h => h) (Or.inl ⟨by rfl, ?_⟩) hHeld ?_ ?_
          rotate_left
          ·
           rintro w' ⟨s0, s1, s2, s3, s4, s5, s6, s7, s8, s9, s10, s11, s12, s13, s14, s15, s16, s17, s18, s19, s20, s21, s22, s23, s24, s25, s26, s27, s28, s29, s30, s31, s32, s33, s34, s35⟩
           go_simp
           with_reducible rfl
          rotate_left
          ·
           simp only [Act.put, List.setIfInBounds_toArray, List.set_cons_zero, List.set_cons_succ, i64_w, i32_w]
           rfl
          refine pure_ (i := 8) (N := some 115) (v := ?_) (a' := ?_) #[true, true, true, true, true, true, true, true, true, false, false, false] rfl rfl (any_of HT_.out (by kernel_rfl)) (fun _ _ _ h => h) (Or.inl ⟨by rfl, ?_⟩) ?_ ?_
          rotate_left
          ·
           intro w'
           go_simp
           with_reducible rfl
          rotate_left
          ·
           simp only [Act.put, List.setIfInBounds_toArray, List.set_cons_zero, List.set_cons_succ, i64_w, i32_w]
           rfl
          refine take_ (i := 9) (N := some 116) (v := ?_) (a' := ?_) #[true, true, true, true, true, true, true, true, true, true, false, false] rfl rfl (take_ofW HT_.out HW_.out (by kernel_rfl)) (fun _ _ _ h => h) (Or.inl ⟨by rfl, ?_⟩) hHeld ?_ ?_
          rotate_left
          ·
           rintro w' ⟨s0, s1, s2, s3, s4, s5, s6, s7, s8, s9, s10, s11, s12, s13, s14, s15, s16, s17, s18, s19, s20, s21, s22, s23, s24, s25, s26, s27, s28, s29, s30, s31, s32, s33, s34, s35⟩
           go_simp
           with_reducible rfl
          rotate_left
          ·
           simp only [Act.put, List.setIfInBounds_toArray, List.set_cons_zero, List.set_cons_succ, i64_w, i32_w]
           rfl
          refine one_ (i := 10) (N := some 117) #[true, true, true, true, true, true, true, true, true, true, true, false] rfl rfl (one_of HT_.out (by kernel_rfl)) (by decide) (fun K hK => ?_)
          refine goes_ Tryz.func35 (by kernel_rfl) rfl #[.agg #[.int .i64 ((rd_T38 l0_12 x5_2).f0), .string ((rd_T38 l0_12 x5_2).f1), .string ((rd_T38 l0_12 x5_2).f2), .slice A201_3 ((rd_T38 l0_12 x5_2).f3).length c201_3], .agg #[.int .i64 ((rd_T38 l1_12 x5_2).f0), .string ((rd_T38 l1_12 x5_2).f1), .string ((rd_T38 l1_12 x5_2).f2), .slice A202_3 ((rd_T38 l1_12 x5_2).f3).length c202_3]] (by rfl) rfl rfl (by (try simp only [List.map_toArray, List.map_cons, List.map_nil]); first | done | rfl | (simp only [List.length_drop, List.length_take]; rfl)) ?_
          with_reducible refine (supercargoref05_Alike.calls k2 ((rd_T38 l0_12 x5_2).f0) ((rd_T38 l0_12 x5_2).f1) ((rd_T38 l0_12 x5_2).f2) _ _ ((rd_T38 l0_12 x5_2).f3) ((rd_T38 l1_12 x5_2).f0) ((rd_T38 l1_12 x5_2).f1) ((rd_T38 l1_12 x5_2).f2) _ _ ((rd_T38 l1_12 x5_2).f3) true _ ?side1 ?side2 ?side3 ?side4 A61.out).mono ?_
          (case side1 => repeat (first | exact (Kd.C_below HR201_3.out HB.out) | (with_reducible refine Kd.C_alloc ?_ _) | (with_reducible refine Kd.C_drewN ?_ _) | (with_reducible refine Kd.C_drew ?_)))
          (case side2 => exact HC201_3.out)
          (case side3 => repeat (first | exact (Kd.C_below HR202_3.out HB.out) | (with_reducible refine Kd.C_alloc ?_ _) | (with_reducible refine Kd.C_drewN ?_ _) | (with_reducible refine Kd.C_drew ?_)))
          (case side4 => exact HC202_3.out)
          rintro e w66 ⟨rfl, hb⟩
          refine ⟨_, rfl, ?_⟩
          have n0_ := Aside0.mk (blk_below (g := gb199) (o := .cells #[.string a0_0, .string a0_1, .int .i64 a0_2, .int .i64 a0_3, .int .i64 a0_4, .string a0_5, .string a0_6, .string a0_7, .int .i64 a0_8, .int .i64 a0_9, .string a0_10, .int .i64 a0_11, .slice (some ad201) l0_12.length c0_12, .slice A0_13 l0_13.length c0_13] 33 (0, 0)) (by (with_reducible repeat (first | refine blk_drewN ?_ _ | refine blk_drew ?_ | refine blk_alloc ?_ _)); exact BK199.out) hb)
          have n1_ := Aside0.mk (blk_below (g := gb200) (o := .cells #[.string a1_0, .string a1_1, .int .i64 a1_2, .int .i64 a1_3, .int .i64 a1_4, .string a1_5, .string a1_6, .string a1_7, .int .i64 a1_8, .int .i64 a1_9, .string a1_10, .int .i64 a1_11, .slice (some ad202) l1_12.length c1_12, .slice A1_13 l1_13.length c1_13] 33 (0, 0)) (by (with_reducible repeat (first | refine blk_drewN ?_ _ | refine blk_drew ?_ | refine blk_alloc ?_ _)); exact BK200.out) hb)
          have n2_ := Aside0.mk (below_step (by repeat (first | (with_reducible first | exact HB.out | apply below_alloc | apply pw_below_drewN | apply below_drew1 | refine below_set ?_ GE199.out | refine below_set ?_ GE200.out) | exact HB.out)) hb)
          clear BK199
          clear BK200
          clear HB
          have BK199 := n0_
          have BK200 := n1_
          have HB := n2_
          clear n0_ n1_ n2_
          (try clear hb)
          (try clear hb2)
          (try clear hk)
          (try clear hi)
          refine hK.out _ _ ⟨(blk_cell BK199.out 0).trans rfl, (blk_cell BK199.out 1).trans rfl, (blk_cell BK199.out 2).trans rfl, (blk_cell BK199.out 3).trans rfl, (blk_cell BK199.out 4).trans rfl, (blk_cell BK199.out 5).trans rfl, (blk_cell BK199.out 6).trans rfl, (blk_cell BK199.out 7).trans rfl, (blk_cell BK199.out 8).trans rfl, (blk_cell BK199.out 9).trans rfl, (blk_cell BK199.out 10).trans rfl, (blk_cell BK199.out 11).trans rfl, (blk_cell BK199.out 12).trans rfl, (blk_cell BK199.out 13).trans rfl, (blk_cell BK200.out 0).trans rfl, (blk_cell BK200.out 1).trans rfl, (blk_cell BK200.out 2).trans rfl, (blk_cell BK200.out 3).trans rfl, (blk_cell BK200.out 4).trans rfl, (blk_cell BK200.out 5).trans rfl, (blk_cell BK200.out 6).trans rfl, (blk_cell BK200.out 7).trans rfl, (blk_cell BK200.out 8).trans rfl, (blk_cell BK200.out 9).trans rfl, (blk_cell BK200.out 10).trans rfl, (blk_cell BK200.out 11).trans rfl, (blk_cell BK200.out 12).trans rfl, (blk_cell BK200.out 13).trans rfl, ((HB.out.cell (World.block_lt_of_cell? w _ hw201_0)).trans hw201_0), ((HB.out.cell (World.block_lt_of_cell? w _ hw201_1)).trans hw201_1), ((HB.out.cell (World.block_lt_of_cell? w _ hw201_2)).trans hw201_2), ((HB.out.cell (World.block_lt_of_cell? w _ hw201_3)).trans hw201_3), ((HB.out.cell (World.block_lt_of_cell? w _ hw202_0)).trans hw202_0), ((HB.out.cell (World.block_lt_of_cell? w _ hw202_1)).trans hw202_1), ((HB.out.cell (World.block_lt_of_cell? w _ hw202_2)).trans hw202_2), ((HB.out.cell (World.block_lt_of_cell? w _ hw202_3)).trans hw202_3)⟩ (fun hHeld => ?_)
          clear hK K
          refine norm_ (a' := ?_) ?_ ?_
          rotate_left
          ·
           show Act.put _ (some 117) _ = _
           simp only [Act.put, List.setIfInBounds_toArray, List.set_cons_zero, List.set_cons_succ, i64_w, i32_w]
           rfl
          refine pure_ (i := 11) (N := some 118) (v := ?_) (a' := ?_) #[true, true, true, true, true, true, true, true, true, true, true, true] rfl rfl (any_of HT_.out (by kernel_rfl)) (fun _ _ _ h => h) (Or.inl ⟨by rfl, ?_⟩) ?_ ?_
          rotate_left
          ·
           intro w'
           go_simp
           with_reducible rfl
          rotate_left
          ·
           simp only [Act.put, List.setIfInBounds_toArray, List.set_cons_zero, List.set_cons_succ, i64_w, i32_w]
           rfl
          refine done_ (done_of HT_.out (by kernel_rfl)) ?_
          try go_wp2
          go_roundg k2
          case measure => have := HJ2.out; have := HK2.out; omega
          case rel => exact ⟨(wrap64 (x5_2 + 1)), (by first | rfl | (simp; done) | (simp [*]; done)), H', ⟨by have := HJ2.out; have := HK2.out; omega⟩, ⟨by (with_reducible repeat (first | refine blk_drewN ?_ _ | refine blk_drew ?_ | refine blk_alloc ?_ _)); exact BK199.out⟩, ⟨by (with_reducible repeat (first | refine blk_drewN ?_ _ | refine blk_drew ?_ | refine blk_alloc ?_ _)); exact BK200.out⟩, ⟨by repeat (first | (with_reducible first | exact HB.out | apply below_alloc | apply pw_below_drewN | apply below_drew1 | refine below_set ?_ GE199.out | refine below_set ?_ GE200.out) | exact HB.out)⟩⟩
         ·
          replace c62 := Bool.eq_false_iff.mpr c62
          subst c62
          have H1 : (some false) = some r := by rw [if_neg (show ¬ (false = true) by decide)] at H; exact H
          clear H
          have H := H1
          clear H1
          obtain rfl := Option.some.inj H
          have hnb67 := NB199_200.out
          have hnc67 := NB200_199.out
          have hcz68_0 : wr.cell? ⟨gb199, 0, none⟩ = some (.string a0_0) := (blk_cell BK199.out 0).trans rfl
          have hcz68_1 : wr.cell? ⟨gb199, 1, none⟩ = some (.string a0_1) := (blk_cell BK199.out 1).trans rfl
          have hcz68_2 : wr.cell? ⟨gb199, 2, none⟩ = some (.int .i64 a0_2) := (blk_cell BK199.out 2).trans rfl
          have hcz68_3 : wr.cell? ⟨gb199, 3, none⟩ = some (.int .i64 a0_3) := (blk_cell BK199.out 3).trans rfl
          have hcz68_4 : wr.cell? ⟨gb199, 4, none⟩ = some (.int .i64 a0_4) := (blk_cell BK199.out 4).trans rfl
          have hcz68_5 : wr.cell? ⟨gb199, 5, none⟩ = some (.string a0_5) := (blk_cell BK199.out 5).trans rfl
          have hcz68_6 : wr.cell? ⟨gb199, 6, none⟩ = some (.string a0_6) := (blk_cell BK199.out 6).trans rfl
          have hcz68_7 : wr.cell? ⟨gb199, 7, none⟩ = some (.string a0_7) := (blk_cell BK199.out 7).trans rfl
          have hcz68_8 : wr.cell? ⟨gb199, 8, none⟩ = some (.int .i64 a0_8) := (blk_cell BK199.out 8).trans rfl
          have hcz68_9 : wr.cell? ⟨gb199, 9, none⟩ = some (.int .i64 a0_9) := (blk_cell BK199.out 9).trans rfl
          have hcz68_10 : wr.cell? ⟨gb199, 10, none⟩ = some (.string a0_10) := (blk_cell BK199.out 10).trans rfl
          have hcz68_11 : wr.cell? ⟨gb199, 11, none⟩ = some (.int .i64 a0_11) := (blk_cell BK199.out 11).trans rfl
          have hcz68_12 : wr.cell? ⟨gb199, 12, none⟩ = some (.slice A0_12 l0_12.length c0_12) := (blk_cell BK199.out 12).trans rfl
          have hcz68_13 : wr.cell? ⟨gb199, 13, none⟩ = some (.slice A0_13 l0_13.length c0_13) := (blk_cell BK199.out 13).trans rfl
          have hfz68_0 := blk_frozen BK199.out 0
          have hfz68_1 := blk_frozen BK199.out 1
          have hfz68_2 := blk_frozen BK199.out 2
          have hfz68_3 := blk_frozen BK199.out 3
          have hfz68_4 := blk_frozen BK199.out 4
          have hfz68_5 := blk_frozen BK199.out 5
          have hfz68_6 := blk_frozen BK199.out 6
          have hfz68_7 := blk_frozen BK199.out 7
          have hfz68_8 := blk_frozen BK199.out 8
          have hfz68_9 := blk_frozen BK199.out 9
          have hfz68_10 := blk_frozen BK199.out 10
          have hfz68_11 := blk_frozen BK199.out 11
          have hfz68_12 := blk_frozen BK199.out 12
          have hfz68_13 := blk_frozen BK199.out 13
          try go_wp2
          have n0_ := Aside0.mk (blk_drew BK199.out)
          have n1_ := Aside0.mk (blk_drew BK200.out)
          have n2_ := Aside0.mk (below_drew1 HB.out)
          clear BK199
          clear BK200
          clear HB
          have BK199 := n0_
          have BK200 := n1_
          have HB := n2_
          clear n0_ n1_ n2_
          have p201 : 0 ≤ (x5_2 : Int) := of_decide_eq_true (by first | (with_reducible assumption) | assumption)
          have q201 : x5_2 < (l0_12.length : Int) := of_decide_eq_true (by first | (with_reducible assumption) | assumption)
          obtain ⟨ad201, A201_3, c201_3, e201, hx201_0, hx201_1, hx201_2, hx201_3, hl201_3, hi201_3⟩ := at_T38 HR0_12.out x5_2 p201 q201
          have hw201_3 := hx201_3
          have hw201_2 := hx201_2
          have hw201_1 := hx201_1
          have hw201_0 := hx201_0
          cases e201
          replace hx201_0 := (HB.out.cell (World.block_lt_of_cell? w _ hx201_0)).trans hx201_0
          replace hx201_1 := (HB.out.cell (World.block_lt_of_cell? w _ hx201_1)).trans hx201_1
          replace hx201_2 := (HB.out.cell (World.block_lt_of_cell? w _ hx201_2)).trans hx201_2
          replace hx201_3 := (HB.out.cell (World.block_lt_of_cell? w _ hx201_3)).trans hx201_3
          have HR201_3 := Aside0.mk hi201_3
          have HC201_3 := Aside0.mk hl201_3
          clear hi201_3 hl201_3
          replace p201 := eq_true p201
          replace q201 := eq_true q201
          have p202 : 0 ≤ (x5_2 : Int) := of_decide_eq_true (by first | (with_reducible assumption) | assumption)
          have q202 : x5_2 < (l1_12.length : Int) := of_decide_eq_true (by first | (with_reducible assumption) | assumption)
          obtain ⟨ad202, A202_3, c202_3, e202, hx202_0, hx202_1, hx202_2, hx202_3, hl202_3, hi202_3⟩ := at_T38 HR1_12.out x5_2 p202 q202
          have hw202_3 := hx202_3
          have hw202_2 := hx202_2
          have hw202_1 := hx202_1
          have hw202_0 := hx202_0
          cases e202
          replace hx202_0 := (HB.out.cell (World.block_lt_of_cell? w _ hx202_0)).trans hx202_0
          replace hx202_1 := (HB.out.cell (World.block_lt_of_cell? w _ hx202_1)).trans hx202_1
          replace hx202_2 := (HB.out.cell (World.block_lt_of_cell? w _ hx202_2)).trans hx202_2
          replace hx202_3 := (HB.out.cell (World.block_lt_of_cell? w _ hx202_3)).trans hx202_3
          have HR202_3 := Aside0.mk hi202_3
          have HC202_3 := Aside0.mk hl202_3
          clear hi202_3 hl202_3
          replace p202 := eq_true p202
          replace q202 := eq_true q202
          refine start_ (n := 12) (S := fun w' => w'.cell? ⟨gb199, 0, none⟩ = some (.string a0_0) ∧ w'.cell? ⟨gb199, 1, none⟩ = some (.string a0_1) ∧ w'.cell? ⟨gb199, 2, none⟩ = some (.int .i64 a0_2) ∧ w'.cell? ⟨gb199, 3, none⟩ = some (.int .i64 a0_3) ∧ w'.cell? ⟨gb199, 4, none⟩ = some (.int .i64 a0_4) ∧ w'.cell? ⟨gb199, 5, none⟩ = some (.string a0_5) ∧ w'.cell? ⟨gb199, 6, none⟩ = some (.string a0_6) ∧ w'.cell? ⟨gb199, 7, none⟩ = some (.string a0_7) ∧ w'.cell? ⟨gb199, 8, none⟩ = some (.int .i64 a0_8) ∧ w'.cell? ⟨gb199, 9, none⟩ = some (.int .i64 a0_9) ∧ w'.cell? ⟨gb199, 10, none⟩ = some (.string a0_10) ∧ w'.cell? ⟨gb199, 11, none⟩ = some (.int .i64 a0_11) ∧ w'.cell? ⟨gb199, 12, none⟩ = some (.slice (some ad201) l0_12.length c0_12) ∧ w'.cell? ⟨gb199, 13, none⟩ = some (.slice A0_13 l0_13.length c0_13) ∧ w'.cell? ⟨gb200, 0, none⟩ = some (.string a1_0) ∧ w'.cell? ⟨gb200, 1, none⟩ = some (.string a1_1) ∧ w'.cell? ⟨gb200, 2, none⟩ = some (.int .i64 a1_2) ∧ w'.cell? ⟨gb200, 3, none⟩ = some (.int .i64 a1_3) ∧ w'.cell? ⟨gb200, 4, none⟩ = some (.int .i64 a1_4) ∧ w'.cell? ⟨gb200, 5, none⟩ = some (.string a1_5) ∧ w'.cell? ⟨gb200, 6, none⟩ = some (.string a1_6) ∧ w'.cell? ⟨gb200, 7, none⟩ = some (.string a1_7) ∧ w'.cell? ⟨gb200, 8, none⟩ = some (.int .i64 a1_8) ∧ w'.cell? ⟨gb200, 9, none⟩ = some (.int .i64 a1_9) ∧ w'.cell? ⟨gb200, 10, none⟩ = some (.string a1_10) ∧ w'.cell? ⟨gb200, 11, none⟩ = some (.int .i64 a1_11) ∧ w'.cell? ⟨gb200, 12, none⟩ = some (.slice (some ad202) l1_12.length c1_12) ∧ w'.cell? ⟨gb200, 13, none⟩ = some (.slice A1_13 l1_13.length c1_13) ∧ w'.cell? (ad201.add ((x5_2).toNat * 4)) = some (.int .i64 ((rd_T38 l0_12 x5_2).f0)) ∧ w'.cell? ⟨(ad201.add ((x5_2).toNat * 4)).block, (ad201.add ((x5_2).toNat * 4)).off + 1, none⟩ = some (.string ((rd_T38 l0_12 x5_2).f1)) ∧ w'.cell? ⟨(ad201.add ((x5_2).toNat * 4)).block, (ad201.add ((x5_2).toNat * 4)).off + 2, none⟩ = some (.string ((rd_T38 l0_12 x5_2).f2)) ∧ w'.cell? ⟨(ad201.add ((x5_2).toNat * 4)).block, (ad201.add ((x5_2).toNat * 4)).off + 3, none⟩ = some (.slice A201_3 ((rd_T38 l0_12 x5_2).f3).length c201_3) ∧ w'.cell? (ad202.add ((x5_2).toNat * 4)) = some (.int .i64 ((rd_T38 l1_12 x5_2).f0)) ∧ w'.cell? ⟨(ad202.add ((x5_2).toNat * 4)).block, (ad202.add ((x5_2).toNat * 4)).off + 1, none⟩ = some (.string ((rd_T38 l1_12 x5_2).f1)) ∧ w'.cell? ⟨(ad202.add ((x5_2).toNat * 4)).block, (ad202.add ((x5_2).toNat * 4)).off + 2, none⟩ = some (.string ((rd_T38 l1_12 x5_2).f2)) ∧ w'.cell? ⟨(ad202.add ((x5_2).toNat * 4)).block, (ad202.add ((x5_2).toNat * 4)).off + 3, none⟩ = some (.slice A202_3 ((rd_T38 l1_12 x5_2).f3).length c202_3)) (ds := []) #[false, false, false, false, false, false, false, false, false, false, false, false] (by kernel_rfl) rfl rfl ⟨(blk_cell BK199.out 0).trans rfl, (blk_cell BK199.out 1).trans rfl, (blk_cell BK199.out 2).trans rfl, (blk_cell BK199.out 3).trans rfl, (blk_cell BK199.out 4).trans rfl, (blk_cell BK199.out 5).trans rfl, (blk_cell BK199.out 6).trans rfl, (blk_cell BK199.out 7).trans rfl, (blk_cell BK199.out 8).trans rfl, (blk_cell BK199.out 9).trans rfl, (blk_cell BK199.out 10).trans rfl, (blk_cell BK199.out 11).trans rfl, (blk_cell BK199.out 12).trans rfl, (blk_cell BK199.out 13).trans rfl, (blk_cell BK200.out 0).trans rfl, (blk_cell BK200.out 1).trans rfl, (blk_cell BK200.out 2).trans rfl, (blk_cell BK200.out 3).trans rfl, (blk_cell BK200.out 4).trans rfl, (blk_cell BK200.out 5).trans rfl, (blk_cell BK200.out 6).trans rfl, (blk_cell BK200.out 7).trans rfl, (blk_cell BK200.out 8).trans rfl, (blk_cell BK200.out 9).trans rfl, (blk_cell BK200.out 10).trans rfl, (blk_cell BK200.out 11).trans rfl, (blk_cell BK200.out 12).trans rfl, (blk_cell BK200.out 13).trans rfl, ((HB.out.cell (World.block_lt_of_cell? w _ hw201_0)).trans hw201_0), ((HB.out.cell (World.block_lt_of_cell? w _ hw201_1)).trans hw201_1), ((HB.out.cell (World.block_lt_of_cell? w _ hw201_2)).trans hw201_2), ((HB.out.cell (World.block_lt_of_cell? w _ hw201_3)).trans hw201_3), ((HB.out.cell (World.block_lt_of_cell? w _ hw202_0)).trans hw202_0), ((HB.out.cell (World.block_lt_of_cell? w _ hw202_1)).trans hw202_1), ((HB.out.cell (World.block_lt_of_cell? w _ hw202_2)).trans hw202_2), ((HB.out.cell (World.block_lt_of_cell? w _ hw202_3)).trans hw202_3)⟩ (fun hHeld => ?_); refine with_tabW supercargoref09_Same.tab6 supercargoref09_Same.bits6 (fun HT_ HW_ => ?_)
          generalize wr.drew = w69 at BK199 BK200 HB HR201_3 HR202_3 hx201_0 hx201_1 hx201_2 hx201_3 hx202_0 hx202_1 hx202_2 hx202_3 hHeld ⊢
          refine pure_ (i := 0) (N := some 107) (v := ?_) (a' := ?_) #[true, false, false, false, false, false, false, false, false, false, false, false] rfl rfl (any_of HT_.out (by kernel_rfl)) (fun _ _ _ h => h) (Or.inl ⟨by rfl, ?_⟩) ?_ ?_
          rotate_left
          ·
           intro w'
           go_simp
           with_reducible rfl
          rotate_left
          ·
           simp only [Act.put, List.setIfInBounds_toArray, List.set_cons_zero, List.set_cons_succ, i64_w, i32_w]
           rfl
          refine pure_ (i := 2) (N := some 109) (v := ?_) (a' := ?_) #[true, false, true, false, false, false, false, false, false, false, false, false] rfl rfl (any_of HT_.out (by kernel_rfl)) (fun _ _ _ h => h) (Or.inl ⟨by rfl, ?_⟩) ?_ ?_
          rotate_left
          ·
           intro w'
           go_simp
           with_reducible rfl
          rotate_left
          ·
           simp only [Act.put, List.setIfInBounds_toArray, List.set_cons_zero, List.set_cons_succ, i64_w, i32_w]
           rfl
          refine pure_ (i := 5) (N := some 112) (v := ?_) (a' := ?_) #[true, false, true, false, false, true, false, false, false, false, false, false] rfl rfl (any_of HT_.out (by kernel_rfl)) (fun _ _ _ h => h) (Or.inl ⟨by rfl, ?_⟩) ?_ ?_
          rotate_left
          ·
           intro w'
           go_simp
           with_reducible rfl
          rotate_left
          ·
           simp only [Act.put, List.setIfInBounds_toArray, List.set_cons_zero, List.set_cons_succ, i64_w, i32_w]
           rfl
          refine pure_ (i := 7) (N := some 114) (v := ?_) (a' := ?_) #[true, false, true, false, false, true, false, true, false, false, false, false] rfl rfl (any_of HT_.out (by kernel_rfl)) (fun _ _ _ h => h) (Or.inl ⟨by rfl, ?_⟩) ?_ ?_
          rotate_left
          ·
           intro w'
           go_simp
           with_reducible rfl
          rotate_left
          ·
           simp only [Act.put, List.setIfInBounds_toArray, List.set_cons_zero, List.set_cons_succ, i64_w, i32_w]
           rfl
          refine take_ (i := 1) (N := some 108) (v := ?_) (a' := ?_) #[true, true, true, false, false, true, false, true, false, false, false, false] rfl rfl (take_ofW HT_.out HW_.out (by kernel_rfl)) (fun _ _ _ h => h) (Or.inl ⟨by rfl, ?_⟩) hHeld ?_ ?_
          rotate_left
          ·
           rintro w' ⟨s0, s1, s2, s3, s4, s5, s6, s7, s8, s9, s10, s11, s12, s13, s14, s15, s16, s17, s18, s19, s20, s21, s22, s23, s24, s25, s26, s27, s28, s29, s30, s31, s32, s33, s34, s35⟩
           go_simp
           with_reducible rfl
          rotate_left
          ·
           simp only [Act.put, List.setIfInBounds_toArray, List.set_cons_zero, List.set_cons_succ, i64_w, i32_w]
           rfl
          refine pure_ (i := 3) (N := some 110) (v := ?_) (a' := ?_) #[true, true, true, true, false, true, false, true, false, false, false, false] rfl rfl (any_of HT_.out (by kernel_rfl)) (fun _ _ _ h => h) (Or.inl ⟨by rfl, ?_⟩) ?_ ?_
          rotate_left
          ·
           intro w'
           go_simp
           with_reducible rfl
          rotate_left
          ·
           simp only [Act.put, List.setIfInBounds_toArray, List.set_cons_zero, List.set_cons_succ, i64_w, i32_w]
           rfl
          refine take_ (i := 4) (N := some 111) (v := ?_) (a' := ?_) #[true, true, true, true, true, true, false, true, false, false, false, false] rfl rfl (take_ofW HT_.out HW_.out (by kernel_rfl)) (fun _ _ _ h => h) (Or.inl ⟨by rfl, ?_⟩) hHeld ?_ ?_
          rotate_left
          ·
           rintro w' ⟨s0, s1, s2, s3, s4, s5, s6, s7, s8, s9, s10, s11, s12, s13, s14, s15, s16, s17, s18, s19, s20, s21, s22, s23, s24, s25, s26, s27, s28, s29, s30, s31, s32, s33, s34, s35⟩
           go_simp
           with_reducible rfl
          rotate_left
          ·
           simp only [Act.put, List.setIfInBounds_toArray, List.set_cons_zero, List.set_cons_succ, i64_w, i32_w]
           rfl
          refine take_ (i := 6) (N := some 113) (v := ?_) (a' := ?_) #[true, true, true, true, true, true, true, true, false, false, false, false] rfl rfl (take_ofW HT_.out HW_.out (by kernel_rfl)) (fun _ _ _ h => h) (Or.inl ⟨by rfl, ?_⟩) hHeld ?_ ?_
          rotate_left
          ·
           rintro w' ⟨s0, s1, s2, s3, s4, s5, s6, s7, s8, s9, s10, s11, s12, s13, s14, s15, s16, s17, s18, s19, s20, s21, s22, s23, s24, s25, s26, s27, s28, s29, s30, s31, s32, s33, s34, s35⟩
           go_simp
           with_reducible rfl
          rotate_left
          ·
           simp only [Act.put, List.setIfInBounds_toArray, List.set_cons_zero, List.set_cons_succ, i64_w, i32_w]
           rfl
          refine pure_ (i := 8) (N := some 115) (v := ?_) (a' := ?_) #[true, true, true, true, true, true, true, true, true, false, false, false] rfl rfl (any_of HT_.out (by kernel_rfl)) (fun _ _ _ h => h) (Or.inl ⟨by rfl, ?_⟩) ?_ ?_
          rotate_left
          ·
           intro w'
           go_simp
           with_reducible rfl
          rotate_left
          ·
           simp only [Act.put, List.setIfInBounds_toArray, List.set_cons_zero, List.set_cons_succ, i64_w, i32_w]
           rfl
          refine take_ (i := 9) (N := some 116) (v := ?_) (a' := ?_) #[true, true, true, true, true, true, true, true, true, true, false, false] rfl rfl (take_ofW HT_.out HW_.out (by kernel_rfl)) (fun _ _ _ h => h) (Or.inl ⟨by rfl, ?_⟩) hHeld ?_ ?_
          rotate_left
          ·
           rintro w' ⟨s0, s1, s2, s3, s4, s5, s6, s7, s8, s9, s10, s11, s12, s13, s14, s15, s16, s17, s18, s19, s20, s21, s22, s23, s24, s25, s26, s27, s28, s29, s30, s31, s32, s33, s34, s35⟩
           go_simp
           with_reducible rfl
          rotate_left
          ·
           simp only [Act.put, List.setIfInBounds_toArray, List.set_cons_zero, List.set_cons_succ, i64_w, i32_w]
           rfl
          refine one_ (i := 10) (N := some 117) #[true, true, true, true, true, true, true, true, true, true, true, false] rfl rfl (one_of HT_.out (by kernel_rfl)) (by decide) (fun K hK => ?_)
          refine goes_ Tryz.func35 (by kernel_rfl) rfl #[.agg #[.int .i64 ((rd_T38 l0_12 x5_2).f0), .string ((rd_T38 l0_12 x5_2).f1), .string ((rd_T38 l0_12 x5_2).f2), .slice A201_3 ((rd_T38 l0_12 x5_2).f3).length c201_3], .agg #[.int .i64 ((rd_T38 l1_12 x5_2).f0), .string ((rd_T38 l1_12 x5_2).f1), .string ((rd_T38 l1_12 x5_2).f2), .slice A202_3 ((rd_T38 l1_12 x5_2).f3).length c202_3]] (by rfl) rfl rfl (by (try simp only [List.map_toArray, List.map_cons, List.map_nil]); first | done | rfl | (simp only [List.length_drop, List.length_take]; rfl)) ?_
          with_reducible refine (supercargoref05_Alike.calls k2 ((rd_T38 l0_12 x5_2).f0) ((rd_T38 l0_12 x5_2).f1) ((rd_T38 l0_12 x5_2).f2) _ _ ((rd_T38 l0_12 x5_2).f3) ((rd_T38 l1_12 x5_2).f0) ((rd_T38 l1_12 x5_2).f1) ((rd_T38 l1_12 x5_2).f2) _ _ ((rd_T38 l1_12 x5_2).f3) false _ ?side1 ?side2 ?side3 ?side4 A61.out).mono ?_
          (case side1 => repeat (first | exact (Kd.C_below HR201_3.out HB.out) | (with_reducible refine Kd.C_alloc ?_ _) | (with_reducible refine Kd.C_drewN ?_ _) | (with_reducible refine Kd.C_drew ?_)))
          (case side2 => exact HC201_3.out)
          (case side3 => repeat (first | exact (Kd.C_below HR202_3.out HB.out) | (with_reducible refine Kd.C_alloc ?_ _) | (with_reducible refine Kd.C_drewN ?_ _) | (with_reducible refine Kd.C_drew ?_)))
          (case side4 => exact HC202_3.out)
          rintro e w70 ⟨rfl, hb⟩
          refine ⟨_, rfl, ?_⟩
          have n0_ := Aside0.mk (blk_below (g := gb199) (o := .cells #[.string a0_0, .string a0_1, .int .i64 a0_2, .int .i64 a0_3, .int .i64 a0_4, .string a0_5, .string a0_6, .string a0_7, .int .i64 a0_8, .int .i64 a0_9, .string a0_10, .int .i64 a0_11, .slice (some ad201) l0_12.length c0_12, .slice A0_13 l0_13.length c0_13] 33 (0, 0)) (by (with_reducible repeat (first | refine blk_drewN ?_ _ | refine blk_drew ?_ | refine blk_alloc ?_ _)); exact BK199.out) hb)
          have n1_ := Aside0.mk (blk_below (g := gb200) (o := .cells #[.string a1_0, .string a1_1, .int .i64 a1_2, .int .i64 a1_3, .int .i64 a1_4, .string a1_5, .string a1_6, .string a1_7, .int .i64 a1_8, .int .i64 a1_9, .string a1_10, .int .i64 a1_11, .slice (some ad202) l1_12.length c1_12, .slice A1_13 l1_13.length c1_13] 33 (0, 0)) (by (with_reducible repeat (first | refine blk_drewN ?_ _ | refine blk_drew ?_ | refine blk_alloc ?_ _)); exact BK200.out) hb)
          have n2_ := Aside0.mk (below_step (by repeat (first | (with_reducible first | exact HB.out | apply below_alloc | apply pw_below_drewN | apply below_drew1 | refine below_set ?_ GE199.out | refine below_set ?_ GE200.out) | exact HB.out)) hb)
          clear BK199
          clear BK200
          clear HB
          have BK199 := n0_
          have BK200 := n1_
          have HB := n2_
          clear n0_ n1_ n2_
          (try clear hb)
          (try clear hb2)
          (try clear hk)
          (try clear hi)
          refine hK.out _ _ ⟨(blk_cell BK199.out 0).trans rfl, (blk_cell BK199.out 1).trans rfl, (blk_cell BK199.out 2).trans rfl, (blk_cell BK199.out 3).trans rfl, (blk_cell BK199.out 4).trans rfl, (blk_cell BK199.out 5).trans rfl, (blk_cell BK199.out 6).trans rfl, (blk_cell BK199.out 7).trans rfl, (blk_cell BK199.out 8).trans rfl, (blk_cell BK199.out 9).trans rfl, (blk_cell BK199.out 10).trans rfl, (blk_cell BK199.out 11).trans rfl, (blk_cell BK199.out 12).trans rfl, (blk_cell BK199.out 13).trans rfl, (blk_cell BK200.out 0).trans rfl, (blk_cell BK200.out 1).trans rfl, (blk_cell BK200.out 2).trans rfl, (blk_cell BK200.out 3).trans rfl, (blk_cell BK200.out 4).trans rfl, (blk_cell BK200.out 5).trans rfl, (blk_cell BK200.out 6).trans rfl, (blk_cell BK200.out 7).trans rfl, (blk_cell BK200.out 8).trans rfl, (blk_cell BK200.out 9).trans rfl, (blk_cell BK200.out 10).trans rfl, (blk_cell BK200.out 11).trans rfl, (blk_cell BK200.out 12).trans rfl, (blk_cell BK200.out 13).trans rfl, ((HB.out.cell (World.block_lt_of_cell? w _ hw201_0)).trans hw201_0), ((HB.out.cell (World.block_lt_of_cell? w _ hw201_1)).trans hw201_1), ((HB.out.cell (World.block_lt_of_cell? w _ hw201_2)).trans hw201_2), ((HB.out.cell (World.block_lt_of_cell? w _ hw201_3)).trans hw201_3), ((HB.out.cell (World.block_lt_of_cell? w _ hw202_0)).trans hw202_0), ((HB.out.cell (World.block_lt_of_cell? w _ hw202_1)).trans hw202_1), ((HB.out.cell (World.block_lt_of_cell? w _ hw202_2)).trans hw202_2), ((HB.out.cell (World.block_lt_of_cell? w _ hw202_3)).trans hw202_3)⟩ (fun hHeld => ?_)
          clear hK K
          refine norm_ (a' := ?_) ?_ ?_
          rotate_left
          ·
           show Act.put _ (some 117) _ = _
           simp only [Act.put, List.setIfInBounds_toArray, List.set_cons_zero, List.set_cons_succ, i64_w, i32_w]
           rfl
          refine pure_ (i := 11) (N := some 118) (v := ?_) (a' := ?_) #[true, true, true, true, true, true, true, true, true, true, true, true] rfl rfl (any_of HT_.out (by kernel_rfl)) (fun _ _ _ h => h) (Or.inl ⟨by rfl, ?_⟩) ?_ ?_
          rotate_left
          ·
           intro w'
           go_simp
           with_reducible rfl
          rotate_left
          ·
           simp only [Act.put, List.setIfInBounds_toArray, List.set_cons_zero, List.set_cons_succ, i64_w, i32_w]
           rfl
          refine done_ (done_of HT_.out (by kernel_rfl)) ?_
          try go_wp2
          go_ret
          exact ⟨by first | rfl | (simp [errW_none, errW_some] <;> rfl) | (simp [*, errW_none, errW_some] <;> rfl), by repeat (first | (with_reducible first | exact HB.out | apply below_alloc | apply pw_below_drewN | apply below_drew1 | refine below_set ?_ GE199.out | refine below_set ?_ GE200.out) | exact HB.out)⟩
        ·
         rw [if_neg c60] at H
         exact absurd H (by simp)
       ·
        rw [if_neg c59] at H
        exact absurd H (by simp)
      ·
       rw [if_neg c58] at H
       have c58b0 : decide (x5_2 < (l0_12.length : Int)) = false := decide_eq_false c58
       clear c58
       have H' := Aside0.mk H
       clear H
       have hnb71 := NB199_200.out
       have hnc71 := NB200_199.out
       have hcz72_0 : wr.cell? ⟨gb199, 0, none⟩ = some (.string a0_0) := (blk_cell BK199.out 0).trans rfl
       have hcz72_1 : wr.cell? ⟨gb199, 1, none⟩ = some (.string a0_1) := (blk_cell BK199.out 1).trans rfl
       have hcz72_2 : wr.cell? ⟨gb199, 2, none⟩ = some (.int .i64 a0_2) := (blk_cell BK199.out 2).trans rfl
       have hcz72_3 : wr.cell? ⟨gb199, 3, none⟩ = some (.int .i64 a0_3) := (blk_cell BK199.out 3).trans rfl
       have hcz72_4 : wr.cell? ⟨gb199, 4, none⟩ = some (.int .i64 a0_4) := (blk_cell BK199.out 4).trans rfl
       have hcz72_5 : wr.cell? ⟨gb199, 5, none⟩ = some (.string a0_5) := (blk_cell BK199.out 5).trans rfl
       have hcz72_6 : wr.cell? ⟨gb199, 6, none⟩ = some (.string a0_6) := (blk_cell BK199.out 6).trans rfl
       have hcz72_7 : wr.cell? ⟨gb199, 7, none⟩ = some (.string a0_7) := (blk_cell BK199.out 7).trans rfl
       have hcz72_8 : wr.cell? ⟨gb199, 8, none⟩ = some (.int .i64 a0_8) := (blk_cell BK199.out 8).trans rfl
       have hcz72_9 : wr.cell? ⟨gb199, 9, none⟩ = some (.int .i64 a0_9) := (blk_cell BK199.out 9).trans rfl
       have hcz72_10 : wr.cell? ⟨gb199, 10, none⟩ = some (.string a0_10) := (blk_cell BK199.out 10).trans rfl
       have hcz72_11 : wr.cell? ⟨gb199, 11, none⟩ = some (.int .i64 a0_11) := (blk_cell BK199.out 11).trans rfl
       have hcz72_12 : wr.cell? ⟨gb199, 12, none⟩ = some (.slice A0_12 l0_12.length c0_12) := (blk_cell BK199.out 12).trans rfl
       have hcz72_13 : wr.cell? ⟨gb199, 13, none⟩ = some (.slice A0_13 l0_13.length c0_13) := (blk_cell BK199.out 13).trans rfl
       have hfz72_0 := blk_frozen BK199.out 0
       have hfz72_1 := blk_frozen BK199.out 1
       have hfz72_2 := blk_frozen BK199.out 2
       have hfz72_3 := blk_frozen BK199.out 3
       have hfz72_4 := blk_frozen BK199.out 4
       have hfz72_5 := blk_frozen BK199.out 5
       have hfz72_6 := blk_frozen BK199.out 6
       have hfz72_7 := blk_frozen BK199.out 7
       have hfz72_8 := blk_frozen BK199.out 8
       have hfz72_9 := blk_frozen BK199.out 9
       have hfz72_10 := blk_frozen BK199.out 10
       have hfz72_11 := blk_frozen BK199.out 11
       have hfz72_12 := blk_frozen BK199.out 12
       have hfz72_13 := blk_frozen BK199.out 13
       go_wp2
       go_loopg [6] k2 (fun kq v6 w' => ∃ (x6_3 : Int), v6 = .int .i64 x6_3 ∧ Aside0 (supercargoref09_Same.l1 kq x6_3 a0_0 a0_1 a0_2 a0_3 a0_4 a0_5 a0_6 a0_7 a0_8 a0_9 a0_10 a0_11 l0_12 l0_13 a1_0 a1_1 a1_2 a1_3 a1_4 a1_5 a1_6 a1_7 a1_8 a1_9 a1_10 a1_11 l1_12 l1_13 = some r) ∧ Aside0 (kq ≤ k2) ∧ Aside0 (w'.heap[gb199]? = some (.cells #[.string a0_0, .string a0_1, .int .i64 a0_2, .int .i64 a0_3, .int .i64 a0_4, .string a0_5, .string a0_6, .string a0_7, .int .i64 a0_8, .int .i64 a0_9, .string a0_10, .int .i64 a0_11, (.slice A0_12 l0_12.length c0_12), (.slice A0_13 l0_13.length c0_13)] 33 (0, 0))) ∧ Aside0 (w'.heap[gb200]? = some (.cells #[.string a1_0, .string a1_1, .int .i64 a1_2, .int .i64 a1_3, .int .i64 a1_4, .string a1_5, .string a1_6, .string a1_7, .int .i64 a1_8, .int .i64 a1_9, .string a1_10, .int .i64 a1_11, (.slice A1_12 l1_12.length c1_12), (.slice A1_13 l1_13.length c1_13)] 33 (0, 0))) ∧ Aside0 (Below w.heap.size w w'))
       case atStart => exact ⟨(0), (by first | rfl | (simp; done) | (simp [*]; done)), H', ⟨Nat.le_refl _⟩, ⟨by (with_reducible repeat (first | refine blk_drewN ?_ _ | refine blk_drew ?_ | refine blk_alloc ?_ _)); exact BK199.out⟩, ⟨by (with_reducible repeat (first | refine blk_drewN ?_ _ | refine blk_drew ?_ | refine blk_alloc ?_ _)); exact BK200.out⟩, ⟨by repeat (first | (with_reducible first | exact HB.out | apply below_alloc | apply pw_below_drewN | apply below_drew1 | refine below_set ?_ GE199.out | refine below_set ?_ GE200.out) | exact HB.out)⟩⟩
       case round =>
        clear H'
        try clear c1
        try clear c2
        try clear p2
        try clear q2
        try clear hx2
        try clear c3
        try clear c5
        try clear c6
        try clear p6
        try clear c7
        try clear c20
        try clear p20
        try clear q20
        try clear hx20
        try clear c35
        try clear c58
        try clear c58b0
        try clear c59
        try clear c59b0
        try clear c60
        try clear c60b0
        try clear c62
        try clear c63
        try clear p64
        try clear c67
        try clear c71
        try clear hcz64_0
        try clear hcz64_1
        try clear hcz64_10
        try clear hcz64_11
        try clear hcz64_12
        try clear hcz64_13
        try clear hcz64_2
        try clear hcz64_3
        try clear hcz64_4
        try clear hcz64_5
        try clear hcz64_6
        try clear hcz64_7
        try clear hcz64_8
        try clear hcz64_9
        try clear hcz68_0
        try clear hcz68_1
        try clear hcz68_10
        try clear hcz68_11
        try clear hcz68_12
        try clear hcz68_13
        try clear hcz68_2
        try clear hcz68_3
        try clear hcz68_4
        try clear hcz68_5
        try clear hcz68_6
        try clear hcz68_7
        try clear hcz68_8
        try clear hcz68_9
        try clear hcz72_0
        try clear hcz72_1
        try clear hcz72_10
        try clear hcz72_11
        try clear hcz72_12
        try clear hcz72_13
        try clear hcz72_2
        try clear hcz72_3
        try clear hcz72_4
        try clear hcz72_5
        try clear hcz72_6
        try clear hcz72_7
        try clear hcz72_8
        try clear hcz72_9
        try clear hfz44_5
        try clear hfz44_6
        try clear hfz44_7
        try clear hfz44_8
        try clear hfz44_9
        try clear hfz46_0
        try clear hfz46_1
        try clear hfz46_10
        try clear hfz46_11
        try clear hfz46_12
        try clear hfz46_13
        try clear hfz46_2
        try clear hfz46_3
        try clear hfz46_4
        try clear hfz46_5
        try clear hfz46_6
        try clear hfz46_7
        try clear hfz46_8
        try clear hfz46_9
        try clear hfz47_0
        try clear hfz47_1
        try clear hfz47_10
        try clear hfz47_11
        try clear hfz47_12
        try clear hfz47_13
        try clear hfz47_2
        try clear hfz47_3
        try clear hfz47_4
        try clear hfz47_5
        try clear hfz47_6
        try clear hfz47_7
        try clear hfz47_8
        try clear hfz47_9
        try clear hfz49_0
        try clear hfz49_1
        try clear hfz49_10
        try clear hfz49_11
        try clear hfz49_12
        try clear hfz49_13
        try clear hfz49_2
        try clear hfz49_3
        try clear hfz49_4
        try clear hfz49_5
        try clear hfz49_6
        try clear hfz49_7
        try clear hfz49_8
        try clear hfz49_9
        try clear hfz50_0
        try clear hfz50_1
        try clear hfz50_10
        try clear hfz50_11
        try clear hfz50_12
        try clear hfz50_13
        try clear hfz50_2
        try clear hfz50_3
        try clear hfz50_4
        try clear hfz50_5
        try clear hfz50_6
        try clear hfz50_7
        try clear hfz50_8
        try clear hfz50_9
        try clear hfz52_0
        try clear hfz52_1
        try clear hfz52_10
        try clear hfz52_11
        try clear hfz52_12
        try clear hfz52_13
        try clear hfz52_2
        try clear hfz52_3
        try clear hfz52_4
        try clear hfz52_5
        try clear hfz52_6
        try clear hfz52_7
        try clear hfz52_8
        try clear hfz52_9
        try clear hfz53_0
        try clear hfz53_1
        try clear hfz53_10
        try clear hfz53_11
        try clear hfz53_12
        try clear hfz53_13
        try clear hfz53_2
        try clear hfz53_3
        try clear hfz53_4
        try clear hfz53_5
        try clear hfz53_6
        try clear hfz53_7
        try clear hfz53_8
        try clear hfz53_9
        try clear hfz55_0
        try clear hfz55_1
        try clear hfz55_10
        try clear hfz55_11
        try clear hfz55_12
        try clear hfz55_13
        try clear hfz55_2
        try clear hfz55_3
        try clear hfz55_4
        try clear hfz55_5
        try clear hfz55_6
        try clear hfz55_7
        try clear hfz55_8
        try clear hfz55_9
        try clear hfz56_0
        try clear hfz56_1
        try clear hfz56_10
        try clear hfz56_11
        try clear hfz56_12
        try clear hfz56_13
        try clear hfz56_2
        try clear hfz56_3
        try clear hfz56_4
        try clear hfz56_5
        try clear hfz56_6
        try clear hfz56_7
        try clear hfz56_8
        try clear hfz56_9
        try clear hfz64_0
        try clear hfz64_1
        try clear hfz64_10
        try clear hfz64_11
        try clear hfz64_12
        try clear hfz64_13
        try clear hfz64_2
        try clear hfz64_3
        try clear hfz64_4
        try clear hfz64_5
        try clear hfz64_6
        try clear hfz64_7
        try clear hfz64_8
        try clear hfz64_9
        try clear hfz68_0
        try clear hfz68_1
        try clear hfz68_10
        try clear hfz68_11
        try clear hfz68_12
        try clear hfz68_13
        try clear hfz68_2
        try clear hfz68_3
        try clear hfz68_4
        try clear hfz68_5
        try clear hfz68_6
        try clear hfz68_7
        try clear hfz68_8
        try clear hfz68_9
        try clear hfz72_0
        try clear hfz72_1
        try clear hfz72_10
        try clear hfz72_11
        try clear hfz72_12
        try clear hfz72_13
        try clear hfz72_2
        try clear hfz72_3
        try clear hfz72_4
        try clear hfz72_5
        try clear hfz72_6
        try clear hfz72_7
        try clear hfz72_8
        try clear hfz72_9
        try clear hx201_0
        try clear hx201_1
        try clear hx201_2
        try clear hx201_3
        try clear hx202_0
        try clear hx202_1
        try clear hx202_2
        try clear hx202_3
        try clear p2
        try clear p201
        try clear p202
        try clear q201
        try clear q202
        obtain ⟨x6_3, rfl, HA, HK3, BK199, BK200, HB⟩ := hrel
        cases gk with
        | zero => exact absurd HA.out (by simp [supercargoref09_Same.l1])
        | succ k3 =>
         have H := HA.out
         clear HA
         simp only [supercargoref09_Same.l1] at H
         by_cases c73 : x6_3 < (l0_13.length : Int)
         ·
          rw [if_pos c73] at H
          have c73b0 : decide (x6_3 < (l0_13.length : Int)) = true := decide_eq_true c73
          clear c73
          by_cases c74 : 0 ≤ x6_3
          ·
           rw [if_pos c74] at H
           have c74b0 : decide (0 ≤ x6_3) = true := decide_eq_true c74
           clear c74
           by_cases c75 : x6_3 < (l1_13.length : Int)
           ·
            rw [if_pos c75] at H
            have c75b0 : decide (x6_3 < (l1_13.length : Int)) = true := decide_eq_true c75
            clear c75
            by_cases c76 : (rdOf ByteArray.empty l0_13 x6_3).toList = (rdOf ByteArray.empty l1_13 x6_3).toList
            ·
             rw [if_pos c76] at H
             have c76b0 : ((rdOf ByteArray.empty l0_13 x6_3).toList == (rdOf ByteArray.empty l1_13 x6_3).toList) = true := beq_iff_eq.mpr c76
             have c76b1 : ((rdOf ByteArray.empty l0_13 x6_3).toList != (rdOf ByteArray.empty l1_13 x6_3).toList) = false := bne_eq_false_iff_eq.mpr c76
             clear c76
             have H' := Aside0.mk H
             clear H
             have hnb77 := NB199_200.out
             have hnc77 := NB200_199.out
             have hcz78_0 : wr.cell? ⟨gb199, 0, none⟩ = some (.string a0_0) := (blk_cell BK199.out 0).trans rfl
             have hcz78_1 : wr.cell? ⟨gb199, 1, none⟩ = some (.string a0_1) := (blk_cell BK199.out 1).trans rfl
             have hcz78_2 : wr.cell? ⟨gb199, 2, none⟩ = some (.int .i64 a0_2) := (blk_cell BK199.out 2).trans rfl
             have hcz78_3 : wr.cell? ⟨gb199, 3, none⟩ = some (.int .i64 a0_3) := (blk_cell BK199.out 3).trans rfl
             have hcz78_4 : wr.cell? ⟨gb199, 4, none⟩ = some (.int .i64 a0_4) := (blk_cell BK199.out 4).trans rfl
             have hcz78_5 : wr.cell? ⟨gb199, 5, none⟩ = some (.string a0_5) := (blk_cell BK199.out 5).trans rfl
             have hcz78_6 : wr.cell? ⟨gb199, 6, none⟩ = some (.string a0_6) := (blk_cell BK199.out 6).trans rfl
             have hcz78_7 : wr.cell? ⟨gb199, 7, none⟩ = some (.string a0_7) := (blk_cell BK199.out 7).trans rfl
             have hcz78_8 : wr.cell? ⟨gb199, 8, none⟩ = some (.int .i64 a0_8) := (blk_cell BK199.out 8).trans rfl
             have hcz78_9 : wr.cell? ⟨gb199, 9, none⟩ = some (.int .i64 a0_9) := (blk_cell BK199.out 9).trans rfl
             have hcz78_10 : wr.cell? ⟨gb199, 10, none⟩ = some (.string a0_10) := (blk_cell BK199.out 10).trans rfl
             have hcz78_11 : wr.cell? ⟨gb199, 11, none⟩ = some (.int .i64 a0_11) := (blk_cell BK199.out 11).trans rfl
             have hcz78_12 : wr.cell? ⟨gb199, 12, none⟩ = some (.slice A0_12 l0_12.length c0_12) := (blk_cell BK199.out 12).trans rfl
             have hcz78_13 : wr.cell? ⟨gb199, 13, none⟩ = some (.slice A0_13 l0_13.length c0_13) := (blk_cell BK199.out 13).trans rfl
             have hfz78_0 := blk_frozen BK199.out 0
             have hfz78_1 := blk_frozen BK199.out 1
             have hfz78_2 := blk_frozen BK199.out 2
             have hfz78_3 := blk_frozen BK199.out 3
             have hfz78_4 := blk_frozen BK199.out 4
             have hfz78_5 := blk_frozen BK199.out 5
             have hfz78_6 := blk_frozen BK199.out 6
             have hfz78_7 := blk_frozen BK199.out 7
             have hfz78_8 := blk_frozen BK199.out 8
             have hfz78_9 := blk_frozen BK199.out 9
             have hfz78_10 := blk_frozen BK199.out 10
             have hfz78_11 := blk_frozen BK199.out 11
             have hfz78_12 := blk_frozen BK199.out 12
             have hfz78_13 := blk_frozen BK199.out 13
             try go_wp2
             have n0_ := Aside0.mk (blk_drew BK199.out)
             have n1_ := Aside0.mk (blk_drew BK200.out)
             have n2_ := Aside0.mk (below_drew1 HB.out)
             clear BK199
             clear BK200
             clear HB
             have BK199 := n0_
             have BK200 := n1_
             have HB := n2_
             clear n0_ n1_ n2_
             have p204 : 0 ≤ (x6_3 : Int) := of_decide_eq_true (by first | (with_reducible assumption) | assumption)
             have q204 : x6_3 < (l0_13.length : Int) := of_decide_eq_true (by first | (with_reducible assumption) | assumption)
             obtain ⟨ad204, e204, hx204_0⟩ := Kd.at_string HR0_13.out x6_3 p204 q204
             have hw204_0 := hx204_0
             cases e204
             replace hx204_0 := (HB.out.cell (World.block_lt_of_cell? w _ hx204_0)).trans hx204_0
             replace p204 := eq_true p204
             replace q204 := eq_true q204
             have p205 : 0 ≤ (x6_3 : Int) := of_decide_eq_true (by first | (with_reducible assumption) | assumption)
             have q205 : x6_3 < (l1_13.length : Int) := of_decide_eq_true (by first | (with_reducible assumption) | assumption)
             obtain ⟨ad205, e205, hx205_0⟩ := Kd.at_string HR1_13.out x6_3 p205 q205
             have hw205_0 := hx205_0
             cases e205
             replace hx205_0 := (HB.out.cell (World.block_lt_of_cell? w _ hx205_0)).trans hx205_0
             replace p205 := eq_true p205
             replace q205 := eq_true q205
             refine start_ (n := 11) (S := fun w' => w'.cell? ⟨gb199, 0, none⟩ = some (.string a0_0) ∧ w'.cell? ⟨gb199, 1, none⟩ = some (.string a0_1) ∧ w'.cell? ⟨gb199, 2, none⟩ = some (.int .i64 a0_2) ∧ w'.cell? ⟨gb199, 3, none⟩ = some (.int .i64 a0_3) ∧ w'.cell? ⟨gb199, 4, none⟩ = some (.int .i64 a0_4) ∧ w'.cell? ⟨gb199, 5, none⟩ = some (.string a0_5) ∧ w'.cell? ⟨gb199, 6, none⟩ = some (.string a0_6) ∧ w'.cell? ⟨gb199, 7, none⟩ = some (.string a0_7) ∧ w'.cell? ⟨gb199, 8, none⟩ = some (.int .i64 a0_8) ∧ w'.cell? ⟨gb199, 9, none⟩ = some (.int .i64 a0_9) ∧ w'.cell? ⟨gb199, 10, none⟩ = some (.string a0_10) ∧ w'.cell? ⟨gb199, 11, none⟩ = some (.int .i64 a0_11) ∧ w'.cell? ⟨gb199, 12, none⟩ = some (.slice A0_12 l0_12.length c0_12) ∧ w'.cell? ⟨gb199, 13, none⟩ = some (.slice (some ad204) l0_13.length c0_13) ∧ w'.cell? ⟨gb200, 0, none⟩ = some (.string a1_0) ∧ w'.cell? ⟨gb200, 1, none⟩ = some (.string a1_1) ∧ w'.cell? ⟨gb200, 2, none⟩ = some (.int .i64 a1_2) ∧ w'.cell? ⟨gb200, 3, none⟩ = some (.int .i64 a1_3) ∧ w'.cell? ⟨gb200, 4, none⟩ = some (.int .i64 a1_4) ∧ w'.cell? ⟨gb200, 5, none⟩ = some (.string a1_5) ∧ w'.cell? ⟨gb200, 6, none⟩ = some (.string a1_6) ∧ w'.cell? ⟨gb200, 7, none⟩ = some (.string a1_7) ∧ w'.cell? ⟨gb200, 8, none⟩ = some (.int .i64 a1_8) ∧ w'.cell? ⟨gb200, 9, none⟩ = some (.int .i64 a1_9) ∧ w'.cell? ⟨gb200, 10, none⟩ = some (.string a1_10) ∧ w'.cell? ⟨gb200, 11, none⟩ = some (.int .i64 a1_11) ∧ w'.cell? ⟨gb200, 12, none⟩ = some (.slice A1_12 l1_12.length c1_12) ∧ w'.cell? ⟨gb200, 13, none⟩ = some (.slice (some ad205) l1_13.length c1_13) ∧ w'.cell? (ad204.add (x6_3).toNat) = some (.string (rdOf ByteArray.empty l0_13 x6_3)) ∧ w'.cell? (ad205.add (x6_3).toNat) = some (.string (rdOf ByteArray.empty l1_13 x6_3))) (ds := []) #[false, false, false, false, false, false, false, false, false, false, false] (by kernel_rfl) rfl rfl ⟨(blk_cell BK199.out 0).trans rfl, (blk_cell BK199.out 1).trans rfl, (blk_cell BK199.out 2).trans rfl, (blk_cell BK199.out 3).trans rfl, (blk_cell BK199.out 4).trans rfl, (blk_cell BK199.out 5).trans rfl, (blk_cell BK199.out 6).trans rfl, (blk_cell BK199.out 7).trans rfl, (blk_cell BK199.out 8).trans rfl, (blk_cell BK199.out 9).trans rfl, (blk_cell BK199.out 10).trans rfl, (blk_cell BK199.out 11).trans rfl, (blk_cell BK199.out 12).trans rfl, (blk_cell BK199.out 13).trans rfl, (blk_cell BK200.out 0).trans rfl, (blk_cell BK200.out 1).trans rfl, (blk_cell BK200.out 2).trans rfl, (blk_cell BK200.out 3).trans rfl, (blk_cell BK200.out 4).trans rfl, (blk_cell BK200.out 5).trans rfl, (blk_cell BK200.out 6).trans rfl, (blk_cell BK200.out 7).trans rfl, (blk_cell BK200.out 8).trans rfl, (blk_cell BK200.out 9).trans rfl, (blk_cell BK200.out 10).trans rfl, (blk_cell BK200.out 11).trans rfl, (blk_cell BK200.out 12).trans rfl, (blk_cell BK200.out 13).trans rfl, ((HB.out.cell (World.block_lt_of_cell? w _ hw204_0)).trans hw204_0), ((HB.out.cell (World.block_lt_of_cell? w _ hw205_0)).trans hw205_0)⟩ (fun hHeld => ?_); refine with_tabW supercargoref09_Same.tab11 supercargoref09_Same.bits11 (fun HT_ HW_ => ?_)
             generalize wr.drew = w79 at BK199 BK200 HB hx204_0 hx205_0 hHeld ⊢
             refine pure_ (i := 0) (N := some 126) (v := ?_) (a' := ?_) #[true, false, false, false, false, false, false, false, false, false, false] rfl rfl (any_of HT_.out (by kernel_rfl)) (fun _ _ _ h => h) (Or.inl ⟨by rfl, ?_⟩) ?_ ?_
             rotate_left
             ·
              intro w'
              go_simp
              with_reducible rfl
             rotate_left
             ·
              simp only [Act.put, List.setIfInBounds_toArray, List.set_cons_zero, List.set_cons_succ, i64_w, i32_w]
              rfl
             refine pure_ (i := 2) (N := some 128) (v := ?_) (a' := ?_) #[true, false, true, false, false, false, false, false, false, false, false] rfl rfl (any_of HT_.out (by kernel_rfl)) (fun _ _ _ h => h) (Or.inl ⟨by rfl, ?_⟩) ?_ ?_
             rotate_left
             ·
              intro w'
              go_simp
              with_reducible rfl
             rotate_left
             ·
              simp only [Act.put, List.setIfInBounds_toArray, List.set_cons_zero, List.set_cons_succ, i64_w, i32_w]
              rfl
             refine pure_ (i := 5) (N := some 131) (v := ?_) (a' := ?_) #[true, false, true, false, false, true, false, false, false, false, false] rfl rfl (any_of HT_.out (by kernel_rfl)) (fun _ _ _ h => h) (Or.inl ⟨by rfl, ?_⟩) ?_ ?_
             rotate_left
             ·
              intro w'
              go_simp
              with_reducible rfl
             rotate_left
             ·
              simp only [Act.put, List.setIfInBounds_toArray, List.set_cons_zero, List.set_cons_succ, i64_w, i32_w]
              rfl
             refine pure_ (i := 7) (N := some 133) (v := ?_) (a' := ?_) #[true, false, true, false, false, true, false, true, false, false, false] rfl rfl (any_of HT_.out (by kernel_rfl)) (fun _ _ _ h => h) (Or.inl ⟨by rfl, ?_⟩) ?_ ?_
             rotate_left
             ·
              intro w'
              go_simp
              with_reducible rfl
             rotate_left
             ·
              simp only [Act.put, List.setIfInBounds_toArray, List.set_cons_zero, List.set_cons_succ, i64_w, i32_w]
              rfl
             refine take_ (i := 1) (N := some 127) (v := ?_) (a' := ?_) #[true, true, true, false, false, true, false, true, false, false, false] rfl rfl (take_ofW HT_.out HW_.out (by kernel_rfl)) (fun _ _ _ h => h) (Or.inl ⟨by rfl, ?_⟩) hHeld ?_ ?_
             rotate_left
             ·
              rintro w' ⟨s0, s1, s2, s3, s4, s5, s6, s7, s8, s9, s10, s11, s12, s13, s14, s15, s16, s17, s18, s19, s20, s21, s22, s23, s24, s25, s26, s27, s28, s29⟩
              go_simp
              with_reducible rfl
             rotate_left
             ·
              simp only [Act.put, List.setIfInBounds_toArray, List.set_cons_zero, List.set_cons_succ, i64_w, i32_w]
              rfl
             refine pure_ (i := 3) (N := some 129) (v := ?_) (a' := ?_) #[true, true, true, true, false, true, false, true, false, false, false] rfl rfl (any_of HT_.out (by kernel_rfl)) (fun _ _ _ h => h) (Or.inl ⟨by rfl, ?_⟩) ?_ ?_
             rotate_left
             ·
              intro w'
              go_simp
              with_reducible rfl
             rotate_left
             ·
              simp only [Act.put, List.setIfInBounds_toArray, List.set_cons_zero, List.set_cons_succ, i64_w, i32_w]
              rfl
             refine take_ (i := 4) (N := some 130) (v := ?_) (a' := ?_) #[true, true, true, true, true, true, false, true, false, false, false] rfl rfl (take_ofW HT_.out HW_.out (by kernel_rfl)) (fun _ _ _ h => h) (Or.inl ⟨by rfl, ?_⟩) hHeld ?_ ?_
             rotate_left
             ·
              rintro w' ⟨s0, s1, s2, s3, s4, s5, s6, s7, s8, s9, s10, s11, s12, s13, s14, s15, s16, s17, s18, s19, s20, s21, s22, s23, s24, s25, s26, s27, s28, s29⟩
              go_simp
              with_reducible rfl
             rotate_left
             ·
              simp only [Act.put, List.setIfInBounds_toArray, List.set_cons_zero, List.set_cons_succ, i64_w, i32_w]
              rfl
             refine take_ (i := 6) (N := some 132) (v := ?_) (a' := ?_) #[true, true, true, true, true, true, true, true, false, false, false] rfl rfl (take_ofW HT_.out HW_.out (by kernel_rfl)) (fun _ _ _ h => h) (Or.inl ⟨by rfl, ?_⟩) hHeld ?_ ?_
             rotate_left
             ·
              rintro w' ⟨s0, s1, s2, s3, s4, s5, s6, s7, s8, s9, s10, s11, s12, s13, s14, s15, s16, s17, s18, s19, s20, s21, s22, s23, s24, s25, s26, s27, s28, s29⟩
              go_simp
              with_reducible rfl
             rotate_left
             ·
              simp only [Act.put, List.setIfInBounds_toArray, List.set_cons_zero, List.set_cons_succ, i64_w, i32_w]
              rfl
             refine pure_ (i := 8) (N := some 134) (v := ?_) (a' := ?_) #[true, true, true, true, true, true, true, true, true, false, false] rfl rfl (any_of HT_.out (by kernel_rfl)) (fun _ _ _ h => h) (Or.inl ⟨by rfl, ?_⟩) ?_ ?_
             rotate_left
             ·
              intro w'
              go_simp
              with_reducible rfl
             rotate_left
             ·
              simp only [Act.put, List.setIfInBounds_toArray, List.set_cons_zero, List.set_cons_succ, i64_w, i32_w]
              rfl
             refine take_ (i := 9) (N := some 135) (v := ?_) (a' := ?_) #[true, true, true, true, true, true, true, true, true, true, false] rfl rfl (take_ofW HT_.out HW_.out (by kernel_rfl)) (fun _ _ _ h => h) (Or.inl ⟨by rfl, ?_⟩) hHeld ?_ ?_
             rotate_left
             ·
              rintro w' ⟨s0, s1, s2, s3, s4, s5, s6, s7, s8, s9, s10, s11, s12, s13, s14, s15, s16, s17, s18, s19, s20, s21, s22, s23, s24, s25, s26, s27, s28, s29⟩
              go_simp
              with_reducible rfl
             rotate_left
             ·
              simp only [Act.put, List.setIfInBounds_toArray, List.set_cons_zero, List.set_cons_succ, i64_w, i32_w]
              rfl
             refine pure_ (i := 10) (N := some 136) (v := ?_) (a' := ?_) #[true, true, true, true, true, true, true, true, true, true, true] rfl rfl (any_of HT_.out (by kernel_rfl)) (fun _ _ _ h => h) (Or.inl ⟨by rfl, ?_⟩) ?_ ?_
             rotate_left
             ·
              intro w'
              go_simp
              with_reducible rfl
             rotate_left
             ·
              simp only [Act.put, List.setIfInBounds_toArray, List.set_cons_zero, List.set_cons_succ, i64_w, i32_w]
              rfl
             refine done_ (done_of HT_.out (by kernel_rfl)) ?_
             try go_wp2
             go_roundg k3
             case measure => have := HJ2.out; have := HK2.out; have := HK3.out; omega
             case rel => exact ⟨(wrap64 (x6_3 + 1)), (by first | rfl | (simp; done) | (simp [*]; done)), H', ⟨by have := HJ2.out; have := HK2.out; have := HK3.out; omega⟩, ⟨by (with_reducible repeat (first | refine blk_drewN ?_ _ | refine blk_drew ?_ | refine blk_alloc ?_ _)); exact BK199.out⟩, ⟨by (with_reducible repeat (first | refine blk_drewN ?_ _ | refine blk_drew ?_ | refine blk_alloc ?_ _)); exact BK200.out⟩, ⟨by repeat (first | (with_reducible first | exact HB.out | apply below_alloc | apply pw_below_drewN | apply below_drew1 | refine below_set ?_ GE199.out | refine below_set ?_ GE200.out) | exact HB.out)⟩⟩
            ·
             rw [if_neg c76] at H
             have c76b0 : ((rdOf ByteArray.empty l0_13 x6_3).toList == (rdOf ByteArray.empty l1_13 x6_3).toList) = false := beq_eq_false_iff_ne.mpr c76
             have c76b1 : ((rdOf ByteArray.empty l0_13 x6_3).toList != (rdOf ByteArray.empty l1_13 x6_3).toList) = true := bne_iff_ne.mpr c76
             obtain rfl := Option.some.inj H
             have hnb80 := NB199_200.out
             have hnc80 := NB200_199.out
             have hcz81_0 : wr.cell? ⟨gb199, 0, none⟩ = some (.string a0_0) := (blk_cell BK199.out 0).trans rfl
             have hcz81_1 : wr.cell? ⟨gb199, 1, none⟩ = some (.string a0_1) := (blk_cell BK199.out 1).trans rfl
             have hcz81_2 : wr.cell? ⟨gb199, 2, none⟩ = some (.int .i64 a0_2) := (blk_cell BK199.out 2).trans rfl
             have hcz81_3 : wr.cell? ⟨gb199, 3, none⟩ = some (.int .i64 a0_3) := (blk_cell BK199.out 3).trans rfl
             have hcz81_4 : wr.cell? ⟨gb199, 4, none⟩ = some (.int .i64 a0_4) := (blk_cell BK199.out 4).trans rfl
             have hcz81_5 : wr.cell? ⟨gb199, 5, none⟩ = some (.string a0_5) := (blk_cell BK199.out 5).trans rfl
             have hcz81_6 : wr.cell? ⟨gb199, 6, none⟩ = some (.string a0_6) := (blk_cell BK199.out 6).trans rfl
             have hcz81_7 : wr.cell? ⟨gb199, 7, none⟩ = some (.string a0_7) := (blk_cell BK199.out 7).trans rfl
             have hcz81_8 : wr.cell? ⟨gb199, 8, none⟩ = some (.int .i64 a0_8) := (blk_cell BK199.out 8).trans rfl
             have hcz81_9 : wr.cell? ⟨gb199, 9, none⟩ = some (.int .i64 a0_9) := (blk_cell BK199.out 9).trans rfl
             have hcz81_10 : wr.cell? ⟨gb199, 10, none⟩ = some (.string a0_10) := (blk_cell BK199.out 10).trans rfl
             have hcz81_11 : wr.cell? ⟨gb199, 11, none⟩ = some (.int .i64 a0_11) := (blk_cell BK199.out 11).trans rfl
             have hcz81_12 : wr.cell? ⟨gb199, 12, none⟩ = some (.slice A0_12 l0_12.length c0_12) := (blk_cell BK199.out 12).trans rfl
             have hcz81_13 : wr.cell? ⟨gb199, 13, none⟩ = some (.slice A0_13 l0_13.length c0_13) := (blk_cell BK199.out 13).trans rfl
             have hfz81_0 := blk_frozen BK199.out 0
             have hfz81_1 := blk_frozen BK199.out 1
             have hfz81_2 := blk_frozen BK199.out 2
             have hfz81_3 := blk_frozen BK199.out 3
             have hfz81_4 := blk_frozen BK199.out 4
             have hfz81_5 := blk_frozen BK199.out 5
             have hfz81_6 := blk_frozen BK199.out 6
             have hfz81_7 := blk_frozen BK199.out 7
             have hfz81_8 := blk_frozen BK199.out 8
             have hfz81_9 := blk_frozen BK199.out 9
             have hfz81_10 := blk_frozen BK199.out 10
             have hfz81_11 := blk_frozen BK199.out 11
             have hfz81_12 := blk_frozen BK199.out 12
             have hfz81_13 := blk_frozen BK199.out 13
             try go_wp2
             have n0_ := Aside0.mk (blk_drew BK199.out)
             have n1_ := Aside0.mk (blk_drew BK200.out)
             have n2_ := Aside0.mk (below_drew1 HB.out)
             clear BK199
             clear BK200
             clear HB
             have BK199 := n0_
             have BK200 := n1_
             have HB := n2_
             clear n0_ n1_ n2_
             have p204 : 0 ≤ (x6_3 : Int) := of_decide_eq_true (by first | (with_reducible assumption) | assumption)
             have q204 : x6_3 < (l0_13.length : Int) := of_decide_eq_true (by first | (with_reducible assumption) | assumption)
             obtain ⟨ad204, e204, hx204_0⟩ := Kd.at_string HR0_13.out x6_3 p204 q204
             have hw204_0 := hx204_0
             cases e204
             replace hx204_0 := (HB.out.cell (World.block_lt_of_cell? w _ hx204_0)).trans hx204_0
             replace p204 := eq_true p204
             replace q204 := eq_true q204
             have p205 : 0 ≤ (x6_3 : Int) := of_decide_eq_true (by first | (with_reducible assumption) | assumption)
             have q205 : x6_3 < (l1_13.length : Int) := of_decide_eq_true (by first | (with_reducible assumption) | assumption)
             obtain ⟨ad205, e205, hx205_0⟩ := Kd.at_string HR1_13.out x6_3 p205 q205
             have hw205_0 := hx205_0
             cases e205
             replace hx205_0 := (HB.out.cell (World.block_lt_of_cell? w _ hx205_0)).trans hx205_0
             replace p205 := eq_true p205
             replace q205 := eq_true q205
             refine start_ (n := 11) (S := fun w' => w'.cell? ⟨gb199, 0, none⟩ = some (.string a0_0) ∧ w'.cell? ⟨gb199, 1, none⟩ = some (.string a0_1) ∧ w'.cell? ⟨gb199, 2, none⟩ = some (.int .i64 a0_2) ∧ w'.cell? ⟨gb199, 3, none⟩ = some (.int .i64 a0_3) ∧ w'.cell? ⟨gb199, 4, none⟩ = some (.int .i64 a0_4) ∧ w'.cell? ⟨gb199, 5, none⟩ = some (.string a0_5) ∧ w'.cell? ⟨gb199, 6, none⟩ = some (.string a0_6) ∧ w'.cell? ⟨gb199, 7, none⟩ = some (.string a0_7) ∧ w'.cell? ⟨gb199, 8, none⟩ = some (.int .i64 a0_8) ∧ w'.cell? ⟨gb199, 9, none⟩ = some (.int .i64 a0_9) ∧ w'.cell? ⟨gb199, 10, none⟩ = some (.string a0_10) ∧ w'.cell? ⟨gb199, 11, none⟩ = some (.int .i64 a0_11) ∧ w'.cell? ⟨gb199, 12, none⟩ = some (.slice A0_12 l0_12.length c0_12) ∧ w'.cell? ⟨gb199, 13, none⟩ = some (.slice (some ad204) l0_13.length c0_13) ∧ w'.cell? ⟨gb200, 0, none⟩ = some (.string a1_0) ∧ w'.cell? ⟨gb200, 1, none⟩ = some (.string a1_1) ∧ w'.cell? ⟨gb200, 2, none⟩ = some (.int .i64 a1_2) ∧ w'.cell? ⟨gb200, 3, none⟩ = some (.int .i64 a1_3) ∧ w'.cell? ⟨gb200, 4, none⟩ = some (.int .i64 a1_4) ∧ w'.cell? ⟨gb200, 5, none⟩ = some (.string a1_5) ∧ w'.cell? ⟨gb200, 6, none⟩ = some (.string a1_6) ∧ w'.cell? ⟨gb200, 7, none⟩ = some (.string a1_7) ∧ w'.cell? ⟨gb200, 8, none⟩ = some (.int .i64 a1_8) ∧ w'.cell? ⟨gb200, 9, none⟩ = some (.int .i64 a1_9) ∧ w'.cell? ⟨gb200, 10, none⟩ = some (.string a1_10) ∧ w'.cell? ⟨gb200, 11, none⟩ = some (.int .i64 a1_11) ∧ w'.cell? ⟨gb200, 12, none⟩ = some (.slice A1_12 l1_12.length c1_12) ∧ w'.cell? ⟨gb200, 13, none⟩ = some (.slice (some ad205) l1_13.length c1_13) ∧ w'.cell? (ad204.add (x6_3).toNat) = some (.string (rdOf ByteArray.empty l0_13 x6_3)) ∧ w'.cell? (ad205.add (x6_3).toNat) = some (.string (rdOf ByteArray.empty l1_13 x6_3))) (ds := []) #[false, false, false, false, false, false, false, false, false, false, false] (by kernel_rfl) rfl rfl ⟨(blk_cell BK199.out 0).trans rfl, (blk_cell BK199.out 1).trans rfl, (blk_cell BK199.out 2).trans rfl, (blk_cell BK199.out 3).trans rfl, (blk_cell BK199.out 4).trans rfl, (blk_cell BK199.out 5).trans rfl, (blk_cell BK199.out 6).trans rfl, (blk_cell BK199.out 7).trans rfl, (blk_cell BK199.out 8).trans rfl, (blk_cell BK199.out 9).trans rfl, (blk_cell BK199.out 10).trans rfl, (blk_cell BK199.out 11).trans rfl, (blk_cell BK199.out 12).trans rfl, (blk_cell BK199.out 13).trans rfl, (blk_cell BK200.out 0).trans rfl, (blk_cell BK200.out 1).trans rfl, (blk_cell BK200.out 2).trans rfl, (blk_cell BK200.out 3).trans rfl, (blk_cell BK200.out 4).trans rfl, (blk_cell BK200.out 5).trans rfl, (blk_cell BK200.out 6).trans rfl, (blk_cell BK200.out 7).trans rfl, (blk_cell BK200.out 8).trans rfl, (blk_cell BK200.out 9).trans rfl, (blk_cell BK200.out 10).trans rfl, (blk_cell BK200.out 11).trans rfl, (blk_cell BK200.out 12).trans rfl, (blk_cell BK200.out 13).trans rfl, ((HB.out.cell (World.block_lt_of_cell? w _ hw204_0)).trans hw204_0), ((HB.out.cell (World.block_lt_of_cell? w _ hw205_0)).trans hw205_0)⟩ (fun hHeld => ?_); refine with_tabW supercargoref09_Same.tab11 supercargoref09_Same.bits11 (fun HT_ HW_ => ?_)
             generalize wr.drew = w82 at BK199 BK200 HB hx204_0 hx205_0 hHeld ⊢
             refine pure_ (i := 0) (N := some 126) (v := ?_) (a' := ?_) #[true, false, false, false, false, false, false, false, false, false, false] rfl rfl (any_of HT_.out (by kernel_rfl)) (fun _ _ _ h => h) (Or.inl ⟨by rfl, ?_⟩) ?_ ?_
             rotate_left
             ·
              intro w'
              go_simp
              with_reducible rfl
             rotate_left
             ·
              simp only [Act.put, List.setIfInBounds_toArray, List.set_cons_zero, List.set_cons_succ, i64_w, i32_w]
              rfl
             refine pure_ (i := 2) (N := some 128) (v := ?_) (a' := ?_) #[true, false, true, false, false, false, false, false, false, false, false] rfl rfl (any_of HT_.out (by kernel_rfl)) (fun _ _ _ h => h) (Or.inl ⟨by rfl, ?_⟩) ?_ ?_
             rotate_left
             ·
              intro w'
              go_simp
              with_reducible rfl
             rotate_left
             ·
              simp only [Act.put, List.setIfInBounds_toArray, List.set_cons_zero, List.set_cons_succ, i64_w, i32_w]
              rfl
             refine pure_ (i := 5) (N := some 131) (v := ?_) (a' := ?_) #[true, false, true, false, false, true, false, false, false, false, false] rfl rfl (any_of HT_.out (by kernel_rfl)) (fun _ _ _ h => h) (Or.inl ⟨by rfl, ?_⟩) ?_ ?_
             rotate_left
             ·
              intro w'
              go_simp
              with_reducible rfl
             rotate_left
             ·
              simp only [Act.put, List.setIfInBounds_toArray, List.set_cons_zero, List.set_cons_succ, i64_w, i32_w]
              rfl
             refine pure_ (i := 7) (N := some 133) (v := ?_) (a' := ?_) #[true, false, true, false, false, true, false, true, false, false, false] rfl rfl (any_of HT_.out (by kernel_rfl)) (fun _ _ _ h => h) (Or.inl ⟨by rfl, ?_⟩) ?_ ?_
             rotate_left
             ·
              intro w'
              go_simp
              with_reducible rfl
             rotate_left
             ·
              simp only [Act.put, List.setIfInBounds_toArray, List.set_cons_zero, List.set_cons_succ, i64_w, i32_w]
              rfl
             refine take_ (i := 1) (N := some 127) (v := ?_) (a' := ?_) #[true, true, true, false, false, true, false, true, false, false, false] rfl rfl (take_ofW HT_.out HW_.out (by kernel_rfl)) (fun _ _ _ h => h) (Or.inl ⟨by rfl, ?_⟩) hHeld ?_ ?_
             rotate_left
             ·
              rintro w' ⟨s0, s1, s2, s3, s4, s5, s6, s7, s8, s9, s10, s11, s12, s13, s14, s15, s16, s17, s18, s19, s20, s21, s22, s23, s24, s25, s26, s27, s28, s29⟩
              go_simp
              with_reducible rfl
             rotate_left
             ·
              simp only [Act.put, List.setIfInBounds_toArray, List.set_cons_zero, List.set_cons_succ, i64_w, i32_w]
              rfl
             refine pure_ (i := 3) (N := some 129) (v := ?_) (a' := ?_) #[true, true, true, true, false, true, false, true, false, false, false] rfl rfl (any_of HT_.out (by kernel_rfl)) (fun _ _ _ h => h) (Or.inl ⟨by rfl, ?_⟩) ?_ ?_
             rotate_left
             ·
              intro w'
              go_simp
              with_reducible rfl
             rotate_left
             ·
              simp only [Act.put, List.setIfInBounds_toArray, List.set_cons_zero, List.set_cons_succ, i64_w, i32_w]
              rfl
             refine take_ (i := 4) (N := some 130) (v := ?_) (a' := ?_) #[true, true, true, true, true, true, false, true, false, false, false] rfl rfl (take_ofW HT_.out HW_.out (by kernel_rfl)) (fun _ _ _ h => h) (Or.inl ⟨by rfl, ?_⟩) hHeld ?_ ?_
             rotate_left
             ·
              rintro w' ⟨s0, s1, s2, s3, s4, s5, s6, s7, s8, s9, s10, s11, s12, s13, s14, s15, s16, s17, s18, s19, s20, s21, s22, s23, s24, s25, s26, s27, s28, s29⟩
              go_simp
              with_reducible rfl
             rotate_left
             ·
              simp only [Act.put, List.setIfInBounds_toArray, List.set_cons_zero, List.set_cons_succ, i64_w, i32_w]
              rfl
             refine take_ (i := 6) (N := some 132) (v := ?_) (a' := ?_) #[true, true, true, true, true, true, true, true, false, false, false] rfl rfl (take_ofW HT_.out HW_.out (by kernel_rfl)) (fun _ _ _ h => h) (Or.inl ⟨by rfl, ?_⟩) hHeld ?_ ?_
             rotate_left
             ·
              rintro w' ⟨s0, s1, s2, s3, s4, s5, s6, s7, s8, s9, s10, s11, s12, s13, s14, s15, s16, s17, s18, s19, s20, s21, s22, s23, s24, s25, s26, s27, s28, s29⟩
              go_simp
              with_reducible rfl
             rotate_left
             ·
              simp only [Act.put, List.setIfInBounds_toArray, List.set_cons_zero, List.set_cons_succ, i64_w, i32_w]
              rfl
             refine pure_ (i := 8) (N := some 134) (v := ?_) (a' := ?_) #[true, true, true, true, true, true, true, true, true, false, false] rfl rfl (any_of HT_.out (by kernel_rfl)) (fun _ _ _ h => h) (Or.inl ⟨by rfl, ?_⟩) ?_ ?_
             rotate_left
             ·
              intro w'
              go_simp
              with_reducible rfl
             rotate_left
             ·
              simp only [Act.put, List.setIfInBounds_toArray, List.set_cons_zero, List.set_cons_succ, i64_w, i32_w]
              rfl
             refine take_ (i := 9) (N := some 135) (v := ?_) (a' := ?_) #[true, true, true, true, true, true, true, true, true, true, false] rfl rfl (take_ofW HT_.out HW_.out (by kernel_rfl)) (fun _ _ _ h => h) (Or.inl ⟨by rfl, ?_⟩) hHeld ?_ ?_
             rotate_left
             ·
              rintro w' ⟨s0, s1, s2, s3, s4, s5, s6, s7, s8, s9, s10, s11, s12, s13, s14, s15, s16, s17, s18, s19, s20, s21, s22, s23, s24, s25, s26, s27, s28, s29⟩
              go_simp
              with_reducible rfl
             rotate_left
             ·
              simp only [Act.put, List.setIfInBounds_toArray, List.set_cons_zero, List.set_cons_succ, i64_w, i32_w]
              rfl
             refine pure_ (i := 10) (N := some 136) (v := ?_) (a' := ?_) #[true, true, true, true, true, true, true, true, true, true, true] rfl rfl (any_of HT_.out (by kernel_rfl)) (fun _ _ _ h => h) (Or.inl ⟨by rfl, ?_⟩) ?_ ?_
             rotate_left
             ·
              intro w'
              go_simp
              with_reducible rfl
             rotate_left
             ·
              simp only [Act.put, List.setIfInBounds_toArray, List.set_cons_zero, List.set_cons_succ, i64_w, i32_w]
              rfl
             refine done_ (done_of HT_.out (by kernel_rfl)) ?_
             try go_wp2
             go_ret
             exact ⟨by first | rfl | (simp [errW_none, errW_some] <;> rfl) | (simp [*, errW_none, errW_some] <;> rfl), by repeat (first | (with_reducible first | exact HB.out | apply below_alloc | apply pw_below_drewN | apply below_drew1 | refine below_set ?_ GE199.out | refine below_set ?_ GE200.out) | exact HB.out)⟩
           ·
            rw [if_neg c75] at H
            exact absurd H (by simp)
          ·
           rw [if_neg c74] at H
           exact absurd H (by simp)
         ·
          rw [if_neg c73] at H
          have c73b0 : decide (x6_3 < (l0_13.length : Int)) = false := decide_eq_false c73
          clear c73
          obtain rfl := Option.some.inj H
          have hnb83 := NB199_200.out
          have hnc83 := NB200_199.out
          have hcz84_0 : wr.cell? ⟨gb199, 0, none⟩ = some (.string a0_0) := (blk_cell BK199.out 0).trans rfl
          have hcz84_1 : wr.cell? ⟨gb199, 1, none⟩ = some (.string a0_1) := (blk_cell BK199.out 1).trans rfl
          have hcz84_2 : wr.cell? ⟨gb199, 2, none⟩ = some (.int .i64 a0_2) := (blk_cell BK199.out 2).trans rfl
          have hcz84_3 : wr.cell? ⟨gb199, 3, none⟩ = some (.int .i64 a0_3) := (blk_cell BK199.out 3).trans rfl
          have hcz84_4 : wr.cell? ⟨gb199, 4, none⟩ = some (.int .i64 a0_4) := (blk_cell BK199.out 4).trans rfl
          have hcz84_5 : wr.cell? ⟨gb199, 5, none⟩ = some (.string a0_5) := (blk_cell BK199.out 5).trans rfl
          have hcz84_6 : wr.cell? ⟨gb199, 6, none⟩ = some (.string a0_6) := (blk_cell BK199.out 6).trans rfl
          have hcz84_7 : wr.cell? ⟨gb199, 7, none⟩ = some (.string a0_7) := (blk_cell BK199.out 7).trans rfl
          have hcz84_8 : wr.cell? ⟨gb199, 8, none⟩ = some (.int .i64 a0_8) := (blk_cell BK199.out 8).trans rfl
          have hcz84_9 : wr.cell? ⟨gb199, 9, none⟩ = some (.int .i64 a0_9) := (blk_cell BK199.out 9).trans rfl
          have hcz84_10 : wr.cell? ⟨gb199, 10, none⟩ = some (.string a0_10) := (blk_cell BK199.out 10).trans rfl
          have hcz84_11 : wr.cell? ⟨gb199, 11, none⟩ = some (.int .i64 a0_11) := (blk_cell BK199.out 11).trans rfl
          have hcz84_12 : wr.cell? ⟨gb199, 12, none⟩ = some (.slice A0_12 l0_12.length c0_12) := (blk_cell BK199.out 12).trans rfl
          have hcz84_13 : wr.cell? ⟨gb199, 13, none⟩ = some (.slice A0_13 l0_13.length c0_13) := (blk_cell BK199.out 13).trans rfl
          have hfz84_0 := blk_frozen BK199.out 0
          have hfz84_1 := blk_frozen BK199.out 1
          have hfz84_2 := blk_frozen BK199.out 2
          have hfz84_3 := blk_frozen BK199.out 3
          have hfz84_4 := blk_frozen BK199.out 4
          have hfz84_5 := blk_frozen BK199.out 5
          have hfz84_6 := blk_frozen BK199.out 6
          have hfz84_7 := blk_frozen BK199.out 7
          have hfz84_8 := blk_frozen BK199.out 8
          have hfz84_9 := blk_frozen BK199.out 9
          have hfz84_10 := blk_frozen BK199.out 10
          have hfz84_11 := blk_frozen BK199.out 11
          have hfz84_12 := blk_frozen BK199.out 12
          have hfz84_13 := blk_frozen BK199.out 13
          go_wp2
          go_ret
          exact ⟨by first | rfl | (simp [errW_none, errW_some] <;> rfl) | (simp [*, errW_none, errW_some] <;> rfl), by repeat (first | (with_reducible first | exact HB.out | apply below_alloc | apply pw_below_drewN | apply below_drew1 | refine below_set ?_ GE199.out | refine below_set ?_ GE200.out) | exact HB.out)⟩
end Go.Proofs.YtkblmomfiimkiaaGreatDoor.P
end
