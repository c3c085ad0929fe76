/- What the claim's theorem leans on. Conditions: none of its own. (Written by prune.py out of the texts Px22, without what the claim doesn't lean on.) -/
import Derived.Test.YtkblmomfiimkiaaGreatDoorS2
section
namespace Go.Proofs.YtkblmomfiimkiaaGreatDoor.P
open Go.RowKit Go.Proofs.YtkblmomfiimkiaaGreatDoorW.PrintWords Go.Proofs.YtkblmomfiimkiaaGreatDoorW.PrintLast Go.Proofs.YtkblmomfiimkiaaGreatDoorW.PrintMore
attribute [local go_sem] max2_int min2_int max_two min_two max_three min_three max_four min_four   -- for this text's walks alone
set_option linter.unusedVariables false
set_option linter.unusedSimpArgs false
mutual
def supercargolaw09_short.l0 : Nat → Int → List (S38) → Int → Int → ByteArray → ByteArray → Int → Int → Int → ByteArray → ByteArray → ByteArray → Int → Int → ByteArray → Int → List (S38) → List ByteArray → Option (Bool)
 | 0, _, _, _, _, _, _, _, _, _, _, _, _, _, _, _, _, _, _ => none
 | k + 1, x3, x30, x31, x32, x189000, x189001, x189002, x189003, x189004, x189005, x189006, x189007, x189008, x189009, x189010, x189011, x189012, x189013 => if x32 < x31 then (if 0 ≤ x32 then (if x32 < (x30.length : Int) then (supercargolaw09_short.l1 k (wrap64 (x3 + (wrap64 ((((rd_T38 x30 x32).f1).size : Int) + (((rd_T38 x30 x32).f2).size : Int))))) x30 x31 x32 ((rd_T38 x30 x32).f3) (((rd_T38 x30 x32).f3).length : Int) 0 x189000 x189001 x189002 x189003 x189004 x189005 x189006 x189007 x189008 x189009 x189010 x189011 x189012 x189013 ((rd_T38 x30 x32).f0) ((rd_T38 x30 x32).f1) ((rd_T38 x30 x32).f2) ((rd_T38 x30 x32).f3)) else (none)) else (none)) else (supercargolaw09_short.l2 k x3 x189013 (x189013.length : Int) 0 x189000 x189001 x189002 x189003 x189004 x189005 x189006 x189007 x189008 x189009 x189010 x189011 x189012 x189013)
def supercargolaw09_short.l1 : Nat → Int → List (S38) → Int → Int → List (S43) → Int → Int → ByteArray → ByteArray → Int → Int → Int → ByteArray → ByteArray → ByteArray → Int → Int → ByteArray → Int → List (S38) → List ByteArray → Int → ByteArray → ByteArray → List (S43) → Option (Bool)
 | 0, _, _, _, _, _, _, _, _, _, _, _, _, _, _, _, _, _, _, _, _, _, _, _, _, _ => none
 | k + 1, x3, x30, x31, x32, x46, x47, x48, x189000, x189001, x189002, x189003, x189004, x189005, x189006, x189007, x189008, x189009, x189010, x189011, x189012, x189013, x191000, x191001, x191002, x191003 => if x48 < x47 then (if 0 ≤ x48 then (if x48 < (x46.length : Int) then (supercargolaw09_short.l1 k (wrap64 (x3 + (wrap64 ((((rd_T43 x46 x48).f0).size : Int) + (((rd_T43 x46 x48).f1).size : Int))))) x30 x31 x32 x46 x47 (wrap64 (x48 + 1)) x189000 x189001 x189002 x189003 x189004 x189005 x189006 x189007 x189008 x189009 x189010 x189011 x189012 x189013 x191000 x191001 x191002 x191003) else (none)) else (none)) else (if x3 > 9000 then (some false) else (if (x191003.length : Int) > 80 then (some false) else (supercargolaw09_short.l0 k x3 x30 x31 (wrap64 (x32 + 1)) x189000 x189001 x189002 x189003 x189004 x189005 x189006 x189007 x189008 x189009 x189010 x189011 x189012 x189013)))
def supercargolaw09_short.l2 : Nat → Int → List ByteArray → Int → Int → ByteArray → ByteArray → Int → Int → Int → ByteArray → ByteArray → ByteArray → Int → Int → ByteArray → Int → List (S38) → List ByteArray → Option (Bool)
 | 0, _, _, _, _, _, _, _, _, _, _, _, _, _, _, _, _, _, _ => none
 | k + 1, x3, x72, x73, x74, x189000, x189001, x189002, x189003, x189004, x189005, x189006, x189007, x189008, x189009, x189010, x189011, x189012, x189013 => if x74 < x73 then (if 0 ≤ x74 then (if x74 < (x72.length : Int) then (supercargolaw09_short.l2 k (wrap64 (x3 + ((rdOf ByteArray.empty x72 x74).size : Int))) x72 x73 (wrap64 (x74 + 1)) x189000 x189001 x189002 x189003 x189004 x189005 x189006 x189007 x189008 x189009 x189010 x189011 x189012 x189013) else (none)) else (none)) else (if x3 ≤ 9000 then (if (x189012.length : Int) ≤ 12 then (some (decide ((x189013.length : Int) ≤ 60))) else (some false)) else (some false))
end
def supercargolaw09_short.f (k : Nat) (a0_0 : ByteArray) (a0_1 : ByteArray) (a0_2 : Int) (a0_3 : Int) (a0_4 : Int) (a0_5 : ByteArray) (a0_6 : ByteArray) (a0_7 : ByteArray) (a0_8 : Int) (a0_9 : Int) (a0_10 : ByteArray) (a0_11 : Int) (l0_12 : List (S38)) (l0_13 : List ByteArray) : Option (Bool) := supercargolaw09_short.l0 k (wrap64 ((wrap64 ((wrap64 ((wrap64 ((a0_0.size : Int) + (a0_1.size : Int))) + (a0_5.size : Int))) + (a0_7.size : Int))) + (a0_6.size : Int))) l0_12 (l0_12.length : Int) 0 a0_0 a0_1 a0_2 a0_3 a0_4 a0_5 a0_6 a0_7 a0_8 a0_9 a0_10 a0_11 l0_12 l0_13
theorem supercargolaw09_short.mono_l : ∀ k, (∀ y0 y1 y2 y3 y4 y5 y6 y7 y8 y9 y10 y11 y12 y13 y14 y15 y16 y17, LeO (supercargolaw09_short.l0 k y0 y1 y2 y3 y4 y5 y6 y7 y8 y9 y10 y11 y12 y13 y14 y15 y16 y17) (supercargolaw09_short.l0 (k + 1) y0 y1 y2 y3 y4 y5 y6 y7 y8 y9 y10 y11 y12 y13 y14 y15 y16 y17)) ∧ (∀ y0 y1 y2 y3 y4 y5 y6 y7 y8 y9 y10 y11 y12 y13 y14 y15 y16 y17 y18 y19 y20 y21 y22 y23 y24, LeO (supercargolaw09_short.l1 k y0 y1 y2 y3 y4 y5 y6 y7 y8 y9 y10 y11 y12 y13 y14 y15 y16 y17 y18 y19 y20 y21 y22 y23 y24) (supercargolaw09_short.l1 (k + 1) y0 y1 y2 y3 y4 y5 y6 y7 y8 y9 y10 y11 y12 y13 y14 y15 y16 y17 y18 y19 y20 y21 y22 y23 y24)) ∧ (∀ y0 y1 y2 y3 y4 y5 y6 y7 y8 y9 y10 y11 y12 y13 y14 y15 y16 y17, LeO (supercargolaw09_short.l2 k y0 y1 y2 y3 y4 y5 y6 y7 y8 y9 y10 y11 y12 y13 y14 y15 y16 y17) (supercargolaw09_short.l2 (k + 1) y0 y1 y2 y3 y4 y5 y6 y7 y8 y9 y10 y11 y12 y13 y14 y15 y16 y17))
 | 0 => ⟨fun _ _ _ _ _ _ _ _ _ _ _ _ _ _ _ _ _ _ r h => by simp [supercargolaw09_short.l0] at h, fun _ _ _ _ _ _ _ _ _ _ _ _ _ _ _ _ _ _ _ _ _ _ _ _ _ r h => by simp [supercargolaw09_short.l1] at h, fun _ _ _ _ _ _ _ _ _ _ _ _ _ _ _ _ _ _ r h => by simp [supercargolaw09_short.l2] at h⟩
 | k + 1 => by
  obtain ⟨ih0, ih1, ih2⟩ := supercargolaw09_short.mono_l k
  refine ⟨?_, ?_, ?_⟩
  ·
   intro y0 y1 y2 y3 y4 y5 y6 y7 y8 y9 y10 y11 y12 y13 y14 y15 y16 y17
   unfold supercargolaw09_short.l0
   repeat' first
   | (with_reducible exact ih0 _ _ _ _ _ _ _ _ _ _ _ _ _ _ _ _ _ _)
   | (with_reducible exact ih1 _ _ _ _ _ _ _ _ _ _ _ _ _ _ _ _ _ _ _ _ _ _ _ _ _)
   | (with_reducible exact ih2 _ _ _ _ _ _ _ _ _ _ _ _ _ _ _ _ _ _)
   | (with_reducible exact LeO.refl _)
   | (with_reducible exact LeO.none _)
   | (with_reducible refine LeO.ite ?_ ?_)
   | (with_reducible refine LeO.bind ?_ (fun _ => ?_))
   | exact ih0 _ _ _ _ _ _ _ _ _ _ _ _ _ _ _ _ _ _
   | exact ih1 _ _ _ _ _ _ _ _ _ _ _ _ _ _ _ _ _ _ _ _ _ _ _ _ _
   | exact ih2 _ _ _ _ _ _ _ _ _ _ _ _ _ _ _ _ _ _
   | exact LeO.none _
   | refine LeO.ite ?_ ?_
   | refine LeO.bind ?_ (fun _ => ?_)
  ·
   intro y0 y1 y2 y3 y4 y5 y6 y7 y8 y9 y10 y11 y12 y13 y14 y15 y16 y17 y18 y19 y20 y21 y22 y23 y24
   unfold supercargolaw09_short.l1
   repeat' first
   | (with_reducible exact ih0 _ _ _ _ _ _ _ _ _ _ _ _ _ _ _ _ _ _)
   | (with_reducible exact ih1 _ _ _ _ _ _ _ _ _ _ _ _ _ _ _ _ _ _ _ _ _ _ _ _ _)
   | (with_reducible exact ih2 _ _ _ _ _ _ _ _ _ _ _ _ _ _ _ _ _ _)
   | (with_reducible exact LeO.refl _)
   | (with_reducible exact LeO.none _)
   | (with_reducible refine LeO.ite ?_ ?_)
   | (with_reducible refine LeO.bind ?_ (fun _ => ?_))
   | exact ih0 _ _ _ _ _ _ _ _ _ _ _ _ _ _ _ _ _ _
   | exact ih1 _ _ _ _ _ _ _ _ _ _ _ _ _ _ _ _ _ _ _ _ _ _ _ _ _
   | exact ih2 _ _ _ _ _ _ _ _ _ _ _ _ _ _ _ _ _ _
   | exact LeO.none _
   | refine LeO.ite ?_ ?_
   | refine LeO.bind ?_ (fun _ => ?_)
  ·
   intro y0 y1 y2 y3 y4 y5 y6 y7 y8 y9 y10 y11 y12 y13 y14 y15 y16 y17
   unfold supercargolaw09_short.l2
   repeat' first
   | (with_reducible exact ih0 _ _ _ _ _ _ _ _ _ _ _ _ _ _ _ _ _ _)
   | (with_reducible exact ih1 _ _ _ _ _ _ _ _ _ _ _ _ _ _ _ _ _ _ _ _ _ _ _ _ _)
   | (with_reducible exact ih2 _ _ _ _ _ _ _ _ _ _ _ _ _ _ _ _ _ _)
   | (with_reducible exact LeO.refl _)
   | (with_reducible exact LeO.none _)
   | (with_reducible refine LeO.ite ?_ ?_)
   | (with_reducible refine LeO.bind ?_ (fun _ => ?_))
   | exact ih0 _ _ _ _ _ _ _ _ _ _ _ _ _ _ _ _ _ _
   | exact ih1 _ _ _ _ _ _ _ _ _ _ _ _ _ _ _ _ _ _ _ _ _ _ _ _ _
   | exact ih2 _ _ _ _ _ _ _ _ _ _ _ _ _ _ _ _ _ _
   | exact LeO.none _
   | refine LeO.ite ?_ ?_
   | refine LeO.bind ?_ (fun _ => ?_)
theorem supercargolaw09_short.mono : ∀ a0 a1 a2 a3 a4 a5 a6 a7 a8 a9 a10 a11 a12 a13 k, LeO (supercargolaw09_short.f k a0 a1 a2 a3 a4 a5 a6 a7 a8 a9 a10 a11 a12 a13) (supercargolaw09_short.f (k + 1) a0 a1 a2 a3 a4 a5 a6 a7 a8 a9 a10 a11 a12 a13) := by
 intro a0 a1 a2 a3 a4 a5 a6 a7 a8 a9 a10 a11 a12 a13 k
 obtain ⟨ih0, ih1, ih2⟩ := supercargolaw09_short.mono_l k
 unfold supercargolaw09_short.f
 repeat' first
   | (with_reducible exact ih0 _ _ _ _ _ _ _ _ _ _ _ _ _ _ _ _ _ _)
   | (with_reducible exact ih1 _ _ _ _ _ _ _ _ _ _ _ _ _ _ _ _ _ _ _ _ _ _ _ _ _)
   | (with_reducible exact ih2 _ _ _ _ _ _ _ _ _ _ _ _ _ _ _ _ _ _)
   | (with_reducible exact LeO.refl _)
   | (with_reducible exact LeO.none _)
   | (with_reducible refine LeO.ite ?_ ?_)
   | (with_reducible refine LeO.bind ?_ (fun _ => ?_))
   | exact ih0 _ _ _ _ _ _ _ _ _ _ _ _ _ _ _ _ _ _
   | exact ih1 _ _ _ _ _ _ _ _ _ _ _ _ _ _ _ _ _ _ _ _ _ _ _ _ _
   | exact ih2 _ _ _ _ _ _ _ _ _ _ _ _ _ _ _ _ _ _
   | exact LeO.none _
   | refine LeO.ite ?_ ?_
   | refine LeO.bind ?_ (fun _ => ?_)
set_option maxHeartbeats 8000000 in
set_option maxRecDepth 100000 in
theorem supercargolaw09_short.calls (k : Nat) (a0_0 : ByteArray) (a0_1 : ByteArray) (a0_2 : Int) (a0_3 : Int) (a0_4 : Int) (a0_5 : ByteArray) (a0_6 : ByteArray) (a0_7 : ByteArray) (a0_8 : Int) (a0_9 : Int) (a0_10 : ByteArray) (a0_11 : Int) (A0_12 : Option Addr) (c0_12 : Nat) (l0_12 : List (S38)) (A0_13 : Option Addr) (c0_13 : Nat) (l0_13 : List ByteArray) (r : Bool) (w : World) (hr0_12 : Kd.C k38 w A0_12 l0_12.length l0_12) (hc0_12 : l0_12.length ≤ c0_12) (hr0_13 : Kd.C Kd.string w A0_13 l0_13.length l0_13) (hc0_13 : l0_13.length ≤ c0_13) (h : supercargolaw09_short.f k a0_0 a0_1 a0_2 a0_3 a0_4 a0_5 a0_6 a0_7 a0_8 a0_9 a0_10 a0_11 l0_12 l0_13 = some r) :
  Calls Tryz.prog 13 #[.agg #[.string a0_0, .string a0_1, .int .i64 a0_2, .int .i64 a0_3, .int .i64 a0_4, .string a0_5, .string a0_6, .string a0_7, .int .i64 a0_8, .int .i64 a0_9, .string a0_10, .int .i64 a0_11, .slice A0_12 l0_12.length c0_12, .slice A0_13 l0_13.length c0_13]] w fun e w' => e = .returned (.bool r) ∧ Below w.heap.size w w' := by
 have hu33 := Tryz.underlying33
 have hu38 := Tryz.underlying38
 have hu43 := Tryz.underlying43
 have HR0_12 := Aside0.mk hr0_12
 have HC0_12 := Aside0.mk hc0_12
 clear hr0_12 hc0_12
 have HR0_13 := Aside0.mk hr0_13
 have HC0_13 := Aside0.mk hc0_13
 clear hr0_13 hc0_13
 have HB := Aside0.mk (Below.refl w.heap.size w)
 have H : (supercargolaw09_short.l0 k (wrap64 ((wrap64 ((wrap64 ((wrap64 ((a0_0.size : Int) + (a0_1.size : Int))) + (a0_5.size : Int))) + (a0_7.size : Int))) + (a0_6.size : Int))) l0_12 (l0_12.length : Int) 0 a0_0 a0_1 a0_2 a0_3 a0_4 a0_5 a0_6 a0_7 a0_8 a0_9 a0_10 a0_11 l0_12 l0_13) = some r := h
 clear h
 have H' := Aside0.mk H
 clear H
 go_enter Tryz.func13, Tryz.ntmps13
 go_wp2_with (first | ((with_reducible refine gate_dst (N := 1) rfl ?_); (try (refine gate_guard (by rfl) ?_; dsimp only)); refine box_event ?hg (N := 1) ?hd (cs := #[.string a0_0, .string a0_1, .int .i64 a0_2, .int .i64 a0_3, .int .i64 a0_4, .string a0_5, .string a0_6, .string a0_7, .int .i64 a0_8, .int .i64 a0_9, .string a0_10, .int .i64 a0_11, .slice A0_12 l0_12.length c0_12, .slice A0_13 l0_13.length c0_13]) (t := 33) ?hr ?_; (case hd => rfl); (case hg => rfl); (case hr => first | (go_simp; done) | (go_simp; rfl)); intro gb188 hg w2 hbox hb; have n0_ := Aside0.mk (below_step (by repeat (first | (with_reducible first | exact HB.out | apply below_alloc | apply pw_below_drewN | apply below_drew1) | exact HB.out)) hb); have n1_ := Aside0.mk (hbox); have n2_ := Aside0.mk ((by rw [hg]; exact (below_size (by repeat (first | (with_reducible first | exact HB.out | apply below_alloc | apply pw_below_drewN | apply below_drew1) | exact HB.out))) : w.heap.size ≤ gb188)); have n3_ := Aside0.mk ((by rw [hg]; exact (below_size (by repeat (first | (with_reducible first | exact HB.out | apply below_alloc | apply pw_below_drewN | apply below_drew1) | exact HB.out))) : w.heap.size ≤ gb188)); clear HB; have HB := n0_; have BK188 := n1_; have GW188 := n2_; have GE188 := n3_; clear n0_ n1_ n2_ n3_; clear hb hbox hg; have hcz3_0 : w2.cell? ⟨gb188, 0, none⟩ = some (.string a0_0) := (blk_cell BK188.out 0).trans rfl; have hcz3_1 : w2.cell? ⟨gb188, 1, none⟩ = some (.string a0_1) := (blk_cell BK188.out 1).trans rfl; have hcz3_2 : w2.cell? ⟨gb188, 2, none⟩ = some (.int .i64 a0_2) := (blk_cell BK188.out 2).trans rfl; have hcz3_3 : w2.cell? ⟨gb188, 3, none⟩ = some (.int .i64 a0_3) := (blk_cell BK188.out 3).trans rfl; have hcz3_4 : w2.cell? ⟨gb188, 4, none⟩ = some (.int .i64 a0_4) := (blk_cell BK188.out 4).trans rfl; have hcz3_5 : w2.cell? ⟨gb188, 5, none⟩ = some (.string a0_5) := (blk_cell BK188.out 5).trans rfl; have hcz3_6 : w2.cell? ⟨gb188, 6, none⟩ = some (.string a0_6) := (blk_cell BK188.out 6).trans rfl; have hcz3_7 : w2.cell? ⟨gb188, 7, none⟩ = some (.string a0_7) := (blk_cell BK188.out 7).trans rfl; have hcz3_8 : w2.cell? ⟨gb188, 8, none⟩ = some (.int .i64 a0_8) := (blk_cell BK188.out 8).trans rfl; have hcz3_9 : w2.cell? ⟨gb188, 9, none⟩ = some (.int .i64 a0_9) := (blk_cell BK188.out 9).trans rfl; have hcz3_10 : w2.cell? ⟨gb188, 10, none⟩ = some (.string a0_10) := (blk_cell BK188.out 10).trans rfl; have hcz3_11 : w2.cell? ⟨gb188, 11, none⟩ = some (.int .i64 a0_11) := (blk_cell BK188.out 11).trans rfl; have hcz3_12 : w2.cell? ⟨gb188, 12, none⟩ = some (.slice A0_12 l0_12.length c0_12) := (blk_cell BK188.out 12).trans rfl; have hcz3_13 : w2.cell? ⟨gb188, 13, none⟩ = some (.slice A0_13 l0_13.length c0_13) := (blk_cell BK188.out 13).trans rfl; have hfz3_0 := blk_frozen BK188.out 0; have hfz3_1 := blk_frozen BK188.out 1; have hfz3_2 := blk_frozen BK188.out 2; have hfz3_3 := blk_frozen BK188.out 3; have hfz3_4 := blk_frozen BK188.out 4; have hfz3_5 := blk_frozen BK188.out 5; have hfz3_6 := blk_frozen BK188.out 6; have hfz3_7 := blk_frozen BK188.out 7; have hfz3_8 := blk_frozen BK188.out 8; have hfz3_9 := blk_frozen BK188.out 9; have hfz3_10 := blk_frozen BK188.out 10; have hfz3_11 := blk_frozen BK188.out 11; have hfz3_12 := blk_frozen BK188.out 12; have hfz3_13 := blk_frozen BK188.out 13))
 go_loopg [3, 32] k (fun kq v3 v32 w' => ∃ (x3_1 : Int) (x32_1 : Int), v3 = .int .i64 x3_1 ∧ v32 = .int .i64 x32_1 ∧ Aside0 (supercargolaw09_short.l0 kq x3_1 l0_12 (l0_12.length : Int) x32_1 a0_0 a0_1 a0_2 a0_3 a0_4 a0_5 a0_6 a0_7 a0_8 a0_9 a0_10 a0_11 l0_12 l0_13 = some r) ∧ Aside0 (kq ≤ k) ∧ Aside0 (w'.heap[gb188]? = some (.cells #[.string a0_0, .string a0_1, .int .i64 a0_2, .int .i64 a0_3, .int .i64 a0_4, .string a0_5, .string a0_6, .string a0_7, .int .i64 a0_8, .int .i64 a0_9, .string a0_10, .int .i64 a0_11, (.slice A0_12 l0_12.length c0_12), (.slice A0_13 l0_13.length c0_13)] 33 (0, 0))) ∧ Aside0 (Below w.heap.size w w'))
 case atStart => exact ⟨(wrap64 ((wrap64 ((wrap64 ((wrap64 ((a0_0.size : Int) + (a0_1.size : Int))) + (a0_5.size : Int))) + (a0_7.size : Int))) + (a0_6.size : Int))), (0), (by first | rfl | (simp; done) | (simp [*]; done)), (by first | rfl | (simp; done) | (simp [*]; done)), H', ⟨Nat.le_refl _⟩, ⟨by (with_reducible repeat (first | refine blk_drewN ?_ _ | refine blk_drew ?_ | refine blk_alloc ?_ _)); exact BK188.out⟩, ⟨by repeat (first | (with_reducible first | exact HB.out | apply below_alloc | apply pw_below_drewN | apply below_drew1 | refine below_set ?_ GE188.out) | exact HB.out)⟩⟩
 case round =>
  clear H'
  try clear c1
  try clear p2
  try clear hcz3_0
  try clear hcz3_1
  try clear hcz3_10
  try clear hcz3_11
  try clear hcz3_12
  try clear hcz3_13
  try clear hcz3_2
  try clear hcz3_3
  try clear hcz3_4
  try clear hcz3_5
  try clear hcz3_6
  try clear hcz3_7
  try clear hcz3_8
  try clear hcz3_9
  try clear hfz3_0
  try clear hfz3_1
  try clear hfz3_10
  try clear hfz3_11
  try clear hfz3_12
  try clear hfz3_13
  try clear hfz3_2
  try clear hfz3_3
  try clear hfz3_4
  try clear hfz3_5
  try clear hfz3_6
  try clear hfz3_7
  try clear hfz3_8
  try clear hfz3_9
  obtain ⟨x3_1, x32_1, rfl, rfl, HA, HK1, BK188, HB⟩ := hrel
  cases gk with
  | zero => exact absurd HA.out (by simp [supercargolaw09_short.l0])
  | succ k1 =>
   have H := HA.out
   clear HA
   simp only [supercargolaw09_short.l0] at H
   by_cases c4 : x32_1 < (l0_12.length : Int)
   ·
    rw [if_pos c4] at H
    have c4b0 : decide (x32_1 < (l0_12.length : Int)) = true := decide_eq_true c4
    clear c4
    by_cases c5 : 0 ≤ x32_1
    ·
     rw [if_pos c5] at H
     have c5b0 : decide (0 ≤ x32_1) = true := decide_eq_true c5
     clear c5
     by_cases c6 : x32_1 < (l0_12.length : Int)
     ·
      rw [if_pos c6] at H
      have c6b0 : decide (x32_1 < (l0_12.length : Int)) = true := decide_eq_true c6
      clear c6
      have H' := Aside0.mk H
      clear H
      have p189 : 0 ≤ (x32_1 : Int) := of_decide_eq_true (by first | (with_reducible assumption) | assumption)
      have q189 : x32_1 < (l0_12.length : Int) := of_decide_eq_true (by first | (with_reducible assumption) | assumption)
      obtain ⟨ad189, A189_3, c189_3, e189, hx189_0, hx189_1, hx189_2, hx189_3, hl189_3, hi189_3⟩ := at_T38 HR0_12.out x32_1 p189 q189
      cases e189
      replace hx189_0 := (HB.out.cell (World.block_lt_of_cell? w _ hx189_0)).trans hx189_0
      replace hx189_1 := (HB.out.cell (World.block_lt_of_cell? w _ hx189_1)).trans hx189_1
      replace hx189_2 := (HB.out.cell (World.block_lt_of_cell? w _ hx189_2)).trans hx189_2
      replace hx189_3 := (HB.out.cell (World.block_lt_of_cell? w _ hx189_3)).trans hx189_3
      have HR189_3 := Aside0.mk hi189_3
      have HC189_3 := Aside0.mk hl189_3
      clear hi189_3 hl189_3
      replace p189 := eq_true p189
      replace q189 := eq_true q189
      go_wp2_with (first | ((with_reducible refine gate_dst (N := 5) rfl ?_); (try (refine gate_guard (by rfl) ?_; dsimp only)); refine box_event ?hg (N := 5) ?hd (cs := #[.int .i64 0, .string (⟨#[]⟩ : ByteArray), .string (⟨#[]⟩ : ByteArray), .slice none 0 0]) (t := 38) ?hr ?_; (case hd => rfl); (case hg => rfl); (case hr => first | (go_simp; done) | (go_simp; rfl)); intro gb190 hg w7 hbox hb; have n0_ := Aside0.mk (blk_below (g := gb188) (o := .cells #[.string a0_0, .string a0_1, .int .i64 a0_2, .int .i64 a0_3, .int .i64 a0_4, .string a0_5, .string a0_6, .string a0_7, .int .i64 a0_8, .int .i64 a0_9, .string a0_10, .int .i64 a0_11, .slice (some ad189) l0_12.length c0_12, .slice A0_13 l0_13.length c0_13] 33 (0, 0)) (by (with_reducible repeat (first | refine blk_drewN ?_ _ | refine blk_drew ?_ | refine blk_alloc ?_ _)); exact BK188.out) hb); have n1_ := Aside0.mk (below_step (by repeat (first | (with_reducible first | exact HB.out | apply below_alloc | apply pw_below_drewN | apply below_drew1 | refine below_set ?_ GE188.out) | exact HB.out)) hb); have n2_ := Aside0.mk (hbox); have n3_ := Aside0.mk ((by rw [hg]; exact (below_size (by repeat (first | (with_reducible first | exact HB.out | apply below_alloc | apply pw_below_drewN | apply below_drew1 | refine below_set ?_ GE188.out) | exact HB.out))) : w.heap.size ≤ gb190)); have n4_ := Aside0.mk ((by rw [hg]; exact (below_size (by repeat (first | (with_reducible first | exact HB.out | apply below_alloc | apply pw_below_drewN | apply below_drew1 | refine below_set ?_ GE188.out) | exact HB.out))) : w.heap.size ≤ gb190)); have n5_ := Aside0.mk ((by rw [hg]; exact Nat.ne_of_lt (blk_lt (g := gb188) (o := .cells #[.string a0_0, .string a0_1, .int .i64 a0_2, .int .i64 a0_3, .int .i64 a0_4, .string a0_5, .string a0_6, .string a0_7, .int .i64 a0_8, .int .i64 a0_9, .string a0_10, .int .i64 a0_11, .slice (some ad189) l0_12.length c0_12, .slice A0_13 l0_13.length c0_13] 33 (0, 0)) (by (with_reducible repeat (first | refine blk_drewN ?_ _ | refine blk_drew ?_ | refine blk_alloc ?_ _)); exact BK188.out)) : gb188 ≠ gb190)); have n6_ := Aside0.mk ((by rw [hg]; exact Nat.ne_of_gt (blk_lt (g := gb188) (o := .cells #[.string a0_0, .string a0_1, .int .i64 a0_2, .int .i64 a0_3, .int .i64 a0_4, .string a0_5, .string a0_6, .string a0_7, .int .i64 a0_8, .int .i64 a0_9, .string a0_10, .int .i64 a0_11, .slice (some ad189) l0_12.length c0_12, .slice A0_13 l0_13.length c0_13] 33 (0, 0)) (by (with_reducible repeat (first | refine blk_drewN ?_ _ | refine blk_drew ?_ | refine blk_alloc ?_ _)); exact BK188.out)) : gb190 ≠ gb188)); clear BK188; clear HB; have BK188 := n0_; have HB := n1_; have BK190 := n2_; have GW190 := n3_; have GE190 := n4_; have NB188_190 := n5_; have NB190_188 := n6_; clear n0_ n1_ n2_ n3_ n4_ n5_ n6_; clear hb hbox hg; have hnb8 := NB190_188.out; have hnc8 := NB188_190.out; have hcz9_0 : w7.cell? ⟨gb190, 0, none⟩ = some (.int .i64 0) := (blk_cell BK190.out 0).trans rfl; have hcz9_1 : w7.cell? ⟨gb190, 1, none⟩ = some (.string (⟨#[]⟩ : ByteArray)) := (blk_cell BK190.out 1).trans rfl; have hcz9_2 : w7.cell? ⟨gb190, 2, none⟩ = some (.string (⟨#[]⟩ : ByteArray)) := (blk_cell BK190.out 2).trans rfl; have hcz9_3 : w7.cell? ⟨gb190, 3, none⟩ = some (.slice none 0 0) := (blk_cell BK190.out 3).trans rfl; have hfz9_0 := blk_frozen BK190.out 0; have hfz9_1 := blk_frozen BK190.out 1; have hfz9_2 := blk_frozen BK190.out 2; have hfz9_3 := blk_frozen BK190.out 3))
      go_loopg [3, 48] k1 (fun kq v3 v48 w' => ∃ (x3_2 : Int) (x48_2 : Int), v3 = .int .i64 x3_2 ∧ v48 = .int .i64 x48_2 ∧ Aside0 (supercargolaw09_short.l1 kq x3_2 l0_12 (l0_12.length : Int) x32_1 ((rd_T38 l0_12 x32_1).f3) (((rd_T38 l0_12 x32_1).f3).length : Int) x48_2 a0_0 a0_1 a0_2 a0_3 a0_4 a0_5 a0_6 a0_7 a0_8 a0_9 a0_10 a0_11 l0_12 l0_13 ((rd_T38 l0_12 x32_1).f0) ((rd_T38 l0_12 x32_1).f1) ((rd_T38 l0_12 x32_1).f2) ((rd_T38 l0_12 x32_1).f3) = some r) ∧ Aside0 (kq ≤ k1) ∧ Aside0 (w'.heap[gb188]? = some (.cells #[.string a0_0, .string a0_1, .int .i64 a0_2, .int .i64 a0_3, .int .i64 a0_4, .string a0_5, .string a0_6, .string a0_7, .int .i64 a0_8, .int .i64 a0_9, .string a0_10, .int .i64 a0_11, (.slice (some ad189) l0_12.length c0_12), (.slice A0_13 l0_13.length c0_13)] 33 (0, 0))) ∧ Aside0 (w'.heap[gb190]? = some (.cells #[.int .i64 ((rd_T38 l0_12 x32_1).f0), .string ((rd_T38 l0_12 x32_1).f1), .string ((rd_T38 l0_12 x32_1).f2), (.slice A189_3 ((rd_T38 l0_12 x32_1).f3).length c189_3)] 38 (0, 0))) ∧ Aside0 (Below w.heap.size w w'))
      case atStart => exact ⟨(wrap64 (x3_1 + (wrap64 ((((rd_T38 l0_12 x32_1).f1).size : Int) + (((rd_T38 l0_12 x32_1).f2).size : Int))))), (0), (by first | rfl | (simp; done) | (simp [*]; done)), (by first | rfl | (simp; done) | (simp [*]; done)), H', ⟨Nat.le_refl _⟩, ⟨by (with_reducible repeat (first | refine blk_drewN ?_ _ | refine blk_drew ?_ | refine blk_alloc ?_ _)); refine blk_far ?_ NB188_190.out _; (with_reducible repeat (first | refine blk_drewN ?_ _ | refine blk_drew ?_ | refine blk_alloc ?_ _)); refine blk_far ?_ NB188_190.out _; (with_reducible repeat (first | refine blk_drewN ?_ _ | refine blk_drew ?_ | refine blk_alloc ?_ _)); refine blk_far ?_ NB188_190.out _; (with_reducible repeat (first | refine blk_drewN ?_ _ | refine blk_drew ?_ | refine blk_alloc ?_ _)); refine blk_far ?_ NB188_190.out _; (with_reducible repeat (first | refine blk_drewN ?_ _ | refine blk_drew ?_ | refine blk_alloc ?_ _)); exact BK188.out⟩, ⟨by (with_reducible repeat (first | refine blk_drewN ?_ _ | refine blk_drew ?_ | refine blk_alloc ?_ _)); refine blk_put (cs := #[.int .i64 ((rd_T38 l0_12 x32_1).f0), .string ((rd_T38 l0_12 x32_1).f1), .string ((rd_T38 l0_12 x32_1).f2), .slice none 0 0]) ?_ 3 _ rfl; (with_reducible repeat (first | refine blk_drewN ?_ _ | refine blk_drew ?_ | refine blk_alloc ?_ _)); refine blk_put (cs := #[.int .i64 ((rd_T38 l0_12 x32_1).f0), .string ((rd_T38 l0_12 x32_1).f1), .string (⟨#[]⟩ : ByteArray), .slice none 0 0]) ?_ 2 _ rfl; (with_reducible repeat (first | refine blk_drewN ?_ _ | refine blk_drew ?_ | refine blk_alloc ?_ _)); refine blk_put (cs := #[.int .i64 ((rd_T38 l0_12 x32_1).f0), .string (⟨#[]⟩ : ByteArray), .string (⟨#[]⟩ : ByteArray), .slice none 0 0]) ?_ 1 _ rfl; (with_reducible repeat (first | refine blk_drewN ?_ _ | refine blk_drew ?_ | refine blk_alloc ?_ _)); refine blk_put (cs := #[.int .i64 0, .string (⟨#[]⟩ : ByteArray), .string (⟨#[]⟩ : ByteArray), .slice none 0 0]) ?_ 0 _ rfl; (with_reducible repeat (first | refine blk_drewN ?_ _ | refine blk_drew ?_ | refine blk_alloc ?_ _)); exact BK190.out⟩, ⟨by repeat (first | (with_reducible first | exact HB.out | apply below_alloc | apply pw_below_drewN | apply below_drew1 | refine below_set ?_ GE188.out | refine below_set ?_ GE190.out) | exact HB.out)⟩⟩
      case round =>
       clear H'
       try clear c1
       try clear p1
       try clear q1
       try clear hx1
       try clear p2
       try clear c4
       try clear c4b0
       try clear c5
       try clear c5b0
       try clear c6
       try clear c6b0
       try clear p6
       try clear c8
       try clear hcz3_0
       try clear hcz3_1
       try clear hcz3_10
       try clear hcz3_11
       try clear hcz3_12
       try clear hcz3_13
       try clear hcz3_2
       try clear hcz3_3
       try clear hcz3_4
       try clear hcz3_5
       try clear hcz3_6
       try clear hcz3_7
       try clear hcz3_8
       try clear hcz3_9
       try clear hcz9_0
       try clear hcz9_1
       try clear hcz9_2
       try clear hcz9_3
       try clear hfz3_0
       try clear hfz3_1
       try clear hfz3_10
       try clear hfz3_11
       try clear hfz3_12
       try clear hfz3_13
       try clear hfz3_2
       try clear hfz3_3
       try clear hfz3_4
       try clear hfz3_5
       try clear hfz3_6
       try clear hfz3_7
       try clear hfz3_8
       try clear hfz3_9
       try clear hfz9_0
       try clear hfz9_1
       try clear hfz9_2
       try clear hfz9_3
       try clear hx189_0
       try clear hx189_1
       try clear hx189_2
       try clear hx189_3
       try clear p189
       try clear p2
       try clear q189
       obtain ⟨x3_2, x48_2, rfl, rfl, HA, HK2, BK188, BK190, HB⟩ := hrel
       cases gk with
       | zero => exact absurd HA.out (by simp [supercargolaw09_short.l1])
       | succ k2 =>
        have H := HA.out
        clear HA
        simp only [supercargolaw09_short.l1] at H
        by_cases c10 : x48_2 < (((rd_T38 l0_12 x32_1).f3).length : Int)
        ·
         rw [if_pos c10] at H
         have c10b0 : decide (x48_2 < (((rd_T38 l0_12 x32_1).f3).length : Int)) = true := decide_eq_true c10
         clear c10
         by_cases c11 : 0 ≤ x48_2
         ·
          rw [if_pos c11] at H
          have c11b0 : decide (0 ≤ x48_2) = true := decide_eq_true c11
          clear c11
          by_cases c12 : x48_2 < (((rd_T38 l0_12 x32_1).f3).length : Int)
          ·
           rw [if_pos c12] at H
           have c12b0 : decide (x48_2 < (((rd_T38 l0_12 x32_1).f3).length : Int)) = true := decide_eq_true c12
           clear c12
           have H' := Aside0.mk H
           clear H
           have p191 : 0 ≤ (x48_2 : Int) := of_decide_eq_true (by first | (with_reducible assumption) | assumption)
           have q191 : x48_2 < (((rd_T38 l0_12 x32_1).f3).length : Int) := of_decide_eq_true (by first | (with_reducible assumption) | assumption)
           obtain ⟨ad191, e191, hx191_0, hx191_1⟩ := at_T43 HR189_3.out x48_2 p191 q191
           cases e191
           replace hx191_0 := (HB.out.cell (World.block_lt_of_cell? w _ hx191_0)).trans hx191_0
           replace hx191_1 := (HB.out.cell (World.block_lt_of_cell? w _ hx191_1)).trans hx191_1
           replace p191 := eq_true p191
           replace q191 := eq_true q191
           go_wp2_with (first | ((with_reducible refine gate_dst (N := 7) rfl ?_); (try (refine gate_guard (by rfl) ?_; dsimp only)); refine box_event ?hg (N := 7) ?hd (cs := #[.string (⟨#[]⟩ : ByteArray), .string (⟨#[]⟩ : ByteArray)]) (t := 43) ?hr ?_; (case hd => rfl); (case hg => rfl); (case hr => first | (go_simp; done) | (go_simp; rfl)); intro gb192 hg w13 hbox hb; have n0_ := Aside0.mk (blk_below (g := gb188) (o := .cells #[.string a0_0, .string a0_1, .int .i64 a0_2, .int .i64 a0_3, .int .i64 a0_4, .string a0_5, .string a0_6, .string a0_7, .int .i64 a0_8, .int .i64 a0_9, .string a0_10, .int .i64 a0_11, .slice (some ad189) l0_12.length c0_12, .slice A0_13 l0_13.length c0_13] 33 (0, 0)) (by (with_reducible repeat (first | refine blk_drewN ?_ _ | refine blk_drew ?_ | refine blk_alloc ?_ _)); exact BK188.out) hb); have n1_ := Aside0.mk (blk_below (g := gb190) (o := .cells #[.int .i64 ((rd_T38 l0_12 x32_1).f0), .string ((rd_T38 l0_12 x32_1).f1), .string ((rd_T38 l0_12 x32_1).f2), .slice (some ad191) ((rd_T38 l0_12 x32_1).f3).length c189_3] 38 (0, 0)) (by (with_reducible repeat (first | refine blk_drewN ?_ _ | refine blk_drew ?_ | refine blk_alloc ?_ _)); exact BK190.out) hb); have n2_ := Aside0.mk (below_step (by repeat (first | (with_reducible first | exact HB.out | apply below_alloc | apply pw_below_drewN | apply below_drew1 | refine below_set ?_ GE188.out | refine below_set ?_ GE190.out) | exact HB.out)) hb); have n3_ := Aside0.mk (hbox); have n4_ := Aside0.mk ((by rw [hg]; exact (below_size (by repeat (first | (with_reducible first | exact HB.out | apply below_alloc | apply pw_below_drewN | apply below_drew1 | refine below_set ?_ GE188.out | refine below_set ?_ GE190.out) | exact HB.out))) : w.heap.size ≤ gb192)); have n5_ := Aside0.mk ((by rw [hg]; exact (below_size (by repeat (first | (with_reducible first | exact HB.out | apply below_alloc | apply pw_below_drewN | apply below_drew1 | refine below_set ?_ GE188.out | refine below_set ?_ GE190.out) | exact HB.out))) : w.heap.size ≤ gb192)); have n6_ := Aside0.mk ((by rw [hg]; exact Nat.ne_of_lt (blk_lt (g := gb188) (o := .cells #[.string a0_0, .string a0_1, .int .i64 a0_2, .int .i64 a0_3, .int .i64 a0_4, .string a0_5, .string a0_6, .string a0_7, .int .i64 a0_8, .int .i64 a0_9, .string a0_10, .int .i64 a0_11, .slice (some ad189) l0_12.length c0_12, .slice A0_13 l0_13.length c0_13] 33 (0, 0)) (by (with_reducible repeat (first | refine blk_drewN ?_ _ | refine blk_drew ?_ | refine blk_alloc ?_ _)); exact BK188.out)) : gb188 ≠ gb192)); have n7_ := Aside0.mk ((by rw [hg]; exact Nat.ne_of_gt (blk_lt (g := gb188) (o := .cells #[.string a0_0, .string a0_1, .int .i64 a0_2, .int .i64 a0_3, .int .i64 a0_4, .string a0_5, .string a0_6, .string a0_7, .int .i64 a0_8, .int .i64 a0_9, .string a0_10, .int .i64 a0_11, .slice (some ad189) l0_12.length c0_12, .slice A0_13 l0_13.length c0_13] 33 (0, 0)) (by (with_reducible repeat (first | refine blk_drewN ?_ _ | refine blk_drew ?_ | refine blk_alloc ?_ _)); exact BK188.out)) : gb192 ≠ gb188)); have n8_ := Aside0.mk ((by rw [hg]; exact Nat.ne_of_lt (blk_lt (g := gb190) (o := .cells #[.int .i64 ((rd_T38 l0_12 x32_1).f0), .string ((rd_T38 l0_12 x32_1).f1), .string ((rd_T38 l0_12 x32_1).f2), .slice (some ad191) ((rd_T38 l0_12 x32_1).f3).length c189_3] 38 (0, 0)) (by (with_reducible repeat (first | refine blk_drewN ?_ _ | refine blk_drew ?_ | refine blk_alloc ?_ _)); exact BK190.out)) : gb190 ≠ gb192)); have n9_ := Aside0.mk ((by rw [hg]; exact Nat.ne_of_gt (blk_lt (g := gb190) (o := .cells #[.int .i64 ((rd_T38 l0_12 x32_1).f0), .string ((rd_T38 l0_12 x32_1).f1), .string ((rd_T38 l0_12 x32_1).f2), .slice (some ad191) ((rd_T38 l0_12 x32_1).f3).length c189_3] 38 (0, 0)) (by (with_reducible repeat (first | refine blk_drewN ?_ _ | refine blk_drew ?_ | refine blk_alloc ?_ _)); exact BK190.out)) : gb192 ≠ gb190)); clear BK188; clear BK190; clear HB; have BK188 := n0_; have BK190 := n1_; have HB := n2_; have BK192 := n3_; have GW192 := n4_; have GE192 := n5_; have NB188_192 := n6_; have NB192_188 := n7_; have NB190_192 := n8_; have NB192_190 := n9_; clear n0_ n1_ n2_ n3_ n4_ n5_ n6_ n7_ n8_ n9_; clear hb hbox hg; have hnb14 := NB192_188.out; have hnc14 := NB188_192.out; have hnb15 := NB192_190.out; have hnc15 := NB190_192.out; have hcz16_0 : w13.cell? ⟨gb192, 0, none⟩ = some (.string (⟨#[]⟩ : ByteArray)) := (blk_cell BK192.out 0).trans rfl; have hcz16_1 : w13.cell? ⟨gb192, 1, none⟩ = some (.string (⟨#[]⟩ : ByteArray)) := (blk_cell BK192.out 1).trans rfl; have hfz16_0 := blk_frozen BK192.out 0; have hfz16_1 := blk_frozen BK192.out 1))
           go_roundg k2
           case measure => have := HK1.out; have := HK2.out; omega
           case rel => exact ⟨(wrap64 (x3_2 + (wrap64 ((((rd_T43 ((rd_T38 l0_12 x32_1).f3) x48_2).f0).size : Int) + (((rd_T43 ((rd_T38 l0_12 x32_1).f3) x48_2).f1).size : Int))))), (wrap64 (x48_2 + 1)), (by first | rfl | (simp; done) | (simp [*]; done)), (by first | rfl | (simp; done) | (simp [*]; done)), H', ⟨by have := HK1.out; have := HK2.out; omega⟩, ⟨by (with_reducible repeat (first | refine blk_drewN ?_ _ | refine blk_drew ?_ | refine blk_alloc ?_ _)); refine blk_far ?_ NB188_192.out _; (with_reducible repeat (first | refine blk_drewN ?_ _ | refine blk_drew ?_ | refine blk_alloc ?_ _)); refine blk_far ?_ NB188_192.out _; (with_reducible repeat (first | refine blk_drewN ?_ _ | refine blk_drew ?_ | refine blk_alloc ?_ _)); exact BK188.out⟩, ⟨by (with_reducible repeat (first | refine blk_drewN ?_ _ | refine blk_drew ?_ | refine blk_alloc ?_ _)); refine blk_far ?_ NB190_192.out _; (with_reducible repeat (first | refine blk_drewN ?_ _ | refine blk_drew ?_ | refine blk_alloc ?_ _)); refine blk_far ?_ NB190_192.out _; (with_reducible repeat (first | refine blk_drewN ?_ _ | refine blk_drew ?_ | refine blk_alloc ?_ _)); exact BK190.out⟩, ⟨by repeat (first | (with_reducible first | exact HB.out | apply below_alloc | apply pw_below_drewN | apply below_drew1 | refine below_set ?_ GE188.out | refine below_set ?_ GE190.out | refine below_set ?_ GE192.out) | exact HB.out)⟩⟩
          ·
           rw [if_neg c12] at H
           exact absurd H (by simp)
         ·
          rw [if_neg c11] at H
          exact absurd H (by simp)
        ·
         rw [if_neg c10] at H
         have c10b0 : decide (x48_2 < (((rd_T38 l0_12 x32_1).f3).length : Int)) = false := decide_eq_false c10
         clear c10
         by_cases c17 : x3_2 > 9000
         ·
          rw [if_pos c17] at H
          have c17b0 : decide (9000 < x3_2) = true := decide_eq_true c17
          clear c17
          obtain rfl := Option.some.inj H
          go_wp2
          go_ret
          exact ⟨by first | rfl | (simp [errW_none, errW_some] <;> rfl) | (simp [*, errW_none, errW_some] <;> rfl), by repeat (first | (with_reducible first | exact HB.out | apply below_alloc | apply pw_below_drewN | apply below_drew1 | refine below_set ?_ GE188.out | refine below_set ?_ GE190.out) | exact HB.out)⟩
         ·
          rw [if_neg c17] at H
          have c17b0 : decide (9000 < x3_2) = false := decide_eq_false c17
          clear c17
          by_cases c18 : (((rd_T38 l0_12 x32_1).f3).length : Int) > 80
          ·
           rw [if_pos c18] at H
           have c18b0 : decide (80 < (((rd_T38 l0_12 x32_1).f3).length : Int)) = true := decide_eq_true c18
           have c18b1 : decide (80 < ((rd_T38 l0_12 x32_1).f3).length) = true := decide_eq_true (by omega)
           clear c18
           obtain rfl := Option.some.inj H
           have hnb19 := NB190_188.out
           have hnc19 := NB188_190.out
           have hcz20_0 : wr.cell? ⟨gb190, 0, none⟩ = some (.int .i64 ((rd_T38 l0_12 x32_1).f0)) := (blk_cell BK190.out 0).trans rfl
           have hcz20_1 : wr.cell? ⟨gb190, 1, none⟩ = some (.string ((rd_T38 l0_12 x32_1).f1)) := (blk_cell BK190.out 1).trans rfl
           have hcz20_2 : wr.cell? ⟨gb190, 2, none⟩ = some (.string ((rd_T38 l0_12 x32_1).f2)) := (blk_cell BK190.out 2).trans rfl
           have hcz20_3 : wr.cell? ⟨gb190, 3, none⟩ = some (.slice A189_3 ((rd_T38 l0_12 x32_1).f3).length c189_3) := (blk_cell BK190.out 3).trans rfl
           have hfz20_0 := blk_frozen BK190.out 0
           have hfz20_1 := blk_frozen BK190.out 1
           have hfz20_2 := blk_frozen BK190.out 2
           have hfz20_3 := blk_frozen BK190.out 3
           go_wp2
           go_ret
           exact ⟨by first | rfl | (simp [errW_none, errW_some] <;> rfl) | (simp [*, errW_none, errW_some] <;> rfl), by repeat (first | (with_reducible first | exact HB.out | apply below_alloc | apply pw_below_drewN | apply below_drew1 | refine below_set ?_ GE188.out | refine below_set ?_ GE190.out) | exact HB.out)⟩
          ·
           rw [if_neg c18] at H
           have c18b0 : decide (80 < (((rd_T38 l0_12 x32_1).f3).length : Int)) = false := decide_eq_false c18
           have c18b1 : decide (80 < ((rd_T38 l0_12 x32_1).f3).length) = false := decide_eq_false (by omega)
           clear c18
           have H' := Aside0.mk H
           clear H
           have hnb21 := NB190_188.out
           have hnc21 := NB188_190.out
           have hcz22_0 : wr.cell? ⟨gb190, 0, none⟩ = some (.int .i64 ((rd_T38 l0_12 x32_1).f0)) := (blk_cell BK190.out 0).trans rfl
           have hcz22_1 : wr.cell? ⟨gb190, 1, none⟩ = some (.string ((rd_T38 l0_12 x32_1).f1)) := (blk_cell BK190.out 1).trans rfl
           have hcz22_2 : wr.cell? ⟨gb190, 2, none⟩ = some (.string ((rd_T38 l0_12 x32_1).f2)) := (blk_cell BK190.out 2).trans rfl
           have hcz22_3 : wr.cell? ⟨gb190, 3, none⟩ = some (.slice A189_3 ((rd_T38 l0_12 x32_1).f3).length c189_3) := (blk_cell BK190.out 3).trans rfl
           have hfz22_0 := blk_frozen BK190.out 0
           have hfz22_1 := blk_frozen BK190.out 1
           have hfz22_2 := blk_frozen BK190.out 2
           have hfz22_3 := blk_frozen BK190.out 3
           go_wp2
           go_roundg k2
           case measure => have := HK1.out; have := HK2.out; omega
           case rel => exact ⟨(x3_2), (wrap64 (x32_1 + 1)), (by first | rfl | (simp; done) | (simp [*]; done)), (by first | rfl | (simp; done) | (simp [*]; done)), H', ⟨by have := HK1.out; have := HK2.out; omega⟩, ⟨by (with_reducible repeat (first | refine blk_drewN ?_ _ | refine blk_drew ?_ | refine blk_alloc ?_ _)); exact BK188.out⟩, ⟨by repeat (first | (with_reducible first | exact HB.out | apply below_alloc | apply pw_below_drewN | apply below_drew1 | refine below_set ?_ GE188.out | refine below_set ?_ GE190.out) | exact HB.out)⟩⟩
     ·
      rw [if_neg c6] at H
      exact absurd H (by simp)
    ·
     rw [if_neg c5] at H
     exact absurd H (by simp)
   ·
    rw [if_neg c4] at H
    have c4b0 : decide (x32_1 < (l0_12.length : Int)) = false := decide_eq_false c4
    clear c4
    have H' := Aside0.mk H
    clear H
    have hcz23_0 : wr.cell? ⟨gb188, 0, none⟩ = some (.string a0_0) := (blk_cell BK188.out 0).trans rfl
    have hcz23_1 : wr.cell? ⟨gb188, 1, none⟩ = some (.string a0_1) := (blk_cell BK188.out 1).trans rfl
    have hcz23_2 : wr.cell? ⟨gb188, 2, none⟩ = some (.int .i64 a0_2) := (blk_cell BK188.out 2).trans rfl
    have hcz23_3 : wr.cell? ⟨gb188, 3, none⟩ = some (.int .i64 a0_3) := (blk_cell BK188.out 3).trans rfl
    have hcz23_4 : wr.cell? ⟨gb188, 4, none⟩ = some (.int .i64 a0_4) := (blk_cell BK188.out 4).trans rfl
    have hcz23_5 : wr.cell? ⟨gb188, 5, none⟩ = some (.string a0_5) := (blk_cell BK188.out 5).trans rfl
    have hcz23_6 : wr.cell? ⟨gb188, 6, none⟩ = some (.string a0_6) := (blk_cell BK188.out 6).trans rfl
    have hcz23_7 : wr.cell? ⟨gb188, 7, none⟩ = some (.string a0_7) := (blk_cell BK188.out 7).trans rfl
    have hcz23_8 : wr.cell? ⟨gb188, 8, none⟩ = some (.int .i64 a0_8) := (blk_cell BK188.out 8).trans rfl
    have hcz23_9 : wr.cell? ⟨gb188, 9, none⟩ = some (.int .i64 a0_9) := (blk_cell BK188.out 9).trans rfl
    have hcz23_10 : wr.cell? ⟨gb188, 10, none⟩ = some (.string a0_10) := (blk_cell BK188.out 10).trans rfl
    have hcz23_11 : wr.cell? ⟨gb188, 11, none⟩ = some (.int .i64 a0_11) := (blk_cell BK188.out 11).trans rfl
    have hcz23_12 : wr.cell? ⟨gb188, 12, none⟩ = some (.slice A0_12 l0_12.length c0_12) := (blk_cell BK188.out 12).trans rfl
    have hcz23_13 : wr.cell? ⟨gb188, 13, none⟩ = some (.slice A0_13 l0_13.length c0_13) := (blk_cell BK188.out 13).trans rfl
    have hfz23_0 := blk_frozen BK188.out 0
    have hfz23_1 := blk_frozen BK188.out 1
    have hfz23_2 := blk_frozen BK188.out 2
    have hfz23_3 := blk_frozen BK188.out 3
    have hfz23_4 := blk_frozen BK188.out 4
    have hfz23_5 := blk_frozen BK188.out 5
    have hfz23_6 := blk_frozen BK188.out 6
    have hfz23_7 := blk_frozen BK188.out 7
    have hfz23_8 := blk_frozen BK188.out 8
    have hfz23_9 := blk_frozen BK188.out 9
    have hfz23_10 := blk_frozen BK188.out 10
    have hfz23_11 := blk_frozen BK188.out 11
    have hfz23_12 := blk_frozen BK188.out 12
    have hfz23_13 := blk_frozen BK188.out 13
    go_wp2
    go_loopg [3, 74] k1 (fun kq v3 v74 w' => ∃ (x3_2 : Int) (x74_2 : Int), v3 = .int .i64 x3_2 ∧ v74 = .int .i64 x74_2 ∧ Aside0 (supercargolaw09_short.l2 kq x3_2 l0_13 (l0_13.length : Int) x74_2 a0_0 a0_1 a0_2 a0_3 a0_4 a0_5 a0_6 a0_7 a0_8 a0_9 a0_10 a0_11 l0_12 l0_13 = some r) ∧ Aside0 (kq ≤ k1) ∧ Aside0 (w'.heap[gb188]? = some (.cells #[.string a0_0, .string a0_1, .int .i64 a0_2, .int .i64 a0_3, .int .i64 a0_4, .string a0_5, .string a0_6, .string a0_7, .int .i64 a0_8, .int .i64 a0_9, .string a0_10, .int .i64 a0_11, (.slice A0_12 l0_12.length c0_12), (.slice A0_13 l0_13.length c0_13)] 33 (0, 0))) ∧ Aside0 (Below w.heap.size w w'))
    case atStart => exact ⟨(x3_1), (0), (by first | rfl | (simp; done) | (simp [*]; done)), (by first | rfl | (simp; done) | (simp [*]; done)), H', ⟨Nat.le_refl _⟩, ⟨by (with_reducible repeat (first | refine blk_drewN ?_ _ | refine blk_drew ?_ | refine blk_alloc ?_ _)); exact BK188.out⟩, ⟨by repeat (first | (with_reducible first | exact HB.out | apply below_alloc | apply pw_below_drewN | apply below_drew1 | refine below_set ?_ GE188.out) | exact HB.out)⟩⟩
    case round =>
     clear H'
     try clear c1
     try clear p1
     try clear q1
     try clear hx1
     try clear c2
     try clear p2
     try clear c4
     try clear c4b0
     try clear c5
     try clear c5b0
     try clear c6
     try clear c6b0
     try clear p6
     try clear c8
     try clear c10
     try clear c10b0
     try clear c11
     try clear c11b0
     try clear c12
     try clear c12b0
     try clear c13
     try clear c14
     try clear c15
     try clear c17
     try clear c17b0
     try clear c18
     try clear c18b0
     try clear c18b1
     try clear p18
     try clear q18
     try clear hx18
     try clear c19
     try clear p19
     try clear q19
     try clear hx19
     try clear c21
     try clear hcz16_0
     try clear hcz16_1
     try clear hcz20_0
     try clear hcz20_1
     try clear hcz20_2
     try clear hcz20_3
     try clear hcz22_0
     try clear hcz22_1
     try clear hcz22_2
     try clear hcz22_3
     try clear hcz23_0
     try clear hcz23_1
     try clear hcz23_10
     try clear hcz23_11
     try clear hcz23_12
     try clear hcz23_13
     try clear hcz23_2
     try clear hcz23_3
     try clear hcz23_4
     try clear hcz23_5
     try clear hcz23_6
     try clear hcz23_7
     try clear hcz23_8
     try clear hcz23_9
     try clear hcz3_0
     try clear hcz3_1
     try clear hcz3_10
     try clear hcz3_11
     try clear hcz3_12
     try clear hcz3_13
     try clear hcz3_2
     try clear hcz3_3
     try clear hcz3_4
     try clear hcz3_5
     try clear hcz3_6
     try clear hcz3_7
     try clear hcz3_8
     try clear hcz3_9
     try clear hcz9_0
     try clear hcz9_1
     try clear hcz9_2
     try clear hcz9_3
     try clear hfz16_0
     try clear hfz16_1
     try clear hfz20_0
     try clear hfz20_1
     try clear hfz20_2
     try clear hfz20_3
     try clear hfz22_0
     try clear hfz22_1
     try clear hfz22_2
     try clear hfz22_3
     try clear hfz23_0
     try clear hfz23_1
     try clear hfz23_10
     try clear hfz23_11
     try clear hfz23_12
     try clear hfz23_13
     try clear hfz23_2
     try clear hfz23_3
     try clear hfz23_4
     try clear hfz23_5
     try clear hfz23_6
     try clear hfz23_7
     try clear hfz23_8
     try clear hfz23_9
     try clear hfz3_0
     try clear hfz3_1
     try clear hfz3_10
     try clear hfz3_11
     try clear hfz3_12
     try clear hfz3_13
     try clear hfz3_2
     try clear hfz3_3
     try clear hfz3_4
     try clear hfz3_5
     try clear hfz3_6
     try clear hfz3_7
     try clear hfz3_8
     try clear hfz3_9
     try clear hfz9_0
     try clear hfz9_1
     try clear hfz9_2
     try clear hfz9_3
     try clear hx189_0
     try clear hx189_1
     try clear hx189_2
     try clear hx189_3
     try clear hx191_0
     try clear hx191_1
     try clear p1
     try clear p189
     try clear p191
     try clear p2
     try clear p6
     try clear q1
     try clear q189
     try clear q191
     obtain ⟨x3_2, x74_2, rfl, rfl, HA, HK2, BK188, HB⟩ := hrel
     cases gk with
     | zero => exact absurd HA.out (by simp [supercargolaw09_short.l2])
     | succ k2 =>
      have H := HA.out
      clear HA
      simp only [supercargolaw09_short.l2] at H
      by_cases c24 : x74_2 < (l0_13.length : Int)
      ·
       rw [if_pos c24] at H
       have c24b0 : decide (x74_2 < (l0_13.length : Int)) = true := decide_eq_true c24
       clear c24
       by_cases c25 : 0 ≤ x74_2
       ·
        rw [if_pos c25] at H
        have c25b0 : decide (0 ≤ x74_2) = true := decide_eq_true c25
        clear c25
        by_cases c26 : x74_2 < (l0_13.length : Int)
        ·
         rw [if_pos c26] at H
         have c26b0 : decide (x74_2 < (l0_13.length : Int)) = true := decide_eq_true c26
         clear c26
         have H' := Aside0.mk H
         clear H
         have p193 : 0 ≤ (x74_2 : Int) := of_decide_eq_true (by first | (with_reducible assumption) | assumption)
         have q193 : x74_2 < (l0_13.length : Int) := of_decide_eq_true (by first | (with_reducible assumption) | assumption)
         obtain ⟨ad193, e193, hx193_0⟩ := Kd.at_string HR0_13.out x74_2 p193 q193
         cases e193
         replace hx193_0 := (HB.out.cell (World.block_lt_of_cell? w _ hx193_0)).trans hx193_0
         replace p193 := eq_true p193
         replace q193 := eq_true q193
         go_wp2
         go_roundg k2
         case measure => have := HK1.out; have := HK2.out; omega
         case rel => exact ⟨(wrap64 (x3_2 + ((rdOf ByteArray.empty l0_13 x74_2).size : Int))), (wrap64 (x74_2 + 1)), (by first | rfl | (simp; done) | (simp [*]; done)), (by first | rfl | (simp; done) | (simp [*]; done)), H', ⟨by have := HK1.out; have := HK2.out; omega⟩, ⟨by (with_reducible repeat (first | refine blk_drewN ?_ _ | refine blk_drew ?_ | refine blk_alloc ?_ _)); exact BK188.out⟩, ⟨by repeat (first | (with_reducible first | exact HB.out | apply below_alloc | apply pw_below_drewN | apply below_drew1 | refine below_set ?_ GE188.out) | exact HB.out)⟩⟩
        ·
         rw [if_neg c26] at H
         exact absurd H (by simp)
       ·
        rw [if_neg c25] at H
        exact absurd H (by simp)
      ·
       rw [if_neg c24] at H
       have c24b0 : decide (x74_2 < (l0_13.length : Int)) = false := decide_eq_false c24
       clear c24
       by_cases c27 : x3_2 ≤ 9000
       ·
        rw [if_pos c27] at H
        have c27b0 : decide (x3_2 ≤ 9000) = true := decide_eq_true c27
        clear c27
        by_cases c28 : (l0_12.length : Int) ≤ 12
        ·
         rw [if_pos c28] at H
         have c28b0 : decide ((l0_12.length : Int) ≤ 12) = true := decide_eq_true c28
         have c28b1 : decide (l0_12.length ≤ 12) = true := decide_eq_true (by omega)
         clear c28
         obtain rfl := Option.some.inj H
         have hcz29_0 : wr.cell? ⟨gb188, 0, none⟩ = some (.string a0_0) := (blk_cell BK188.out 0).trans rfl
         have hcz29_1 : wr.cell? ⟨gb188, 1, none⟩ = some (.string a0_1) := (blk_cell BK188.out 1).trans rfl
         have hcz29_2 : wr.cell? ⟨gb188, 2, none⟩ = some (.int .i64 a0_2) := (blk_cell BK188.out 2).trans rfl
         have hcz29_3 : wr.cell? ⟨gb188, 3, none⟩ = some (.int .i64 a0_3) := (blk_cell BK188.out 3).trans rfl
         have hcz29_4 : wr.cell? ⟨gb188, 4, none⟩ = some (.int .i64 a0_4) := (blk_cell BK188.out 4).trans rfl
         have hcz29_5 : wr.cell? ⟨gb188, 5, none⟩ = some (.string a0_5) := (blk_cell BK188.out 5).trans rfl
         have hcz29_6 : wr.cell? ⟨gb188, 6, none⟩ = some (.string a0_6) := (blk_cell BK188.out 6).trans rfl
         have hcz29_7 : wr.cell? ⟨gb188, 7, none⟩ = some (.string a0_7) := (blk_cell BK188.out 7).trans rfl
         have hcz29_8 : wr.cell? ⟨gb188, 8, none⟩ = some (.int .i64 a0_8) := (blk_cell BK188.out 8).trans rfl
         have hcz29_9 : wr.cell? ⟨gb188, 9, none⟩ = some (.int .i64 a0_9) := (blk_cell BK188.out 9).trans rfl
         have hcz29_10 : wr.cell? ⟨gb188, 10, none⟩ = some (.string a0_10) := (blk_cell BK188.out 10).trans rfl
         have hcz29_11 : wr.cell? ⟨gb188, 11, none⟩ = some (.int .i64 a0_11) := (blk_cell BK188.out 11).trans rfl
         have hcz29_12 : wr.cell? ⟨gb188, 12, none⟩ = some (.slice A0_12 l0_12.length c0_12) := (blk_cell BK188.out 12).trans rfl
         have hcz29_13 : wr.cell? ⟨gb188, 13, none⟩ = some (.slice A0_13 l0_13.length c0_13) := (blk_cell BK188.out 13).trans rfl
         have hfz29_0 := blk_frozen BK188.out 0
         have hfz29_1 := blk_frozen BK188.out 1
         have hfz29_2 := blk_frozen BK188.out 2
         have hfz29_3 := blk_frozen BK188.out 3
         have hfz29_4 := blk_frozen BK188.out 4
         have hfz29_5 := blk_frozen BK188.out 5
         have hfz29_6 := blk_frozen BK188.out 6
         have hfz29_7 := blk_frozen BK188.out 7
         have hfz29_8 := blk_frozen BK188.out 8
         have hfz29_9 := blk_frozen BK188.out 9
         have hfz29_10 := blk_frozen BK188.out 10
         have hfz29_11 := blk_frozen BK188.out 11
         have hfz29_12 := blk_frozen BK188.out 12
         have hfz29_13 := blk_frozen BK188.out 13
         go_wp2
         go_ret
         exact ⟨by first | rfl | (simp [errW_none, errW_some] <;> rfl) | (simp [*, errW_none, errW_some] <;> rfl), by repeat (first | (with_reducible first | exact HB.out | apply below_alloc | apply pw_below_drewN | apply below_drew1 | refine below_set ?_ GE188.out) | exact HB.out)⟩
        ·
         rw [if_neg c28] at H
         have c28b0 : decide ((l0_12.length : Int) ≤ 12) = false := decide_eq_false c28
         have c28b1 : decide (l0_12.length ≤ 12) = false := decide_eq_false (by omega)
         clear c28
         obtain rfl := Option.some.inj H
         have hcz30_0 : wr.cell? ⟨gb188, 0, none⟩ = some (.string a0_0) := (blk_cell BK188.out 0).trans rfl
         have hcz30_1 : wr.cell? ⟨gb188, 1, none⟩ = some (.string a0_1) := (blk_cell BK188.out 1).trans rfl
         have hcz30_2 : wr.cell? ⟨gb188, 2, none⟩ = some (.int .i64 a0_2) := (blk_cell BK188.out 2).trans rfl
         have hcz30_3 : wr.cell? ⟨gb188, 3, none⟩ = some (.int .i64 a0_3) := (blk_cell BK188.out 3).trans rfl
         have hcz30_4 : wr.cell? ⟨gb188, 4, none⟩ = some (.int .i64 a0_4) := (blk_cell BK188.out 4).trans rfl
         have hcz30_5 : wr.cell? ⟨gb188, 5, none⟩ = some (.string a0_5) := (blk_cell BK188.out 5).trans rfl
         have hcz30_6 : wr.cell? ⟨gb188, 6, none⟩ = some (.string a0_6) := (blk_cell BK188.out 6).trans rfl
         have hcz30_7 : wr.cell? ⟨gb188, 7, none⟩ = some (.string a0_7) := (blk_cell BK188.out 7).trans rfl
         have hcz30_8 : wr.cell? ⟨gb188, 8, none⟩ = some (.int .i64 a0_8) := (blk_cell BK188.out 8).trans rfl
         have hcz30_9 : wr.cell? ⟨gb188, 9, none⟩ = some (.int .i64 a0_9) := (blk_cell BK188.out 9).trans rfl
         have hcz30_10 : wr.cell? ⟨gb188, 10, none⟩ = some (.string a0_10) := (blk_cell BK188.out 10).trans rfl
         have hcz30_11 : wr.cell? ⟨gb188, 11, none⟩ = some (.int .i64 a0_11) := (blk_cell BK188.out 11).trans rfl
         have hcz30_12 : wr.cell? ⟨gb188, 12, none⟩ = some (.slice A0_12 l0_12.length c0_12) := (blk_cell BK188.out 12).trans rfl
         have hcz30_13 : wr.cell? ⟨gb188, 13, none⟩ = some (.slice A0_13 l0_13.length c0_13) := (blk_cell BK188.out 13).trans rfl
         have hfz30_0 := blk_frozen BK188.out 0
         have hfz30_1 := blk_frozen BK188.out 1
         have hfz30_2 := blk_frozen BK188.out 2
         have hfz30_3 := blk_frozen BK188.out 3
         have hfz30_4 := blk_frozen BK188.out 4
         have hfz30_5 := blk_frozen BK188.out 5
         have hfz30_6 := blk_frozen BK188.out 6
         have hfz30_7 := blk_frozen BK188.out 7
         have hfz30_8 := blk_frozen BK188.out 8
         have hfz30_9 := blk_frozen BK188.out 9
         have hfz30_10 := blk_frozen BK188.out 10
         have hfz30_11 := blk_frozen BK188.out 11
         have hfz30_12 := blk_frozen BK188.out 12
         have hfz30_13 := blk_frozen BK188.out 13
         go_wp2
         go_ret
         exact ⟨by first | rfl | (simp [errW_none, errW_some] <;> rfl) | (simp [*, errW_none, errW_some] <;> rfl), by repeat (first | (with_reducible first | exact HB.out | apply below_alloc | apply pw_below_drewN | apply below_drew1 | refine below_set ?_ GE188.out) | exact HB.out)⟩
       ·
        rw [if_neg c27] at H
        have c27b0 : decide (x3_2 ≤ 9000) = false := decide_eq_false c27
        clear c27
        obtain rfl := Option.some.inj H
        go_wp2
        go_ret
        exact ⟨by first | rfl | (simp [errW_none, errW_some] <;> rfl) | (simp [*, errW_none, errW_some] <;> rfl), by repeat (first | (with_reducible first | exact HB.out | apply below_alloc | apply pw_below_drewN | apply below_drew1 | refine below_set ?_ GE188.out) | exact HB.out)⟩
end Go.Proofs.YtkblmomfiimkiaaGreatDoor.P
end
