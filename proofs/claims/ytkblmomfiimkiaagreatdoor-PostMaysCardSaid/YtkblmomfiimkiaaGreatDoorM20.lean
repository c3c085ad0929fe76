/- What the claim's theorem leans on. Conditions: none of its own. (Written by prune.py out of the texts Px18 Px19 Px20 Kinds Rec Px39 Px40, without what the claim doesn't lean on.) -/
import Derived.Test.YtkblmomfiimkiaaGreatDoorM2
import Derived.Test.YtkblmomfiimkiaaGreatDoorM10
import Derived.Test.YtkblmomfiimkiaaGreatDoorM14
import Derived.Test.YtkblmomfiimkiaaGreatDoorM15
import Derived.Test.YtkblmomfiimkiaaGreatDoorM18
import Derived.Test.YtkblmomfiimkiaaGreatDoorM19
section
namespace Go.Proofs.YtkblmomfiimkiaaGreatDoor.P
open Go.RowKit Go.Proofs.YtkblmomfiimkiaaGreatDoorW.PrintWords Go.Proofs.YtkblmomfiimkiaaGreatDoorW.PrintLast Go.Proofs.YtkblmomfiimkiaaGreatDoorW.PrintMore
attribute [local go_sem] max2_int min2_int max_two min_two max_three min_three max_four min_four   -- for this text's walks alone
set_option linter.unusedVariables false
set_option linter.unusedSimpArgs false
noncomputable def post_Text.f (k : Nat) (a0_0 : ByteArray) (a0_1 : ByteArray) (a0_2 : Int) (a0_3 : Int) (a0_4 : Int) (a0_5 : ByteArray) (a0_6 : ByteArray) (a0_7 : ByteArray) (a0_8 : Int) (a0_9 : Int) (a0_10 : ByteArray) (a0_11 : Int) (l0_12 : List (S38)) (l0_13 : List ByteArray) : Option (ByteArray × Int) := (post_May.f a0_0 a0_1 a0_2 a0_3 a0_4 a0_5 a0_6 a0_7 a0_8 a0_9 a0_10 a0_11 l0_12 l0_13).bind fun t164 => (if t164 = true then ((post_record.f k a0_0 a0_1 a0_2 a0_3 a0_4 a0_5 a0_6 a0_7 a0_8 a0_9 a0_10 a0_11 l0_12 l0_13).bind fun t165 => ((field_Text.f t165).bind fun bt168 => (some (bt168.1, bt168.2)))) else (some ((⟨#[]⟩ : ByteArray), 1)))
theorem post_Text.mono : ∀ a0 a1 a2 a3 a4 a5 a6 a7 a8 a9 a10 a11 a12 a13 k, LeO (post_Text.f k a0 a1 a2 a3 a4 a5 a6 a7 a8 a9 a10 a11 a12 a13) (post_Text.f (k + 1) a0 a1 a2 a3 a4 a5 a6 a7 a8 a9 a10 a11 a12 a13) := by
 intro a0 a1 a2 a3 a4 a5 a6 a7 a8 a9 a10 a11 a12 a13 k
 unfold post_Text.f
 repeat' first
   | (with_reducible exact post_record.mono _ _ _ _ _ _ _ _ _ _ _ _ _ _ _)
   | (with_reducible exact LeO.refl _)
   | (with_reducible exact LeO.none _)
   | (with_reducible refine LeO.ite ?_ ?_)
   | (with_reducible refine LeO.bind ?_ (fun _ => ?_))
   | exact post_record.mono _ _ _ _ _ _ _ _ _ _ _ _ _ _ _
   | exact LeO.none _
   | refine LeO.ite ?_ ?_
   | refine LeO.bind ?_ (fun _ => ?_)
set_option maxHeartbeats 8000000 in
set_option maxRecDepth 100000 in
theorem post_Text.calls (k : Nat) (a0_0 : ByteArray) (a0_1 : ByteArray) (a0_2 : Int) (a0_3 : Int) (a0_4 : Int) (a0_5 : ByteArray) (a0_6 : ByteArray) (a0_7 : ByteArray) (a0_8 : Int) (a0_9 : Int) (a0_10 : ByteArray) (a0_11 : Int) (A0_12 : Option Addr) (c0_12 : Nat) (l0_12 : List (S38)) (A0_13 : Option Addr) (c0_13 : Nat) (l0_13 : List ByteArray) (r1 : ByteArray) (r2 : Int) (w : World) (hr0_12 : Kd.C k38 w A0_12 l0_12.length l0_12) (hc0_12 : l0_12.length ≤ c0_12) (hr0_13 : Kd.C Kd.string w A0_13 l0_13.length l0_13) (hc0_13 : l0_13.length ≤ c0_13) (hG : Glob w) (h : post_Text.f k a0_0 a0_1 a0_2 a0_3 a0_4 a0_5 a0_6 a0_7 a0_8 a0_9 a0_10 a0_11 l0_12 l0_13 = some (r1, r2)) :
  Calls Tryz.prog 23 #[.agg #[.string a0_0, .string a0_1, .int .i64 a0_2, .int .i64 a0_3, .int .i64 a0_4, .string a0_5, .string a0_6, .string a0_7, .int .i64 a0_8, .int .i64 a0_9, .string a0_10, .int .i64 a0_11, .slice A0_12 l0_12.length c0_12, .slice A0_13 l0_13.length c0_13]] w fun e w' => e = .returned (.tuple #[.string r1, .int .i64 r2]) ∧ Below w.heap.size w w' := by
 have HGL := Aside0.mk hG
 clear hG
 have hu33 := Tryz.underlying33
 have HR0_12 := Aside0.mk hr0_12
 have HC0_12 := Aside0.mk hc0_12
 clear hr0_12 hc0_12
 have HR0_13 := Aside0.mk hr0_13
 have HC0_13 := Aside0.mk hc0_13
 clear hr0_13 hc0_13
 have HB := Aside0.mk (Below.refl w.heap.size w)
 have H : ((post_May.f a0_0 a0_1 a0_2 a0_3 a0_4 a0_5 a0_6 a0_7 a0_8 a0_9 a0_10 a0_11 l0_12 l0_13).bind fun t164 => (if t164 = true then ((post_record.f k a0_0 a0_1 a0_2 a0_3 a0_4 a0_5 a0_6 a0_7 a0_8 a0_9 a0_10 a0_11 l0_12 l0_13).bind fun t165 => ((field_Text.f t165).bind fun bt168 => (some (bt168.1, bt168.2)))) else (some ((⟨#[]⟩ : ByteArray), 1)))) = some (r1, r2) := h
 clear h
 replace H := Option.bind_eq_some_iff.mp H
 obtain ⟨t164, A20, H⟩ := H
 replace H : (if t164 = true then ((post_record.f k a0_0 a0_1 a0_2 a0_3 a0_4 a0_5 a0_6 a0_7 a0_8 a0_9 a0_10 a0_11 l0_12 l0_13).bind fun t165 => ((field_Text.f t165).bind fun bt168 => (some (bt168.1, bt168.2)))) else (some ((⟨#[]⟩ : ByteArray), 1))) = some (r1, r2) := H
 have A2 := Aside0.mk A20
 clear A20
 by_cases c3 : t164 = true
 ·
  subst c3
  have H1 : ((post_record.f k a0_0 a0_1 a0_2 a0_3 a0_4 a0_5 a0_6 a0_7 a0_8 a0_9 a0_10 a0_11 l0_12 l0_13).bind fun t165 => ((field_Text.f t165).bind fun bt168 => (some (bt168.1, bt168.2)))) = some (r1, r2) := by rw [if_pos rfl] at H; exact H
  clear H
  have H := H1
  clear H1
  replace H := Option.bind_eq_some_iff.mp H
  obtain ⟨t165, A40, H⟩ := H
  replace H : ((field_Text.f t165).bind fun bt168 => (some (bt168.1, bt168.2))) = some (r1, r2) := H
  have A4 := Aside0.mk A40
  clear A40
  replace H := Option.bind_eq_some_iff.mp H
  obtain ⟨⟨t168, t169⟩, A50, H⟩ := H
  replace H : (some (t168, t169)) = some (r1, r2) := H
  have A5 := Aside0.mk A50
  clear A50
  simp only [Option.some.injEq, Prod.mk.injEq] at H
  obtain ⟨rfl, rfl⟩ := H
  go_enter Tryz.func23, Tryz.ntmps23
  go_wp2_with (first | ((with_reducible refine gate_dst (N := 1) rfl ?_); refine box_event ?hg (N := 1) ?hd (cs := #[.string a0_0, .string a0_1, .int .i64 a0_2, .int .i64 a0_3, .int .i64 a0_4, .string a0_5, .string a0_6, .string a0_7, .int .i64 a0_8, .int .i64 a0_9, .string a0_10, .int .i64 a0_11, .slice A0_12 l0_12.length c0_12, .slice A0_13 l0_13.length c0_13]) (t := 33) ?hr ?_; (case hd => rfl); (case hg => rfl); (case hr => first | (go_simp; done) | (go_simp; rfl)); intro gb163 hg w6 hbox hb; have n0_ := Aside0.mk (below_step (by repeat (first | (with_reducible first | exact HB.out | apply below_alloc | apply pw_below_drewN | apply below_drew1) | exact HB.out)) hb); have n1_ := Aside0.mk (hbox); have n2_ := Aside0.mk ((by rw [hg]; exact (below_size (by repeat (first | (with_reducible first | exact HB.out | apply below_alloc | apply pw_below_drewN | apply below_drew1) | exact HB.out))) : w.heap.size ≤ gb163)); have n3_ := Aside0.mk ((by rw [hg]; exact (below_size (by repeat (first | (with_reducible first | exact HB.out | apply below_alloc | apply pw_below_drewN | apply below_drew1) | exact HB.out))) : w.heap.size ≤ gb163)); clear HB; have HB := n0_; have BK163 := n1_; have GW163 := n2_; have GE163 := n3_; clear n0_ n1_ n2_ n3_; clear hb hbox hg; have hcz7_0 : w6.cell? ⟨gb163, 0, none⟩ = some (.string a0_0) := (blk_cell BK163.out 0).trans rfl; have hcz7_1 : w6.cell? ⟨gb163, 1, none⟩ = some (.string a0_1) := (blk_cell BK163.out 1).trans rfl; have hcz7_2 : w6.cell? ⟨gb163, 2, none⟩ = some (.int .i64 a0_2) := (blk_cell BK163.out 2).trans rfl; have hcz7_3 : w6.cell? ⟨gb163, 3, none⟩ = some (.int .i64 a0_3) := (blk_cell BK163.out 3).trans rfl; have hcz7_4 : w6.cell? ⟨gb163, 4, none⟩ = some (.int .i64 a0_4) := (blk_cell BK163.out 4).trans rfl; have hcz7_5 : w6.cell? ⟨gb163, 5, none⟩ = some (.string a0_5) := (blk_cell BK163.out 5).trans rfl; have hcz7_6 : w6.cell? ⟨gb163, 6, none⟩ = some (.string a0_6) := (blk_cell BK163.out 6).trans rfl; have hcz7_7 : w6.cell? ⟨gb163, 7, none⟩ = some (.string a0_7) := (blk_cell BK163.out 7).trans rfl; have hcz7_8 : w6.cell? ⟨gb163, 8, none⟩ = some (.int .i64 a0_8) := (blk_cell BK163.out 8).trans rfl; have hcz7_9 : w6.cell? ⟨gb163, 9, none⟩ = some (.int .i64 a0_9) := (blk_cell BK163.out 9).trans rfl; have hcz7_10 : w6.cell? ⟨gb163, 10, none⟩ = some (.string a0_10) := (blk_cell BK163.out 10).trans rfl; have hcz7_11 : w6.cell? ⟨gb163, 11, none⟩ = some (.int .i64 a0_11) := (blk_cell BK163.out 11).trans rfl; have hcz7_12 : w6.cell? ⟨gb163, 12, none⟩ = some (.slice A0_12 l0_12.length c0_12) := (blk_cell BK163.out 12).trans rfl; have hcz7_13 : w6.cell? ⟨gb163, 13, none⟩ = some (.slice A0_13 l0_13.length c0_13) := (blk_cell BK163.out 13).trans rfl; have hfz7_0 := blk_frozen BK163.out 0; have hfz7_1 := blk_frozen BK163.out 1; have hfz7_2 := blk_frozen BK163.out 2; have hfz7_3 := blk_frozen BK163.out 3; have hfz7_4 := blk_frozen BK163.out 4; have hfz7_5 := blk_frozen BK163.out 5; have hfz7_6 := blk_frozen BK163.out 6; have hfz7_7 := blk_frozen BK163.out 7; have hfz7_8 := blk_frozen BK163.out 8; have hfz7_9 := blk_frozen BK163.out 9; have hfz7_10 := blk_frozen BK163.out 10; have hfz7_11 := blk_frozen BK163.out 11; have hfz7_12 := blk_frozen BK163.out 12; have hfz7_13 := blk_frozen BK163.out 13) | ((with_reducible refine gate_callee (f := 16) rfl ?_); refine goesL_ (some 5) rfl rfl Tryz.func16 (by kernel_rfl) rfl #[.agg #[.string a0_0, .string a0_1, .int .i64 a0_2, .int .i64 a0_3, .int .i64 a0_4, .string a0_5, .string a0_6, .string a0_7, .int .i64 a0_8, .int .i64 a0_9, .string a0_10, .int .i64 a0_11, .slice A0_12 l0_12.length c0_12, .slice A0_13 l0_13.length c0_13]] rfl (by (try simp only [List.map_toArray, List.map_cons, List.map_nil]); first | done | rfl | (simp only [List.length_drop, List.length_take]; rfl)) ?_; (with_reducible refine (post_May.calls a0_0 a0_1 a0_2 a0_3 a0_4 a0_5 a0_6 a0_7 a0_8 a0_9 a0_10 a0_11 _ _ l0_12 _ _ l0_13 true _ ?side1 ?side2 ?side3 ?side4 ?sideG A2.out).mono ?_); (case sideG => exact glob_below HGL.out (by repeat (first | (with_reducible first | exact HB.out | apply below_alloc | apply pw_below_drewN | apply below_drew1) | exact HB.out))); (case side1 => repeat (first | exact (Kd.C_below HR0_12.out HB.out) | (with_reducible refine Kd.C_alloc ?_ _) | (with_reducible refine Kd.C_drewN ?_ _) | (with_reducible refine Kd.C_drew ?_))); (case side2 => exact HC0_12.out); (case side3 => repeat (first | exact (Kd.C_below HR0_13.out HB.out) | (with_reducible refine Kd.C_alloc ?_ _) | (with_reducible refine Kd.C_drewN ?_ _) | (with_reducible refine Kd.C_drew ?_))); (case side4 => exact HC0_13.out); rintro e w8 ⟨rfl, hb⟩; refine ⟨_, rfl, ?_⟩; have n0_ := Aside0.mk (blk_below (g := gb163) (o := .cells #[.string a0_0, .string a0_1, .int .i64 a0_2, .int .i64 a0_3, .int .i64 a0_4, .string a0_5, .string a0_6, .string a0_7, .int .i64 a0_8, .int .i64 a0_9, .string a0_10, .int .i64 a0_11, .slice A0_12 l0_12.length c0_12, .slice A0_13 l0_13.length c0_13] 33 (0, 0)) (by (with_reducible repeat (first | refine blk_drewN ?_ _ | refine blk_drew ?_ | refine blk_alloc ?_ _)); exact BK163.out) hb); have n1_ := Aside0.mk (below_step (by repeat (first | (with_reducible first | exact HB.out | apply below_alloc | apply pw_below_drewN | apply below_drew1 | refine below_set ?_ GE163.out) | exact HB.out)) hb); clear BK163; clear HB; have BK163 := n0_; have HB := n1_; clear n0_ n1_; (try clear hb); (try clear hb2); (try clear hk); (try clear hi); have hcz9_0 : w8.cell? ⟨gb163, 0, none⟩ = some (.string a0_0) := (blk_cell BK163.out 0).trans rfl; have hcz9_1 : w8.cell? ⟨gb163, 1, none⟩ = some (.string a0_1) := (blk_cell BK163.out 1).trans rfl; have hcz9_2 : w8.cell? ⟨gb163, 2, none⟩ = some (.int .i64 a0_2) := (blk_cell BK163.out 2).trans rfl; have hcz9_3 : w8.cell? ⟨gb163, 3, none⟩ = some (.int .i64 a0_3) := (blk_cell BK163.out 3).trans rfl; have hcz9_4 : w8.cell? ⟨gb163, 4, none⟩ = some (.int .i64 a0_4) := (blk_cell BK163.out 4).trans rfl; have hcz9_5 : w8.cell? ⟨gb163, 5, none⟩ = some (.string a0_5) := (blk_cell BK163.out 5).trans rfl; have hcz9_6 : w8.cell? ⟨gb163, 6, none⟩ = some (.string a0_6) := (blk_cell BK163.out 6).trans rfl; have hcz9_7 : w8.cell? ⟨gb163, 7, none⟩ = some (.string a0_7) := (blk_cell BK163.out 7).trans rfl; have hcz9_8 : w8.cell? ⟨gb163, 8, none⟩ = some (.int .i64 a0_8) := (blk_cell BK163.out 8).trans rfl; have hcz9_9 : w8.cell? ⟨gb163, 9, none⟩ = some (.int .i64 a0_9) := (blk_cell BK163.out 9).trans rfl; have hcz9_10 : w8.cell? ⟨gb163, 10, none⟩ = some (.string a0_10) := (blk_cell BK163.out 10).trans rfl; have hcz9_11 : w8.cell? ⟨gb163, 11, none⟩ = some (.int .i64 a0_11) := (blk_cell BK163.out 11).trans rfl; have hcz9_12 : w8.cell? ⟨gb163, 12, none⟩ = some (.slice A0_12 l0_12.length c0_12) := (blk_cell BK163.out 12).trans rfl; have hcz9_13 : w8.cell? ⟨gb163, 13, none⟩ = some (.slice A0_13 l0_13.length c0_13) := (blk_cell BK163.out 13).trans rfl; have hfz9_0 := blk_frozen BK163.out 0; have hfz9_1 := blk_frozen BK163.out 1; have hfz9_2 := blk_frozen BK163.out 2; have hfz9_3 := blk_frozen BK163.out 3; have hfz9_4 := blk_frozen BK163.out 4; have hfz9_5 := blk_frozen BK163.out 5; have hfz9_6 := blk_frozen BK163.out 6; have hfz9_7 := blk_frozen BK163.out 7; have hfz9_8 := blk_frozen BK163.out 8; have hfz9_9 := blk_frozen BK163.out 9; have hfz9_10 := blk_frozen BK163.out 10; have hfz9_11 := blk_frozen BK163.out 11; have hfz9_12 := blk_frozen BK163.out 12; have hfz9_13 := blk_frozen BK163.out 13) | ((with_reducible refine gate_callee (f := 51) rfl ?_); refine goesL_ (some 8) rfl rfl Tryz.func51 (by kernel_rfl) rfl #[.agg #[.string a0_0, .string a0_1, .int .i64 a0_2, .int .i64 a0_3, .int .i64 a0_4, .string a0_5, .string a0_6, .string a0_7, .int .i64 a0_8, .int .i64 a0_9, .string a0_10, .int .i64 a0_11, .slice A0_12 l0_12.length c0_12, .slice A0_13 l0_13.length c0_13]] rfl (by (try simp only [List.map_toArray, List.map_cons, List.map_nil]); first | done | rfl | (simp only [List.length_drop, List.length_take]; rfl)) ?_; (with_reducible refine (post_record.calls k a0_0 a0_1 a0_2 a0_3 a0_4 a0_5 a0_6 a0_7 a0_8 a0_9 a0_10 a0_11 _ _ l0_12 _ _ l0_13 t165 _ ?side1 ?side2 ?side3 ?side4 ?sideG A4.out).mono ?_); (case sideG => exact glob_below HGL.out (by repeat (first | (with_reducible first | exact HB.out | apply below_alloc | apply pw_below_drewN | apply below_drew1) | exact HB.out))); (case side1 => repeat (first | exact (Kd.C_below HR0_12.out HB.out) | (with_reducible refine Kd.C_alloc ?_ _) | (with_reducible refine Kd.C_drewN ?_ _) | (with_reducible refine Kd.C_drew ?_))); (case side2 => exact HC0_12.out); (case side3 => repeat (first | exact (Kd.C_below HR0_13.out HB.out) | (with_reducible refine Kd.C_alloc ?_ _) | (with_reducible refine Kd.C_drewN ?_ _) | (with_reducible refine Kd.C_drew ?_))); (case side4 => exact HC0_13.out); rintro e w10 ⟨v166, rfl, ho0, hb⟩; refine ⟨_, rfl, ?_⟩; have n0_ := Aside0.mk (Kd.R_lower ho0 (below_size (by repeat (first | (with_reducible first | exact HB.out | apply below_alloc | apply pw_below_drewN | apply below_drew1 | refine below_set ?_ GE163.out) | exact HB.out)))); have n1_ := Aside0.mk (blk_below (g := gb163) (o := .cells #[.string a0_0, .string a0_1, .int .i64 a0_2, .int .i64 a0_3, .int .i64 a0_4, .string a0_5, .string a0_6, .string a0_7, .int .i64 a0_8, .int .i64 a0_9, .string a0_10, .int .i64 a0_11, .slice A0_12 l0_12.length c0_12, .slice A0_13 l0_13.length c0_13] 33 (0, 0)) (by (with_reducible repeat (first | refine blk_drewN ?_ _ | refine blk_drew ?_ | refine blk_alloc ?_ _)); exact BK163.out) hb); have n2_ := Aside0.mk (below_step (by repeat (first | (with_reducible first | exact HB.out | apply below_alloc | apply pw_below_drewN | apply below_drew1 | refine below_set ?_ GE163.out) | exact HB.out)) hb); clear BK163; clear HB; have HO167 := n0_; have BK163 := n1_; have HB := n2_; clear n0_ n1_ n2_; (try clear hb); (try clear hb2); (try clear hk); (try clear hi); (try clear ho0); obtain ⟨Ao11, co11, eo11⟩ := Kd.R_slice HO167.out; subst eo11) | ((with_reducible refine gate_callee (f := 59) rfl ?_); refine goesL_ (some 9) rfl rfl Tryz.func59 (by kernel_rfl) rfl #[.slice Ao11 t165.length co11] rfl (by (try simp only [List.map_toArray, List.map_cons, List.map_nil]); first | done | rfl | (simp only [List.length_drop, List.length_take]; rfl)) ?_; (with_reducible refine (field_Text.calls _ _ t165 t168 t169 _ ?side1 ?side2 A5.out).mono ?_); (case side1 => repeat (first | exact (Kd.R_reads' HO167.out).2.2 | (with_reducible refine Kd.C_alloc ?_ _) | (with_reducible refine Kd.C_drewN ?_ _) | (with_reducible refine Kd.C_drew ?_))); (case side2 => exact (Kd.R_reads' HO167.out).2.1); rintro e w12 ⟨rfl, hb⟩; refine ⟨_, rfl, ?_⟩; have n0_ := Aside0.mk (Kd.R_below (by (with_reducible repeat (first | apply Kd.R_alloc | apply Kd.R_drewN | apply Kd.R_drew)); exact HO167.out) hb); have n1_ := Aside0.mk (blk_below (g := gb163) (o := .cells #[.string a0_0, .string a0_1, .int .i64 a0_2, .int .i64 a0_3, .int .i64 a0_4, .string a0_5, .string a0_6, .string a0_7, .int .i64 a0_8, .int .i64 a0_9, .string a0_10, .int .i64 a0_11, .slice A0_12 l0_12.length c0_12, .slice A0_13 l0_13.length c0_13] 33 (0, 0)) (by (with_reducible repeat (first | refine blk_drewN ?_ _ | refine blk_drew ?_ | refine blk_alloc ?_ _)); exact BK163.out) hb); have n2_ := Aside0.mk (below_step (by repeat (first | (with_reducible first | exact HB.out | apply below_alloc | apply pw_below_drewN | apply below_drew1 | refine below_set ?_ GE163.out) | exact HB.out)) hb); clear HO167; clear BK163; clear HB; have HO167 := n0_; have BK163 := n1_; have HB := n2_; clear n0_ n1_ n2_; (try clear hb); (try clear hb2); (try clear hk); (try clear hi)))
  go_ret2
  exact ⟨by first | rfl | (simp [errW_none, errW_some] <;> rfl) | (simp [*, errW_none, errW_some] <;> rfl), by repeat (first | (with_reducible first | exact HB.out | apply below_alloc | apply pw_below_drewN | apply below_drew1 | refine below_set ?_ GE163.out) | exact HB.out)⟩
 ·
  replace c3 := Bool.eq_false_iff.mpr c3
  subst c3
  have H1 : (some ((⟨#[]⟩ : ByteArray), 1)) = some (r1, r2) := by rw [if_neg (show ¬ (false = true) by decide)] at H; exact H
  clear H
  have H := H1
  clear H1
  simp only [Option.some.injEq, Prod.mk.injEq] at H
  obtain ⟨rfl, rfl⟩ := H
  go_enter Tryz.func23, Tryz.ntmps23
  go_wp2_with (first | ((with_reducible refine gate_dst (N := 1) rfl ?_); refine box_event ?hg (N := 1) ?hd (cs := #[.string a0_0, .string a0_1, .int .i64 a0_2, .int .i64 a0_3, .int .i64 a0_4, .string a0_5, .string a0_6, .string a0_7, .int .i64 a0_8, .int .i64 a0_9, .string a0_10, .int .i64 a0_11, .slice A0_12 l0_12.length c0_12, .slice A0_13 l0_13.length c0_13]) (t := 33) ?hr ?_; (case hd => rfl); (case hg => rfl); (case hr => first | (go_simp; done) | (go_simp; rfl)); intro gb163 hg w13 hbox hb; have n0_ := Aside0.mk (below_step (by repeat (first | (with_reducible first | exact HB.out | apply below_alloc | apply pw_below_drewN | apply below_drew1) | exact HB.out)) hb); have n1_ := Aside0.mk (hbox); have n2_ := Aside0.mk ((by rw [hg]; exact (below_size (by repeat (first | (with_reducible first | exact HB.out | apply below_alloc | apply pw_below_drewN | apply below_drew1) | exact HB.out))) : w.heap.size ≤ gb163)); have n3_ := Aside0.mk ((by rw [hg]; exact (below_size (by repeat (first | (with_reducible first | exact HB.out | apply below_alloc | apply pw_below_drewN | apply below_drew1) | exact HB.out))) : w.heap.size ≤ gb163)); clear HB; have HB := n0_; have BK163 := n1_; have GW163 := n2_; have GE163 := n3_; clear n0_ n1_ n2_ n3_; clear hb hbox hg; have hcz14_0 : w13.cell? ⟨gb163, 0, none⟩ = some (.string a0_0) := (blk_cell BK163.out 0).trans rfl; have hcz14_1 : w13.cell? ⟨gb163, 1, none⟩ = some (.string a0_1) := (blk_cell BK163.out 1).trans rfl; have hcz14_2 : w13.cell? ⟨gb163, 2, none⟩ = some (.int .i64 a0_2) := (blk_cell BK163.out 2).trans rfl; have hcz14_3 : w13.cell? ⟨gb163, 3, none⟩ = some (.int .i64 a0_3) := (blk_cell BK163.out 3).trans rfl; have hcz14_4 : w13.cell? ⟨gb163, 4, none⟩ = some (.int .i64 a0_4) := (blk_cell BK163.out 4).trans rfl; have hcz14_5 : w13.cell? ⟨gb163, 5, none⟩ = some (.string a0_5) := (blk_cell BK163.out 5).trans rfl; have hcz14_6 : w13.cell? ⟨gb163, 6, none⟩ = some (.string a0_6) := (blk_cell BK163.out 6).trans rfl; have hcz14_7 : w13.cell? ⟨gb163, 7, none⟩ = some (.string a0_7) := (blk_cell BK163.out 7).trans rfl; have hcz14_8 : w13.cell? ⟨gb163, 8, none⟩ = some (.int .i64 a0_8) := (blk_cell BK163.out 8).trans rfl; have hcz14_9 : w13.cell? ⟨gb163, 9, none⟩ = some (.int .i64 a0_9) := (blk_cell BK163.out 9).trans rfl; have hcz14_10 : w13.cell? ⟨gb163, 10, none⟩ = some (.string a0_10) := (blk_cell BK163.out 10).trans rfl; have hcz14_11 : w13.cell? ⟨gb163, 11, none⟩ = some (.int .i64 a0_11) := (blk_cell BK163.out 11).trans rfl; have hcz14_12 : w13.cell? ⟨gb163, 12, none⟩ = some (.slice A0_12 l0_12.length c0_12) := (blk_cell BK163.out 12).trans rfl; have hcz14_13 : w13.cell? ⟨gb163, 13, none⟩ = some (.slice A0_13 l0_13.length c0_13) := (blk_cell BK163.out 13).trans rfl; have hfz14_0 := blk_frozen BK163.out 0; have hfz14_1 := blk_frozen BK163.out 1; have hfz14_2 := blk_frozen BK163.out 2; have hfz14_3 := blk_frozen BK163.out 3; have hfz14_4 := blk_frozen BK163.out 4; have hfz14_5 := blk_frozen BK163.out 5; have hfz14_6 := blk_frozen BK163.out 6; have hfz14_7 := blk_frozen BK163.out 7; have hfz14_8 := blk_frozen BK163.out 8; have hfz14_9 := blk_frozen BK163.out 9; have hfz14_10 := blk_frozen BK163.out 10; have hfz14_11 := blk_frozen BK163.out 11; have hfz14_12 := blk_frozen BK163.out 12; have hfz14_13 := blk_frozen BK163.out 13) | ((with_reducible refine gate_callee (f := 16) rfl ?_); refine goesL_ (some 5) rfl rfl Tryz.func16 (by kernel_rfl) rfl #[.agg #[.string a0_0, .string a0_1, .int .i64 a0_2, .int .i64 a0_3, .int .i64 a0_4, .string a0_5, .string a0_6, .string a0_7, .int .i64 a0_8, .int .i64 a0_9, .string a0_10, .int .i64 a0_11, .slice A0_12 l0_12.length c0_12, .slice A0_13 l0_13.length c0_13]] rfl (by (try simp only [List.map_toArray, List.map_cons, List.map_nil]); first | done | rfl | (simp only [List.length_drop, List.length_take]; rfl)) ?_; (with_reducible refine (post_May.calls a0_0 a0_1 a0_2 a0_3 a0_4 a0_5 a0_6 a0_7 a0_8 a0_9 a0_10 a0_11 _ _ l0_12 _ _ l0_13 false _ ?side1 ?side2 ?side3 ?side4 ?sideG A2.out).mono ?_); (case sideG => exact glob_below HGL.out (by repeat (first | (with_reducible first | exact HB.out | apply below_alloc | apply pw_below_drewN | apply below_drew1) | exact HB.out))); (case side1 => repeat (first | exact (Kd.C_below HR0_12.out HB.out) | (with_reducible refine Kd.C_alloc ?_ _) | (with_reducible refine Kd.C_drewN ?_ _) | (with_reducible refine Kd.C_drew ?_))); (case side2 => exact HC0_12.out); (case side3 => repeat (first | exact (Kd.C_below HR0_13.out HB.out) | (with_reducible refine Kd.C_alloc ?_ _) | (with_reducible refine Kd.C_drewN ?_ _) | (with_reducible refine Kd.C_drew ?_))); (case side4 => exact HC0_13.out); rintro e w15 ⟨rfl, hb⟩; refine ⟨_, rfl, ?_⟩; have n0_ := Aside0.mk (blk_below (g := gb163) (o := .cells #[.string a0_0, .string a0_1, .int .i64 a0_2, .int .i64 a0_3, .int .i64 a0_4, .string a0_5, .string a0_6, .string a0_7, .int .i64 a0_8, .int .i64 a0_9, .string a0_10, .int .i64 a0_11, .slice A0_12 l0_12.length c0_12, .slice A0_13 l0_13.length c0_13] 33 (0, 0)) (by (with_reducible repeat (first | refine blk_drewN ?_ _ | refine blk_drew ?_ | refine blk_alloc ?_ _)); exact BK163.out) hb); have n1_ := Aside0.mk (below_step (by repeat (first | (with_reducible first | exact HB.out | apply below_alloc | apply pw_below_drewN | apply below_drew1 | refine below_set ?_ GE163.out) | exact HB.out)) hb); clear BK163; clear HB; have BK163 := n0_; have HB := n1_; clear n0_ n1_; (try clear hb); (try clear hb2); (try clear hk); (try clear hi)))
  go_ret2
  exact ⟨by first | rfl | (simp [errW_none, errW_some] <;> rfl) | (simp [*, errW_none, errW_some] <;> rfl), by repeat (first | (with_reducible first | exact HB.out | apply below_alloc | apply pw_below_drewN | apply below_drew1 | refine below_set ?_ GE163.out) | exact HB.out)⟩
end Go.Proofs.YtkblmomfiimkiaaGreatDoor.P
end

section
namespace Go.Proofs.YtkblmomfiimkiaaGreatDoor.P
open Go.RowKit Go.Proofs.YtkblmomfiimkiaaGreatDoorW.PrintWords Go.Proofs.YtkblmomfiimkiaaGreatDoorW.PrintLast Go.Proofs.YtkblmomfiimkiaaGreatDoorW.PrintMore
attribute [local go_sem] max2_int min2_int max_two min_two max_three min_three max_four min_four   -- for this text's walks alone
set_option linter.unusedVariables false
set_option linter.unusedSimpArgs false
noncomputable def supercargolaw09_awake.f (k : Nat)  : Option (Bool) := (post_Text.f k (⟨#[97]⟩ : ByteArray) (⟨#[98]⟩ : ByteArray) 0 28 3 (⟨#[]⟩ : ByteArray) (⟨#[]⟩ : ByteArray) (⟨#[]⟩ : ByteArray) 0 0 (⟨#[]⟩ : ByteArray) 0 ([] : List (S38)) ([] : List ByteArray)).bind fun bt170 => ((post_Kind.f k (⟨#[97, 99, 107]⟩ : ByteArray)).bind fun bt172 => (if bt170.2 = 0 then (if (bt170.1.size : Int) > 12 then (if 0 ≤ 12 then (if 12 ≤ (bt170.1.size : Int) then (if (bt170.1.extract 0 12).toList = ([102, 114, 111, 109, 61, 97, 10, 116, 111, 61, 98, 10] : List UInt8) then ((post_Name.f 0).bind fun t174 => (if t174.toList = ([111, 114, 100, 101, 114] : List UInt8) then (if bt172.1 = 28 then (some bt172.2) else (some false)) else (some false))) else (some false)) else (none)) else (none)) else (some false)) else (some false)))
theorem supercargolaw09_awake.mono : ∀ k, LeO (supercargolaw09_awake.f k ) (supercargolaw09_awake.f (k + 1) ) := by
 intro  k
 unfold supercargolaw09_awake.f
 repeat' first
   | (with_reducible exact post_Kind.mono _ _)
   | (with_reducible exact post_Text.mono _ _ _ _ _ _ _ _ _ _ _ _ _ _ _)
   | (with_reducible exact LeO.refl _)
   | (with_reducible exact LeO.none _)
   | (with_reducible refine LeO.ite ?_ ?_)
   | (with_reducible refine LeO.bind ?_ (fun _ => ?_))
   | exact post_Kind.mono _ _
   | exact post_Text.mono _ _ _ _ _ _ _ _ _ _ _ _ _ _ _
   | exact LeO.none _
   | refine LeO.ite ?_ ?_
   | refine LeO.bind ?_ (fun _ => ?_)
set_option maxHeartbeats 8000000 in
set_option maxRecDepth 100000 in
theorem supercargolaw09_awake.calls (k : Nat)  (r : Bool) (w : World) (hG : Glob w) (h : supercargolaw09_awake.f k  = some r) :
  Calls Tryz.prog 9 #[] w fun e w' => e = .returned (.bool r) ∧ Below w.heap.size w w' := by
 have HGL := Aside0.mk hG
 clear hG
 have hu33 := Tryz.underlying33
 have HB := Aside0.mk (Below.refl w.heap.size w)
 have H : ((post_Text.f k (⟨#[97]⟩ : ByteArray) (⟨#[98]⟩ : ByteArray) 0 28 3 (⟨#[]⟩ : ByteArray) (⟨#[]⟩ : ByteArray) (⟨#[]⟩ : ByteArray) 0 0 (⟨#[]⟩ : ByteArray) 0 ([] : List (S38)) ([] : List ByteArray)).bind fun bt170 => ((post_Kind.f k (⟨#[97, 99, 107]⟩ : ByteArray)).bind fun bt172 => (if bt170.2 = 0 then (if (bt170.1.size : Int) > 12 then (if 0 ≤ 12 then (if 12 ≤ (bt170.1.size : Int) then (if (bt170.1.extract 0 12).toList = ([102, 114, 111, 109, 61, 97, 10, 116, 111, 61, 98, 10] : List UInt8) then ((post_Name.f 0).bind fun t174 => (if t174.toList = ([111, 114, 100, 101, 114] : List UInt8) then (if bt172.1 = 28 then (some bt172.2) else (some false)) else (some false))) else (some false)) else (none)) else (none)) else (some false)) else (some false)))) = some r := h
 clear h
 replace H := Option.bind_eq_some_iff.mp H
 obtain ⟨⟨t170, t171⟩, A10, H⟩ := H
 replace H : ((post_Kind.f k (⟨#[97, 99, 107]⟩ : ByteArray)).bind fun bt172 => (if t171 = 0 then (if (t170.size : Int) > 12 then (if 0 ≤ 12 then (if 12 ≤ (t170.size : Int) then (if (t170.extract 0 12).toList = ([102, 114, 111, 109, 61, 97, 10, 116, 111, 61, 98, 10] : List UInt8) then ((post_Name.f 0).bind fun t174 => (if t174.toList = ([111, 114, 100, 101, 114] : List UInt8) then (if bt172.1 = 28 then (some bt172.2) else (some false)) else (some false))) else (some false)) else (none)) else (none)) else (some false)) else (some false))) = some r := H
 have A1 := Aside0.mk A10
 clear A10
 replace H := Option.bind_eq_some_iff.mp H
 obtain ⟨⟨t172, t173⟩, A20, H⟩ := H
 replace H : (if t171 = 0 then (if (t170.size : Int) > 12 then (if 0 ≤ 12 then (if 12 ≤ (t170.size : Int) then (if (t170.extract 0 12).toList = ([102, 114, 111, 109, 61, 97, 10, 116, 111, 61, 98, 10] : List UInt8) then ((post_Name.f 0).bind fun t174 => (if t174.toList = ([111, 114, 100, 101, 114] : List UInt8) then (if t172 = 28 then (some t173) else (some false)) else (some false))) else (some false)) else (none)) else (none)) else (some false)) else (some false)) = some r := H
 have A2 := Aside0.mk A20
 clear A20
 by_cases c3 : t171 = 0
 ·
  rw [if_pos c3] at H
  have c3b0 : (t171 == 0) = true := beq_iff_eq.mpr c3
  have c3b1 : (t171 != 0) = false := bne_eq_false_iff_eq.mpr c3
  clear c3
  by_cases c4 : (t170.size : Int) > 12
  ·
   rw [if_pos c4] at H
   have c4b0 : decide (12 < (t170.size : Int)) = true := decide_eq_true c4
   have c4b1 : decide (12 < t170.size) = true := decide_eq_true (by omega)
   clear c4
   by_cases c5 : 0 ≤ 12
   ·
    rw [if_pos c5] at H
    have c5b0 := eq_true c5
    have c5b1 : decide (0 ≤ 12) = true := decide_eq_true c5
    clear c5
    by_cases c6 : 12 ≤ (t170.size : Int)
    ·
     rw [if_pos c6] at H
     have c6b0 := eq_true c6
     have c6b1 : decide (12 ≤ (t170.size : Int)) = true := decide_eq_true c6
     clear c6
     by_cases c7 : (t170.extract 0 12).toList = ([102, 114, 111, 109, 61, 97, 10, 116, 111, 61, 98, 10] : List UInt8)
     ·
      rw [if_pos c7] at H
      have c7b0 : ((t170.extract 0 12).toList == ([102, 114, 111, 109, 61, 97, 10, 116, 111, 61, 98, 10] : List UInt8)) = true := beq_iff_eq.mpr c7
      have c7b1 : ((t170.extract 0 12).toList != ([102, 114, 111, 109, 61, 97, 10, 116, 111, 61, 98, 10] : List UInt8)) = false := bne_eq_false_iff_eq.mpr c7
      clear c7
      replace H := Option.bind_eq_some_iff.mp H
      obtain ⟨t174, A80, H⟩ := H
      replace H : (if t174.toList = ([111, 114, 100, 101, 114] : List UInt8) then (if t172 = 28 then (some t173) else (some false)) else (some false)) = some r := H
      have A8 := Aside0.mk A80
      clear A80
      by_cases c9 : t174.toList = ([111, 114, 100, 101, 114] : List UInt8)
      ·
       rw [if_pos c9] at H
       have c9b0 : (t174.toList == ([111, 114, 100, 101, 114] : List UInt8)) = true := beq_iff_eq.mpr c9
       have c9b1 : (t174.toList != ([111, 114, 100, 101, 114] : List UInt8)) = false := bne_eq_false_iff_eq.mpr c9
       clear c9
       by_cases c10 : t172 = 28
       ·
        rw [if_pos c10] at H
        have c10b0 : (t172 == 28) = true := beq_iff_eq.mpr c10
        have c10b1 : (t172 != 28) = false := bne_eq_false_iff_eq.mpr c10
        clear c10
        obtain rfl := Option.some.inj H
        go_enter Tryz.func9, Tryz.ntmps9
        go_wp2_with (first | ((with_reducible refine gate_callee (f := 23) rfl ?_); refine goesL_ (some 7) rfl rfl Tryz.func23 (by kernel_rfl) rfl #[.agg #[.string (⟨#[97]⟩ : ByteArray), .string (⟨#[98]⟩ : ByteArray), .int .i64 0, .int .i64 28, .int .i64 3, .string (⟨#[]⟩ : ByteArray), .string (⟨#[]⟩ : ByteArray), .string (⟨#[]⟩ : ByteArray), .int .i64 0, .int .i64 0, .string (⟨#[]⟩ : ByteArray), .int .i64 0, .slice none 0 0, .slice none 0 0]] rfl (by (try simp only [List.map_toArray, List.map_cons, List.map_nil]); first | done | rfl | (simp only [List.length_drop, List.length_take]; rfl)) ?_; (refine (post_Text.calls k (⟨#[97]⟩ : ByteArray) (⟨#[98]⟩ : ByteArray) 0 28 3 (⟨#[]⟩ : ByteArray) (⟨#[]⟩ : ByteArray) (⟨#[]⟩ : ByteArray) 0 0 (⟨#[]⟩ : ByteArray) 0 _ _ ([] : List (S38)) _ _ ([] : List ByteArray) t170 t171 _ ?side1 ?side2 ?side3 ?side4 ?sideG A1.out).mono ?_); (case sideG => exact glob_below HGL.out (by repeat (first | (with_reducible first | exact HB.out | apply below_alloc | apply pw_below_drewN | apply below_drew1) | exact HB.out))); (case side1 => exact Kd.C_nil _ _); (case side2 => exact Nat.le_refl _); (case side3 => exact Kd.C_nil _ _); (case side4 => exact Nat.le_refl _); rintro e w11 ⟨rfl, hb⟩; refine ⟨_, rfl, ?_⟩; have n0_ := Aside0.mk (below_step (by repeat (first | (with_reducible first | exact HB.out | apply below_alloc | apply pw_below_drewN | apply below_drew1) | exact HB.out)) hb); clear HB; have HB := n0_; clear n0_; (try clear hb); (try clear hb2); (try clear hk); (try clear hi)) | ((with_reducible refine gate_callee (f := 11) rfl ?_); refine goesL_ (some 11) rfl rfl Tryz.func11 (by kernel_rfl) rfl #[.string (⟨#[97, 99, 107]⟩ : ByteArray)] rfl (by (try simp only [List.map_toArray, List.map_cons, List.map_nil]); first | done | rfl | (simp only [List.length_drop, List.length_take]; rfl)) ?_; (with_reducible refine (post_Kind.calls k (⟨#[97, 99, 107]⟩ : ByteArray) t172 t173 _ ?sideG A2.out).mono ?_); (case sideG => exact glob_below HGL.out (by repeat (first | (with_reducible first | exact HB.out | apply below_alloc | apply pw_below_drewN | apply below_drew1) | exact HB.out))); rintro e w12 ⟨rfl, hb⟩; refine ⟨_, rfl, ?_⟩; have n0_ := Aside0.mk (below_step (by repeat (first | (with_reducible first | exact HB.out | apply below_alloc | apply pw_below_drewN | apply below_drew1) | exact HB.out)) hb); clear HB; have HB := n0_; clear n0_; (try clear hb); (try clear hb2); (try clear hk); (try clear hi)) | (go_at_call 12; (with_reducible refine (post_Name.calls 0 t174 _ ?sideG A8.out).mono ?_); (case sideG => exact glob_below HGL.out (by repeat (first | (with_reducible first | exact HB.out | apply below_alloc | apply pw_below_drewN | apply below_drew1) | exact HB.out))); rintro e w13 ⟨rfl, hb⟩; have n0_ := Aside0.mk (below_step (by repeat (first | (with_reducible first | exact HB.out | apply below_alloc | apply pw_below_drewN | apply below_drew1) | exact HB.out)) hb); clear HB; have HB := n0_; clear n0_; (try clear hb); (try clear hb2); (try clear hk); (try clear hi)))
        go_ret
        exact ⟨by first | rfl | (simp [errW_none, errW_some] <;> rfl) | (simp [*, errW_none, errW_some] <;> rfl), by repeat (first | (with_reducible first | exact HB.out | apply below_alloc | apply pw_below_drewN | apply below_drew1) | exact HB.out)⟩
       ·
        rw [if_neg c10] at H
        have c10b0 : (t172 == 28) = false := beq_eq_false_iff_ne.mpr c10
        have c10b1 : (t172 != 28) = true := bne_iff_ne.mpr c10
        obtain rfl := Option.some.inj H
        go_enter Tryz.func9, Tryz.ntmps9
        go_wp2_with (first | ((with_reducible refine gate_callee (f := 23) rfl ?_); refine goesL_ (some 7) rfl rfl Tryz.func23 (by kernel_rfl) rfl #[.agg #[.string (⟨#[97]⟩ : ByteArray), .string (⟨#[98]⟩ : ByteArray), .int .i64 0, .int .i64 28, .int .i64 3, .string (⟨#[]⟩ : ByteArray), .string (⟨#[]⟩ : ByteArray), .string (⟨#[]⟩ : ByteArray), .int .i64 0, .int .i64 0, .string (⟨#[]⟩ : ByteArray), .int .i64 0, .slice none 0 0, .slice none 0 0]] rfl (by (try simp only [List.map_toArray, List.map_cons, List.map_nil]); first | done | rfl | (simp only [List.length_drop, List.length_take]; rfl)) ?_; (refine (post_Text.calls k (⟨#[97]⟩ : ByteArray) (⟨#[98]⟩ : ByteArray) 0 28 3 (⟨#[]⟩ : ByteArray) (⟨#[]⟩ : ByteArray) (⟨#[]⟩ : ByteArray) 0 0 (⟨#[]⟩ : ByteArray) 0 _ _ ([] : List (S38)) _ _ ([] : List ByteArray) t170 t171 _ ?side1 ?side2 ?side3 ?side4 ?sideG A1.out).mono ?_); (case sideG => exact glob_below HGL.out (by repeat (first | (with_reducible first | exact HB.out | apply below_alloc | apply pw_below_drewN | apply below_drew1) | exact HB.out))); (case side1 => exact Kd.C_nil _ _); (case side2 => exact Nat.le_refl _); (case side3 => exact Kd.C_nil _ _); (case side4 => exact Nat.le_refl _); rintro e w14 ⟨rfl, hb⟩; refine ⟨_, rfl, ?_⟩; have n0_ := Aside0.mk (below_step (by repeat (first | (with_reducible first | exact HB.out | apply below_alloc | apply pw_below_drewN | apply below_drew1) | exact HB.out)) hb); clear HB; have HB := n0_; clear n0_; (try clear hb); (try clear hb2); (try clear hk); (try clear hi)) | ((with_reducible refine gate_callee (f := 11) rfl ?_); refine goesL_ (some 11) rfl rfl Tryz.func11 (by kernel_rfl) rfl #[.string (⟨#[97, 99, 107]⟩ : ByteArray)] rfl (by (try simp only [List.map_toArray, List.map_cons, List.map_nil]); first | done | rfl | (simp only [List.length_drop, List.length_take]; rfl)) ?_; (with_reducible refine (post_Kind.calls k (⟨#[97, 99, 107]⟩ : ByteArray) t172 t173 _ ?sideG A2.out).mono ?_); (case sideG => exact glob_below HGL.out (by repeat (first | (with_reducible first | exact HB.out | apply below_alloc | apply pw_below_drewN | apply below_drew1) | exact HB.out))); rintro e w15 ⟨rfl, hb⟩; refine ⟨_, rfl, ?_⟩; have n0_ := Aside0.mk (below_step (by repeat (first | (with_reducible first | exact HB.out | apply below_alloc | apply pw_below_drewN | apply below_drew1) | exact HB.out)) hb); clear HB; have HB := n0_; clear n0_; (try clear hb); (try clear hb2); (try clear hk); (try clear hi)) | (go_at_call 12; (with_reducible refine (post_Name.calls 0 t174 _ ?sideG A8.out).mono ?_); (case sideG => exact glob_below HGL.out (by repeat (first | (with_reducible first | exact HB.out | apply below_alloc | apply pw_below_drewN | apply below_drew1) | exact HB.out))); rintro e w16 ⟨rfl, hb⟩; have n0_ := Aside0.mk (below_step (by repeat (first | (with_reducible first | exact HB.out | apply below_alloc | apply pw_below_drewN | apply below_drew1) | exact HB.out)) hb); clear HB; have HB := n0_; clear n0_; (try clear hb); (try clear hb2); (try clear hk); (try clear hi)))
        go_ret
        exact ⟨by first | rfl | (simp [errW_none, errW_some] <;> rfl) | (simp [*, errW_none, errW_some] <;> rfl), by repeat (first | (with_reducible first | exact HB.out | apply below_alloc | apply pw_below_drewN | apply below_drew1) | exact HB.out)⟩
      ·
       rw [if_neg c9] at H
       have c9b0 : (t174.toList == ([111, 114, 100, 101, 114] : List UInt8)) = false := beq_eq_false_iff_ne.mpr c9
       have c9b1 : (t174.toList != ([111, 114, 100, 101, 114] : List UInt8)) = true := bne_iff_ne.mpr c9
       obtain rfl := Option.some.inj H
       go_enter Tryz.func9, Tryz.ntmps9
       go_wp2_with (first | ((with_reducible refine gate_callee (f := 23) rfl ?_); refine goesL_ (some 7) rfl rfl Tryz.func23 (by kernel_rfl) rfl #[.agg #[.string (⟨#[97]⟩ : ByteArray), .string (⟨#[98]⟩ : ByteArray), .int .i64 0, .int .i64 28, .int .i64 3, .string (⟨#[]⟩ : ByteArray), .string (⟨#[]⟩ : ByteArray), .string (⟨#[]⟩ : ByteArray), .int .i64 0, .int .i64 0, .string (⟨#[]⟩ : ByteArray), .int .i64 0, .slice none 0 0, .slice none 0 0]] rfl (by (try simp only [List.map_toArray, List.map_cons, List.map_nil]); first | done | rfl | (simp only [List.length_drop, List.length_take]; rfl)) ?_; (refine (post_Text.calls k (⟨#[97]⟩ : ByteArray) (⟨#[98]⟩ : ByteArray) 0 28 3 (⟨#[]⟩ : ByteArray) (⟨#[]⟩ : ByteArray) (⟨#[]⟩ : ByteArray) 0 0 (⟨#[]⟩ : ByteArray) 0 _ _ ([] : List (S38)) _ _ ([] : List ByteArray) t170 t171 _ ?side1 ?side2 ?side3 ?side4 ?sideG A1.out).mono ?_); (case sideG => exact glob_below HGL.out (by repeat (first | (with_reducible first | exact HB.out | apply below_alloc | apply pw_below_drewN | apply below_drew1) | exact HB.out))); (case side1 => exact Kd.C_nil _ _); (case side2 => exact Nat.le_refl _); (case side3 => exact Kd.C_nil _ _); (case side4 => exact Nat.le_refl _); rintro e w17 ⟨rfl, hb⟩; refine ⟨_, rfl, ?_⟩; have n0_ := Aside0.mk (below_step (by repeat (first | (with_reducible first | exact HB.out | apply below_alloc | apply pw_below_drewN | apply below_drew1) | exact HB.out)) hb); clear HB; have HB := n0_; clear n0_; (try clear hb); (try clear hb2); (try clear hk); (try clear hi)) | ((with_reducible refine gate_callee (f := 11) rfl ?_); refine goesL_ (some 11) rfl rfl Tryz.func11 (by kernel_rfl) rfl #[.string (⟨#[97, 99, 107]⟩ : ByteArray)] rfl (by (try simp only [List.map_toArray, List.map_cons, List.map_nil]); first | done | rfl | (simp only [List.length_drop, List.length_take]; rfl)) ?_; (with_reducible refine (post_Kind.calls k (⟨#[97, 99, 107]⟩ : ByteArray) t172 t173 _ ?sideG A2.out).mono ?_); (case sideG => exact glob_below HGL.out (by repeat (first | (with_reducible first | exact HB.out | apply below_alloc | apply pw_below_drewN | apply below_drew1) | exact HB.out))); rintro e w18 ⟨rfl, hb⟩; refine ⟨_, rfl, ?_⟩; have n0_ := Aside0.mk (below_step (by repeat (first | (with_reducible first | exact HB.out | apply below_alloc | apply pw_below_drewN | apply below_drew1) | exact HB.out)) hb); clear HB; have HB := n0_; clear n0_; (try clear hb); (try clear hb2); (try clear hk); (try clear hi)) | (go_at_call 12; (with_reducible refine (post_Name.calls 0 t174 _ ?sideG A8.out).mono ?_); (case sideG => exact glob_below HGL.out (by repeat (first | (with_reducible first | exact HB.out | apply below_alloc | apply pw_below_drewN | apply below_drew1) | exact HB.out))); rintro e w19 ⟨rfl, hb⟩; have n0_ := Aside0.mk (below_step (by repeat (first | (with_reducible first | exact HB.out | apply below_alloc | apply pw_below_drewN | apply below_drew1) | exact HB.out)) hb); clear HB; have HB := n0_; clear n0_; (try clear hb); (try clear hb2); (try clear hk); (try clear hi)))
       go_ret
       exact ⟨by first | rfl | (simp [errW_none, errW_some] <;> rfl) | (simp [*, errW_none, errW_some] <;> rfl), by repeat (first | (with_reducible first | exact HB.out | apply below_alloc | apply pw_below_drewN | apply below_drew1) | exact HB.out)⟩
     ·
      rw [if_neg c7] at H
      have c7b0 : ((t170.extract 0 12).toList == ([102, 114, 111, 109, 61, 97, 10, 116, 111, 61, 98, 10] : List UInt8)) = false := beq_eq_false_iff_ne.mpr c7
      have c7b1 : ((t170.extract 0 12).toList != ([102, 114, 111, 109, 61, 97, 10, 116, 111, 61, 98, 10] : List UInt8)) = true := bne_iff_ne.mpr c7
      obtain rfl := Option.some.inj H
      go_enter Tryz.func9, Tryz.ntmps9
      go_wp2_with (first | ((with_reducible refine gate_callee (f := 23) rfl ?_); refine goesL_ (some 7) rfl rfl Tryz.func23 (by kernel_rfl) rfl #[.agg #[.string (⟨#[97]⟩ : ByteArray), .string (⟨#[98]⟩ : ByteArray), .int .i64 0, .int .i64 28, .int .i64 3, .string (⟨#[]⟩ : ByteArray), .string (⟨#[]⟩ : ByteArray), .string (⟨#[]⟩ : ByteArray), .int .i64 0, .int .i64 0, .string (⟨#[]⟩ : ByteArray), .int .i64 0, .slice none 0 0, .slice none 0 0]] rfl (by (try simp only [List.map_toArray, List.map_cons, List.map_nil]); first | done | rfl | (simp only [List.length_drop, List.length_take]; rfl)) ?_; (refine (post_Text.calls k (⟨#[97]⟩ : ByteArray) (⟨#[98]⟩ : ByteArray) 0 28 3 (⟨#[]⟩ : ByteArray) (⟨#[]⟩ : ByteArray) (⟨#[]⟩ : ByteArray) 0 0 (⟨#[]⟩ : ByteArray) 0 _ _ ([] : List (S38)) _ _ ([] : List ByteArray) t170 t171 _ ?side1 ?side2 ?side3 ?side4 ?sideG A1.out).mono ?_); (case sideG => exact glob_below HGL.out (by repeat (first | (with_reducible first | exact HB.out | apply below_alloc | apply pw_below_drewN | apply below_drew1) | exact HB.out))); (case side1 => exact Kd.C_nil _ _); (case side2 => exact Nat.le_refl _); (case side3 => exact Kd.C_nil _ _); (case side4 => exact Nat.le_refl _); rintro e w20 ⟨rfl, hb⟩; refine ⟨_, rfl, ?_⟩; have n0_ := Aside0.mk (below_step (by repeat (first | (with_reducible first | exact HB.out | apply below_alloc | apply pw_below_drewN | apply below_drew1) | exact HB.out)) hb); clear HB; have HB := n0_; clear n0_; (try clear hb); (try clear hb2); (try clear hk); (try clear hi)) | ((with_reducible refine gate_callee (f := 11) rfl ?_); refine goesL_ (some 11) rfl rfl Tryz.func11 (by kernel_rfl) rfl #[.string (⟨#[97, 99, 107]⟩ : ByteArray)] rfl (by (try simp only [List.map_toArray, List.map_cons, List.map_nil]); first | done | rfl | (simp only [List.length_drop, List.length_take]; rfl)) ?_; (with_reducible refine (post_Kind.calls k (⟨#[97, 99, 107]⟩ : ByteArray) t172 t173 _ ?sideG A2.out).mono ?_); (case sideG => exact glob_below HGL.out (by repeat (first | (with_reducible first | exact HB.out | apply below_alloc | apply pw_below_drewN | apply below_drew1) | exact HB.out))); rintro e w21 ⟨rfl, hb⟩; refine ⟨_, rfl, ?_⟩; have n0_ := Aside0.mk (below_step (by repeat (first | (with_reducible first | exact HB.out | apply below_alloc | apply pw_below_drewN | apply below_drew1) | exact HB.out)) hb); clear HB; have HB := n0_; clear n0_; (try clear hb); (try clear hb2); (try clear hk); (try clear hi)))
      go_ret
      exact ⟨by first | rfl | (simp [errW_none, errW_some] <;> rfl) | (simp [*, errW_none, errW_some] <;> rfl), by repeat (first | (with_reducible first | exact HB.out | apply below_alloc | apply pw_below_drewN | apply below_drew1) | exact HB.out)⟩
    ·
     rw [if_neg c6] at H
     exact absurd H (by simp)
   ·
    rw [if_neg c5] at H
    exact absurd H (by simp)
  ·
   rw [if_neg c4] at H
   have c4b0 : decide (12 < (t170.size : Int)) = false := decide_eq_false c4
   have c4b1 : decide (12 < t170.size) = false := decide_eq_false (by omega)
   clear c4
   obtain rfl := Option.some.inj H
   go_enter Tryz.func9, Tryz.ntmps9
   go_wp2_with (first | ((with_reducible refine gate_callee (f := 23) rfl ?_); refine goesL_ (some 7) rfl rfl Tryz.func23 (by kernel_rfl) rfl #[.agg #[.string (⟨#[97]⟩ : ByteArray), .string (⟨#[98]⟩ : ByteArray), .int .i64 0, .int .i64 28, .int .i64 3, .string (⟨#[]⟩ : ByteArray), .string (⟨#[]⟩ : ByteArray), .string (⟨#[]⟩ : ByteArray), .int .i64 0, .int .i64 0, .string (⟨#[]⟩ : ByteArray), .int .i64 0, .slice none 0 0, .slice none 0 0]] rfl (by (try simp only [List.map_toArray, List.map_cons, List.map_nil]); first | done | rfl | (simp only [List.length_drop, List.length_take]; rfl)) ?_; (refine (post_Text.calls k (⟨#[97]⟩ : ByteArray) (⟨#[98]⟩ : ByteArray) 0 28 3 (⟨#[]⟩ : ByteArray) (⟨#[]⟩ : ByteArray) (⟨#[]⟩ : ByteArray) 0 0 (⟨#[]⟩ : ByteArray) 0 _ _ ([] : List (S38)) _ _ ([] : List ByteArray) t170 t171 _ ?side1 ?side2 ?side3 ?side4 ?sideG A1.out).mono ?_); (case sideG => exact glob_below HGL.out (by repeat (first | (with_reducible first | exact HB.out | apply below_alloc | apply pw_below_drewN | apply below_drew1) | exact HB.out))); (case side1 => exact Kd.C_nil _ _); (case side2 => exact Nat.le_refl _); (case side3 => exact Kd.C_nil _ _); (case side4 => exact Nat.le_refl _); rintro e w22 ⟨rfl, hb⟩; refine ⟨_, rfl, ?_⟩; have n0_ := Aside0.mk (below_step (by repeat (first | (with_reducible first | exact HB.out | apply below_alloc | apply pw_below_drewN | apply below_drew1) | exact HB.out)) hb); clear HB; have HB := n0_; clear n0_; (try clear hb); (try clear hb2); (try clear hk); (try clear hi)) | ((with_reducible refine gate_callee (f := 11) rfl ?_); refine goesL_ (some 11) rfl rfl Tryz.func11 (by kernel_rfl) rfl #[.string (⟨#[97, 99, 107]⟩ : ByteArray)] rfl (by (try simp only [List.map_toArray, List.map_cons, List.map_nil]); first | done | rfl | (simp only [List.length_drop, List.length_take]; rfl)) ?_; (with_reducible refine (post_Kind.calls k (⟨#[97, 99, 107]⟩ : ByteArray) t172 t173 _ ?sideG A2.out).mono ?_); (case sideG => exact glob_below HGL.out (by repeat (first | (with_reducible first | exact HB.out | apply below_alloc | apply pw_below_drewN | apply below_drew1) | exact HB.out))); rintro e w23 ⟨rfl, hb⟩; refine ⟨_, rfl, ?_⟩; have n0_ := Aside0.mk (below_step (by repeat (first | (with_reducible first | exact HB.out | apply below_alloc | apply pw_below_drewN | apply below_drew1) | exact HB.out)) hb); clear HB; have HB := n0_; clear n0_; (try clear hb); (try clear hb2); (try clear hk); (try clear hi)))
   go_ret
   exact ⟨by first | rfl | (simp [errW_none, errW_some] <;> rfl) | (simp [*, errW_none, errW_some] <;> rfl), by repeat (first | (with_reducible first | exact HB.out | apply below_alloc | apply pw_below_drewN | apply below_drew1) | exact HB.out)⟩
 ·
  rw [if_neg c3] at H
  have c3b0 : (t171 == 0) = false := beq_eq_false_iff_ne.mpr c3
  have c3b1 : (t171 != 0) = true := bne_iff_ne.mpr c3
  obtain rfl := Option.some.inj H
  go_enter Tryz.func9, Tryz.ntmps9
  go_wp2_with (first | ((with_reducible refine gate_callee (f := 23) rfl ?_); refine goesL_ (some 7) rfl rfl Tryz.func23 (by kernel_rfl) rfl #[.agg #[.string (⟨#[97]⟩ : ByteArray), .string (⟨#[98]⟩ : ByteArray), .int .i64 0, .int .i64 28, .int .i64 3, .string (⟨#[]⟩ : ByteArray), .string (⟨#[]⟩ : ByteArray), .string (⟨#[]⟩ : ByteArray), .int .i64 0, .int .i64 0, .string (⟨#[]⟩ : ByteArray), .int .i64 0, .slice none 0 0, .slice none 0 0]] rfl (by (try simp only [List.map_toArray, List.map_cons, List.map_nil]); first | done | rfl | (simp only [List.length_drop, List.length_take]; rfl)) ?_; (refine (post_Text.calls k (⟨#[97]⟩ : ByteArray) (⟨#[98]⟩ : ByteArray) 0 28 3 (⟨#[]⟩ : ByteArray) (⟨#[]⟩ : ByteArray) (⟨#[]⟩ : ByteArray) 0 0 (⟨#[]⟩ : ByteArray) 0 _ _ ([] : List (S38)) _ _ ([] : List ByteArray) t170 t171 _ ?side1 ?side2 ?side3 ?side4 ?sideG A1.out).mono ?_); (case sideG => exact glob_below HGL.out (by repeat (first | (with_reducible first | exact HB.out | apply below_alloc | apply pw_below_drewN | apply below_drew1) | exact HB.out))); (case side1 => exact Kd.C_nil _ _); (case side2 => exact Nat.le_refl _); (case side3 => exact Kd.C_nil _ _); (case side4 => exact Nat.le_refl _); rintro e w24 ⟨rfl, hb⟩; refine ⟨_, rfl, ?_⟩; have n0_ := Aside0.mk (below_step (by repeat (first | (with_reducible first | exact HB.out | apply below_alloc | apply pw_below_drewN | apply below_drew1) | exact HB.out)) hb); clear HB; have HB := n0_; clear n0_; (try clear hb); (try clear hb2); (try clear hk); (try clear hi)) | ((with_reducible refine gate_callee (f := 11) rfl ?_); refine goesL_ (some 11) rfl rfl Tryz.func11 (by kernel_rfl) rfl #[.string (⟨#[97, 99, 107]⟩ : ByteArray)] rfl (by (try simp only [List.map_toArray, List.map_cons, List.map_nil]); first | done | rfl | (simp only [List.length_drop, List.length_take]; rfl)) ?_; (with_reducible refine (post_Kind.calls k (⟨#[97, 99, 107]⟩ : ByteArray) t172 t173 _ ?sideG A2.out).mono ?_); (case sideG => exact glob_below HGL.out (by repeat (first | (with_reducible first | exact HB.out | apply below_alloc | apply pw_below_drewN | apply below_drew1) | exact HB.out))); rintro e w25 ⟨rfl, hb⟩; refine ⟨_, rfl, ?_⟩; have n0_ := Aside0.mk (below_step (by repeat (first | (with_reducible first | exact HB.out | apply below_alloc | apply pw_below_drewN | apply below_drew1) | exact HB.out)) hb); clear HB; have HB := n0_; clear n0_; (try clear hb); (try clear hb2); (try clear hk); (try clear hi)))
  go_ret
  exact ⟨by first | rfl | (simp [errW_none, errW_some] <;> rfl) | (simp [*, errW_none, errW_some] <;> rfl), by repeat (first | (with_reducible first | exact HB.out | apply below_alloc | apply pw_below_drewN | apply below_drew1) | exact HB.out)⟩
end Go.Proofs.YtkblmomfiimkiaaGreatDoor.P
end

section
namespace Go.Proofs.YtkblmomfiimkiaaGreatDoor.P
open Go.RowKit Go.Proofs.YtkblmomfiimkiaaGreatDoorW.PrintWords Go.Proofs.YtkblmomfiimkiaaGreatDoorW.PrintLast Go.Proofs.YtkblmomfiimkiaaGreatDoorW.PrintMore
attribute [local go_sem] max2_int min2_int max_two min_two max_three min_three max_four min_four   -- for this text's walks alone
set_option linter.unusedVariables false
set_option linter.unusedSimpArgs false
def supercargoref09_Names.f  : Option (List ByteArray) := some (([(⟨#[111, 114, 100, 101, 114]⟩ : ByteArray), (⟨#[97, 112, 112, 108, 121]⟩ : ByteArray), (⟨#[105, 115, 115, 117, 101, 100]⟩ : ByteArray), (⟨#[100, 101, 99, 108, 105, 110, 101, 100]⟩ : ByteArray), (⟨#[115, 104, 105, 112]⟩ : ByteArray), (⟨#[108, 97, 100, 105, 110, 103]⟩ : ByteArray), (⟨#[99, 111, 118, 101, 114]⟩ : ByteArray), (⟨#[99, 111, 118, 101, 114, 101, 100]⟩ : ByteArray), (⟨#[101, 110, 100, 111, 114, 115, 101]⟩ : ByteArray), (⟨#[101, 110, 100, 111, 114, 115, 101, 100]⟩ : ByteArray), (⟨#[112, 114, 101, 115, 101, 110, 116]⟩ : ByteArray), (⟨#[114, 101, 102, 117, 115, 101, 100]⟩ : ByteArray), (⟨#[97, 99, 99, 101, 112, 116, 101, 100]⟩ : ByteArray), (⟨#[112, 97, 105, 100]⟩ : ByteArray), (⟨#[112, 97, 112, 101, 114, 115]⟩ : ByteArray), (⟨#[100, 101, 99, 108, 97, 114, 101]⟩ : ByteArray), (⟨#[100, 117, 116, 121]⟩ : ByteArray), (⟨#[116, 114, 97, 110, 115, 102, 101, 114]⟩ : ByteArray), (⟨#[99, 114, 101, 100, 105, 116, 101, 100]⟩ : ByteArray), (⟨#[114, 101, 108, 101, 97, 115, 101]⟩ : ByteArray), (⟨#[115, 117, 114, 114, 101, 110, 100, 101, 114]⟩ : ByteArray), (⟨#[100, 101, 108, 105, 118, 101, 114, 101, 100]⟩ : ByteArray), (⟨#[111, 98, 106, 101, 99, 116, 101, 100]⟩ : ByteArray), (⟨#[108, 111, 115, 116]⟩ : ByteArray), (⟨#[114, 101, 112, 108, 97, 99, 101]⟩ : ByteArray), (⟨#[114, 101, 112, 108, 97, 99, 101, 100]⟩ : ByteArray), (⟨#[108, 97, 110, 100, 101, 100]⟩ : ByteArray), (⟨#[114, 101, 109, 105, 116]⟩ : ByteArray), (⟨#[97, 99, 107]⟩ : ByteArray)] : List ByteArray))
set_option maxHeartbeats 8000000 in
set_option maxRecDepth 100000 in
theorem supercargoref09_Names.calls  (r : List ByteArray) (w : World) (h : supercargoref09_Names.f  = some r) :
  Calls Tryz.prog 10 #[] w fun e w' => ∃ v0_ : Value, e = .returned (v0_) ∧ Kd.R Kd.string 9 w' w.heap.size (fun _ => True) v0_ r ∧ Below w.heap.size w w' := by
 have HB := Aside0.mk (Below.refl w.heap.size w)
 have H : (some (([(⟨#[111, 114, 100, 101, 114]⟩ : ByteArray), (⟨#[97, 112, 112, 108, 121]⟩ : ByteArray), (⟨#[105, 115, 115, 117, 101, 100]⟩ : ByteArray), (⟨#[100, 101, 99, 108, 105, 110, 101, 100]⟩ : ByteArray), (⟨#[115, 104, 105, 112]⟩ : ByteArray), (⟨#[108, 97, 100, 105, 110, 103]⟩ : ByteArray), (⟨#[99, 111, 118, 101, 114]⟩ : ByteArray), (⟨#[99, 111, 118, 101, 114, 101, 100]⟩ : ByteArray), (⟨#[101, 110, 100, 111, 114, 115, 101]⟩ : ByteArray), (⟨#[101, 110, 100, 111, 114, 115, 101, 100]⟩ : ByteArray), (⟨#[112, 114, 101, 115, 101, 110, 116]⟩ : ByteArray), (⟨#[114, 101, 102, 117, 115, 101, 100]⟩ : ByteArray), (⟨#[97, 99, 99, 101, 112, 116, 101, 100]⟩ : ByteArray), (⟨#[112, 97, 105, 100]⟩ : ByteArray), (⟨#[112, 97, 112, 101, 114, 115]⟩ : ByteArray), (⟨#[100, 101, 99, 108, 97, 114, 101]⟩ : ByteArray), (⟨#[100, 117, 116, 121]⟩ : ByteArray), (⟨#[116, 114, 97, 110, 115, 102, 101, 114]⟩ : ByteArray), (⟨#[99, 114, 101, 100, 105, 116, 101, 100]⟩ : ByteArray), (⟨#[114, 101, 108, 101, 97, 115, 101]⟩ : ByteArray), (⟨#[115, 117, 114, 114, 101, 110, 100, 101, 114]⟩ : ByteArray), (⟨#[100, 101, 108, 105, 118, 101, 114, 101, 100]⟩ : ByteArray), (⟨#[111, 98, 106, 101, 99, 116, 101, 100]⟩ : ByteArray), (⟨#[108, 111, 115, 116]⟩ : ByteArray), (⟨#[114, 101, 112, 108, 97, 99, 101]⟩ : ByteArray), (⟨#[114, 101, 112, 108, 97, 99, 101, 100]⟩ : ByteArray), (⟨#[108, 97, 110, 100, 101, 100]⟩ : ByteArray), (⟨#[114, 101, 109, 105, 116]⟩ : ByteArray), (⟨#[97, 99, 107]⟩ : ByteArray)] : List ByteArray))) = some r := h
 clear h
 obtain ⟨y175, hy175⟩ : ∃ y_ : List ByteArray, y_ = (([(⟨#[111, 114, 100, 101, 114]⟩ : ByteArray), (⟨#[97, 112, 112, 108, 121]⟩ : ByteArray), (⟨#[105, 115, 115, 117, 101, 100]⟩ : ByteArray), (⟨#[100, 101, 99, 108, 105, 110, 101, 100]⟩ : ByteArray), (⟨#[115, 104, 105, 112]⟩ : ByteArray), (⟨#[108, 97, 100, 105, 110, 103]⟩ : ByteArray), (⟨#[99, 111, 118, 101, 114]⟩ : ByteArray), (⟨#[99, 111, 118, 101, 114, 101, 100]⟩ : ByteArray), (⟨#[101, 110, 100, 111, 114, 115, 101]⟩ : ByteArray), (⟨#[101, 110, 100, 111, 114, 115, 101, 100]⟩ : ByteArray), (⟨#[112, 114, 101, 115, 101, 110, 116]⟩ : ByteArray), (⟨#[114, 101, 102, 117, 115, 101, 100]⟩ : ByteArray), (⟨#[97, 99, 99, 101, 112, 116, 101, 100]⟩ : ByteArray), (⟨#[112, 97, 105, 100]⟩ : ByteArray), (⟨#[112, 97, 112, 101, 114, 115]⟩ : ByteArray), (⟨#[100, 101, 99, 108, 97, 114, 101]⟩ : ByteArray), (⟨#[100, 117, 116, 121]⟩ : ByteArray), (⟨#[116, 114, 97, 110, 115, 102, 101, 114]⟩ : ByteArray), (⟨#[99, 114, 101, 100, 105, 116, 101, 100]⟩ : ByteArray), (⟨#[114, 101, 108, 101, 97, 115, 101]⟩ : ByteArray), (⟨#[115, 117, 114, 114, 101, 110, 100, 101, 114]⟩ : ByteArray), (⟨#[100, 101, 108, 105, 118, 101, 114, 101, 100]⟩ : ByteArray), (⟨#[111, 98, 106, 101, 99, 116, 101, 100]⟩ : ByteArray), (⟨#[108, 111, 115, 116]⟩ : ByteArray), (⟨#[114, 101, 112, 108, 97, 99, 101]⟩ : ByteArray), (⟨#[114, 101, 112, 108, 97, 99, 101, 100]⟩ : ByteArray), (⟨#[108, 97, 110, 100, 101, 100]⟩ : ByteArray), (⟨#[114, 101, 109, 105, 116]⟩ : ByteArray), (⟨#[97, 99, 107]⟩ : ByteArray)] : List ByteArray)) := ⟨_, rfl⟩
 replace H : (some y175) = some r := by first | (rw [hy175]; with_reducible exact H) | (have H2_ := (Option.bind_some _ _).symm.trans H; rw [hy175]; with_reducible exact H2_) | (have H2_ := (Option.bind_some _ _).symm.trans H; with_reducible exact H2_) | with_reducible exact H | (rw [hy175]; exact H) | exact H
 have Ny175 := Aside0.mk hy175
 clear hy175
 obtain rfl := Option.some.inj H
 go_enter Tryz.func10, Tryz.ntmps10
 go_wp2_with (first | ((with_reducible refine gate_dst (N := 1) rfl ?_); refine Kd.R_lit Kd.string _ 9 ?hg (N := 1) ?hd (xs := ([(⟨#[111, 114, 100, 101, 114]⟩ : ByteArray), (⟨#[97, 112, 112, 108, 121]⟩ : ByteArray), (⟨#[105, 115, 115, 117, 101, 100]⟩ : ByteArray), (⟨#[100, 101, 99, 108, 105, 110, 101, 100]⟩ : ByteArray), (⟨#[115, 104, 105, 112]⟩ : ByteArray), (⟨#[108, 97, 100, 105, 110, 103]⟩ : ByteArray), (⟨#[99, 111, 118, 101, 114]⟩ : ByteArray), (⟨#[99, 111, 118, 101, 114, 101, 100]⟩ : ByteArray), (⟨#[101, 110, 100, 111, 114, 115, 101]⟩ : ByteArray), (⟨#[101, 110, 100, 111, 114, 115, 101, 100]⟩ : ByteArray), (⟨#[112, 114, 101, 115, 101, 110, 116]⟩ : ByteArray), (⟨#[114, 101, 102, 117, 115, 101, 100]⟩ : ByteArray), (⟨#[97, 99, 99, 101, 112, 116, 101, 100]⟩ : ByteArray), (⟨#[112, 97, 105, 100]⟩ : ByteArray), (⟨#[112, 97, 112, 101, 114, 115]⟩ : ByteArray), (⟨#[100, 101, 99, 108, 97, 114, 101]⟩ : ByteArray), (⟨#[100, 117, 116, 121]⟩ : ByteArray), (⟨#[116, 114, 97, 110, 115, 102, 101, 114]⟩ : ByteArray), (⟨#[99, 114, 101, 100, 105, 116, 101, 100]⟩ : ByteArray), (⟨#[114, 101, 108, 101, 97, 115, 101]⟩ : ByteArray), (⟨#[115, 117, 114, 114, 101, 110, 100, 101, 114]⟩ : ByteArray), (⟨#[100, 101, 108, 105, 118, 101, 114, 101, 100]⟩ : ByteArray), (⟨#[111, 98, 106, 101, 99, 116, 101, 100]⟩ : ByteArray), (⟨#[108, 111, 115, 116]⟩ : ByteArray), (⟨#[114, 101, 112, 108, 97, 99, 101]⟩ : ByteArray), (⟨#[114, 101, 112, 108, 97, 99, 101, 100]⟩ : ByteArray), (⟨#[108, 97, 110, 100, 101, 100]⟩ : ByteArray), (⟨#[114, 101, 109, 105, 116]⟩ : ByteArray), (⟨#[97, 99, 107]⟩ : ByteArray)] : List ByteArray)) (inner := [.string (⟨#[111, 114, 100, 101, 114]⟩ : ByteArray), .string (⟨#[97, 112, 112, 108, 121]⟩ : ByteArray), .string (⟨#[105, 115, 115, 117, 101, 100]⟩ : ByteArray), .string (⟨#[100, 101, 99, 108, 105, 110, 101, 100]⟩ : ByteArray), .string (⟨#[115, 104, 105, 112]⟩ : ByteArray), .string (⟨#[108, 97, 100, 105, 110, 103]⟩ : ByteArray), .string (⟨#[99, 111, 118, 101, 114]⟩ : ByteArray), .string (⟨#[99, 111, 118, 101, 114, 101, 100]⟩ : ByteArray), .string (⟨#[101, 110, 100, 111, 114, 115, 101]⟩ : ByteArray), .string (⟨#[101, 110, 100, 111, 114, 115, 101, 100]⟩ : ByteArray), .string (⟨#[112, 114, 101, 115, 101, 110, 116]⟩ : ByteArray), .string (⟨#[114, 101, 102, 117, 115, 101, 100]⟩ : ByteArray), .string (⟨#[97, 99, 99, 101, 112, 116, 101, 100]⟩ : ByteArray), .string (⟨#[112, 97, 105, 100]⟩ : ByteArray), .string (⟨#[112, 97, 112, 101, 114, 115]⟩ : ByteArray), .string (⟨#[100, 101, 99, 108, 97, 114, 101]⟩ : ByteArray), .string (⟨#[100, 117, 116, 121]⟩ : ByteArray), .string (⟨#[116, 114, 97, 110, 115, 102, 101, 114]⟩ : ByteArray), .string (⟨#[99, 114, 101, 100, 105, 116, 101, 100]⟩ : ByteArray), .string (⟨#[114, 101, 108, 101, 97, 115, 101]⟩ : ByteArray), .string (⟨#[115, 117, 114, 114, 101, 110, 100, 101, 114]⟩ : ByteArray), .string (⟨#[100, 101, 108, 105, 118, 101, 114, 101, 100]⟩ : ByteArray), .string (⟨#[111, 98, 106, 101, 99, 116, 101, 100]⟩ : ByteArray), .string (⟨#[108, 111, 115, 116]⟩ : ByteArray), .string (⟨#[114, 101, 112, 108, 97, 99, 101]⟩ : ByteArray), .string (⟨#[114, 101, 112, 108, 97, 99, 101, 100]⟩ : ByteArray), .string (⟨#[108, 97, 110, 100, 101, 100]⟩ : ByteArray), .string (⟨#[114, 101, 109, 105, 116]⟩ : ByteArray), .string (⟨#[97, 99, 107]⟩ : ByteArray)]) (ok := fun _ => True) (okp := fun _ => True) ?hr ?hp (fun _ hk => hk) trivial (Below.refl _ _) (Nat.le_refl _) (by simp) ?_; (case hd => rfl); (case hg => rfl); (case hr => first | (go_simp; done) | (go_simp; rfl)); (case hp => exact (Reps.one (show Kd.M Kd.string _ _ _ (⟨#[111, 114, 100, 101, 114]⟩ : ByteArray) [.string (⟨#[111, 114, 100, 101, 114]⟩ : ByteArray)] from rfl) (Reps.one (show Kd.M Kd.string _ _ _ (⟨#[97, 112, 112, 108, 121]⟩ : ByteArray) [.string (⟨#[97, 112, 112, 108, 121]⟩ : ByteArray)] from rfl) (Reps.one (show Kd.M Kd.string _ _ _ (⟨#[105, 115, 115, 117, 101, 100]⟩ : ByteArray) [.string (⟨#[105, 115, 115, 117, 101, 100]⟩ : ByteArray)] from rfl) (Reps.one (show Kd.M Kd.string _ _ _ (⟨#[100, 101, 99, 108, 105, 110, 101, 100]⟩ : ByteArray) [.string (⟨#[100, 101, 99, 108, 105, 110, 101, 100]⟩ : ByteArray)] from rfl) (Reps.one (show Kd.M Kd.string _ _ _ (⟨#[115, 104, 105, 112]⟩ : ByteArray) [.string (⟨#[115, 104, 105, 112]⟩ : ByteArray)] from rfl) (Reps.one (show Kd.M Kd.string _ _ _ (⟨#[108, 97, 100, 105, 110, 103]⟩ : ByteArray) [.string (⟨#[108, 97, 100, 105, 110, 103]⟩ : ByteArray)] from rfl) (Reps.one (show Kd.M Kd.string _ _ _ (⟨#[99, 111, 118, 101, 114]⟩ : ByteArray) [.string (⟨#[99, 111, 118, 101, 114]⟩ : ByteArray)] from rfl) (Reps.one (show Kd.M Kd.string _ _ _ (⟨#[99, 111, 118, 101, 114, 101, 100]⟩ : ByteArray) [.string (⟨#[99, 111, 118, 101, 114, 101, 100]⟩ : ByteArray)] from rfl) (Reps.one (show Kd.M Kd.string _ _ _ (⟨#[101, 110, 100, 111, 114, 115, 101]⟩ : ByteArray) [.string (⟨#[101, 110, 100, 111, 114, 115, 101]⟩ : ByteArray)] from rfl) (Reps.one (show Kd.M Kd.string _ _ _ (⟨#[101, 110, 100, 111, 114, 115, 101, 100]⟩ : ByteArray) [.string (⟨#[101, 110, 100, 111, 114, 115, 101, 100]⟩ : ByteArray)] from rfl) (Reps.one (show Kd.M Kd.string _ _ _ (⟨#[112, 114, 101, 115, 101, 110, 116]⟩ : ByteArray) [.string (⟨#[112, 114, 101, 115, 101, 110, 116]⟩ : ByteArray)] from rfl) (Reps.one (show Kd.M Kd.string _ _ _ (⟨#[114, 101, 102, 117, 115, 101, 100]⟩ : ByteArray) [.string (⟨#[114, 101, 102, 117, 115, 101, 100]⟩ : ByteArray)] from rfl) (Reps.one (show Kd.M Kd.string _ _ _ (⟨#[97, 99, 99, 101, 112, 116, 101, 100]⟩ : ByteArray) [.string (⟨#[97, 99, 99, 101, 112, 116, 101, 100]⟩ : ByteArray)] from rfl) (Reps.one (show Kd.M Kd.string _ _ _ (⟨#[112, 97, 105, 100]⟩ : ByteArray) [.string (⟨#[112, 97, 105, 100]⟩ : ByteArray)] from rfl) (Reps.one (show Kd.M Kd.string _ _ _ (⟨#[112, 97, 112, 101, 114, 115]⟩ : ByteArray) [.string (⟨#[112, 97, 112, 101, 114, 115]⟩ : ByteArray)] from rfl) (Reps.one (show Kd.M Kd.string _ _ _ (⟨#[100, 101, 99, 108, 97, 114, 101]⟩ : ByteArray) [.string (⟨#[100, 101, 99, 108, 97, 114, 101]⟩ : ByteArray)] from rfl) (Reps.one (show Kd.M Kd.string _ _ _ (⟨#[100, 117, 116, 121]⟩ : ByteArray) [.string (⟨#[100, 117, 116, 121]⟩ : ByteArray)] from rfl) (Reps.one (show Kd.M Kd.string _ _ _ (⟨#[116, 114, 97, 110, 115, 102, 101, 114]⟩ : ByteArray) [.string (⟨#[116, 114, 97, 110, 115, 102, 101, 114]⟩ : ByteArray)] from rfl) (Reps.one (show Kd.M Kd.string _ _ _ (⟨#[99, 114, 101, 100, 105, 116, 101, 100]⟩ : ByteArray) [.string (⟨#[99, 114, 101, 100, 105, 116, 101, 100]⟩ : ByteArray)] from rfl) (Reps.one (show Kd.M Kd.string _ _ _ (⟨#[114, 101, 108, 101, 97, 115, 101]⟩ : ByteArray) [.string (⟨#[114, 101, 108, 101, 97, 115, 101]⟩ : ByteArray)] from rfl) (Reps.one (show Kd.M Kd.string _ _ _ (⟨#[115, 117, 114, 114, 101, 110, 100, 101, 114]⟩ : ByteArray) [.string (⟨#[115, 117, 114, 114, 101, 110, 100, 101, 114]⟩ : ByteArray)] from rfl) (Reps.one (show Kd.M Kd.string _ _ _ (⟨#[100, 101, 108, 105, 118, 101, 114, 101, 100]⟩ : ByteArray) [.string (⟨#[100, 101, 108, 105, 118, 101, 114, 101, 100]⟩ : ByteArray)] from rfl) (Reps.one (show Kd.M Kd.string _ _ _ (⟨#[111, 98, 106, 101, 99, 116, 101, 100]⟩ : ByteArray) [.string (⟨#[111, 98, 106, 101, 99, 116, 101, 100]⟩ : ByteArray)] from rfl) (Reps.one (show Kd.M Kd.string _ _ _ (⟨#[108, 111, 115, 116]⟩ : ByteArray) [.string (⟨#[108, 111, 115, 116]⟩ : ByteArray)] from rfl) (Reps.one (show Kd.M Kd.string _ _ _ (⟨#[114, 101, 112, 108, 97, 99, 101]⟩ : ByteArray) [.string (⟨#[114, 101, 112, 108, 97, 99, 101]⟩ : ByteArray)] from rfl) (Reps.one (show Kd.M Kd.string _ _ _ (⟨#[114, 101, 112, 108, 97, 99, 101, 100]⟩ : ByteArray) [.string (⟨#[114, 101, 112, 108, 97, 99, 101, 100]⟩ : ByteArray)] from rfl) (Reps.one (show Kd.M Kd.string _ _ _ (⟨#[108, 97, 110, 100, 101, 100]⟩ : ByteArray) [.string (⟨#[108, 97, 110, 100, 101, 100]⟩ : ByteArray)] from rfl) (Reps.one (show Kd.M Kd.string _ _ _ (⟨#[114, 101, 109, 105, 116]⟩ : ByteArray) [.string (⟨#[114, 101, 109, 105, 116]⟩ : ByteArray)] from rfl) (Reps.one (show Kd.M Kd.string _ _ _ (⟨#[97, 99, 107]⟩ : ByteArray) [.string (⟨#[97, 99, 107]⟩ : ByteArray)] from rfl) (Reps.none _ _))))))))))))))))))))))))))))))); intro v176 w1 ho2 hb hg_ hnew_; clear hg_ hnew_; (first | rw [← Ny175.out] at ho2 | (simp only [Int.reduceToNat] at ho2; rw [← Ny175.out] at ho2)); have n0_ := Aside0.mk (Kd.R_lower ho2 (below_size (by repeat (first | (with_reducible first | exact HB.out | apply below_alloc | apply pw_below_drewN | apply below_drew1) | exact HB.out)))); have n1_ := Aside0.mk (below_step (by repeat (first | (with_reducible first | exact HB.out | apply below_alloc | apply pw_below_drewN | apply below_drew1) | exact HB.out)) hb); clear HB; have HO177 := n0_; have HB := n1_; clear n0_ n1_; clear hb ho2))
 go_ret
 exact ⟨_, by first | rfl | (simp [errW_none, errW_some] <;> rfl) | (simp [*, errW_none, errW_some] <;> rfl), by (with_reducible repeat (first | apply Kd.R_alloc | apply Kd.R_drewN | apply Kd.R_drew)); exact HO177.out, by repeat (first | (with_reducible first | exact HB.out | apply below_alloc | apply pw_below_drewN | apply below_drew1) | exact HB.out)⟩
end Go.Proofs.YtkblmomfiimkiaaGreatDoor.P
end

section
namespace Go.Proofs.YtkblmomfiimkiaaGreatDoor.P
open Go.RowKit Go.Proofs.YtkblmomfiimkiaaGreatDoorW.PrintWords Go.Proofs.YtkblmomfiimkiaaGreatDoorW.PrintLast Go.Proofs.YtkblmomfiimkiaaGreatDoorW.PrintMore
open Go.Proofs.YtkblmomfiimkiaaGreatDoor.Fp
open Go.Lib (itoa decDigits)
theorem Names_f : supercargoref09_Names.f = some namesB := rfl
theorem names_len : namesB.length = 29 := rfl
theorem names_nodup : ∀ i j, i < 29 → j < 29 → namesB.getD i ByteArray.empty = namesB.getD j ByteArray.empty → i = j := by
 have h : ∀ i : Fin 29, ∀ j : Fin 29, namesB.getD i.1 ByteArray.empty = namesB.getD j.1 ByteArray.empty → i = j := by decide +kernel
 intro i j hi hj e
 have := h ⟨i, hi⟩ ⟨j, hj⟩ e
 exact congrArg Fin.val this
def nameK (n : Int) : ByteArray := if 0 ≤ n ∧ n ≤ 28 then namesB.getD n.toNat ByteArray.empty else ⟨#[]⟩
theorem Name_f' (n : Int) : post_Name.f n = some (nameK n) := by
 unfold post_Name.f post_names.f
 rw [Option.bind_some, names_len, show wrap64 (((29 : Nat) : Int) - 1) = 28 by kernel_rfl, within_f, Option.bind_some]
 unfold nameK btwB
 by_cases h0 : 0 ≤ n
 ·
  by_cases h1 : n ≤ 28
  ·
   rw [decide_eq_true h0, decide_eq_true h1, if_pos (show (true && true) = true from rfl), if_pos h0, if_pos (by omega), if_pos ⟨h0, h1⟩]; rfl
  ·
   rw [decide_eq_true h0, decide_eq_false h1, if_neg (by simp), if_neg (by omega)]
 ·
  rw [decide_eq_false h0, if_neg (by simp), if_neg (by omega)]
theorem index_hit (l : List ByteArray) (x : ByteArray) (j : Nat) (hj : j < l.length) (hs : l.length ≤ 4611686018427387904) (hx : l[j] = x) (hn : ∀ t (h : t < l.length), t < j → l[t] ≠ x) :
  ∀ (d i k : Nat), i + d = j → d < k → slices_Index_string_string.l0 k l x (l.length : Int) (i : Int) = some (j : Int) := by
 intro d
 induction d with
 | zero =>
  intro i k h1 h2
  obtain ⟨k, rfl⟩ : ∃ m, k = m + 1 := ⟨k - 1, by omega⟩
  obtain rfl : i = j := by omega
  simp only [slices_Index_string_string.l0]
  rw [if_pos (by omega), if_pos (by omega), if_pos (by omega), rdOf_nat l i hj, hx, if_pos rfl]
 | succ d ih =>
  intro i k h1 h2
  obtain ⟨k, rfl⟩ : ∃ m, k = m + 1 := ⟨k - 1, by omega⟩
  have hi : i < l.length := by omega
  simp only [slices_Index_string_string.l0]
  rw [if_pos (by omega), if_pos (by omega), if_pos (by omega), rdOf_nat l i hi, if_neg (fun e => hn i hi (by omega) (bytes_eq.1 e).symm), wr_nat i (by omega)]
  exact ih (i + 1) k (by omega) (by omega)
theorem name_at (j : Nat) (h : j < namesB.length) : namesB[j] = namesB.getD j ByteArray.empty := by rw [List.getD_eq_getElem?_getD, List.getElem?_eq_getElem h]; rfl
theorem names_other (j : Nat) (hj : j < namesB.length) (x : ByteArray) (hx : namesB[j] = x) (t : Nat) (h : t < namesB.length) (ht : t ≠ j) : namesB[t] ≠ x := by
 intro e
 apply ht
 rw [name_at] at e hx
 exact names_nodup t j h hj (e.trans hx.symm)
theorem Kind_hit (x : ByteArray) (j : Nat) (hj : j < namesB.length) (hx : namesB[j] = x) (k : Nat) (hk : 40 < k) : post_Kind.f k x = some ((j : Int), true) := by
 unfold post_Kind.f post_names.f slices_Index_string_string.f
 have hh := index_hit namesB x j hj (by rw [names_len]; omega) hx (fun t h ht => names_other j hj x hx t h (by omega)) j 0 k (by omega) (by rw [names_len] at hj; omega)
 rw [show ((0 : Nat) : Int) = 0 from rfl] at hh
 rw [Option.bind_some, hh, Option.bind_some]
 have e : mx (j : Int) 0 = (j : Int) := by unfold mx; omega
 rw [e, decide_eq_true (by omega)]
theorem itoa_small (n : Nat) (h : n < 10) : itoa (n : Int) = [UInt8.ofNat (48 + n)] := by
 unfold itoa
 rw [if_neg (by omega), Int.toNat_natCast, dec_small h]
theorem Itoa_f (n : Int) (h0 : -9223372036854775808 ≤ n) (h1 : n ≤ 9223372036854775807) : strconv_Itoa.f n = some (bs (itoa n)) := by
 unfold strconv_Itoa.f
 rw [if_pos ⟨h0, h1⟩]; rfl
theorem may_ack : post_May.f ⟨#[97]⟩ ⟨#[98]⟩ 0 28 3 ⟨#[]⟩ ⟨#[]⟩ ⟨#[]⟩ 0 0 ⟨#[]⟩ 0 [] [] = some true := by
 unfold post_May.f
 rw [if_pos ⟨by simp, by simp, (fun x h => by cases h), (fun x h => by cases h)⟩]
 have h1 : btwB 28 0 28 = true := by decide
 have h2 : numbersB 0 3 0 0 = true := by decide
 have h3 : textsB ⟨#[97]⟩ ⟨#[98]⟩ ⟨#[]⟩ ⟨#[]⟩ ⟨#[]⟩ = true := by
  unfold textsB
  simp only [Lib.toList_data]
  decide +kernel
 have h4 : sumB ⟨#[]⟩ 0 = true := by
  unfold sumB
  rw [Lib.toList_data]
  rfl
 unfold mayLB kindB plainB
 rw [eqB_of rfl, h1, h2, h3, h4]
 simp
theorem record_ack (k : Nat) : post_record.f (k + 2) ⟨#[97]⟩ ⟨#[98]⟩ 0 28 3 ⟨#[]⟩ ⟨#[]⟩ ⟨#[]⟩ 0 0 ⟨#[]⟩ 0 [] [] = some [⟨⟨#[102, 114, 111, 109]⟩, ⟨#[97]⟩⟩, ⟨⟨#[116, 111]⟩, ⟨#[98]⟩⟩, ⟨⟨#[110, 117, 109, 98, 101, 114]⟩, bs [48]⟩, ⟨⟨#[107, 105, 110, 100]⟩, ⟨#[97, 99, 107]⟩⟩, ⟨⟨#[97, 99, 107]⟩, bs [51]⟩, ⟨⟨#[100, 101, 97, 108]⟩, ⟨#[]⟩⟩, ⟨⟨#[116, 101, 120, 116]⟩, ⟨#[]⟩⟩, ⟨⟨#[112, 97, 114, 116, 121]⟩, ⟨#[]⟩⟩, ⟨⟨#[105, 110, 100, 101, 120]⟩, bs [48]⟩, ⟨⟨#[100, 97, 121]⟩, bs [48]⟩, ⟨⟨#[115, 117, 109]⟩, ⟨#[]⟩⟩] := by
 have i0 : itoa 0 = [48] := itoa_small 0 (by omega)
 have i3 : itoa 3 = [51] := itoa_small 3 (by omega)
 have n28 : nameK 28 = ⟨#[97, 99, 107]⟩ := by rfl
 unfold post_record.f
 rw [Itoa_f 0 (by omega) (by omega), Itoa_f 3 (by omega) (by omega), Name_f', i0, i3, n28]
 rfl
theorem awakeL (k : Nat) (hk : 50 < k) : supercargolaw09_awake.f k = some true := by
 obtain ⟨k, rfl⟩ : ∃ m, k = m + 2 := ⟨k - 2, by omega⟩
 have hack : post_Kind.f (k + 2) ⟨#[97, 99, 107]⟩ = some (28, true) := Kind_hit ⟨#[97, 99, 107]⟩ 28 (by rw [names_len]; omega) rfl (k + 2) (by omega)
 have hT : post_Text.f (k + 2) ⟨#[97]⟩ ⟨#[98]⟩ 0 28 3 ⟨#[]⟩ ⟨#[]⟩ ⟨#[]⟩ 0 0 ⟨#[]⟩ 0 [] [] = some (⟨#[102, 114, 111, 109, 61, 97, 10, 116, 111, 61, 98, 10, 110, 117, 109, 98, 101, 114, 61, 48, 10, 107, 105, 110, 100, 61, 97, 99, 107, 10, 97, 99, 107, 61, 51, 10, 100, 101, 97, 108, 61, 10, 116, 101, 120, 116, 61, 10, 112, 97, 114, 116, 121, 61, 10, 105, 110, 100, 101, 120, 61, 48, 10, 100, 97, 121, 61, 48, 10, 115, 117, 109, 61, 10]⟩, 0) := by
  unfold post_Text.f
  rw [may_ack, Option.bind_some, if_pos rfl, record_ack, Option.bind_some]
  rfl
 have h0 : post_Name.f 0 = some ⟨#[111, 114, 100, 101, 114]⟩ := by rw [Name_f']; rfl
 unfold supercargolaw09_awake.f
 rw [hT, Option.bind_some, hack, Option.bind_some, h0]
 rw [if_pos rfl, if_pos (by decide), if_pos (by decide), if_pos (by decide), if_pos (by rw [Lib.toList_data]; rfl), Option.bind_some, if_pos (by rw [Lib.toList_data]), if_pos rfl]
end Go.Proofs.YtkblmomfiimkiaaGreatDoor.P
end

section
namespace Go.Proofs.YtkblmomfiimkiaaGreatDoor.P
open Go.RowKit Go.Proofs.YtkblmomfiimkiaaGreatDoorW.PrintWords Go.Proofs.YtkblmomfiimkiaaGreatDoorW.PrintLast Go.Proofs.YtkblmomfiimkiaaGreatDoorW.PrintMore
set_option linter.unusedSimpArgs false
set_option linter.unusedVariables false
open Go.Proofs.YtkblmomfiimkiaaGreatDoor.Fp
open Go.Lib (itoa decDigits)
def docF (y : S38) : S43 := ⟨⟨#[100, 111, 99]⟩, docT y⟩
def boxF (s : ByteArray) : S43 := ⟨⟨#[98, 111, 120]⟩, s⟩
def headP (x : S33) : List S43 :=
  [⟨⟨#[102, 114, 111, 109]⟩, x.f0⟩, ⟨⟨#[116, 111]⟩, x.f1⟩, ⟨⟨#[110, 117, 109, 98, 101, 114]⟩, bs (itoa x.f2)⟩, ⟨⟨#[107, 105, 110, 100]⟩, nameK x.f3⟩, ⟨⟨#[97, 99, 107]⟩, bs (itoa x.f4)⟩, ⟨⟨#[100, 101, 97, 108]⟩, x.f5⟩,
   ⟨⟨#[116, 101, 120, 116]⟩, x.f6⟩, ⟨⟨#[112, 97, 114, 116, 121]⟩, x.f7⟩, ⟨⟨#[105, 110, 100, 101, 120]⟩, bs (itoa x.f8)⟩, ⟨⟨#[100, 97, 121]⟩, bs (itoa x.f9)⟩, ⟨⟨#[115, 117, 109]⟩, bs (moneyT x.f10.f0.data.toList x.f10.f1)⟩]
def recP (x : S33) : List S43 := headP x ++ (x.f11.map docF ++ x.f12.map boxF)
theorem recP_length (x : S33) : (recP x).length = 11 + (x.f11.length + x.f12.length) := by
 unfold recP headP; simp only [List.length_append, List.length_map, List.length_cons, List.length_nil]
def i64s (n : Int) : Prop := -9223372036854775808 ≤ n ∧ n ≤ 9223372036854775807
structure RecW (x : S33) : Prop where
 n2 : i64s x.f2
 n4 : i64s x.f4
 n8 : i64s x.f8
 n9 : i64s x.f9
 l11 : x.f11.length ≤ 4294967296
 l12 : x.f12.length ≤ 4294967296
 docs : ∀ y ∈ x.f11, pv y = true
theorem record_l1 (l : List ByteArray) (hl : l.length ≤ 4294967296) : ∀ (d i k : Nat) (acc : List S43), i + d = l.length → acc.length + d ≤ 34359738368 → d < k →
  post_record.l1 k acc l (l.length : Int) (i : Int) = some (acc ++ (l.drop i).map boxF) := by
 intro d
 induction d with
 | zero =>
  intro i k acc h1 _ h2
  obtain ⟨k, rfl⟩ : ∃ m, k = m + 1 := ⟨k - 1, by omega⟩
  simp only [post_record.l1]
  rw [if_neg (by omega), List.drop_eq_nil_of_le (by omega), List.map_nil, List.append_nil]
 | succ d ih =>
  intro i k acc h1 h3 h2
  obtain ⟨k, rfl⟩ : ∃ m, k = m + 1 := ⟨k - 1, by omega⟩
  have hi : i < l.length := by omega
  simp only [post_record.l1]
  rw [if_pos (by omega), if_pos (by omega), if_pos (by omega), if_pos (by omega), rdOf_nat l i hi, wr_nat i (by omega), ih (i + 1) k _ (by omega) (by rw [List.length_append, List.length_singleton]; omega) (by omega), List.drop_eq_getElem_cons hi, List.map_cons, List.append_assoc]
  rfl
theorem record_l0 (x : S33) (hx : RecW x) (a0 a1 : ByteArray) (a2 a3 a4 : Int) (a5 a6 a7 : ByteArray) (a8 a9 : Int) (a10 : ByteArray) (a11 : Int) : ∀ (d i k : Nat) (acc : List S43), i + d = x.f11.length → acc.length + d + x.f12.length ≤ 34359738368 → d + x.f12.length + 2 < k →
  post_record.l0 k acc x.f11 (x.f11.length : Int) (i : Int) a0 a1 a2 a3 a4 a5 a6 a7 a8 a9 a10 a11 x.f11 x.f12 = some (acc ++ ((x.f11.drop i).map docF ++ x.f12.map boxF)) := by
 have hl := hx.l11
 have hl2 := hx.l12
 intro d
 induction d with
 | zero =>
  intro i k acc h1 h3 h2
  obtain ⟨k, rfl⟩ : ∃ m, k = m + 1 := ⟨k - 1, by omega⟩
  simp only [post_record.l0]
  have h := record_l1 x.f12 hl2 x.f12.length 0 k acc (by omega) (by omega) (by omega)
  rw [List.drop_zero, show ((0 : Nat) : Int) = 0 from rfl] at h
  rw [if_neg (by omega), List.drop_eq_nil_of_le (by omega), List.map_nil, List.nil_append, h]
 | succ d ih =>
  intro i k acc h1 h3 h2
  obtain ⟨k, rfl⟩ : ∃ m, k = m + 2 := ⟨k - 2, by omega⟩
  have hi : i < x.f11.length := by omega
  have hp := hx.docs _ (List.getElem_mem hi)
  have hf := (pv_parts hp).2.2.2.1
  rw [post_record.l0]
  rw [if_pos (by omega), if_pos (by omega), if_pos (by omega), rdD_nat x.f11 i hi, doc_f _ (by omega) k, Option.bind_some, if_pos hp, if_pos (by omega), wr_nat i (by omega), ih (i + 1) (k + 1) _ (by omega) (by rw [List.length_append, List.length_singleton]; omega) (by omega), List.drop_eq_getElem_cons hi, List.map_cons, List.append_assoc]
  rfl
theorem record_f (x : S33) (hx : RecW x) (k : Nat) (hk : x.f11.length + x.f12.length + 2 < k) :
  post_record.f k x.f0 x.f1 x.f2 x.f3 x.f4 x.f5 x.f6 x.f7 x.f8 x.f9 x.f10.f0 x.f10.f1 x.f11 x.f12 = some (recP x) := by
 have hl := hx.l11
 have hl2 := hx.l12
 have h := record_l0 x hx x.f0 x.f1 x.f2 x.f3 x.f4 x.f5 x.f6 x.f7 x.f8 x.f9 x.f10.f0 x.f10.f1 x.f11.length 0 k (headP x) (by omega) (by unfold headP; simp only [List.length_cons, List.length_nil]; omega) hk
 rw [List.drop_zero, show ((0 : Nat) : Int) = 0 from rfl] at h
 unfold post_record.f
 rw [Itoa_f _ hx.n2.1 hx.n2.2, Option.bind_some, Name_f', Option.bind_some, Itoa_f _ hx.n4.1 hx.n4.2, Option.bind_some, Itoa_f _ hx.n8.1 hx.n8.2, Option.bind_some, Itoa_f _ hx.n9.1 hx.n9.2, Option.bind_some]
 exact h
end Go.Proofs.YtkblmomfiimkiaaGreatDoor.P
end

section
namespace Go.Proofs.YtkblmomfiimkiaaGreatDoor.P
open Go.RowKit Go.Proofs.YtkblmomfiimkiaaGreatDoorW.PrintWords Go.Proofs.YtkblmomfiimkiaaGreatDoorW.PrintLast Go.Proofs.YtkblmomfiimkiaaGreatDoorW.PrintMore
attribute [local go_sem] max2_int min2_int max_two min_two max_three min_three max_four min_four   -- for this text's walks alone
set_option linter.unusedVariables false
set_option linter.unusedSimpArgs false
def supercargoref01_Digits.j0 : Nat → ByteArray → Bool → Option (Int)
 | 0, _, _ => none
 | k + 1, x0, x8 => if x8 = true then (some 0) else (if x0.toList = ([66, 72, 68] : List UInt8) then (some 3) else (if x0.toList = ([75, 87, 68] : List UInt8) then (some 3) else (if x0.toList = ([84, 78, 68] : List UInt8) then (some 3) else (some 2))))
def supercargoref01_Digits.f (k : Nat) (a0 : ByteArray) : Option (Int) := if a0.toList = ([74, 80, 89] : List UInt8) then (supercargoref01_Digits.j0 k a0 true) else (supercargoref01_Digits.j0 k a0 (a0.toList == ([75, 82, 87] : List UInt8)))
theorem supercargoref01_Digits.mono_l : ∀ k, (∀ y0 y1, LeO (supercargoref01_Digits.j0 k y0 y1) (supercargoref01_Digits.j0 (k + 1) y0 y1))
 | 0 => fun _ _ r h => by simp [supercargoref01_Digits.j0] at h
 | k + 1 => by
  have ih0 := supercargoref01_Digits.mono_l k
  ·
   intro y0 y1
   unfold supercargoref01_Digits.j0
   repeat' first
   | (with_reducible exact ih0 _ _)
   | (with_reducible exact LeO.refl _)
   | (with_reducible exact LeO.none _)
   | (with_reducible refine LeO.ite ?_ ?_)
   | (with_reducible refine LeO.bind ?_ (fun _ => ?_))
   | exact ih0 _ _
   | exact LeO.none _
   | refine LeO.ite ?_ ?_
   | refine LeO.bind ?_ (fun _ => ?_)
theorem supercargoref01_Digits.mono : ∀ a0 k, LeO (supercargoref01_Digits.f k a0) (supercargoref01_Digits.f (k + 1) a0) := by
 intro a0 k
 have ih0 := supercargoref01_Digits.mono_l k
 unfold supercargoref01_Digits.f
 repeat' first
   | (with_reducible exact ih0 _ _)
   | (with_reducible exact LeO.refl _)
   | (with_reducible exact LeO.none _)
   | (with_reducible refine LeO.ite ?_ ?_)
   | (with_reducible refine LeO.bind ?_ (fun _ => ?_))
   | exact ih0 _ _
   | exact LeO.none _
   | refine LeO.ite ?_ ?_
   | refine LeO.bind ?_ (fun _ => ?_)
set_option maxHeartbeats 8000000 in
set_option maxRecDepth 100000 in
theorem supercargoref01_Digits.calls (k : Nat) (a0 : ByteArray) (r : Int) (w : World) (h : supercargoref01_Digits.f k a0 = some r) :
  Calls Tryz.prog 75 #[.string a0] w fun e w' => e = .returned (.int .i64 r) ∧ Drawn0 w w' := by
 have H : (if a0.toList = ([74, 80, 89] : List UInt8) then (supercargoref01_Digits.j0 k a0 true) else (supercargoref01_Digits.j0 k a0 (a0.toList == ([75, 82, 87] : List UInt8)))) = some r := h
 clear h
 have HC2 := Aside0.mk H
 clear H
 go_enter Tryz.func75, Tryz.ntmps75
 go_upto_region 1 with (fail)
 go_cut [8] (fun v8 wc => ∃ (kq : Nat) (x8_1 : Bool), v8 = .bool x8_1 ∧ Aside0 (supercargoref01_Digits.j0 kq a0 x8_1 = some r) ∧ Aside0 (kq ≤ k) ∧ Drawn0 w wc)
 case first =>
  have H := HC2.out
  clear HC2
  by_cases c3 : a0.toList = ([74, 80, 89] : List UInt8)
  ·
   rw [if_pos c3] at H
   have c3b0 : (a0.toList == ([74, 80, 89] : List UInt8)) = true := beq_iff_eq.mpr c3
   have c3b1 : (a0.toList != ([74, 80, 89] : List UInt8)) = false := bne_eq_false_iff_eq.mpr c3
   clear c3
   (first | rw [c3b0] | (simp only [i64_w, i32_w]; rw [c3b0]) | skip)
   have H' := Aside0.mk H
   clear H
   go_wp2
   go_meet
   case rel => exact ⟨_, (true), (by first | rfl | (simp; done) | (simp [*]; done)), H', ⟨by first | omega | exact Nat.le_refl _⟩, by repeat (first | exact Drawn0.refl _ | apply Drawn0.step)⟩
  ·
   rw [if_neg c3] at H
   have c3b0 : (a0.toList == ([74, 80, 89] : List UInt8)) = false := beq_eq_false_iff_ne.mpr c3
   have c3b1 : (a0.toList != ([74, 80, 89] : List UInt8)) = true := bne_iff_ne.mpr c3
   (first | rw [c3b0] | (simp only [i64_w, i32_w]; rw [c3b0]) | skip)
   have H' := Aside0.mk H
   clear H
   go_wp2
   go_meet
   case rel => exact ⟨_, ((a0.toList == ([75, 82, 87] : List UInt8))), (by first | rfl | (simp; done) | (simp [*]; done)), H', ⟨by first | omega | exact Nat.le_refl _⟩, by repeat (first | exact Drawn0.refl _ | apply Drawn0.step)⟩
 case rest =>
  clear HC2
  try clear p2
  try clear c3
  try clear c3b0
  try clear c3b1
  obtain ⟨kq, x8_1, rfl, HA, HJ1, ⟨mc1, rfl⟩⟩ := hcut
  cases kq with
  | zero => exact absurd HA.out (by simp [supercargoref01_Digits.j0])
  | succ kj1 =>
   have H := HA.out
   clear HA
   simp only [supercargoref01_Digits.j0] at H
   by_cases c4 : x8_1 = true
   ·
    subst c4
    have H1 : (some 0) = some r := by rw [if_pos rfl] at H; exact H
    clear H
    have H := H1
    clear H1
    obtain rfl := Option.some.inj H
    go_wp2
    go_ret
    exact ⟨by first | rfl | (simp; done) | (simp [*]; done), by repeat (first | exact Drawn0.refl _ | apply Drawn0.step)⟩
   ·
    replace c4 := Bool.eq_false_iff.mpr c4
    subst c4
    have H1 : (if a0.toList = ([66, 72, 68] : List UInt8) then (some 3) else (if a0.toList = ([75, 87, 68] : List UInt8) then (some 3) else (if a0.toList = ([84, 78, 68] : List UInt8) then (some 3) else (some 2)))) = some r := by rw [if_neg (show ¬ (false = true) by decide)] at H; exact H
    clear H
    have H := H1
    clear H1
    by_cases c5 : a0.toList = ([66, 72, 68] : List UInt8)
    ·
     rw [if_pos c5] at H
     have c5b0 : (a0.toList == ([66, 72, 68] : List UInt8)) = true := beq_iff_eq.mpr c5
     have c5b1 : (a0.toList != ([66, 72, 68] : List UInt8)) = false := bne_eq_false_iff_eq.mpr c5
     clear c5
     obtain rfl := Option.some.inj H
     go_wp2
     go_ret
     exact ⟨by first | rfl | (simp; done) | (simp [*]; done), by repeat (first | exact Drawn0.refl _ | apply Drawn0.step)⟩
    ·
     rw [if_neg c5] at H
     have c5b0 : (a0.toList == ([66, 72, 68] : List UInt8)) = false := beq_eq_false_iff_ne.mpr c5
     have c5b1 : (a0.toList != ([66, 72, 68] : List UInt8)) = true := bne_iff_ne.mpr c5
     by_cases c6 : a0.toList = ([75, 87, 68] : List UInt8)
     ·
      rw [if_pos c6] at H
      have c6b0 : (a0.toList == ([75, 87, 68] : List UInt8)) = true := beq_iff_eq.mpr c6
      have c6b1 : (a0.toList != ([75, 87, 68] : List UInt8)) = false := bne_eq_false_iff_eq.mpr c6
      clear c6
      obtain rfl := Option.some.inj H
      go_wp2
      go_ret
      exact ⟨by first | rfl | (simp; done) | (simp [*]; done), by repeat (first | exact Drawn0.refl _ | apply Drawn0.step)⟩
     ·
      rw [if_neg c6] at H
      have c6b0 : (a0.toList == ([75, 87, 68] : List UInt8)) = false := beq_eq_false_iff_ne.mpr c6
      have c6b1 : (a0.toList != ([75, 87, 68] : List UInt8)) = true := bne_iff_ne.mpr c6
      by_cases c7 : a0.toList = ([84, 78, 68] : List UInt8)
      ·
       rw [if_pos c7] at H
       have c7b0 : (a0.toList == ([84, 78, 68] : List UInt8)) = true := beq_iff_eq.mpr c7
       have c7b1 : (a0.toList != ([84, 78, 68] : List UInt8)) = false := bne_eq_false_iff_eq.mpr c7
       clear c7
       obtain rfl := Option.some.inj H
       go_wp2
       go_ret
       exact ⟨by first | rfl | (simp; done) | (simp [*]; done), by repeat (first | exact Drawn0.refl _ | apply Drawn0.step)⟩
      ·
       rw [if_neg c7] at H
       have c7b0 : (a0.toList == ([84, 78, 68] : List UInt8)) = false := beq_eq_false_iff_ne.mpr c7
       have c7b1 : (a0.toList != ([84, 78, 68] : List UInt8)) = true := bne_iff_ne.mpr c7
       obtain rfl := Option.some.inj H
       go_wp2
       go_ret
       exact ⟨by first | rfl | (simp; done) | (simp [*]; done), by repeat (first | exact Drawn0.refl _ | apply Drawn0.step)⟩
end Go.Proofs.YtkblmomfiimkiaaGreatDoor.P
end

section
namespace Go.Proofs.YtkblmomfiimkiaaGreatDoor.P
open Go.RowKit Go.Proofs.YtkblmomfiimkiaaGreatDoorW.PrintWords Go.Proofs.YtkblmomfiimkiaaGreatDoorW.PrintLast Go.Proofs.YtkblmomfiimkiaaGreatDoorW.PrintMore
attribute [local go_sem] max2_int min2_int max_two min_two max_three min_three max_four min_four   -- for this text's walks alone
set_option linter.unusedVariables false
set_option linter.unusedSimpArgs false
def supercargoref01_whole.l0 : Nat → Int → Int → ByteArray → Option (ByteArray)
 | 0, _, _, _ => none
 | k + 1, x0, x1, x5 => if x0 > 0 then ((some (([(wrap64 (48 + (Int.tmod x0 10))) % 256] : List Int) : List Int)).bind fun y262 => (if (strOfNums y262).size + x5.size ≤ 9223372036854775807 then (supercargoref01_whole.l0 k (wrap64 (Int.tdiv x0 10)) x1 ((strOfNums y262) ++ x5)) else (none))) else (if (x5.size : Int) < x1 then ((some (([(wrap64 (48 + (Int.tmod x0 10))) % 256] : List Int) : List Int)).bind fun y265 => (if (strOfNums y265).size + x5.size ≤ 9223372036854775807 then (supercargoref01_whole.l0 k (wrap64 (Int.tdiv x0 10)) x1 ((strOfNums y265) ++ x5)) else (none))) else (some x5))
def supercargoref01_whole.f (k : Nat) (a0 : Int) (a1 : Int) : Option (ByteArray) := supercargoref01_whole.l0 k a0 a1 (⟨#[]⟩ : ByteArray)
theorem supercargoref01_whole.mono_l : ∀ k, (∀ y0 y1 y2, LeO (supercargoref01_whole.l0 k y0 y1 y2) (supercargoref01_whole.l0 (k + 1) y0 y1 y2))
 | 0 => fun _ _ _ r h => by simp [supercargoref01_whole.l0] at h
 | k + 1 => by
  have ih0 := supercargoref01_whole.mono_l k
  ·
   intro y0 y1 y2
   unfold supercargoref01_whole.l0
   repeat' first
   | (with_reducible exact ih0 _ _ _)
   | (with_reducible exact LeO.refl _)
   | (with_reducible exact LeO.none _)
   | (with_reducible refine LeO.ite ?_ ?_)
   | (with_reducible refine LeO.bind ?_ (fun _ => ?_))
   | exact ih0 _ _ _
   | exact LeO.none _
   | refine LeO.ite ?_ ?_
   | refine LeO.bind ?_ (fun _ => ?_)
theorem supercargoref01_whole.mono : ∀ a0 a1 k, LeO (supercargoref01_whole.f k a0 a1) (supercargoref01_whole.f (k + 1) a0 a1) := by
 intro a0 a1 k
 have ih0 := supercargoref01_whole.mono_l k
 unfold supercargoref01_whole.f
 repeat' first
   | (with_reducible exact ih0 _ _ _)
   | (with_reducible exact LeO.refl _)
   | (with_reducible exact LeO.none _)
   | (with_reducible refine LeO.ite ?_ ?_)
   | (with_reducible refine LeO.bind ?_ (fun _ => ?_))
   | exact ih0 _ _ _
   | exact LeO.none _
   | refine LeO.ite ?_ ?_
   | refine LeO.bind ?_ (fun _ => ?_)
set_option maxHeartbeats 8000000 in
set_option maxRecDepth 100000 in
theorem supercargoref01_whole.calls (k : Nat) (a0 : Int) (a1 : Int) (r : ByteArray) (w : World) (h : supercargoref01_whole.f k a0 a1 = some r) :
  Calls Tryz.prog 76 #[.int .i64 a0, .int .i64 a1] w fun e w' => e = .returned (.string r) ∧ Below w.heap.size w w' := by
 have HB := Aside0.mk (Below.refl w.heap.size w)
 have H : (supercargoref01_whole.l0 k a0 a1 (⟨#[]⟩ : ByteArray)) = some r := h
 clear h
 have H' := Aside0.mk H
 clear H
 go_enter Tryz.func76, Tryz.ntmps76
 go_wp2
 go_loopg [0, 5] k (fun kq v0 v5 w' => ∃ (x0_1 : Int) (x5_1 : ByteArray), v0 = .int .i64 x0_1 ∧ v5 = .string x5_1 ∧ Aside0 (supercargoref01_whole.l0 kq x0_1 a1 x5_1 = some r) ∧ Aside0 (kq ≤ k) ∧ Aside0 (Below w.heap.size w w'))
 case atStart => exact ⟨(a0), ((⟨#[]⟩ : ByteArray)), (by first | rfl | (simp; done) | (simp [*]; done)), (by first | rfl | (simp; done) | (simp [*]; done)), H', ⟨Nat.le_refl _⟩, ⟨by repeat (first | (with_reducible first | exact HB.out | apply below_alloc | apply pw_below_drewN | apply below_drew1) | exact HB.out)⟩⟩
 case round =>
  clear H'
  try clear p2
  obtain ⟨x0_1, x5_1, rfl, rfl, HA, HK1, HB⟩ := hrel
  cases gk with
  | zero => exact absurd HA.out (by simp [supercargoref01_whole.l0])
  | succ k1 =>
   have H := HA.out
   clear HA
   simp only [supercargoref01_whole.l0] at H
   by_cases c3 : x0_1 > 0
   ·
    rw [if_pos c3] at H
    have c3b0 : decide (0 < x0_1) = true := decide_eq_true c3
    clear c3
    obtain ⟨y262, hy262⟩ : ∃ y_ : List Int, y_ = (([(wrap64 (48 + (Int.tmod x0_1 10))) % 256] : List Int)) := ⟨_, rfl⟩
    replace H : (if (strOfNums y262).size + x5_1.size ≤ 9223372036854775807 then (supercargoref01_whole.l0 k1 (wrap64 (Int.tdiv x0_1 10)) a1 ((strOfNums y262) ++ x5_1)) else (none)) = some r := by first | (rw [hy262]; with_reducible exact H) | (have H2_ := (Option.bind_some _ _).symm.trans H; rw [hy262]; with_reducible exact H2_) | (have H2_ := (Option.bind_some _ _).symm.trans H; with_reducible exact H2_) | with_reducible exact H | (rw [hy262]; exact H) | exact H
    have Ny262 := Aside0.mk hy262
    clear hy262
    by_cases c4 : (strOfNums y262).size + x5_1.size ≤ 9223372036854775807
    ·
     rw [if_pos c4] at H
     have c4b0 := eq_true c4
     have c4b1 : decide ((strOfNums y262).size + x5_1.size ≤ 9223372036854775807) = true := decide_eq_true c4
     try have c4b2 : (9223372036854775807 < (strOfNums y262).size + x5_1.size) = False := eq_false (Nat.not_lt.2 c4)
     have H' := Aside0.mk H
     clear H
     go_wp2_with (first | ((with_reducible refine gate_dst (N := 18) rfl ?_); (try (refine gate_guard (by rfl) ?_; dsimp only)); refine Kd.R_lit (Kd.int .u8) _ 5 ?hg (N := 18) ?hd (xs := ([(wrap64 (48 + (Int.tmod x0_1 10))) % 256] : List Int)) (inner := [.int .u8 ((wrap64 (48 + (Int.tmod x0_1 10))) % 256)]) (ok := fun _ => True) (okp := fun _ => True) ?hr ?hp (fun _ hk => hk) trivial (Below.refl _ _) (Nat.le_refl _) (by simp) ?_; (case hd => rfl); (case hg => rfl); (case hr => first | (go_simp; done) | (go_simp; rfl)); (case hp => exact (Reps.one (show Kd.M (Kd.int .u8) _ _ _ ((wrap64 (48 + (Int.tmod x0_1 10))) % 256) [.int .u8 ((wrap64 (48 + (Int.tmod x0_1 10))) % 256)] from rfl) (Reps.none _ _))); intro v263 w5 ho6 hb hg_ hnew_; clear hg_ hnew_; (first | rw [← Ny262.out] at ho6 | (simp only [Int.reduceToNat] at ho6; rw [← Ny262.out] at ho6)); have n0_ := Aside0.mk (Kd.R_lower ho6 (below_size (by repeat (first | (with_reducible first | exact HB.out | apply below_alloc | apply pw_below_drewN | apply below_drew1) | exact HB.out)))); have n1_ := Aside0.mk (below_step (by repeat (first | (with_reducible first | exact HB.out | apply below_alloc | apply pw_below_drewN | apply below_drew1) | exact HB.out)) hb); clear HB; have HO264 := n0_; have HB := n1_; clear n0_ n1_; clear hb ho6; have hcv7 := own_string (P := Tryz.prog) Tryz.underlying110 Tryz.underlying5 Tryz.underlying9 (Kd.own_of_R HO264.out)))
     go_roundg k1
     case measure => have := HK1.out; omega
     case rel => exact ⟨(wrap64 (Int.tdiv x0_1 10)), ((strOfNums y262) ++ x5_1), (by first | rfl | (simp; done) | (simp [*]; done)), (by first | rfl | (simp; done) | (simp [*]; done)), H', ⟨by have := HK1.out; omega⟩, ⟨by repeat (first | (with_reducible first | exact HB.out | apply below_alloc | apply pw_below_drewN | apply below_drew1) | exact HB.out)⟩⟩
    ·
     rw [if_neg c4] at H
     exact absurd H (by simp)
   ·
    rw [if_neg c3] at H
    have c3b0 : decide (0 < x0_1) = false := decide_eq_false c3
    clear c3
    by_cases c8 : (x5_1.size : Int) < a1
    ·
     rw [if_pos c8] at H
     have c8b0 : decide ((x5_1.size : Int) < a1) = true := decide_eq_true c8
     clear c8
     obtain ⟨y265, hy265⟩ : ∃ y_ : List Int, y_ = (([(wrap64 (48 + (Int.tmod x0_1 10))) % 256] : List Int)) := ⟨_, rfl⟩
     replace H : (if (strOfNums y265).size + x5_1.size ≤ 9223372036854775807 then (supercargoref01_whole.l0 k1 (wrap64 (Int.tdiv x0_1 10)) a1 ((strOfNums y265) ++ x5_1)) else (none)) = some r := by first | (rw [hy265]; with_reducible exact H) | (have H2_ := (Option.bind_some _ _).symm.trans H; rw [hy265]; with_reducible exact H2_) | (have H2_ := (Option.bind_some _ _).symm.trans H; with_reducible exact H2_) | with_reducible exact H | (rw [hy265]; exact H) | exact H
     have Ny265 := Aside0.mk hy265
     clear hy265
     by_cases c9 : (strOfNums y265).size + x5_1.size ≤ 9223372036854775807
     ·
      rw [if_pos c9] at H
      have c9b0 := eq_true c9
      have c9b1 : decide ((strOfNums y265).size + x5_1.size ≤ 9223372036854775807) = true := decide_eq_true c9
      try have c9b2 : (9223372036854775807 < (strOfNums y265).size + x5_1.size) = False := eq_false (Nat.not_lt.2 c9)
      have H' := Aside0.mk H
      clear H
      go_wp2_with (first | ((with_reducible refine gate_dst (N := 18) rfl ?_); (try (refine gate_guard (by rfl) ?_; dsimp only)); refine Kd.R_lit (Kd.int .u8) _ 5 ?hg (N := 18) ?hd (xs := ([(wrap64 (48 + (Int.tmod x0_1 10))) % 256] : List Int)) (inner := [.int .u8 ((wrap64 (48 + (Int.tmod x0_1 10))) % 256)]) (ok := fun _ => True) (okp := fun _ => True) ?hr ?hp (fun _ hk => hk) trivial (Below.refl _ _) (Nat.le_refl _) (by simp) ?_; (case hd => rfl); (case hg => rfl); (case hr => first | (go_simp; done) | (go_simp; rfl)); (case hp => exact (Reps.one (show Kd.M (Kd.int .u8) _ _ _ ((wrap64 (48 + (Int.tmod x0_1 10))) % 256) [.int .u8 ((wrap64 (48 + (Int.tmod x0_1 10))) % 256)] from rfl) (Reps.none _ _))); intro v266 w10 ho11 hb hg_ hnew_; clear hg_ hnew_; (first | rw [← Ny265.out] at ho11 | (simp only [Int.reduceToNat] at ho11; rw [← Ny265.out] at ho11)); have n0_ := Aside0.mk (Kd.R_lower ho11 (below_size (by repeat (first | (with_reducible first | exact HB.out | apply below_alloc | apply pw_below_drewN | apply below_drew1) | exact HB.out)))); have n1_ := Aside0.mk (below_step (by repeat (first | (with_reducible first | exact HB.out | apply below_alloc | apply pw_below_drewN | apply below_drew1) | exact HB.out)) hb); clear HB; have HO267 := n0_; have HB := n1_; clear n0_ n1_; clear hb ho11; have hcv12 := own_string (P := Tryz.prog) Tryz.underlying110 Tryz.underlying5 Tryz.underlying9 (Kd.own_of_R HO267.out)))
      go_roundg k1
      case measure => have := HK1.out; omega
      case rel => exact ⟨(wrap64 (Int.tdiv x0_1 10)), ((strOfNums y265) ++ x5_1), (by first | rfl | (simp; done) | (simp [*]; done)), (by first | rfl | (simp; done) | (simp [*]; done)), H', ⟨by have := HK1.out; omega⟩, ⟨by repeat (first | (with_reducible first | exact HB.out | apply below_alloc | apply pw_below_drewN | apply below_drew1) | exact HB.out)⟩⟩
     ·
      rw [if_neg c9] at H
      exact absurd H (by simp)
    ·
     rw [if_neg c8] at H
     have c8b0 : decide ((x5_1.size : Int) < a1) = false := decide_eq_false c8
     clear c8
     obtain rfl := Option.some.inj H
     go_wp2
     go_ret
     exact ⟨by first | rfl | (simp [errW_none, errW_some] <;> rfl) | (simp [*, errW_none, errW_some] <;> rfl), by repeat (first | (with_reducible first | exact HB.out | apply below_alloc | apply pw_below_drewN | apply below_drew1) | exact HB.out)⟩
end Go.Proofs.YtkblmomfiimkiaaGreatDoor.P
end
