/- Joined out of the texts Px18 Px19 Px21 by merge.py. Conditions: none. -/
import Derived.Test.YtkblmomfiimkiaaGreatDoorPx0
import Derived.Test.YtkblmomfiimkiaaGreatDoorPx17
import Derived.Test.YtkblmomfiimkiaaGreatDoorField
import Derived.Test.YtkblmomfiimkiaaGreatDoorMayB
section
-- WRITTEN BY wip/gprint.py of this seat's repository, over the kit's printer, with given contracts.
namespace Go.Proofs.YtkblmomfiimkiaaGreatDoor.P
open Go.RowKit Go.Proofs.YtkblmomfiimkiaaGreatDoorW.PrintWords Go.Proofs.YtkblmomfiimkiaaGreatDoorW.PrintLast Go.Proofs.YtkblmomfiimkiaaGreatDoorW.PrintMore
attribute [local go_sem] max2_int min2_int max_two min_two max_three min_three max_four min_four   -- for this text's walks alone
set_option linter.unusedVariables false
set_option linter.unusedSimpArgs false

/-! ### post_Text: function 23 -/
noncomputable def post_Text.f (k : Nat) (a0_0 : ByteArray) (a0_1 : ByteArray) (a0_2 : Int) (a0_3 : Int) (a0_4 : Int) (a0_5 : ByteArray) (a0_6 : ByteArray) (a0_7 : ByteArray) (a0_8 : Int) (a0_9 : Int) (a0_10 : ByteArray) (a0_11 : Int) (l0_12 : List (S38)) (l0_13 : List ByteArray) : Option (ByteArray × Int) := (post_May.f a0_0 a0_1 a0_2 a0_3 a0_4 a0_5 a0_6 a0_7 a0_8 a0_9 a0_10 a0_11 l0_12 l0_13).bind fun t164 => (if t164 = true then ((post_record.f k a0_0 a0_1 a0_2 a0_3 a0_4 a0_5 a0_6 a0_7 a0_8 a0_9 a0_10 a0_11 l0_12 l0_13).bind fun t165 => ((field_Text.f t165).bind fun bt168 => (some (bt168.1, bt168.2)))) else (some ((⟨#[]⟩ : ByteArray), 1)))
theorem post_Text.mono : ∀ a0 a1 a2 a3 a4 a5 a6 a7 a8 a9 a10 a11 a12 a13 k, LeO (post_Text.f k a0 a1 a2 a3 a4 a5 a6 a7 a8 a9 a10 a11 a12 a13) (post_Text.f (k + 1) a0 a1 a2 a3 a4 a5 a6 a7 a8 a9 a10 a11 a12 a13) := by
  intro a0 a1 a2 a3 a4 a5 a6 a7 a8 a9 a10 a11 a12 a13 k
  unfold post_Text.f
  repeat' first
      | (with_reducible exact post_record.mono _ _ _ _ _ _ _ _ _ _ _ _ _ _ _)
      | (with_reducible exact LeO.refl _)
      | (with_reducible exact LeO.none _)
      | (with_reducible refine LeO.ite ?_ ?_)
      | (with_reducible refine LeO.bind ?_ (fun _ => ?_))
      | exact post_record.mono _ _ _ _ _ _ _ _ _ _ _ _ _ _ _
      | exact LeO.none _
      | refine LeO.ite ?_ ?_
      | refine LeO.bind ?_ (fun _ => ?_)
set_option maxHeartbeats 8000000 in
set_option maxRecDepth 100000 in
theorem post_Text.calls (k : Nat) (a0_0 : ByteArray) (a0_1 : ByteArray) (a0_2 : Int) (a0_3 : Int) (a0_4 : Int) (a0_5 : ByteArray) (a0_6 : ByteArray) (a0_7 : ByteArray) (a0_8 : Int) (a0_9 : Int) (a0_10 : ByteArray) (a0_11 : Int) (A0_12 : Option Addr) (c0_12 : Nat) (l0_12 : List (S38)) (A0_13 : Option Addr) (c0_13 : Nat) (l0_13 : List ByteArray) (r1 : ByteArray) (r2 : Int) (w : World) (hr0_12 : Kd.C k38 w A0_12 l0_12.length l0_12) (hc0_12 : l0_12.length ≤ c0_12) (hr0_13 : Kd.C Kd.string w A0_13 l0_13.length l0_13) (hc0_13 : l0_13.length ≤ c0_13) (hG : Glob w) (h : post_Text.f k a0_0 a0_1 a0_2 a0_3 a0_4 a0_5 a0_6 a0_7 a0_8 a0_9 a0_10 a0_11 l0_12 l0_13 = some (r1, r2)) :
    Calls Tryz.prog 23 #[.agg #[.string a0_0, .string a0_1, .int .i64 a0_2, .int .i64 a0_3, .int .i64 a0_4, .string a0_5, .string a0_6, .string a0_7, .int .i64 a0_8, .int .i64 a0_9, .string a0_10, .int .i64 a0_11, .slice A0_12 l0_12.length c0_12, .slice A0_13 l0_13.length c0_13]] w fun e w' => e = .returned (.tuple #[.string r1, .int .i64 r2]) ∧ Below w.heap.size w w' := by
  have HGL := Aside0.mk hG
  clear hG
  have hu33 := Tryz.underlying33
  have HR0_12 := Aside0.mk hr0_12
  have HC0_12 := Aside0.mk hc0_12
  clear hr0_12 hc0_12
  have HR0_13 := Aside0.mk hr0_13
  have HC0_13 := Aside0.mk hc0_13
  clear hr0_13 hc0_13
  have HB := Aside0.mk (Below.refl w.heap.size w)
  have H : ((post_May.f a0_0 a0_1 a0_2 a0_3 a0_4 a0_5 a0_6 a0_7 a0_8 a0_9 a0_10 a0_11 l0_12 l0_13).bind fun t164 => (if t164 = true then ((post_record.f k a0_0 a0_1 a0_2 a0_3 a0_4 a0_5 a0_6 a0_7 a0_8 a0_9 a0_10 a0_11 l0_12 l0_13).bind fun t165 => ((field_Text.f t165).bind fun bt168 => (some (bt168.1, bt168.2)))) else (some ((⟨#[]⟩ : ByteArray), 1)))) = some (r1, r2) := h
  clear h
  replace H := Option.bind_eq_some_iff.mp H
  obtain ⟨t164, A20, H⟩ := H
  replace H : (if t164 = true then ((post_record.f k a0_0 a0_1 a0_2 a0_3 a0_4 a0_5 a0_6 a0_7 a0_8 a0_9 a0_10 a0_11 l0_12 l0_13).bind fun t165 => ((field_Text.f t165).bind fun bt168 => (some (bt168.1, bt168.2)))) else (some ((⟨#[]⟩ : ByteArray), 1))) = some (r1, r2) := H
  have A2 := Aside0.mk A20
  clear A20
  by_cases c3 : t164 = true
  · subst c3
    have H1 : ((post_record.f k a0_0 a0_1 a0_2 a0_3 a0_4 a0_5 a0_6 a0_7 a0_8 a0_9 a0_10 a0_11 l0_12 l0_13).bind fun t165 => ((field_Text.f t165).bind fun bt168 => (some (bt168.1, bt168.2)))) = some (r1, r2) := by rw [if_pos rfl] at H; exact H
    clear H
    have H := H1
    clear H1
    replace H := Option.bind_eq_some_iff.mp H
    obtain ⟨t165, A40, H⟩ := H
    replace H : ((field_Text.f t165).bind fun bt168 => (some (bt168.1, bt168.2))) = some (r1, r2) := H
    have A4 := Aside0.mk A40
    clear A40
    replace H := Option.bind_eq_some_iff.mp H
    obtain ⟨⟨t168, t169⟩, A50, H⟩ := H
    replace H : (some (t168, t169)) = some (r1, r2) := H
    have A5 := Aside0.mk A50
    clear A50
    simp only [Option.some.injEq, Prod.mk.injEq] at H
    obtain ⟨rfl, rfl⟩ := H
    go_enter Tryz.func23, Tryz.ntmps23
    go_wp2_with (first | ((with_reducible refine gate_dst (N := 1) rfl ?_); refine box_event ?hg (N := 1) ?hd (cs := #[.string a0_0, .string a0_1, .int .i64 a0_2, .int .i64 a0_3, .int .i64 a0_4, .string a0_5, .string a0_6, .string a0_7, .int .i64 a0_8, .int .i64 a0_9, .string a0_10, .int .i64 a0_11, .slice A0_12 l0_12.length c0_12, .slice A0_13 l0_13.length c0_13]) (t := 33) ?hr ?_; (case hd => rfl); (case hg => rfl); (case hr => first | (go_simp; done) | (go_simp; rfl)); intro gb163 hg w6 hbox hb; have n0_ := Aside0.mk (below_step (by repeat (first | (with_reducible first | exact HB.out | apply below_alloc | apply pw_below_drewN | apply below_drew1) | exact HB.out)) hb); have n1_ := Aside0.mk (hbox); have n2_ := Aside0.mk ((by rw [hg]; exact (below_size (by repeat (first | (with_reducible first | exact HB.out | apply below_alloc | apply pw_below_drewN | apply below_drew1) | exact HB.out))) : w.heap.size ≤ gb163)); have n3_ := Aside0.mk ((by rw [hg]; exact (below_size (by repeat (first | (with_reducible first | exact HB.out | apply below_alloc | apply pw_below_drewN | apply below_drew1) | exact HB.out))) : w.heap.size ≤ gb163)); clear HB; have HB := n0_; have BK163 := n1_; have GW163 := n2_; have GE163 := n3_; clear n0_ n1_ n2_ n3_; clear hb hbox hg; have hcz7_0 : w6.cell? ⟨gb163, 0, none⟩ = some (.string a0_0) := (blk_cell BK163.out 0).trans rfl; have hcz7_1 : w6.cell? ⟨gb163, 1, none⟩ = some (.string a0_1) := (blk_cell BK163.out 1).trans rfl; have hcz7_2 : w6.cell? ⟨gb163, 2, none⟩ = some (.int .i64 a0_2) := (blk_cell BK163.out 2).trans rfl; have hcz7_3 : w6.cell? ⟨gb163, 3, none⟩ = some (.int .i64 a0_3) := (blk_cell BK163.out 3).trans rfl; have hcz7_4 : w6.cell? ⟨gb163, 4, none⟩ = some (.int .i64 a0_4) := (blk_cell BK163.out 4).trans rfl; have hcz7_5 : w6.cell? ⟨gb163, 5, none⟩ = some (.string a0_5) := (blk_cell BK163.out 5).trans rfl; have hcz7_6 : w6.cell? ⟨gb163, 6, none⟩ = some (.string a0_6) := (blk_cell BK163.out 6).trans rfl; have hcz7_7 : w6.cell? ⟨gb163, 7, none⟩ = some (.string a0_7) := (blk_cell BK163.out 7).trans rfl; have hcz7_8 : w6.cell? ⟨gb163, 8, none⟩ = some (.int .i64 a0_8) := (blk_cell BK163.out 8).trans rfl; have hcz7_9 : w6.cell? ⟨gb163, 9, none⟩ = some (.int .i64 a0_9) := (blk_cell BK163.out 9).trans rfl; have hcz7_10 : w6.cell? ⟨gb163, 10, none⟩ = some (.string a0_10) := (blk_cell BK163.out 10).trans rfl; have hcz7_11 : w6.cell? ⟨gb163, 11, none⟩ = some (.int .i64 a0_11) := (blk_cell BK163.out 11).trans rfl; have hcz7_12 : w6.cell? ⟨gb163, 12, none⟩ = some (.slice A0_12 l0_12.length c0_12) := (blk_cell BK163.out 12).trans rfl; have hcz7_13 : w6.cell? ⟨gb163, 13, none⟩ = some (.slice A0_13 l0_13.length c0_13) := (blk_cell BK163.out 13).trans rfl; have hfz7_0 := blk_frozen BK163.out 0; have hfz7_1 := blk_frozen BK163.out 1; have hfz7_2 := blk_frozen BK163.out 2; have hfz7_3 := blk_frozen BK163.out 3; have hfz7_4 := blk_frozen BK163.out 4; have hfz7_5 := blk_frozen BK163.out 5; have hfz7_6 := blk_frozen BK163.out 6; have hfz7_7 := blk_frozen BK163.out 7; have hfz7_8 := blk_frozen BK163.out 8; have hfz7_9 := blk_frozen BK163.out 9; have hfz7_10 := blk_frozen BK163.out 10; have hfz7_11 := blk_frozen BK163.out 11; have hfz7_12 := blk_frozen BK163.out 12; have hfz7_13 := blk_frozen BK163.out 13) | ((with_reducible refine gate_callee (f := 16) rfl ?_); refine goesL_ (some 5) rfl rfl Tryz.func16 (by kernel_rfl) rfl #[.agg #[.string a0_0, .string a0_1, .int .i64 a0_2, .int .i64 a0_3, .int .i64 a0_4, .string a0_5, .string a0_6, .string a0_7, .int .i64 a0_8, .int .i64 a0_9, .string a0_10, .int .i64 a0_11, .slice A0_12 l0_12.length c0_12, .slice A0_13 l0_13.length c0_13]] rfl (by (try simp only [List.map_toArray, List.map_cons, List.map_nil]); first | done | rfl | (simp only [List.length_drop, List.length_take]; rfl)) ?_; (with_reducible refine (post_May.calls a0_0 a0_1 a0_2 a0_3 a0_4 a0_5 a0_6 a0_7 a0_8 a0_9 a0_10 a0_11 _ _ l0_12 _ _ l0_13 true _ ?side1 ?side2 ?side3 ?side4 ?sideG A2.out).mono ?_); (case sideG => exact glob_below HGL.out (by repeat (first | (with_reducible first | exact HB.out | apply below_alloc | apply pw_below_drewN | apply below_drew1) | exact HB.out))); (case side1 => repeat (first | exact (Kd.C_below HR0_12.out HB.out) | (with_reducible refine Kd.C_alloc ?_ _) | (with_reducible refine Kd.C_drewN ?_ _) | (with_reducible refine Kd.C_drew ?_))); (case side2 => exact HC0_12.out); (case side3 => repeat (first | exact (Kd.C_below HR0_13.out HB.out) | (with_reducible refine Kd.C_alloc ?_ _) | (with_reducible refine Kd.C_drewN ?_ _) | (with_reducible refine Kd.C_drew ?_))); (case side4 => exact HC0_13.out); rintro e w8 ⟨rfl, hb⟩; refine ⟨_, rfl, ?_⟩; have n0_ := Aside0.mk (blk_below (g := gb163) (o := .cells #[.string a0_0, .string a0_1, .int .i64 a0_2, .int .i64 a0_3, .int .i64 a0_4, .string a0_5, .string a0_6, .string a0_7, .int .i64 a0_8, .int .i64 a0_9, .string a0_10, .int .i64 a0_11, .slice A0_12 l0_12.length c0_12, .slice A0_13 l0_13.length c0_13] 33 (0, 0)) (by (with_reducible repeat (first | refine blk_drewN ?_ _ | refine blk_drew ?_ | refine blk_alloc ?_ _)); exact BK163.out) hb); have n1_ := Aside0.mk (below_step (by repeat (first | (with_reducible first | exact HB.out | apply below_alloc | apply pw_below_drewN | apply below_drew1 | refine below_set ?_ GE163.out) | exact HB.out)) hb); clear BK163; clear HB; have BK163 := n0_; have HB := n1_; clear n0_ n1_; (try clear hb); (try clear hb2); (try clear hk); (try clear hi); have hcz9_0 : w8.cell? ⟨gb163, 0, none⟩ = some (.string a0_0) := (blk_cell BK163.out 0).trans rfl; have hcz9_1 : w8.cell? ⟨gb163, 1, none⟩ = some (.string a0_1) := (blk_cell BK163.out 1).trans rfl; have hcz9_2 : w8.cell? ⟨gb163, 2, none⟩ = some (.int .i64 a0_2) := (blk_cell BK163.out 2).trans rfl; have hcz9_3 : w8.cell? ⟨gb163, 3, none⟩ = some (.int .i64 a0_3) := (blk_cell BK163.out 3).trans rfl; have hcz9_4 : w8.cell? ⟨gb163, 4, none⟩ = some (.int .i64 a0_4) := (blk_cell BK163.out 4).trans rfl; have hcz9_5 : w8.cell? ⟨gb163, 5, none⟩ = some (.string a0_5) := (blk_cell BK163.out 5).trans rfl; have hcz9_6 : w8.cell? ⟨gb163, 6, none⟩ = some (.string a0_6) := (blk_cell BK163.out 6).trans rfl; have hcz9_7 : w8.cell? ⟨gb163, 7, none⟩ = some (.string a0_7) := (blk_cell BK163.out 7).trans rfl; have hcz9_8 : w8.cell? ⟨gb163, 8, none⟩ = some (.int .i64 a0_8) := (blk_cell BK163.out 8).trans rfl; have hcz9_9 : w8.cell? ⟨gb163, 9, none⟩ = some (.int .i64 a0_9) := (blk_cell BK163.out 9).trans rfl; have hcz9_10 : w8.cell? ⟨gb163, 10, none⟩ = some (.string a0_10) := (blk_cell BK163.out 10).trans rfl; have hcz9_11 : w8.cell? ⟨gb163, 11, none⟩ = some (.int .i64 a0_11) := (blk_cell BK163.out 11).trans rfl; have hcz9_12 : w8.cell? ⟨gb163, 12, none⟩ = some (.slice A0_12 l0_12.length c0_12) := (blk_cell BK163.out 12).trans rfl; have hcz9_13 : w8.cell? ⟨gb163, 13, none⟩ = some (.slice A0_13 l0_13.length c0_13) := (blk_cell BK163.out 13).trans rfl; have hfz9_0 := blk_frozen BK163.out 0; have hfz9_1 := blk_frozen BK163.out 1; have hfz9_2 := blk_frozen BK163.out 2; have hfz9_3 := blk_frozen BK163.out 3; have hfz9_4 := blk_frozen BK163.out 4; have hfz9_5 := blk_frozen BK163.out 5; have hfz9_6 := blk_frozen BK163.out 6; have hfz9_7 := blk_frozen BK163.out 7; have hfz9_8 := blk_frozen BK163.out 8; have hfz9_9 := blk_frozen BK163.out 9; have hfz9_10 := blk_frozen BK163.out 10; have hfz9_11 := blk_frozen BK163.out 11; have hfz9_12 := blk_frozen BK163.out 12; have hfz9_13 := blk_frozen BK163.out 13) | ((with_reducible refine gate_callee (f := 51) rfl ?_); refine goesL_ (some 8) rfl rfl Tryz.func51 (by kernel_rfl) rfl #[.agg #[.string a0_0, .string a0_1, .int .i64 a0_2, .int .i64 a0_3, .int .i64 a0_4, .string a0_5, .string a0_6, .string a0_7, .int .i64 a0_8, .int .i64 a0_9, .string a0_10, .int .i64 a0_11, .slice A0_12 l0_12.length c0_12, .slice A0_13 l0_13.length c0_13]] rfl (by (try simp only [List.map_toArray, List.map_cons, List.map_nil]); first | done | rfl | (simp only [List.length_drop, List.length_take]; rfl)) ?_; (with_reducible refine (post_record.calls k a0_0 a0_1 a0_2 a0_3 a0_4 a0_5 a0_6 a0_7 a0_8 a0_9 a0_10 a0_11 _ _ l0_12 _ _ l0_13 t165 _ ?side1 ?side2 ?side3 ?side4 ?sideG A4.out).mono ?_); (case sideG => exact glob_below HGL.out (by repeat (first | (with_reducible first | exact HB.out | apply below_alloc | apply pw_below_drewN | apply below_drew1) | exact HB.out))); (case side1 => repeat (first | exact (Kd.C_below HR0_12.out HB.out) | (with_reducible refine Kd.C_alloc ?_ _) | (with_reducible refine Kd.C_drewN ?_ _) | (with_reducible refine Kd.C_drew ?_))); (case side2 => exact HC0_12.out); (case side3 => repeat (first | exact (Kd.C_below HR0_13.out HB.out) | (with_reducible refine Kd.C_alloc ?_ _) | (with_reducible refine Kd.C_drewN ?_ _) | (with_reducible refine Kd.C_drew ?_))); (case side4 => exact HC0_13.out); rintro e w10 ⟨v166, rfl, ho0, hb⟩; refine ⟨_, rfl, ?_⟩; have n0_ := Aside0.mk (Kd.R_lower ho0 (below_size (by repeat (first | (with_reducible first | exact HB.out | apply below_alloc | apply pw_below_drewN | apply below_drew1 | refine below_set ?_ GE163.out) | exact HB.out)))); have n1_ := Aside0.mk (blk_below (g := gb163) (o := .cells #[.string a0_0, .string a0_1, .int .i64 a0_2, .int .i64 a0_3, .int .i64 a0_4, .string a0_5, .string a0_6, .string a0_7, .int .i64 a0_8, .int .i64 a0_9, .string a0_10, .int .i64 a0_11, .slice A0_12 l0_12.length c0_12, .slice A0_13 l0_13.length c0_13] 33 (0, 0)) (by (with_reducible repeat (first | refine blk_drewN ?_ _ | refine blk_drew ?_ | refine blk_alloc ?_ _)); exact BK163.out) hb); have n2_ := Aside0.mk (below_step (by repeat (first | (with_reducible first | exact HB.out | apply below_alloc | apply pw_below_drewN | apply below_drew1 | refine below_set ?_ GE163.out) | exact HB.out)) hb); clear BK163; clear HB; have HO167 := n0_; have BK163 := n1_; have HB := n2_; clear n0_ n1_ n2_; (try clear hb); (try clear hb2); (try clear hk); (try clear hi); (try clear ho0); obtain ⟨Ao11, co11, eo11⟩ := Kd.R_slice HO167.out; subst eo11) | ((with_reducible refine gate_callee (f := 59) rfl ?_); refine goesL_ (some 9) rfl rfl Tryz.func59 (by kernel_rfl) rfl #[.slice Ao11 t165.length co11] rfl (by (try simp only [List.map_toArray, List.map_cons, List.map_nil]); first | done | rfl | (simp only [List.length_drop, List.length_take]; rfl)) ?_; (with_reducible refine (field_Text.calls _ _ t165 t168 t169 _ ?side1 ?side2 A5.out).mono ?_); (case side1 => repeat (first | exact (Kd.R_reads' HO167.out).2.2 | (with_reducible refine Kd.C_alloc ?_ _) | (with_reducible refine Kd.C_drewN ?_ _) | (with_reducible refine Kd.C_drew ?_))); (case side2 => exact (Kd.R_reads' HO167.out).2.1); rintro e w12 ⟨rfl, hb⟩; refine ⟨_, rfl, ?_⟩; have n0_ := Aside0.mk (Kd.R_below (by (with_reducible repeat (first | apply Kd.R_alloc | apply Kd.R_drewN | apply Kd.R_drew)); exact HO167.out) hb); have n1_ := Aside0.mk (blk_below (g := gb163) (o := .cells #[.string a0_0, .string a0_1, .int .i64 a0_2, .int .i64 a0_3, .int .i64 a0_4, .string a0_5, .string a0_6, .string a0_7, .int .i64 a0_8, .int .i64 a0_9, .string a0_10, .int .i64 a0_11, .slice A0_12 l0_12.length c0_12, .slice A0_13 l0_13.length c0_13] 33 (0, 0)) (by (with_reducible repeat (first | refine blk_drewN ?_ _ | refine blk_drew ?_ | refine blk_alloc ?_ _)); exact BK163.out) hb); have n2_ := Aside0.mk (below_step (by repeat (first | (with_reducible first | exact HB.out | apply below_alloc | apply pw_below_drewN | apply below_drew1 | refine below_set ?_ GE163.out) | exact HB.out)) hb); clear HO167; clear BK163; clear HB; have HO167 := n0_; have BK163 := n1_; have HB := n2_; clear n0_ n1_ n2_; (try clear hb); (try clear hb2); (try clear hk); (try clear hi)))
    go_ret2
    exact ⟨by first | rfl | (simp [errW_none, errW_some] <;> rfl) | (simp [*, errW_none, errW_some] <;> rfl), by repeat (first | (with_reducible first | exact HB.out | apply below_alloc | apply pw_below_drewN | apply below_drew1 | refine below_set ?_ GE163.out) | exact HB.out)⟩
  · replace c3 := Bool.eq_false_iff.mpr c3
    subst c3
    have H1 : (some ((⟨#[]⟩ : ByteArray), 1)) = some (r1, r2) := by rw [if_neg (show ¬ (false = true) by decide)] at H; exact H
    clear H
    have H := H1
    clear H1
    simp only [Option.some.injEq, Prod.mk.injEq] at H
    obtain ⟨rfl, rfl⟩ := H
    go_enter Tryz.func23, Tryz.ntmps23
    go_wp2_with (first | ((with_reducible refine gate_dst (N := 1) rfl ?_); refine box_event ?hg (N := 1) ?hd (cs := #[.string a0_0, .string a0_1, .int .i64 a0_2, .int .i64 a0_3, .int .i64 a0_4, .string a0_5, .string a0_6, .string a0_7, .int .i64 a0_8, .int .i64 a0_9, .string a0_10, .int .i64 a0_11, .slice A0_12 l0_12.length c0_12, .slice A0_13 l0_13.length c0_13]) (t := 33) ?hr ?_; (case hd => rfl); (case hg => rfl); (case hr => first | (go_simp; done) | (go_simp; rfl)); intro gb163 hg w13 hbox hb; have n0_ := Aside0.mk (below_step (by repeat (first | (with_reducible first | exact HB.out | apply below_alloc | apply pw_below_drewN | apply below_drew1) | exact HB.out)) hb); have n1_ := Aside0.mk (hbox); have n2_ := Aside0.mk ((by rw [hg]; exact (below_size (by repeat (first | (with_reducible first | exact HB.out | apply below_alloc | apply pw_below_drewN | apply below_drew1) | exact HB.out))) : w.heap.size ≤ gb163)); have n3_ := Aside0.mk ((by rw [hg]; exact (below_size (by repeat (first | (with_reducible first | exact HB.out | apply below_alloc | apply pw_below_drewN | apply below_drew1) | exact HB.out))) : w.heap.size ≤ gb163)); clear HB; have HB := n0_; have BK163 := n1_; have GW163 := n2_; have GE163 := n3_; clear n0_ n1_ n2_ n3_; clear hb hbox hg; have hcz14_0 : w13.cell? ⟨gb163, 0, none⟩ = some (.string a0_0) := (blk_cell BK163.out 0).trans rfl; have hcz14_1 : w13.cell? ⟨gb163, 1, none⟩ = some (.string a0_1) := (blk_cell BK163.out 1).trans rfl; have hcz14_2 : w13.cell? ⟨gb163, 2, none⟩ = some (.int .i64 a0_2) := (blk_cell BK163.out 2).trans rfl; have hcz14_3 : w13.cell? ⟨gb163, 3, none⟩ = some (.int .i64 a0_3) := (blk_cell BK163.out 3).trans rfl; have hcz14_4 : w13.cell? ⟨gb163, 4, none⟩ = some (.int .i64 a0_4) := (blk_cell BK163.out 4).trans rfl; have hcz14_5 : w13.cell? ⟨gb163, 5, none⟩ = some (.string a0_5) := (blk_cell BK163.out 5).trans rfl; have hcz14_6 : w13.cell? ⟨gb163, 6, none⟩ = some (.string a0_6) := (blk_cell BK163.out 6).trans rfl; have hcz14_7 : w13.cell? ⟨gb163, 7, none⟩ = some (.string a0_7) := (blk_cell BK163.out 7).trans rfl; have hcz14_8 : w13.cell? ⟨gb163, 8, none⟩ = some (.int .i64 a0_8) := (blk_cell BK163.out 8).trans rfl; have hcz14_9 : w13.cell? ⟨gb163, 9, none⟩ = some (.int .i64 a0_9) := (blk_cell BK163.out 9).trans rfl; have hcz14_10 : w13.cell? ⟨gb163, 10, none⟩ = some (.string a0_10) := (blk_cell BK163.out 10).trans rfl; have hcz14_11 : w13.cell? ⟨gb163, 11, none⟩ = some (.int .i64 a0_11) := (blk_cell BK163.out 11).trans rfl; have hcz14_12 : w13.cell? ⟨gb163, 12, none⟩ = some (.slice A0_12 l0_12.length c0_12) := (blk_cell BK163.out 12).trans rfl; have hcz14_13 : w13.cell? ⟨gb163, 13, none⟩ = some (.slice A0_13 l0_13.length c0_13) := (blk_cell BK163.out 13).trans rfl; have hfz14_0 := blk_frozen BK163.out 0; have hfz14_1 := blk_frozen BK163.out 1; have hfz14_2 := blk_frozen BK163.out 2; have hfz14_3 := blk_frozen BK163.out 3; have hfz14_4 := blk_frozen BK163.out 4; have hfz14_5 := blk_frozen BK163.out 5; have hfz14_6 := blk_frozen BK163.out 6; have hfz14_7 := blk_frozen BK163.out 7; have hfz14_8 := blk_frozen BK163.out 8; have hfz14_9 := blk_frozen BK163.out 9; have hfz14_10 := blk_frozen BK163.out 10; have hfz14_11 := blk_frozen BK163.out 11; have hfz14_12 := blk_frozen BK163.out 12; have hfz14_13 := blk_frozen BK163.out 13) | ((with_reducible refine gate_callee (f := 16) rfl ?_); refine goesL_ (some 5) rfl rfl Tryz.func16 (by kernel_rfl) rfl #[.agg #[.string a0_0, .string a0_1, .int .i64 a0_2, .int .i64 a0_3, .int .i64 a0_4, .string a0_5, .string a0_6, .string a0_7, .int .i64 a0_8, .int .i64 a0_9, .string a0_10, .int .i64 a0_11, .slice A0_12 l0_12.length c0_12, .slice A0_13 l0_13.length c0_13]] rfl (by (try simp only [List.map_toArray, List.map_cons, List.map_nil]); first | done | rfl | (simp only [List.length_drop, List.length_take]; rfl)) ?_; (with_reducible refine (post_May.calls a0_0 a0_1 a0_2 a0_3 a0_4 a0_5 a0_6 a0_7 a0_8 a0_9 a0_10 a0_11 _ _ l0_12 _ _ l0_13 false _ ?side1 ?side2 ?side3 ?side4 ?sideG A2.out).mono ?_); (case sideG => exact glob_below HGL.out (by repeat (first | (with_reducible first | exact HB.out | apply below_alloc | apply pw_below_drewN | apply below_drew1) | exact HB.out))); (case side1 => repeat (first | exact (Kd.C_below HR0_12.out HB.out) | (with_reducible refine Kd.C_alloc ?_ _) | (with_reducible refine Kd.C_drewN ?_ _) | (with_reducible refine Kd.C_drew ?_))); (case side2 => exact HC0_12.out); (case side3 => repeat (first | exact (Kd.C_below HR0_13.out HB.out) | (with_reducible refine Kd.C_alloc ?_ _) | (with_reducible refine Kd.C_drewN ?_ _) | (with_reducible refine Kd.C_drew ?_))); (case side4 => exact HC0_13.out); rintro e w15 ⟨rfl, hb⟩; refine ⟨_, rfl, ?_⟩; have n0_ := Aside0.mk (blk_below (g := gb163) (o := .cells #[.string a0_0, .string a0_1, .int .i64 a0_2, .int .i64 a0_3, .int .i64 a0_4, .string a0_5, .string a0_6, .string a0_7, .int .i64 a0_8, .int .i64 a0_9, .string a0_10, .int .i64 a0_11, .slice A0_12 l0_12.length c0_12, .slice A0_13 l0_13.length c0_13] 33 (0, 0)) (by (with_reducible repeat (first | refine blk_drewN ?_ _ | refine blk_drew ?_ | refine blk_alloc ?_ _)); exact BK163.out) hb); have n1_ := Aside0.mk (below_step (by repeat (first | (with_reducible first | exact HB.out | apply below_alloc | apply pw_below_drewN | apply below_drew1 | refine below_set ?_ GE163.out) | exact HB.out)) hb); clear BK163; clear HB; have BK163 := n0_; have HB := n1_; clear n0_ n1_; (try clear hb); (try clear hb2); (try clear hk); (try clear hi)))
    go_ret2
    exact ⟨by first | rfl | (simp [errW_none, errW_some] <;> rfl) | (simp [*, errW_none, errW_some] <;> rfl), by repeat (first | (with_reducible first | exact HB.out | apply below_alloc | apply pw_below_drewN | apply below_drew1 | refine below_set ?_ GE163.out) | exact HB.out)⟩

end Go.Proofs.YtkblmomfiimkiaaGreatDoor.P
end

section
-- WRITTEN BY wip/gprint.py of this seat's repository, over the kit's printer, with given contracts.
namespace Go.Proofs.YtkblmomfiimkiaaGreatDoor.P
open Go.RowKit Go.Proofs.YtkblmomfiimkiaaGreatDoorW.PrintWords Go.Proofs.YtkblmomfiimkiaaGreatDoorW.PrintLast Go.Proofs.YtkblmomfiimkiaaGreatDoorW.PrintMore
attribute [local go_sem] max2_int min2_int max_two min_two max_three min_three max_four min_four   -- for this text's walks alone
set_option linter.unusedVariables false
set_option linter.unusedSimpArgs false

/-! ### supercargolaw09_awake: function 9 -/
noncomputable def supercargolaw09_awake.f (k : Nat)  : Option (Bool) := (post_Text.f k (⟨#[97]⟩ : ByteArray) (⟨#[98]⟩ : ByteArray) 0 28 3 (⟨#[]⟩ : ByteArray) (⟨#[]⟩ : ByteArray) (⟨#[]⟩ : ByteArray) 0 0 (⟨#[]⟩ : ByteArray) 0 ([] : List (S38)) ([] : List ByteArray)).bind fun bt170 => ((post_Kind.f k (⟨#[97, 99, 107]⟩ : ByteArray)).bind fun bt172 => (if bt170.2 = 0 then (if (bt170.1.size : Int) > 12 then (if 0 ≤ 12 then (if 12 ≤ (bt170.1.size : Int) then (if (bt170.1.extract 0 12).toList = ([102, 114, 111, 109, 61, 97, 10, 116, 111, 61, 98, 10] : List UInt8) then ((post_Name.f 0).bind fun t174 => (if t174.toList = ([111, 114, 100, 101, 114] : List UInt8) then (if bt172.1 = 28 then (some bt172.2) else (some false)) else (some false))) else (some false)) else (none)) else (none)) else (some false)) else (some false)))
theorem supercargolaw09_awake.mono : ∀ k, LeO (supercargolaw09_awake.f k ) (supercargolaw09_awake.f (k + 1) ) := by
  intro  k
  unfold supercargolaw09_awake.f
  repeat' first
      | (with_reducible exact post_Kind.mono _ _)
      | (with_reducible exact post_Text.mono _ _ _ _ _ _ _ _ _ _ _ _ _ _ _)
      | (with_reducible exact LeO.refl _)
      | (with_reducible exact LeO.none _)
      | (with_reducible refine LeO.ite ?_ ?_)
      | (with_reducible refine LeO.bind ?_ (fun _ => ?_))
      | exact post_Kind.mono _ _
      | exact post_Text.mono _ _ _ _ _ _ _ _ _ _ _ _ _ _ _
      | exact LeO.none _
      | refine LeO.ite ?_ ?_
      | refine LeO.bind ?_ (fun _ => ?_)
set_option maxHeartbeats 8000000 in
set_option maxRecDepth 100000 in
theorem supercargolaw09_awake.calls (k : Nat)  (r : Bool) (w : World) (hG : Glob w) (h : supercargolaw09_awake.f k  = some r) :
    Calls Tryz.prog 9 #[] w fun e w' => e = .returned (.bool r) ∧ Below w.heap.size w w' := by
  have HGL := Aside0.mk hG
  clear hG
  have hu33 := Tryz.underlying33
  have HB := Aside0.mk (Below.refl w.heap.size w)
  have H : ((post_Text.f k (⟨#[97]⟩ : ByteArray) (⟨#[98]⟩ : ByteArray) 0 28 3 (⟨#[]⟩ : ByteArray) (⟨#[]⟩ : ByteArray) (⟨#[]⟩ : ByteArray) 0 0 (⟨#[]⟩ : ByteArray) 0 ([] : List (S38)) ([] : List ByteArray)).bind fun bt170 => ((post_Kind.f k (⟨#[97, 99, 107]⟩ : ByteArray)).bind fun bt172 => (if bt170.2 = 0 then (if (bt170.1.size : Int) > 12 then (if 0 ≤ 12 then (if 12 ≤ (bt170.1.size : Int) then (if (bt170.1.extract 0 12).toList = ([102, 114, 111, 109, 61, 97, 10, 116, 111, 61, 98, 10] : List UInt8) then ((post_Name.f 0).bind fun t174 => (if t174.toList = ([111, 114, 100, 101, 114] : List UInt8) then (if bt172.1 = 28 then (some bt172.2) else (some false)) else (some false))) else (some false)) else (none)) else (none)) else (some false)) else (some false)))) = some r := h
  clear h
  replace H := Option.bind_eq_some_iff.mp H
  obtain ⟨⟨t170, t171⟩, A10, H⟩ := H
  replace H : ((post_Kind.f k (⟨#[97, 99, 107]⟩ : ByteArray)).bind fun bt172 => (if t171 = 0 then (if (t170.size : Int) > 12 then (if 0 ≤ 12 then (if 12 ≤ (t170.size : Int) then (if (t170.extract 0 12).toList = ([102, 114, 111, 109, 61, 97, 10, 116, 111, 61, 98, 10] : List UInt8) then ((post_Name.f 0).bind fun t174 => (if t174.toList = ([111, 114, 100, 101, 114] : List UInt8) then (if bt172.1 = 28 then (some bt172.2) else (some false)) else (some false))) else (some false)) else (none)) else (none)) else (some false)) else (some false))) = some r := H
  have A1 := Aside0.mk A10
  clear A10
  replace H := Option.bind_eq_some_iff.mp H
  obtain ⟨⟨t172, t173⟩, A20, H⟩ := H
  replace H : (if t171 = 0 then (if (t170.size : Int) > 12 then (if 0 ≤ 12 then (if 12 ≤ (t170.size : Int) then (if (t170.extract 0 12).toList = ([102, 114, 111, 109, 61, 97, 10, 116, 111, 61, 98, 10] : List UInt8) then ((post_Name.f 0).bind fun t174 => (if t174.toList = ([111, 114, 100, 101, 114] : List UInt8) then (if t172 = 28 then (some t173) else (some false)) else (some false))) else (some false)) else (none)) else (none)) else (some false)) else (some false)) = some r := H
  have A2 := Aside0.mk A20
  clear A20
  by_cases c3 : t171 = 0
  · rw [if_pos c3] at H
    have c3b0 : (t171 == 0) = true := beq_iff_eq.mpr c3
    have c3b1 : (t171 != 0) = false := bne_eq_false_iff_eq.mpr c3
    clear c3
    by_cases c4 : (t170.size : Int) > 12
    · rw [if_pos c4] at H
      have c4b0 : decide (12 < (t170.size : Int)) = true := decide_eq_true c4
      have c4b1 : decide (12 < t170.size) = true := decide_eq_true (by omega)
      clear c4
      by_cases c5 : 0 ≤ 12
      · rw [if_pos c5] at H
        have c5b0 := eq_true c5
        have c5b1 : decide (0 ≤ 12) = true := decide_eq_true c5
        clear c5
        by_cases c6 : 12 ≤ (t170.size : Int)
        · rw [if_pos c6] at H
          have c6b0 := eq_true c6
          have c6b1 : decide (12 ≤ (t170.size : Int)) = true := decide_eq_true c6
          clear c6
          by_cases c7 : (t170.extract 0 12).toList = ([102, 114, 111, 109, 61, 97, 10, 116, 111, 61, 98, 10] : List UInt8)
          · rw [if_pos c7] at H
            have c7b0 : ((t170.extract 0 12).toList == ([102, 114, 111, 109, 61, 97, 10, 116, 111, 61, 98, 10] : List UInt8)) = true := beq_iff_eq.mpr c7
            have c7b1 : ((t170.extract 0 12).toList != ([102, 114, 111, 109, 61, 97, 10, 116, 111, 61, 98, 10] : List UInt8)) = false := bne_eq_false_iff_eq.mpr c7
            clear c7
            replace H := Option.bind_eq_some_iff.mp H
            obtain ⟨t174, A80, H⟩ := H
            replace H : (if t174.toList = ([111, 114, 100, 101, 114] : List UInt8) then (if t172 = 28 then (some t173) else (some false)) else (some false)) = some r := H
            have A8 := Aside0.mk A80
            clear A80
            by_cases c9 : t174.toList = ([111, 114, 100, 101, 114] : List UInt8)
            · rw [if_pos c9] at H
              have c9b0 : (t174.toList == ([111, 114, 100, 101, 114] : List UInt8)) = true := beq_iff_eq.mpr c9
              have c9b1 : (t174.toList != ([111, 114, 100, 101, 114] : List UInt8)) = false := bne_eq_false_iff_eq.mpr c9
              clear c9
              by_cases c10 : t172 = 28
              · rw [if_pos c10] at H
                have c10b0 : (t172 == 28) = true := beq_iff_eq.mpr c10
                have c10b1 : (t172 != 28) = false := bne_eq_false_iff_eq.mpr c10
                clear c10
                obtain rfl := Option.some.inj H
                go_enter Tryz.func9, Tryz.ntmps9
                go_wp2_with (first | ((with_reducible refine gate_callee (f := 23) rfl ?_); refine goesL_ (some 7) rfl rfl Tryz.func23 (by kernel_rfl) rfl #[.agg #[.string (⟨#[97]⟩ : ByteArray), .string (⟨#[98]⟩ : ByteArray), .int .i64 0, .int .i64 28, .int .i64 3, .string (⟨#[]⟩ : ByteArray), .string (⟨#[]⟩ : ByteArray), .string (⟨#[]⟩ : ByteArray), .int .i64 0, .int .i64 0, .string (⟨#[]⟩ : ByteArray), .int .i64 0, .slice none 0 0, .slice none 0 0]] rfl (by (try simp only [List.map_toArray, List.map_cons, List.map_nil]); first | done | rfl | (simp only [List.length_drop, List.length_take]; rfl)) ?_; (refine (post_Text.calls k (⟨#[97]⟩ : ByteArray) (⟨#[98]⟩ : ByteArray) 0 28 3 (⟨#[]⟩ : ByteArray) (⟨#[]⟩ : ByteArray) (⟨#[]⟩ : ByteArray) 0 0 (⟨#[]⟩ : ByteArray) 0 _ _ ([] : List (S38)) _ _ ([] : List ByteArray) t170 t171 _ ?side1 ?side2 ?side3 ?side4 ?sideG A1.out).mono ?_); (case sideG => exact glob_below HGL.out (by repeat (first | (with_reducible first | exact HB.out | apply below_alloc | apply pw_below_drewN | apply below_drew1) | exact HB.out))); (case side1 => exact Kd.C_nil _ _); (case side2 => exact Nat.le_refl _); (case side3 => exact Kd.C_nil _ _); (case side4 => exact Nat.le_refl _); rintro e w11 ⟨rfl, hb⟩; refine ⟨_, rfl, ?_⟩; have n0_ := Aside0.mk (below_step (by repeat (first | (with_reducible first | exact HB.out | apply below_alloc | apply pw_below_drewN | apply below_drew1) | exact HB.out)) hb); clear HB; have HB := n0_; clear n0_; (try clear hb); (try clear hb2); (try clear hk); (try clear hi)) | ((with_reducible refine gate_callee (f := 11) rfl ?_); refine goesL_ (some 11) rfl rfl Tryz.func11 (by kernel_rfl) rfl #[.string (⟨#[97, 99, 107]⟩ : ByteArray)] rfl (by (try simp only [List.map_toArray, List.map_cons, List.map_nil]); first | done | rfl | (simp only [List.length_drop, List.length_take]; rfl)) ?_; (with_reducible refine (post_Kind.calls k (⟨#[97, 99, 107]⟩ : ByteArray) t172 t173 _ ?sideG A2.out).mono ?_); (case sideG => exact glob_below HGL.out (by repeat (first | (with_reducible first | exact HB.out | apply below_alloc | apply pw_below_drewN | apply below_drew1) | exact HB.out))); rintro e w12 ⟨rfl, hb⟩; refine ⟨_, rfl, ?_⟩; have n0_ := Aside0.mk (below_step (by repeat (first | (with_reducible first | exact HB.out | apply below_alloc | apply pw_below_drewN | apply below_drew1) | exact HB.out)) hb); clear HB; have HB := n0_; clear n0_; (try clear hb); (try clear hb2); (try clear hk); (try clear hi)) | (go_at_call 12; (with_reducible refine (post_Name.calls 0 t174 _ ?sideG A8.out).mono ?_); (case sideG => exact glob_below HGL.out (by repeat (first | (with_reducible first | exact HB.out | apply below_alloc | apply pw_below_drewN | apply below_drew1) | exact HB.out))); rintro e w13 ⟨rfl, hb⟩; have n0_ := Aside0.mk (below_step (by repeat (first | (with_reducible first | exact HB.out | apply below_alloc | apply pw_below_drewN | apply below_drew1) | exact HB.out)) hb); clear HB; have HB := n0_; clear n0_; (try clear hb); (try clear hb2); (try clear hk); (try clear hi)))
                go_ret
                exact ⟨by first | rfl | (simp [errW_none, errW_some] <;> rfl) | (simp [*, errW_none, errW_some] <;> rfl), by repeat (first | (with_reducible first | exact HB.out | apply below_alloc | apply pw_below_drewN | apply below_drew1) | exact HB.out)⟩
              · rw [if_neg c10] at H
                have c10b0 : (t172 == 28) = false := beq_eq_false_iff_ne.mpr c10
                have c10b1 : (t172 != 28) = true := bne_iff_ne.mpr c10
                obtain rfl := Option.some.inj H
                go_enter Tryz.func9, Tryz.ntmps9
                go_wp2_with (first | ((with_reducible refine gate_callee (f := 23) rfl ?_); refine goesL_ (some 7) rfl rfl Tryz.func23 (by kernel_rfl) rfl #[.agg #[.string (⟨#[97]⟩ : ByteArray), .string (⟨#[98]⟩ : ByteArray), .int .i64 0, .int .i64 28, .int .i64 3, .string (⟨#[]⟩ : ByteArray), .string (⟨#[]⟩ : ByteArray), .string (⟨#[]⟩ : ByteArray), .int .i64 0, .int .i64 0, .string (⟨#[]⟩ : ByteArray), .int .i64 0, .slice none 0 0, .slice none 0 0]] rfl (by (try simp only [List.map_toArray, List.map_cons, List.map_nil]); first | done | rfl | (simp only [List.length_drop, List.length_take]; rfl)) ?_; (refine (post_Text.calls k (⟨#[97]⟩ : ByteArray) (⟨#[98]⟩ : ByteArray) 0 28 3 (⟨#[]⟩ : ByteArray) (⟨#[]⟩ : ByteArray) (⟨#[]⟩ : ByteArray) 0 0 (⟨#[]⟩ : ByteArray) 0 _ _ ([] : List (S38)) _ _ ([] : List ByteArray) t170 t171 _ ?side1 ?side2 ?side3 ?side4 ?sideG A1.out).mono ?_); (case sideG => exact glob_below HGL.out (by repeat (first | (with_reducible first | exact HB.out | apply below_alloc | apply pw_below_drewN | apply below_drew1) | exact HB.out))); (case side1 => exact Kd.C_nil _ _); (case side2 => exact Nat.le_refl _); (case side3 => exact Kd.C_nil _ _); (case side4 => exact Nat.le_refl _); rintro e w14 ⟨rfl, hb⟩; refine ⟨_, rfl, ?_⟩; have n0_ := Aside0.mk (below_step (by repeat (first | (with_reducible first | exact HB.out | apply below_alloc | apply pw_below_drewN | apply below_drew1) | exact HB.out)) hb); clear HB; have HB := n0_; clear n0_; (try clear hb); (try clear hb2); (try clear hk); (try clear hi)) | ((with_reducible refine gate_callee (f := 11) rfl ?_); refine goesL_ (some 11) rfl rfl Tryz.func11 (by kernel_rfl) rfl #[.string (⟨#[97, 99, 107]⟩ : ByteArray)] rfl (by (try simp only [List.map_toArray, List.map_cons, List.map_nil]); first | done | rfl | (simp only [List.length_drop, List.length_take]; rfl)) ?_; (with_reducible refine (post_Kind.calls k (⟨#[97, 99, 107]⟩ : ByteArray) t172 t173 _ ?sideG A2.out).mono ?_); (case sideG => exact glob_below HGL.out (by repeat (first | (with_reducible first | exact HB.out | apply below_alloc | apply pw_below_drewN | apply below_drew1) | exact HB.out))); rintro e w15 ⟨rfl, hb⟩; refine ⟨_, rfl, ?_⟩; have n0_ := Aside0.mk (below_step (by repeat (first | (with_reducible first | exact HB.out | apply below_alloc | apply pw_below_drewN | apply below_drew1) | exact HB.out)) hb); clear HB; have HB := n0_; clear n0_; (try clear hb); (try clear hb2); (try clear hk); (try clear hi)) | (go_at_call 12; (with_reducible refine (post_Name.calls 0 t174 _ ?sideG A8.out).mono ?_); (case sideG => exact glob_below HGL.out (by repeat (first | (with_reducible first | exact HB.out | apply below_alloc | apply pw_below_drewN | apply below_drew1) | exact HB.out))); rintro e w16 ⟨rfl, hb⟩; have n0_ := Aside0.mk (below_step (by repeat (first | (with_reducible first | exact HB.out | apply below_alloc | apply pw_below_drewN | apply below_drew1) | exact HB.out)) hb); clear HB; have HB := n0_; clear n0_; (try clear hb); (try clear hb2); (try clear hk); (try clear hi)))
                go_ret
                exact ⟨by first | rfl | (simp [errW_none, errW_some] <;> rfl) | (simp [*, errW_none, errW_some] <;> rfl), by repeat (first | (with_reducible first | exact HB.out | apply below_alloc | apply pw_below_drewN | apply below_drew1) | exact HB.out)⟩
            · rw [if_neg c9] at H
              have c9b0 : (t174.toList == ([111, 114, 100, 101, 114] : List UInt8)) = false := beq_eq_false_iff_ne.mpr c9
              have c9b1 : (t174.toList != ([111, 114, 100, 101, 114] : List UInt8)) = true := bne_iff_ne.mpr c9
              obtain rfl := Option.some.inj H
              go_enter Tryz.func9, Tryz.ntmps9
              go_wp2_with (first | ((with_reducible refine gate_callee (f := 23) rfl ?_); refine goesL_ (some 7) rfl rfl Tryz.func23 (by kernel_rfl) rfl #[.agg #[.string (⟨#[97]⟩ : ByteArray), .string (⟨#[98]⟩ : ByteArray), .int .i64 0, .int .i64 28, .int .i64 3, .string (⟨#[]⟩ : ByteArray), .string (⟨#[]⟩ : ByteArray), .string (⟨#[]⟩ : ByteArray), .int .i64 0, .int .i64 0, .string (⟨#[]⟩ : ByteArray), .int .i64 0, .slice none 0 0, .slice none 0 0]] rfl (by (try simp only [List.map_toArray, List.map_cons, List.map_nil]); first | done | rfl | (simp only [List.length_drop, List.length_take]; rfl)) ?_; (refine (post_Text.calls k (⟨#[97]⟩ : ByteArray) (⟨#[98]⟩ : ByteArray) 0 28 3 (⟨#[]⟩ : ByteArray) (⟨#[]⟩ : ByteArray) (⟨#[]⟩ : ByteArray) 0 0 (⟨#[]⟩ : ByteArray) 0 _ _ ([] : List (S38)) _ _ ([] : List ByteArray) t170 t171 _ ?side1 ?side2 ?side3 ?side4 ?sideG A1.out).mono ?_); (case sideG => exact glob_below HGL.out (by repeat (first | (with_reducible first | exact HB.out | apply below_alloc | apply pw_below_drewN | apply below_drew1) | exact HB.out))); (case side1 => exact Kd.C_nil _ _); (case side2 => exact Nat.le_refl _); (case side3 => exact Kd.C_nil _ _); (case side4 => exact Nat.le_refl _); rintro e w17 ⟨rfl, hb⟩; refine ⟨_, rfl, ?_⟩; have n0_ := Aside0.mk (below_step (by repeat (first | (with_reducible first | exact HB.out | apply below_alloc | apply pw_below_drewN | apply below_drew1) | exact HB.out)) hb); clear HB; have HB := n0_; clear n0_; (try clear hb); (try clear hb2); (try clear hk); (try clear hi)) | ((with_reducible refine gate_callee (f := 11) rfl ?_); refine goesL_ (some 11) rfl rfl Tryz.func11 (by kernel_rfl) rfl #[.string (⟨#[97, 99, 107]⟩ : ByteArray)] rfl (by (try simp only [List.map_toArray, List.map_cons, List.map_nil]); first | done | rfl | (simp only [List.length_drop, List.length_take]; rfl)) ?_; (with_reducible refine (post_Kind.calls k (⟨#[97, 99, 107]⟩ : ByteArray) t172 t173 _ ?sideG A2.out).mono ?_); (case sideG => exact glob_below HGL.out (by repeat (first | (with_reducible first | exact HB.out | apply below_alloc | apply pw_below_drewN | apply below_drew1) | exact HB.out))); rintro e w18 ⟨rfl, hb⟩; refine ⟨_, rfl, ?_⟩; have n0_ := Aside0.mk (below_step (by repeat (first | (with_reducible first | exact HB.out | apply below_alloc | apply pw_below_drewN | apply below_drew1) | exact HB.out)) hb); clear HB; have HB := n0_; clear n0_; (try clear hb); (try clear hb2); (try clear hk); (try clear hi)) | (go_at_call 12; (with_reducible refine (post_Name.calls 0 t174 _ ?sideG A8.out).mono ?_); (case sideG => exact glob_below HGL.out (by repeat (first | (with_reducible first | exact HB.out | apply below_alloc | apply pw_below_drewN | apply below_drew1) | exact HB.out))); rintro e w19 ⟨rfl, hb⟩; have n0_ := Aside0.mk (below_step (by repeat (first | (with_reducible first | exact HB.out | apply below_alloc | apply pw_below_drewN | apply below_drew1) | exact HB.out)) hb); clear HB; have HB := n0_; clear n0_; (try clear hb); (try clear hb2); (try clear hk); (try clear hi)))
              go_ret
              exact ⟨by first | rfl | (simp [errW_none, errW_some] <;> rfl) | (simp [*, errW_none, errW_some] <;> rfl), by repeat (first | (with_reducible first | exact HB.out | apply below_alloc | apply pw_below_drewN | apply below_drew1) | exact HB.out)⟩
          · rw [if_neg c7] at H
            have c7b0 : ((t170.extract 0 12).toList == ([102, 114, 111, 109, 61, 97, 10, 116, 111, 61, 98, 10] : List UInt8)) = false := beq_eq_false_iff_ne.mpr c7
            have c7b1 : ((t170.extract 0 12).toList != ([102, 114, 111, 109, 61, 97, 10, 116, 111, 61, 98, 10] : List UInt8)) = true := bne_iff_ne.mpr c7
            obtain rfl := Option.some.inj H
            go_enter Tryz.func9, Tryz.ntmps9
            go_wp2_with (first | ((with_reducible refine gate_callee (f := 23) rfl ?_); refine goesL_ (some 7) rfl rfl Tryz.func23 (by kernel_rfl) rfl #[.agg #[.string (⟨#[97]⟩ : ByteArray), .string (⟨#[98]⟩ : ByteArray), .int .i64 0, .int .i64 28, .int .i64 3, .string (⟨#[]⟩ : ByteArray), .string (⟨#[]⟩ : ByteArray), .string (⟨#[]⟩ : ByteArray), .int .i64 0, .int .i64 0, .string (⟨#[]⟩ : ByteArray), .int .i64 0, .slice none 0 0, .slice none 0 0]] rfl (by (try simp only [List.map_toArray, List.map_cons, List.map_nil]); first | done | rfl | (simp only [List.length_drop, List.length_take]; rfl)) ?_; (refine (post_Text.calls k (⟨#[97]⟩ : ByteArray) (⟨#[98]⟩ : ByteArray) 0 28 3 (⟨#[]⟩ : ByteArray) (⟨#[]⟩ : ByteArray) (⟨#[]⟩ : ByteArray) 0 0 (⟨#[]⟩ : ByteArray) 0 _ _ ([] : List (S38)) _ _ ([] : List ByteArray) t170 t171 _ ?side1 ?side2 ?side3 ?side4 ?sideG A1.out).mono ?_); (case sideG => exact glob_below HGL.out (by repeat (first | (with_reducible first | exact HB.out | apply below_alloc | apply pw_below_drewN | apply below_drew1) | exact HB.out))); (case side1 => exact Kd.C_nil _ _); (case side2 => exact Nat.le_refl _); (case side3 => exact Kd.C_nil _ _); (case side4 => exact Nat.le_refl _); rintro e w20 ⟨rfl, hb⟩; refine ⟨_, rfl, ?_⟩; have n0_ := Aside0.mk (below_step (by repeat (first | (with_reducible first | exact HB.out | apply below_alloc | apply pw_below_drewN | apply below_drew1) | exact HB.out)) hb); clear HB; have HB := n0_; clear n0_; (try clear hb); (try clear hb2); (try clear hk); (try clear hi)) | ((with_reducible refine gate_callee (f := 11) rfl ?_); refine goesL_ (some 11) rfl rfl Tryz.func11 (by kernel_rfl) rfl #[.string (⟨#[97, 99, 107]⟩ : ByteArray)] rfl (by (try simp only [List.map_toArray, List.map_cons, List.map_nil]); first | done | rfl | (simp only [List.length_drop, List.length_take]; rfl)) ?_; (with_reducible refine (post_Kind.calls k (⟨#[97, 99, 107]⟩ : ByteArray) t172 t173 _ ?sideG A2.out).mono ?_); (case sideG => exact glob_below HGL.out (by repeat (first | (with_reducible first | exact HB.out | apply below_alloc | apply pw_below_drewN | apply below_drew1) | exact HB.out))); rintro e w21 ⟨rfl, hb⟩; refine ⟨_, rfl, ?_⟩; have n0_ := Aside0.mk (below_step (by repeat (first | (with_reducible first | exact HB.out | apply below_alloc | apply pw_below_drewN | apply below_drew1) | exact HB.out)) hb); clear HB; have HB := n0_; clear n0_; (try clear hb); (try clear hb2); (try clear hk); (try clear hi)))
            go_ret
            exact ⟨by first | rfl | (simp [errW_none, errW_some] <;> rfl) | (simp [*, errW_none, errW_some] <;> rfl), by repeat (first | (with_reducible first | exact HB.out | apply below_alloc | apply pw_below_drewN | apply below_drew1) | exact HB.out)⟩
        · rw [if_neg c6] at H
          exact absurd H (by simp)
      · rw [if_neg c5] at H
        exact absurd H (by simp)
    · rw [if_neg c4] at H
      have c4b0 : decide (12 < (t170.size : Int)) = false := decide_eq_false c4
      have c4b1 : decide (12 < t170.size) = false := decide_eq_false (by omega)
      clear c4
      obtain rfl := Option.some.inj H
      go_enter Tryz.func9, Tryz.ntmps9
      go_wp2_with (first | ((with_reducible refine gate_callee (f := 23) rfl ?_); refine goesL_ (some 7) rfl rfl Tryz.func23 (by kernel_rfl) rfl #[.agg #[.string (⟨#[97]⟩ : ByteArray), .string (⟨#[98]⟩ : ByteArray), .int .i64 0, .int .i64 28, .int .i64 3, .string (⟨#[]⟩ : ByteArray), .string (⟨#[]⟩ : ByteArray), .string (⟨#[]⟩ : ByteArray), .int .i64 0, .int .i64 0, .string (⟨#[]⟩ : ByteArray), .int .i64 0, .slice none 0 0, .slice none 0 0]] rfl (by (try simp only [List.map_toArray, List.map_cons, List.map_nil]); first | done | rfl | (simp only [List.length_drop, List.length_take]; rfl)) ?_; (refine (post_Text.calls k (⟨#[97]⟩ : ByteArray) (⟨#[98]⟩ : ByteArray) 0 28 3 (⟨#[]⟩ : ByteArray) (⟨#[]⟩ : ByteArray) (⟨#[]⟩ : ByteArray) 0 0 (⟨#[]⟩ : ByteArray) 0 _ _ ([] : List (S38)) _ _ ([] : List ByteArray) t170 t171 _ ?side1 ?side2 ?side3 ?side4 ?sideG A1.out).mono ?_); (case sideG => exact glob_below HGL.out (by repeat (first | (with_reducible first | exact HB.out | apply below_alloc | apply pw_below_drewN | apply below_drew1) | exact HB.out))); (case side1 => exact Kd.C_nil _ _); (case side2 => exact Nat.le_refl _); (case side3 => exact Kd.C_nil _ _); (case side4 => exact Nat.le_refl _); rintro e w22 ⟨rfl, hb⟩; refine ⟨_, rfl, ?_⟩; have n0_ := Aside0.mk (below_step (by repeat (first | (with_reducible first | exact HB.out | apply below_alloc | apply pw_below_drewN | apply below_drew1) | exact HB.out)) hb); clear HB; have HB := n0_; clear n0_; (try clear hb); (try clear hb2); (try clear hk); (try clear hi)) | ((with_reducible refine gate_callee (f := 11) rfl ?_); refine goesL_ (some 11) rfl rfl Tryz.func11 (by kernel_rfl) rfl #[.string (⟨#[97, 99, 107]⟩ : ByteArray)] rfl (by (try simp only [List.map_toArray, List.map_cons, List.map_nil]); first | done | rfl | (simp only [List.length_drop, List.length_take]; rfl)) ?_; (with_reducible refine (post_Kind.calls k (⟨#[97, 99, 107]⟩ : ByteArray) t172 t173 _ ?sideG A2.out).mono ?_); (case sideG => exact glob_below HGL.out (by repeat (first | (with_reducible first | exact HB.out | apply below_alloc | apply pw_below_drewN | apply below_drew1) | exact HB.out))); rintro e w23 ⟨rfl, hb⟩; refine ⟨_, rfl, ?_⟩; have n0_ := Aside0.mk (below_step (by repeat (first | (with_reducible first | exact HB.out | apply below_alloc | apply pw_below_drewN | apply below_drew1) | exact HB.out)) hb); clear HB; have HB := n0_; clear n0_; (try clear hb); (try clear hb2); (try clear hk); (try clear hi)))
      go_ret
      exact ⟨by first | rfl | (simp [errW_none, errW_some] <;> rfl) | (simp [*, errW_none, errW_some] <;> rfl), by repeat (first | (with_reducible first | exact HB.out | apply below_alloc | apply pw_below_drewN | apply below_drew1) | exact HB.out)⟩
  · rw [if_neg c3] at H
    have c3b0 : (t171 == 0) = false := beq_eq_false_iff_ne.mpr c3
    have c3b1 : (t171 != 0) = true := bne_iff_ne.mpr c3
    obtain rfl := Option.some.inj H
    go_enter Tryz.func9, Tryz.ntmps9
    go_wp2_with (first | ((with_reducible refine gate_callee (f := 23) rfl ?_); refine goesL_ (some 7) rfl rfl Tryz.func23 (by kernel_rfl) rfl #[.agg #[.string (⟨#[97]⟩ : ByteArray), .string (⟨#[98]⟩ : ByteArray), .int .i64 0, .int .i64 28, .int .i64 3, .string (⟨#[]⟩ : ByteArray), .string (⟨#[]⟩ : ByteArray), .string (⟨#[]⟩ : ByteArray), .int .i64 0, .int .i64 0, .string (⟨#[]⟩ : ByteArray), .int .i64 0, .slice none 0 0, .slice none 0 0]] rfl (by (try simp only [List.map_toArray, List.map_cons, List.map_nil]); first | done | rfl | (simp only [List.length_drop, List.length_take]; rfl)) ?_; (refine (post_Text.calls k (⟨#[97]⟩ : ByteArray) (⟨#[98]⟩ : ByteArray) 0 28 3 (⟨#[]⟩ : ByteArray) (⟨#[]⟩ : ByteArray) (⟨#[]⟩ : ByteArray) 0 0 (⟨#[]⟩ : ByteArray) 0 _ _ ([] : List (S38)) _ _ ([] : List ByteArray) t170 t171 _ ?side1 ?side2 ?side3 ?side4 ?sideG A1.out).mono ?_); (case sideG => exact glob_below HGL.out (by repeat (first | (with_reducible first | exact HB.out | apply below_alloc | apply pw_below_drewN | apply below_drew1) | exact HB.out))); (case side1 => exact Kd.C_nil _ _); (case side2 => exact Nat.le_refl _); (case side3 => exact Kd.C_nil _ _); (case side4 => exact Nat.le_refl _); rintro e w24 ⟨rfl, hb⟩; refine ⟨_, rfl, ?_⟩; have n0_ := Aside0.mk (below_step (by repeat (first | (with_reducible first | exact HB.out | apply below_alloc | apply pw_below_drewN | apply below_drew1) | exact HB.out)) hb); clear HB; have HB := n0_; clear n0_; (try clear hb); (try clear hb2); (try clear hk); (try clear hi)) | ((with_reducible refine gate_callee (f := 11) rfl ?_); refine goesL_ (some 11) rfl rfl Tryz.func11 (by kernel_rfl) rfl #[.string (⟨#[97, 99, 107]⟩ : ByteArray)] rfl (by (try simp only [List.map_toArray, List.map_cons, List.map_nil]); first | done | rfl | (simp only [List.length_drop, List.length_take]; rfl)) ?_; (with_reducible refine (post_Kind.calls k (⟨#[97, 99, 107]⟩ : ByteArray) t172 t173 _ ?sideG A2.out).mono ?_); (case sideG => exact glob_below HGL.out (by repeat (first | (with_reducible first | exact HB.out | apply below_alloc | apply pw_below_drewN | apply below_drew1) | exact HB.out))); rintro e w25 ⟨rfl, hb⟩; refine ⟨_, rfl, ?_⟩; have n0_ := Aside0.mk (below_step (by repeat (first | (with_reducible first | exact HB.out | apply below_alloc | apply pw_below_drewN | apply below_drew1) | exact HB.out)) hb); clear HB; have HB := n0_; clear n0_; (try clear hb); (try clear hb2); (try clear hk); (try clear hi)))
    go_ret
    exact ⟨by first | rfl | (simp [errW_none, errW_some] <;> rfl) | (simp [*, errW_none, errW_some] <;> rfl), by repeat (first | (with_reducible first | exact HB.out | apply below_alloc | apply pw_below_drewN | apply below_drew1) | exact HB.out)⟩

end Go.Proofs.YtkblmomfiimkiaaGreatDoor.P
end

section
-- WRITTEN BY wip/gprint.py of this seat's repository, over the kit's printer, with given contracts.
namespace Go.Proofs.YtkblmomfiimkiaaGreatDoor.P
open Go.RowKit Go.Proofs.YtkblmomfiimkiaaGreatDoorW.PrintWords Go.Proofs.YtkblmomfiimkiaaGreatDoorW.PrintLast Go.Proofs.YtkblmomfiimkiaaGreatDoorW.PrintMore
attribute [local go_sem] max2_int min2_int max_two min_two max_three min_three max_four min_four   -- for this text's walks alone
set_option linter.unusedVariables false
set_option linter.unusedSimpArgs false

/-! ### supercargolaw09_PostNames: function 3 -/
mutual
noncomputable def supercargolaw09_PostNames.j0 : Nat → Int → ByteArray → List ByteArray → ByteArray → Bool → Option (Bool)
  | 0, _, _, _, _, _ => none
  | k + 1, x0, x1, x5, x6, x24 => if x24 = true then (if 0 ≤ x0 then (if x0 < (x5.length : Int) then (supercargolaw09_PostNames.j1 k x0 x1 x5 (rdOf ByteArray.empty x5 x0)) else (none)) else (none)) else (supercargolaw09_PostNames.j1 k x0 x1 x5 x6)
noncomputable def supercargolaw09_PostNames.j1 : Nat → Int → ByteArray → List ByteArray → ByteArray → Option (Bool)
  | 0, _, _, _, _ => none
  | k + 1, x0, x1, x5, x6 => (post_Kind.f k x1).bind fun bt183 => (supercargolaw09_PostNames.l0 k x0 x1 x6 bt183.1 bt183.2 (-1) x5 (x5.length : Int) 0)
noncomputable def supercargolaw09_PostNames.l0 : Nat → Int → ByteArray → ByteArray → Int → Bool → Int → List ByteArray → Int → Int → Option (Bool)
  | 0, _, _, _, _, _, _, _, _, _ => none
  | k + 1, x0, x1, x6, x7, x8, x9, x34, x35, x36 => if x36 < x35 then (if 0 ≤ x36 then (if x36 < (x34.length : Int) then (if (rdOf ByteArray.empty x34 x36).toList = x1.toList then (supercargolaw09_PostNames.l0 k x0 x1 x6 x7 x8 x36 x34 x35 (wrap64 (x36 + 1))) else (supercargolaw09_PostNames.l0 k x0 x1 x6 x7 x8 x9 x34 x35 (wrap64 (x36 + 1)))) else (none)) else (none)) else ((post_Name.f x0).bind fun t186 => (if t186.toList = x6.toList then (if (x8 == (decide (x9 ≥ 0))) = true then (if x7 = (mx x9 0) then ((supercargolaw09_awake.f k).bind fun t187 => (some t187)) else (some false)) else (some false)) else (some false)))
end
noncomputable def supercargolaw09_PostNames.f (k : Nat) (a0 : Int) (a1 : ByteArray) : Option (Bool) := if (a1.size : Int) > 100 then ((supercargolaw09_awake.f k).bind fun t178 => (some t178)) else ((supercargoref09_Names.f).bind fun t179 => (if a0 ≥ 0 then (supercargolaw09_PostNames.j0 k a0 a1 t179 (⟨#[]⟩ : ByteArray) (decide (a0 < (t179.length : Int)))) else (supercargolaw09_PostNames.j0 k a0 a1 t179 (⟨#[]⟩ : ByteArray) false)))
theorem supercargolaw09_PostNames.mono_l : ∀ k, (∀ y0 y1 y2 y3 y4, LeO (supercargolaw09_PostNames.j0 k y0 y1 y2 y3 y4) (supercargolaw09_PostNames.j0 (k + 1) y0 y1 y2 y3 y4)) ∧ (∀ y0 y1 y2 y3, LeO (supercargolaw09_PostNames.j1 k y0 y1 y2 y3) (supercargolaw09_PostNames.j1 (k + 1) y0 y1 y2 y3)) ∧ (∀ y0 y1 y2 y3 y4 y5 y6 y7 y8, LeO (supercargolaw09_PostNames.l0 k y0 y1 y2 y3 y4 y5 y6 y7 y8) (supercargolaw09_PostNames.l0 (k + 1) y0 y1 y2 y3 y4 y5 y6 y7 y8))
  | 0 => ⟨fun _ _ _ _ _ r h => by simp [supercargolaw09_PostNames.j0] at h, fun _ _ _ _ r h => by simp [supercargolaw09_PostNames.j1] at h, fun _ _ _ _ _ _ _ _ _ r h => by simp [supercargolaw09_PostNames.l0] at h⟩
  | k + 1 => by
    obtain ⟨ih0, ih1, ih2⟩ := supercargolaw09_PostNames.mono_l k
    refine ⟨?_, ?_, ?_⟩
    · intro y0 y1 y2 y3 y4
      unfold supercargolaw09_PostNames.j0
      repeat' first
      | (with_reducible exact ih0 _ _ _ _ _)
      | (with_reducible exact ih1 _ _ _ _)
      | (with_reducible exact ih2 _ _ _ _ _ _ _ _ _)
      | (with_reducible exact post_Kind.mono _ _)
      | (with_reducible exact supercargolaw09_awake.mono _)
      | (with_reducible exact LeO.refl _)
      | (with_reducible exact LeO.none _)
      | (with_reducible refine LeO.ite ?_ ?_)
      | (with_reducible refine LeO.bind ?_ (fun _ => ?_))
      | exact ih0 _ _ _ _ _
      | exact ih1 _ _ _ _
      | exact ih2 _ _ _ _ _ _ _ _ _
      | exact post_Kind.mono _ _
      | exact supercargolaw09_awake.mono _
      | exact LeO.none _
      | refine LeO.ite ?_ ?_
      | refine LeO.bind ?_ (fun _ => ?_)
    · intro y0 y1 y2 y3
      unfold supercargolaw09_PostNames.j1
      repeat' first
      | (with_reducible exact ih0 _ _ _ _ _)
      | (with_reducible exact ih1 _ _ _ _)
      | (with_reducible exact ih2 _ _ _ _ _ _ _ _ _)
      | (with_reducible exact post_Kind.mono _ _)
      | (with_reducible exact supercargolaw09_awake.mono _)
      | (with_reducible exact LeO.refl _)
      | (with_reducible exact LeO.none _)
      | (with_reducible refine LeO.ite ?_ ?_)
      | (with_reducible refine LeO.bind ?_ (fun _ => ?_))
      | exact ih0 _ _ _ _ _
      | exact ih1 _ _ _ _
      | exact ih2 _ _ _ _ _ _ _ _ _
      | exact post_Kind.mono _ _
      | exact supercargolaw09_awake.mono _
      | exact LeO.none _
      | refine LeO.ite ?_ ?_
      | refine LeO.bind ?_ (fun _ => ?_)
    · intro y0 y1 y2 y3 y4 y5 y6 y7 y8
      unfold supercargolaw09_PostNames.l0
      repeat' first
      | (with_reducible exact ih0 _ _ _ _ _)
      | (with_reducible exact ih1 _ _ _ _)
      | (with_reducible exact ih2 _ _ _ _ _ _ _ _ _)
      | (with_reducible exact post_Kind.mono _ _)
      | (with_reducible exact supercargolaw09_awake.mono _)
      | (with_reducible exact LeO.refl _)
      | (with_reducible exact LeO.none _)
      | (with_reducible refine LeO.ite ?_ ?_)
      | (with_reducible refine LeO.bind ?_ (fun _ => ?_))
      | exact ih0 _ _ _ _ _
      | exact ih1 _ _ _ _
      | exact ih2 _ _ _ _ _ _ _ _ _
      | exact post_Kind.mono _ _
      | exact supercargolaw09_awake.mono _
      | exact LeO.none _
      | refine LeO.ite ?_ ?_
      | refine LeO.bind ?_ (fun _ => ?_)
theorem supercargolaw09_PostNames.mono : ∀ a0 a1 k, LeO (supercargolaw09_PostNames.f k a0 a1) (supercargolaw09_PostNames.f (k + 1) a0 a1) := by
  intro a0 a1 k
  obtain ⟨ih0, ih1, ih2⟩ := supercargolaw09_PostNames.mono_l k
  unfold supercargolaw09_PostNames.f
  repeat' first
      | (with_reducible exact ih0 _ _ _ _ _)
      | (with_reducible exact ih1 _ _ _ _)
      | (with_reducible exact ih2 _ _ _ _ _ _ _ _ _)
      | (with_reducible exact post_Kind.mono _ _)
      | (with_reducible exact supercargolaw09_awake.mono _)
      | (with_reducible exact LeO.refl _)
      | (with_reducible exact LeO.none _)
      | (with_reducible refine LeO.ite ?_ ?_)
      | (with_reducible refine LeO.bind ?_ (fun _ => ?_))
      | exact ih0 _ _ _ _ _
      | exact ih1 _ _ _ _
      | exact ih2 _ _ _ _ _ _ _ _ _
      | exact post_Kind.mono _ _
      | exact supercargolaw09_awake.mono _
      | exact LeO.none _
      | refine LeO.ite ?_ ?_
      | refine LeO.bind ?_ (fun _ => ?_)
set_option maxHeartbeats 8000000 in
set_option maxRecDepth 100000 in
theorem supercargolaw09_PostNames.calls (k : Nat) (a0 : Int) (a1 : ByteArray) (r : Bool) (w : World) (hG : Glob w) (h : supercargolaw09_PostNames.f k a0 a1 = some r) :
    Calls Tryz.prog 3 #[.int .i64 a0, .string a1] w fun e w' => e = .returned (.bool r) ∧ Below w.heap.size w w' := by
  have HGL := Aside0.mk hG
  clear hG
  have HB := Aside0.mk (Below.refl w.heap.size w)
  have H : (if (a1.size : Int) > 100 then ((supercargolaw09_awake.f k).bind fun t178 => (some t178)) else ((supercargoref09_Names.f).bind fun t179 => (if a0 ≥ 0 then (supercargolaw09_PostNames.j0 k a0 a1 t179 (⟨#[]⟩ : ByteArray) (decide (a0 < (t179.length : Int)))) else (supercargolaw09_PostNames.j0 k a0 a1 t179 (⟨#[]⟩ : ByteArray) false)))) = some r := h
  clear h
  by_cases c3 : (a1.size : Int) > 100
  · rw [if_pos c3] at H
    have c3b0 : decide (100 < (a1.size : Int)) = true := decide_eq_true c3
    have c3b1 : decide (100 < a1.size) = true := decide_eq_true (by omega)
    clear c3
    replace H := Option.bind_eq_some_iff.mp H
    obtain ⟨t178, A40, H⟩ := H
    replace H : (some t178) = some r := H
    have A4 := Aside0.mk A40
    clear A40
    obtain rfl := Option.some.inj H
    go_enter Tryz.func3, Tryz.ntmps3
    go_wp2_with (first | ((with_reducible refine gate_callee (f := 9) rfl ?_); refine goesL_ (some 15) rfl rfl Tryz.func9 (by kernel_rfl) rfl #[] rfl (by (try simp only [List.map_toArray, List.map_cons, List.map_nil]); first | done | rfl | (simp only [List.length_drop, List.length_take]; rfl)) ?_; (with_reducible refine (supercargolaw09_awake.calls k  t178 _ ?sideG A4.out).mono ?_); (case sideG => exact glob_below HGL.out (by repeat (first | (with_reducible first | exact HB.out | apply below_alloc | apply pw_below_drewN | apply below_drew1) | exact HB.out))); rintro e w5 ⟨rfl, hb⟩; refine ⟨_, rfl, ?_⟩; have n0_ := Aside0.mk (below_step (by repeat (first | (with_reducible first | exact HB.out | apply below_alloc | apply pw_below_drewN | apply below_drew1) | exact HB.out)) hb); clear HB; have HB := n0_; clear n0_; (try clear hb); (try clear hb2); (try clear hk); (try clear hi)))
    go_ret
    exact ⟨by first | rfl | (simp [errW_none, errW_some] <;> rfl) | (simp [*, errW_none, errW_some] <;> rfl), by repeat (first | (with_reducible first | exact HB.out | apply below_alloc | apply pw_below_drewN | apply below_drew1) | exact HB.out)⟩
  · rw [if_neg c3] at H
    have c3b0 : decide (100 < (a1.size : Int)) = false := decide_eq_false c3
    have c3b1 : decide (100 < a1.size) = false := decide_eq_false (by omega)
    clear c3
    replace H := Option.bind_eq_some_iff.mp H
    obtain ⟨t179, A60, H⟩ := H
    replace H : (if a0 ≥ 0 then (supercargolaw09_PostNames.j0 k a0 a1 t179 (⟨#[]⟩ : ByteArray) (decide (a0 < (t179.length : Int)))) else (supercargolaw09_PostNames.j0 k a0 a1 t179 (⟨#[]⟩ : ByteArray) false)) = some r := H
    have A6 := Aside0.mk A60
    clear A60
    have HC7 := Aside0.mk H
    clear H
    go_enter Tryz.func3, Tryz.ntmps3
    go_upto_region 5 with (first | ((with_reducible refine gate_callee (f := 10) rfl ?_); refine goesL_ (some 16) rfl rfl Tryz.func10 (by kernel_rfl) rfl #[] rfl (by (try simp only [List.map_toArray, List.map_cons, List.map_nil]); first | done | rfl | (simp only [List.length_drop, List.length_take]; rfl)) ?_; (with_reducible refine (supercargoref09_Names.calls  t179 _ A6.out).mono ?_); rintro e w8 ⟨v180, rfl, ho0, hb⟩; refine ⟨_, rfl, ?_⟩; have n0_ := Aside0.mk (Kd.R_lower ho0 (below_size (by repeat (first | (with_reducible first | exact HB.out | apply below_alloc | apply pw_below_drewN | apply below_drew1) | exact HB.out)))); have n1_ := Aside0.mk (below_step (by repeat (first | (with_reducible first | exact HB.out | apply below_alloc | apply pw_below_drewN | apply below_drew1) | exact HB.out)) hb); clear HB; have HO181 := n0_; have HB := n1_; clear n0_ n1_; (try clear hb); (try clear hb2); (try clear hk); (try clear hi); (try clear ho0)))
    (try simp only [Act.put, List.setIfInBounds_toArray, List.set_cons_zero, List.set_cons_succ])
    go_cut [24] (fun v24 wc => ∃ (kq : Nat) (x24_6 : Bool), v24 = .bool x24_6 ∧ Aside0 (supercargolaw09_PostNames.j0 kq a0 a1 t179 (⟨#[]⟩ : ByteArray) x24_6 = some r) ∧ Aside0 (kq ≤ k) ∧ Aside0 (Kd.R Kd.string 9 wc w.heap.size (fun _ => True) v180 t179) ∧ Aside0 (Below w.heap.size w wc))
    case first =>
      have H := HC7.out
      clear HC7
      by_cases c9 : a0 ≥ 0
      · rw [if_pos c9] at H
        have c9b0 : decide (0 ≤ a0) = true := decide_eq_true c9
        clear c9
        (first | rw [c9b0] | (simp only [i64_w, i32_w]; rw [c9b0]) | skip)
        have H' := Aside0.mk H
        clear H
        obtain ⟨Ao10, co10, eo10⟩ := Kd.R_slice HO181.out
        subst eo10
        go_wp2
        go_meet
        case rel => exact ⟨_, (decide (a0 < (t179.length : Int))), (by first | rfl | (simp; done) | (simp [*]; done)), H', ⟨by first | omega | exact Nat.le_refl _⟩, ⟨by (with_reducible repeat (first | apply Kd.R_alloc | apply Kd.R_drewN | apply Kd.R_drew)); exact HO181.out⟩, ⟨by repeat (first | (with_reducible first | exact HB.out | apply below_alloc | apply pw_below_drewN | apply below_drew1) | exact HB.out)⟩⟩
      · rw [if_neg c9] at H
        have c9b0 : decide (0 ≤ a0) = false := decide_eq_false c9
        clear c9
        (first | rw [c9b0] | (simp only [i64_w, i32_w]; rw [c9b0]) | skip)
        have H' := Aside0.mk H
        clear H
        go_wp2
        go_meet
        case rel => exact ⟨_, (false), (by first | rfl | (simp; done) | (simp [*]; done)), H', ⟨by first | omega | exact Nat.le_refl _⟩, ⟨by (with_reducible repeat (first | apply Kd.R_alloc | apply Kd.R_drewN | apply Kd.R_drew)); exact HO181.out⟩, ⟨by repeat (first | (with_reducible first | exact HB.out | apply below_alloc | apply pw_below_drewN | apply below_drew1) | exact HB.out)⟩⟩
    case rest =>
      clear HC7
      try clear c1
      try clear p2
      try clear c3
      try clear c3b0
      try clear c3b1
      try clear c9
      try clear c9b0
      try clear c10
      obtain ⟨kq, x24_6, rfl, HA, HJ6, HO_5, HB⟩ := hcut
      cases kq with
      | zero => exact absurd HA.out (by simp [supercargolaw09_PostNames.j0])
      | succ kj6 =>
        have H := HA.out
        clear HA
        simp only [supercargolaw09_PostNames.j0] at H
        have HC11 := Aside0.mk H
        clear H
        go_upto_if 24 with (fail)
        go_cut [6] (fun v6 wc => ∃ (kq : Nat) (x6_10 : ByteArray), v6 = .string x6_10 ∧ Aside0 (supercargolaw09_PostNames.j1 kq a0 a1 t179 x6_10 = some r) ∧ Aside0 (kq ≤ kj6) ∧ Aside0 (Kd.R Kd.string 9 wc w.heap.size (fun _ => True) v180 t179) ∧ Aside0 (Below w.heap.size w wc))
        case first =>
          have H := HC11.out
          clear HC11
          by_cases c12 : x24_6 = true
          · subst c12
            have H1 : (if 0 ≤ a0 then (if a0 < (t179.length : Int) then (supercargolaw09_PostNames.j1 kj6 a0 a1 t179 (rdOf ByteArray.empty t179 a0)) else (none)) else (none)) = some r := by rw [if_pos rfl] at H; exact H
            clear H
            have H := H1
            clear H1
            by_cases c13 : 0 ≤ a0
            · rw [if_pos c13] at H
              have c13b0 : decide (0 ≤ a0) = true := decide_eq_true c13
              clear c13
              (first | rw [c13b0] | (simp only [i64_w, i32_w]; rw [c13b0]) | skip)
              by_cases c14 : a0 < (t179.length : Int)
              · rw [if_pos c14] at H
                have c14b0 : decide (a0 < (t179.length : Int)) = true := decide_eq_true c14
                clear c14
                have H' := Aside0.mk H
                clear H
                obtain ⟨Ao15, co15, eo15⟩ := Kd.R_slice HO_5.out
                subst eo15
                have p182 : 0 ≤ (a0 : Int) := of_decide_eq_true (by first | (with_reducible assumption) | assumption)
                have q182 : a0 < (t179.length : Int) := of_decide_eq_true (by first | (with_reducible assumption) | assumption)
                obtain ⟨ad182, e182, hx182_0⟩ := Kd.at_string (Kd.R_reads' HO_5.out).2.2 a0 p182 q182
                cases e182
                replace p182 := eq_true p182
                replace q182 := eq_true q182
                go_wp2
                go_meet
                case rel => exact ⟨_, (rdOf ByteArray.empty t179 a0), (by first | rfl | (simp; done) | (simp [*]; done)), H', ⟨by have := HJ6.out; first | omega | exact Nat.le_refl _⟩, ⟨by (with_reducible repeat (first | apply Kd.R_alloc | apply Kd.R_drewN | apply Kd.R_drew)); exact HO_5.out⟩, ⟨by repeat (first | (with_reducible first | exact HB.out | apply below_alloc | apply pw_below_drewN | apply below_drew1) | exact HB.out)⟩⟩
              · rw [if_neg c14] at H
                exact absurd H (by simp)
            · rw [if_neg c13] at H
              exact absurd H (by simp)
          · replace c12 := Bool.eq_false_iff.mpr c12
            subst c12
            have H1 : (supercargolaw09_PostNames.j1 kj6 a0 a1 t179 (⟨#[]⟩ : ByteArray)) = some r := by rw [if_neg (show ¬ (false = true) by decide)] at H; exact H
            clear H
            have H := H1
            clear H1
            have H' := Aside0.mk H
            clear H
            go_wp2
            go_meet
            case rel => exact ⟨_, ((⟨#[]⟩ : ByteArray)), (by first | rfl | (simp; done) | (simp [*]; done)), H', ⟨by have := HJ6.out; first | omega | exact Nat.le_refl _⟩, ⟨by (with_reducible repeat (first | apply Kd.R_alloc | apply Kd.R_drewN | apply Kd.R_drew)); exact HO_5.out⟩, ⟨by repeat (first | (with_reducible first | exact HB.out | apply below_alloc | apply pw_below_drewN | apply below_drew1) | exact HB.out)⟩⟩
        case rest =>
          clear HC11
          try clear c1
          try clear p1
          try clear q1
          try clear hx1
          try clear p2
          try clear c3
          try clear c3b0
          try clear c3b1
          try clear c9
          try clear c9b0
          try clear c10
          try clear c12
          try clear c13
          try clear c13b0
          try clear c14
          try clear c14b0
          try clear hx182_0
          try clear p182
          try clear p2
          try clear q182
          obtain ⟨kq, x6_10, rfl, HA, HJ10, HO_5, HB⟩ := hcut
          cases kq with
          | zero => exact absurd HA.out (by simp [supercargolaw09_PostNames.j1])
          | succ kj10 =>
            have H := HA.out
            clear HA
            simp only [supercargolaw09_PostNames.j1] at H
            replace H := Option.bind_eq_some_iff.mp H
            obtain ⟨⟨t183, t184⟩, A160, H⟩ := H
            replace H : (supercargolaw09_PostNames.l0 kj10 a0 a1 x6_10 t183 t184 (-1) t179 (t179.length : Int) 0) = some r := H
            have A16 := Aside0.mk A160
            clear A160
            have H' := Aside0.mk H
            clear H
            go_wp2_with (first | ((with_reducible refine gate_callee (f := 11) rfl ?_); refine goesL_ (some 31) rfl rfl Tryz.func11 (by kernel_rfl) rfl #[.string a1] rfl (by (try simp only [List.map_toArray, List.map_cons, List.map_nil]); first | done | rfl | (simp only [List.length_drop, List.length_take]; rfl)) ?_; (with_reducible refine (post_Kind.calls kj10 a1 t183 t184 _ ?sideG A16.out).mono ?_); (case sideG => exact glob_below HGL.out (by repeat (first | (with_reducible first | exact HB.out | apply below_alloc | apply pw_below_drewN | apply below_drew1) | exact HB.out))); rintro e w17 ⟨rfl, hb⟩; refine ⟨_, rfl, ?_⟩; have n0_ := Aside0.mk (Kd.R_below (by (with_reducible repeat (first | apply Kd.R_alloc | apply Kd.R_drewN | apply Kd.R_drew)); exact HO_5.out) hb); have n1_ := Aside0.mk (below_step (by repeat (first | (with_reducible first | exact HB.out | apply below_alloc | apply pw_below_drewN | apply below_drew1) | exact HB.out)) hb); clear HO_5; clear HB; have HO_5 := n0_; have HB := n1_; clear n0_ n1_; (try clear hb); (try clear hb2); (try clear hk); (try clear hi); obtain ⟨Ao18, co18, eo18⟩ := Kd.R_slice HO_5.out; subst eo18))
            go_loopg [9, 36] kj10 (fun kq v9 v36 w' => ∃ (x9_3 : Int) (x36_3 : Int), v9 = .int .i64 x9_3 ∧ v36 = .int .i64 x36_3 ∧ Aside0 (supercargolaw09_PostNames.l0 kq a0 a1 x6_10 t183 t184 x9_3 t179 (t179.length : Int) x36_3 = some r) ∧ Aside0 (kq ≤ kj10) ∧ Aside0 (Kd.R Kd.string 9 w' w.heap.size (fun _ => True) (.slice Ao18 t179.length co18) t179) ∧ Aside0 (Below w.heap.size w w'))
            case atStart => exact ⟨((-1)), (0), (by first | rfl | (simp; done) | (simp [*]; done)), (by first | rfl | (simp; done) | (simp [*]; done)), H', ⟨Nat.le_refl _⟩, ⟨by (with_reducible repeat (first | apply Kd.R_alloc | apply Kd.R_drewN | apply Kd.R_drew)); exact HO_5.out⟩, ⟨by repeat (first | (with_reducible first | exact HB.out | apply below_alloc | apply pw_below_drewN | apply below_drew1) | exact HB.out)⟩⟩
            case round =>
              clear H'
              try clear c1
              try clear p1
              try clear q1
              try clear hx1
              try clear p2
              try clear c3
              try clear c3b0
              try clear c3b1
              try clear c9
              try clear c9b0
              try clear c10
              try clear c11
              try clear c12
              try clear c13
              try clear c13b0
              try clear c14
              try clear c14b0
              try clear p18
              try clear q18
              try clear hx18
              try clear hx182_0
              try clear p1
              try clear p182
              try clear p2
              try clear q1
              try clear q182
              obtain ⟨x9_3, x36_3, rfl, rfl, HA, HK3, HO_34, HB⟩ := hrel
              cases gk with
              | zero => exact absurd HA.out (by simp [supercargolaw09_PostNames.l0])
              | succ k3 =>
                have H := HA.out
                clear HA
                simp only [supercargolaw09_PostNames.l0] at H
                by_cases c19 : x36_3 < (t179.length : Int)
                · rw [if_pos c19] at H
                  have c19b0 : decide (x36_3 < (t179.length : Int)) = true := decide_eq_true c19
                  clear c19
                  by_cases c20 : 0 ≤ x36_3
                  · rw [if_pos c20] at H
                    have c20b0 : decide (0 ≤ x36_3) = true := decide_eq_true c20
                    clear c20
                    by_cases c21 : x36_3 < (t179.length : Int)
                    · rw [if_pos c21] at H
                      have c21b0 : decide (x36_3 < (t179.length : Int)) = true := decide_eq_true c21
                      clear c21
                      by_cases c22 : (rdOf ByteArray.empty t179 x36_3).toList = a1.toList
                      · rw [if_pos c22] at H
                        have c22b0 : ((rdOf ByteArray.empty t179 x36_3).toList == a1.toList) = true := beq_iff_eq.mpr c22
                        have c22b1 : ((rdOf ByteArray.empty t179 x36_3).toList != a1.toList) = false := bne_eq_false_iff_eq.mpr c22
                        clear c22
                        have H' := Aside0.mk H
                        clear H
                        have p185 : 0 ≤ (x36_3 : Int) := of_decide_eq_true (by first | (with_reducible assumption) | assumption)
                        have q185 : x36_3 < (t179.length : Int) := of_decide_eq_true (by first | (with_reducible assumption) | assumption)
                        obtain ⟨ad185, e185, hx185_0⟩ := Kd.at_string (Kd.R_reads' HO_34.out).2.2 x36_3 p185 q185
                        cases e185
                        replace p185 := eq_true p185
                        replace q185 := eq_true q185
                        go_wp2
                        go_roundg k3
                        case measure => have := HJ6.out; have := HJ10.out; have := HK3.out; omega
                        case rel => exact ⟨(x36_3), (wrap64 (x36_3 + 1)), (by first | rfl | (simp; done) | (simp [*]; done)), (by first | rfl | (simp; done) | (simp [*]; done)), H', ⟨by have := HJ6.out; have := HJ10.out; have := HK3.out; omega⟩, ⟨by (with_reducible repeat (first | apply Kd.R_alloc | apply Kd.R_drewN | apply Kd.R_drew)); exact HO_34.out⟩, ⟨by repeat (first | (with_reducible first | exact HB.out | apply below_alloc | apply pw_below_drewN | apply below_drew1) | exact HB.out)⟩⟩
                      · rw [if_neg c22] at H
                        have c22b0 : ((rdOf ByteArray.empty t179 x36_3).toList == a1.toList) = false := beq_eq_false_iff_ne.mpr c22
                        have c22b1 : ((rdOf ByteArray.empty t179 x36_3).toList != a1.toList) = true := bne_iff_ne.mpr c22
                        have H' := Aside0.mk H
                        clear H
                        have p185 : 0 ≤ (x36_3 : Int) := of_decide_eq_true (by first | (with_reducible assumption) | assumption)
                        have q185 : x36_3 < (t179.length : Int) := of_decide_eq_true (by first | (with_reducible assumption) | assumption)
                        obtain ⟨ad185, e185, hx185_0⟩ := Kd.at_string (Kd.R_reads' HO_34.out).2.2 x36_3 p185 q185
                        cases e185
                        replace p185 := eq_true p185
                        replace q185 := eq_true q185
                        go_wp2
                        go_roundg k3
                        case measure => have := HJ6.out; have := HJ10.out; have := HK3.out; omega
                        case rel => exact ⟨(x9_3), (wrap64 (x36_3 + 1)), (by first | rfl | (simp; done) | (simp [*]; done)), (by first | rfl | (simp; done) | (simp [*]; done)), H', ⟨by have := HJ6.out; have := HJ10.out; have := HK3.out; omega⟩, ⟨by (with_reducible repeat (first | apply Kd.R_alloc | apply Kd.R_drewN | apply Kd.R_drew)); exact HO_34.out⟩, ⟨by repeat (first | (with_reducible first | exact HB.out | apply below_alloc | apply pw_below_drewN | apply below_drew1) | exact HB.out)⟩⟩
                    · rw [if_neg c21] at H
                      exact absurd H (by simp)
                  · rw [if_neg c20] at H
                    exact absurd H (by simp)
                · rw [if_neg c19] at H
                  have c19b0 : decide (x36_3 < (t179.length : Int)) = false := decide_eq_false c19
                  clear c19
                  replace H := Option.bind_eq_some_iff.mp H
                  obtain ⟨t186, A230, H⟩ := H
                  replace H : (if t186.toList = x6_10.toList then (if (t184 == (decide (x9_3 ≥ 0))) = true then (if t183 = (mx x9_3 0) then ((supercargolaw09_awake.f k3).bind fun t187 => (some t187)) else (some false)) else (some false)) else (some false)) = some r := H
                  have A23 := Aside0.mk A230
                  clear A230
                  by_cases c24 : t186.toList = x6_10.toList
                  · rw [if_pos c24] at H
                    have c24b0 : (t186.toList == x6_10.toList) = true := beq_iff_eq.mpr c24
                    have c24b1 : (t186.toList != x6_10.toList) = false := bne_eq_false_iff_eq.mpr c24
                    clear c24
                    by_cases c25 : (t184 == (decide (x9_3 ≥ 0))) = true
                    · rw [if_pos c25] at H
                      have c25b0 : (t184 == (decide (x9_3 ≥ 0))) = true := c25
                      (try (have c25b1 : decide (t184 = (decide (x9_3 ≥ 0))) = true := by simpa using c25))
                      (try (have c25b2 : (t184 == (decide (x9_3 ≥ 0))) = true := by simpa using c25))
                      clear c25
                      obtain ⟨ji26, hji26⟩ : ∃ j_ : Int, (mx x9_3 0) = j_ := ⟨_, rfl⟩
                      replace H : (if t183 = (ji26) then ((supercargolaw09_awake.f k3).bind fun t187 => (some t187)) else (some false)) = some r := by first | (rw [hji26] at H; exact H) | (simp only [hji26] at H ⊢; exact H)
                      (try rw [hji26] at A23)
                      have hji26_ : (if x9_3 < 0 then 0 else x9_3) = ji26 := hji26
                      by_cases c27 : t183 = (ji26)
                      · rw [if_pos c27] at H
                        have c27b0 : (t183 == (ji26)) = true := beq_iff_eq.mpr c27
                        have c27b1 : (t183 != (ji26)) = false := bne_eq_false_iff_eq.mpr c27
                        clear c27
                        replace H := Option.bind_eq_some_iff.mp H
                        obtain ⟨t187, A280, H⟩ := H
                        replace H : (some t187) = some r := H
                        have A28 := Aside0.mk A280
                        clear A280
                        obtain rfl := Option.some.inj H
                        go_wp2_with (first | ((with_reducible refine gate_callee (f := 12) rfl ?_); refine goesL_ (some 47) rfl rfl Tryz.func12 (by kernel_rfl) rfl #[.int .i64 a0] rfl (by (try simp only [List.map_toArray, List.map_cons, List.map_nil]); first | done | rfl | (simp only [List.length_drop, List.length_take]; rfl)) ?_; (with_reducible refine (post_Name.calls a0 t186 _ ?sideG A23.out).mono ?_); (case sideG => exact glob_below HGL.out (by repeat (first | (with_reducible first | exact HB.out | apply below_alloc | apply pw_below_drewN | apply below_drew1) | exact HB.out))); rintro e w29 ⟨rfl, hb⟩; refine ⟨_, rfl, ?_⟩; have n0_ := Aside0.mk (Kd.R_below (by (with_reducible repeat (first | apply Kd.R_alloc | apply Kd.R_drewN | apply Kd.R_drew)); exact HO_34.out) hb); have n1_ := Aside0.mk (below_step (by repeat (first | (with_reducible first | exact HB.out | apply below_alloc | apply pw_below_drewN | apply below_drew1) | exact HB.out)) hb); clear HO_34; clear HB; have HO_34 := n0_; have HB := n1_; clear n0_ n1_; (try clear hb); (try clear hb2); (try clear hk); (try clear hi)) | (go_at_call 9; (with_reducible refine (supercargolaw09_awake.calls k3  t187 _ ?sideG A28.out).mono ?_); (case sideG => exact glob_below HGL.out (by repeat (first | (with_reducible first | exact HB.out | apply below_alloc | apply pw_below_drewN | apply below_drew1) | exact HB.out))); rintro e w30 ⟨rfl, hb⟩; have n0_ := Aside0.mk (Kd.R_below (by (with_reducible repeat (first | apply Kd.R_alloc | apply Kd.R_drewN | apply Kd.R_drew)); exact HO_34.out) hb); have n1_ := Aside0.mk (below_step (by repeat (first | (with_reducible first | exact HB.out | apply below_alloc | apply pw_below_drewN | apply below_drew1) | exact HB.out)) hb); clear HO_34; clear HB; have HO_34 := n0_; have HB := n1_; clear n0_ n1_; (try clear hb); (try clear hb2); (try clear hk); (try clear hi)))
                        go_ret
                        exact ⟨by first | rfl | (simp [errW_none, errW_some] <;> rfl) | (simp only [← hji26]; first | rfl | (simp [errW_none, errW_some] <;> rfl)) | (simp [*, errW_none, errW_some] <;> rfl), by repeat (first | (with_reducible first | exact HB.out | apply below_alloc | apply pw_below_drewN | apply below_drew1) | exact HB.out)⟩
                      · rw [if_neg c27] at H
                        have c27b0 : (t183 == (ji26)) = false := beq_eq_false_iff_ne.mpr c27
                        have c27b1 : (t183 != (ji26)) = true := bne_iff_ne.mpr c27
                        obtain rfl := Option.some.inj H
                        go_wp2_with (first | ((with_reducible refine gate_callee (f := 12) rfl ?_); refine goesL_ (some 47) rfl rfl Tryz.func12 (by kernel_rfl) rfl #[.int .i64 a0] rfl (by (try simp only [List.map_toArray, List.map_cons, List.map_nil]); first | done | rfl | (simp only [List.length_drop, List.length_take]; rfl)) ?_; (with_reducible refine (post_Name.calls a0 t186 _ ?sideG A23.out).mono ?_); (case sideG => exact glob_below HGL.out (by repeat (first | (with_reducible first | exact HB.out | apply below_alloc | apply pw_below_drewN | apply below_drew1) | exact HB.out))); rintro e w31 ⟨rfl, hb⟩; refine ⟨_, rfl, ?_⟩; have n0_ := Aside0.mk (Kd.R_below (by (with_reducible repeat (first | apply Kd.R_alloc | apply Kd.R_drewN | apply Kd.R_drew)); exact HO_34.out) hb); have n1_ := Aside0.mk (below_step (by repeat (first | (with_reducible first | exact HB.out | apply below_alloc | apply pw_below_drewN | apply below_drew1) | exact HB.out)) hb); clear HO_34; clear HB; have HO_34 := n0_; have HB := n1_; clear n0_ n1_; (try clear hb); (try clear hb2); (try clear hk); (try clear hi)))
                        go_ret
                        exact ⟨by first | rfl | (simp [errW_none, errW_some] <;> rfl) | (simp only [← hji26]; first | rfl | (simp [errW_none, errW_some] <;> rfl)) | (simp [*, errW_none, errW_some] <;> rfl), by repeat (first | (with_reducible first | exact HB.out | apply below_alloc | apply pw_below_drewN | apply below_drew1) | exact HB.out)⟩
                    · rw [if_neg c25] at H
                      have c25b0 : (t184 == (decide (x9_3 ≥ 0))) = false := by simpa using c25
                      (try (have c25b1 : decide (t184 = (decide (x9_3 ≥ 0))) = false := by simpa using c25))
                      (try (have c25b2 : (t184 == (decide (x9_3 ≥ 0))) = false := by simpa using c25))
                      (try (have c25b3 : ¬ (t184 = (decide (x9_3 ≥ 0))) := by simpa using c25))
                      clear c25
                      obtain rfl := Option.some.inj H
                      go_wp2_with (first | ((with_reducible refine gate_callee (f := 12) rfl ?_); refine goesL_ (some 47) rfl rfl Tryz.func12 (by kernel_rfl) rfl #[.int .i64 a0] rfl (by (try simp only [List.map_toArray, List.map_cons, List.map_nil]); first | done | rfl | (simp only [List.length_drop, List.length_take]; rfl)) ?_; (with_reducible refine (post_Name.calls a0 t186 _ ?sideG A23.out).mono ?_); (case sideG => exact glob_below HGL.out (by repeat (first | (with_reducible first | exact HB.out | apply below_alloc | apply pw_below_drewN | apply below_drew1) | exact HB.out))); rintro e w32 ⟨rfl, hb⟩; refine ⟨_, rfl, ?_⟩; have n0_ := Aside0.mk (Kd.R_below (by (with_reducible repeat (first | apply Kd.R_alloc | apply Kd.R_drewN | apply Kd.R_drew)); exact HO_34.out) hb); have n1_ := Aside0.mk (below_step (by repeat (first | (with_reducible first | exact HB.out | apply below_alloc | apply pw_below_drewN | apply below_drew1) | exact HB.out)) hb); clear HO_34; clear HB; have HO_34 := n0_; have HB := n1_; clear n0_ n1_; (try clear hb); (try clear hb2); (try clear hk); (try clear hi)))
                      go_ret
                      exact ⟨by first | rfl | (simp [errW_none, errW_some] <;> rfl) | (simp [*, errW_none, errW_some] <;> rfl), by repeat (first | (with_reducible first | exact HB.out | apply below_alloc | apply pw_below_drewN | apply below_drew1) | exact HB.out)⟩
                  · rw [if_neg c24] at H
                    have c24b0 : (t186.toList == x6_10.toList) = false := beq_eq_false_iff_ne.mpr c24
                    have c24b1 : (t186.toList != x6_10.toList) = true := bne_iff_ne.mpr c24
                    obtain rfl := Option.some.inj H
                    go_wp2_with (first | ((with_reducible refine gate_callee (f := 12) rfl ?_); refine goesL_ (some 47) rfl rfl Tryz.func12 (by kernel_rfl) rfl #[.int .i64 a0] rfl (by (try simp only [List.map_toArray, List.map_cons, List.map_nil]); first | done | rfl | (simp only [List.length_drop, List.length_take]; rfl)) ?_; (with_reducible refine (post_Name.calls a0 t186 _ ?sideG A23.out).mono ?_); (case sideG => exact glob_below HGL.out (by repeat (first | (with_reducible first | exact HB.out | apply below_alloc | apply pw_below_drewN | apply below_drew1) | exact HB.out))); rintro e w33 ⟨rfl, hb⟩; refine ⟨_, rfl, ?_⟩; have n0_ := Aside0.mk (Kd.R_below (by (with_reducible repeat (first | apply Kd.R_alloc | apply Kd.R_drewN | apply Kd.R_drew)); exact HO_34.out) hb); have n1_ := Aside0.mk (below_step (by repeat (first | (with_reducible first | exact HB.out | apply below_alloc | apply pw_below_drewN | apply below_drew1) | exact HB.out)) hb); clear HO_34; clear HB; have HO_34 := n0_; have HB := n1_; clear n0_ n1_; (try clear hb); (try clear hb2); (try clear hk); (try clear hi)))
                    go_ret
                    exact ⟨by first | rfl | (simp [errW_none, errW_some] <;> rfl) | (simp [*, errW_none, errW_some] <;> rfl), by repeat (first | (with_reducible first | exact HB.out | apply below_alloc | apply pw_below_drewN | apply below_drew1) | exact HB.out)⟩

/-- THE ONE PURE STATEMENT of supercargolaw09_PostNames: yours. -/
def supercargolaw09_PostNames.Pure : Prop := ∀ (a0 : Int) (a1 : ByteArray), (Lit.int .i64 a0).wf = true → a1.size ≤ 140737488351232 → ∃ k, supercargolaw09_PostNames.f k a0 a1 = some true
theorem supercargolaw09_PostNames.walk (P : supercargolaw09_PostNames.Pure) (a0 : Int) (a1 : ByteArray) (w : World) (hG : Glob w) (w0 : (Lit.int .i64 a0).wf = true) (w1 : a1.size ≤ 140737488351232) :
    Calls Tryz.prog 3 #[.int .i64 a0, .string a1] w fun e w' => e = .returned (.bool true) ∧ Below w.heap.size w w' := by
  obtain ⟨k, h⟩ := P a0 a1 w0 w1
  refine (supercargolaw09_PostNames.calls k a0 a1 true w hG h).mono ?_
  rintro e w' ⟨rfl, hd⟩
  exact ⟨rfl, hd⟩

end Go.Proofs.YtkblmomfiimkiaaGreatDoor.P
end
