/- What the claim's theorem leans on. Conditions: none of its own. (Written by prune.py out of the texts Px41 Txt1 Px42 Dig5 LastM Px43, without what the claim doesn't lean on.) -/
import Derived.Test.YtkblmomfiimkiaaGreatDoorM2
import Derived.Test.YtkblmomfiimkiaaGreatDoorM6
import Derived.Test.YtkblmomfiimkiaaGreatDoorM16
import Derived.Test.YtkblmomfiimkiaaGreatDoorM17
import Derived.Test.YtkblmomfiimkiaaGreatDoorM20
section
namespace Go.Proofs.YtkblmomfiimkiaaGreatDoor.P
open Go.RowKit Go.Proofs.YtkblmomfiimkiaaGreatDoorW.PrintWords Go.Proofs.YtkblmomfiimkiaaGreatDoorW.PrintLast Go.Proofs.YtkblmomfiimkiaaGreatDoorW.PrintMore
attribute [local go_sem] max2_int min2_int max_two min_two max_three min_three max_four min_four   -- for this text's walks alone
set_option linter.unusedVariables false
set_option linter.unusedSimpArgs false
mutual
def supercargoref01_Text.j0 : Nat → Int → ByteArray → ByteArray → Int → Option (ByteArray)
 | 0, _, _, _, _ => none
 | k + 1, x3, x4, x269000, x269001 => (supercargoref01_Digits.f k x269000).bind fun t270 => (supercargoref01_Text.l0 k x3 x4 t270 1 0)
def supercargoref01_Text.l0 : Nat → Int → ByteArray → Int → Int → Int → Option (ByteArray)
 | 0, _, _, _, _, _ => none
 | k + 1, x3, x4, x5, x6, x7 => if x7 < x5 then (supercargoref01_Text.l0 k x3 x4 x5 (wrap64 (10 * x6)) (wrap64 (x7 + 1))) else (if x6 = 0 then (none) else ((supercargoref01_whole.f k (wrap64 (Int.tdiv x3 x6)) 1).bind fun t271 => (if x4.size + t271.size ≤ 9223372036854775807 then (if x5 > 0 then ((supercargoref01_whole.f k (Int.tmod x3 x6) x5).bind fun t272 => (if 1 + t272.size ≤ 9223372036854775807 then (if (x4 ++ t271).size + ((⟨#[46]⟩ : ByteArray) ++ t272).size ≤ 9223372036854775807 then (some ((x4 ++ t271) ++ ((⟨#[46]⟩ : ByteArray) ++ t272))) else (none)) else (none))) else (some (x4 ++ t271))) else (none))))
end
def supercargoref01_Text.f (k : Nat) (a0_0 : ByteArray) (a0_1 : Int) : Option (ByteArray) := (supercargoref01_May.f k a0_0 a0_1).bind fun t269 => (if t269 = true then (if a0_0.size + 1 ≤ 9223372036854775807 then (if a0_1 < 0 then (if (a0_0 ++ (⟨#[32]⟩ : ByteArray)).size + 1 ≤ 9223372036854775807 then (supercargoref01_Text.j0 k (wrap64 (-a0_1)) ((a0_0 ++ (⟨#[32]⟩ : ByteArray)) ++ (⟨#[45]⟩ : ByteArray)) a0_0 a0_1) else (none)) else (supercargoref01_Text.j0 k a0_1 (a0_0 ++ (⟨#[32]⟩ : ByteArray)) a0_0 a0_1)) else (none)) else (some (⟨#[]⟩ : ByteArray)))
theorem supercargoref01_Text.mono_l : ∀ k, (∀ y0 y1 y2 y3, LeO (supercargoref01_Text.j0 k y0 y1 y2 y3) (supercargoref01_Text.j0 (k + 1) y0 y1 y2 y3)) ∧ (∀ y0 y1 y2 y3 y4, LeO (supercargoref01_Text.l0 k y0 y1 y2 y3 y4) (supercargoref01_Text.l0 (k + 1) y0 y1 y2 y3 y4))
 | 0 => ⟨fun _ _ _ _ r h => by simp [supercargoref01_Text.j0] at h, fun _ _ _ _ _ r h => by simp [supercargoref01_Text.l0] at h⟩
 | k + 1 => by
  obtain ⟨ih0, ih1⟩ := supercargoref01_Text.mono_l k
  refine ⟨?_, ?_⟩
  ·
   intro y0 y1 y2 y3
   unfold supercargoref01_Text.j0
   repeat' first
   | (with_reducible exact ih0 _ _ _ _)
   | (with_reducible exact ih1 _ _ _ _ _)
   | (with_reducible exact supercargoref01_Digits.mono _ _)
   | (with_reducible exact supercargoref01_May.mono _ _ _)
   | (with_reducible exact supercargoref01_whole.mono _ _ _)
   | (with_reducible exact LeO.refl _)
   | (with_reducible exact LeO.none _)
   | (with_reducible refine LeO.ite ?_ ?_)
   | (with_reducible refine LeO.bind ?_ (fun _ => ?_))
   | exact ih0 _ _ _ _
   | exact ih1 _ _ _ _ _
   | exact supercargoref01_Digits.mono _ _
   | exact supercargoref01_May.mono _ _ _
   | exact supercargoref01_whole.mono _ _ _
   | exact LeO.none _
   | refine LeO.ite ?_ ?_
   | refine LeO.bind ?_ (fun _ => ?_)
  ·
   intro y0 y1 y2 y3 y4
   unfold supercargoref01_Text.l0
   repeat' first
   | (with_reducible exact ih0 _ _ _ _)
   | (with_reducible exact ih1 _ _ _ _ _)
   | (with_reducible exact supercargoref01_Digits.mono _ _)
   | (with_reducible exact supercargoref01_May.mono _ _ _)
   | (with_reducible exact supercargoref01_whole.mono _ _ _)
   | (with_reducible exact LeO.refl _)
   | (with_reducible exact LeO.none _)
   | (with_reducible refine LeO.ite ?_ ?_)
   | (with_reducible refine LeO.bind ?_ (fun _ => ?_))
   | exact ih0 _ _ _ _
   | exact ih1 _ _ _ _ _
   | exact supercargoref01_Digits.mono _ _
   | exact supercargoref01_May.mono _ _ _
   | exact supercargoref01_whole.mono _ _ _
   | exact LeO.none _
   | refine LeO.ite ?_ ?_
   | refine LeO.bind ?_ (fun _ => ?_)
theorem supercargoref01_Text.mono : ∀ a0 a1 k, LeO (supercargoref01_Text.f k a0 a1) (supercargoref01_Text.f (k + 1) a0 a1) := by
 intro a0 a1 k
 obtain ⟨ih0, ih1⟩ := supercargoref01_Text.mono_l k
 unfold supercargoref01_Text.f
 repeat' first
   | (with_reducible exact ih0 _ _ _ _)
   | (with_reducible exact ih1 _ _ _ _ _)
   | (with_reducible exact supercargoref01_Digits.mono _ _)
   | (with_reducible exact supercargoref01_May.mono _ _ _)
   | (with_reducible exact supercargoref01_whole.mono _ _ _)
   | (with_reducible exact LeO.refl _)
   | (with_reducible exact LeO.none _)
   | (with_reducible refine LeO.ite ?_ ?_)
   | (with_reducible refine LeO.bind ?_ (fun _ => ?_))
   | exact ih0 _ _ _ _
   | exact ih1 _ _ _ _ _
   | exact supercargoref01_Digits.mono _ _
   | exact supercargoref01_May.mono _ _ _
   | exact supercargoref01_whole.mono _ _ _
   | exact LeO.none _
   | refine LeO.ite ?_ ?_
   | refine LeO.bind ?_ (fun _ => ?_)
set_option maxHeartbeats 8000000 in
set_option maxRecDepth 100000 in
theorem supercargoref01_Text.calls (k : Nat) (a0_0 : ByteArray) (a0_1 : Int) (r : ByteArray) (w : World) (h : supercargoref01_Text.f k a0_0 a0_1 = some r) :
  Calls Tryz.prog 52 #[.agg #[.string a0_0, .int .i64 a0_1]] w fun e w' => e = .returned (.string r) ∧ Below w.heap.size w w' := by
 have hu30 := Tryz.underlying30
 have HB := Aside0.mk (Below.refl w.heap.size w)
 have H : ((supercargoref01_May.f k a0_0 a0_1).bind fun t269 => (if t269 = true then (if a0_0.size + 1 ≤ 9223372036854775807 then (if a0_1 < 0 then (if (a0_0 ++ (⟨#[32]⟩ : ByteArray)).size + 1 ≤ 9223372036854775807 then (supercargoref01_Text.j0 k (wrap64 (-a0_1)) ((a0_0 ++ (⟨#[32]⟩ : ByteArray)) ++ (⟨#[45]⟩ : ByteArray)) a0_0 a0_1) else (none)) else (supercargoref01_Text.j0 k a0_1 (a0_0 ++ (⟨#[32]⟩ : ByteArray)) a0_0 a0_1)) else (none)) else (some (⟨#[]⟩ : ByteArray)))) = some r := h
 clear h
 replace H := Option.bind_eq_some_iff.mp H
 obtain ⟨t269, A20, H⟩ := H
 replace H : (if t269 = true then (if a0_0.size + 1 ≤ 9223372036854775807 then (if a0_1 < 0 then (if (a0_0 ++ (⟨#[32]⟩ : ByteArray)).size + 1 ≤ 9223372036854775807 then (supercargoref01_Text.j0 k (wrap64 (-a0_1)) ((a0_0 ++ (⟨#[32]⟩ : ByteArray)) ++ (⟨#[45]⟩ : ByteArray)) a0_0 a0_1) else (none)) else (supercargoref01_Text.j0 k a0_1 (a0_0 ++ (⟨#[32]⟩ : ByteArray)) a0_0 a0_1)) else (none)) else (some (⟨#[]⟩ : ByteArray))) = some r := H
 have A2 := Aside0.mk A20
 clear A20
 by_cases c3 : t269 = true
 ·
  subst c3
  have H1 : (if a0_0.size + 1 ≤ 9223372036854775807 then (if a0_1 < 0 then (if (a0_0 ++ (⟨#[32]⟩ : ByteArray)).size + 1 ≤ 9223372036854775807 then (supercargoref01_Text.j0 k (wrap64 (-a0_1)) ((a0_0 ++ (⟨#[32]⟩ : ByteArray)) ++ (⟨#[45]⟩ : ByteArray)) a0_0 a0_1) else (none)) else (supercargoref01_Text.j0 k a0_1 (a0_0 ++ (⟨#[32]⟩ : ByteArray)) a0_0 a0_1)) else (none)) = some r := by rw [if_pos rfl] at H; exact H
  clear H
  have H := H1
  clear H1
  by_cases c4 : a0_0.size + 1 ≤ 9223372036854775807
  ·
   rw [if_pos c4] at H
   have c4b0 := eq_true c4
   have c4b1 : decide (a0_0.size + 1 ≤ 9223372036854775807) = true := decide_eq_true c4
   try have c4b2 : (9223372036854775807 < a0_0.size + 1) = False := eq_false (Nat.not_lt.2 c4)
   have HC5 := Aside0.mk H
   clear H
   go_enter Tryz.func52, Tryz.ntmps52
   go_upto_if 17 with (first | ((with_reducible refine gate_dst (N := 1) rfl ?_); refine box_event ?hg (N := 1) ?hd (cs := #[.string a0_0, .int .i64 a0_1]) (t := 30) ?hr ?_; (case hd => rfl); (case hg => rfl); (case hr => first | (go_simp; done) | (go_simp; rfl)); intro gb268 hg w6 hbox hb; have n0_ := Aside0.mk (below_step (by repeat (first | (with_reducible first | exact HB.out | apply below_alloc | apply pw_below_drewN | apply below_drew1) | exact HB.out)) hb); have n1_ := Aside0.mk (hbox); have n2_ := Aside0.mk ((by rw [hg]; exact (below_size (by repeat (first | (with_reducible first | exact HB.out | apply below_alloc | apply pw_below_drewN | apply below_drew1) | exact HB.out))) : w.heap.size ≤ gb268)); have n3_ := Aside0.mk ((by rw [hg]; exact (below_size (by repeat (first | (with_reducible first | exact HB.out | apply below_alloc | apply pw_below_drewN | apply below_drew1) | exact HB.out))) : w.heap.size ≤ gb268)); clear HB; have HB := n0_; have BK268 := n1_; have GW268 := n2_; have GE268 := n3_; clear n0_ n1_ n2_ n3_; clear hb hbox hg; have hcz7_0 : w6.cell? ⟨gb268, 0, none⟩ = some (.string a0_0) := (blk_cell BK268.out 0).trans rfl; have hcz7_1 : w6.cell? ⟨gb268, 1, none⟩ = some (.int .i64 a0_1) := (blk_cell BK268.out 1).trans rfl; have hfz7_0 := blk_frozen BK268.out 0; have hfz7_1 := blk_frozen BK268.out 1) | (go_at_call 48; (with_reducible refine (supercargoref01_May.calls k a0_0 a0_1 true _ A2.out).mono ?_); rintro e w8 ⟨rfl, hb⟩; have n0_ := Aside0.mk (blk_below (g := gb268) (o := .cells #[.string a0_0, .int .i64 a0_1] 30 (0, 0)) (by (with_reducible repeat (first | refine blk_drewN ?_ _ | refine blk_drew ?_ | refine blk_alloc ?_ _)); exact BK268.out) hb); have n1_ := Aside0.mk (below_step (by repeat (first | (with_reducible first | exact HB.out | apply below_alloc | apply pw_below_drewN | apply below_drew1 | refine below_set ?_ GE268.out) | exact HB.out)) hb); clear BK268; clear HB; have BK268 := n0_; have HB := n1_; clear n0_ n1_; (try clear hb); (try clear hb2); (try clear hk); (try clear hi); have hcz9_0 : w8.cell? ⟨gb268, 0, none⟩ = some (.string a0_0) := (blk_cell BK268.out 0).trans rfl; have hcz9_1 : w8.cell? ⟨gb268, 1, none⟩ = some (.int .i64 a0_1) := (blk_cell BK268.out 1).trans rfl; have hfz9_0 := blk_frozen BK268.out 0; have hfz9_1 := blk_frozen BK268.out 1))
   repeat (go_quiet (first | ((with_reducible refine gate_dst (N := 1) rfl ?_); refine box_event ?hg (N := 1) ?hd (cs := #[.string a0_0, .int .i64 a0_1]) (t := 30) ?hr ?_; (case hd => rfl); (case hg => rfl); (case hr => first | (go_simp; done) | (go_simp; rfl)); intro gb268 hg w6 hbox hb; have n0_ := Aside0.mk (below_step (by repeat (first | (with_reducible first | exact HB.out | apply below_alloc | apply pw_below_drewN | apply below_drew1) | exact HB.out)) hb); have n1_ := Aside0.mk (hbox); have n2_ := Aside0.mk ((by rw [hg]; exact (below_size (by repeat (first | (with_reducible first | exact HB.out | apply below_alloc | apply pw_below_drewN | apply below_drew1) | exact HB.out))) : w.heap.size ≤ gb268)); have n3_ := Aside0.mk ((by rw [hg]; exact (below_size (by repeat (first | (with_reducible first | exact HB.out | apply below_alloc | apply pw_below_drewN | apply below_drew1) | exact HB.out))) : w.heap.size ≤ gb268)); clear HB; have HB := n0_; have BK268 := n1_; have GW268 := n2_; have GE268 := n3_; clear n0_ n1_ n2_ n3_; clear hb hbox hg; have hcz7_0 : w6.cell? ⟨gb268, 0, none⟩ = some (.string a0_0) := (blk_cell BK268.out 0).trans rfl; have hcz7_1 : w6.cell? ⟨gb268, 1, none⟩ = some (.int .i64 a0_1) := (blk_cell BK268.out 1).trans rfl; have hfz7_0 := blk_frozen BK268.out 0; have hfz7_1 := blk_frozen BK268.out 1) | (go_at_call 48; (with_reducible refine (supercargoref01_May.calls k a0_0 a0_1 true _ A2.out).mono ?_); rintro e w8 ⟨rfl, hb⟩; have n0_ := Aside0.mk (blk_below (g := gb268) (o := .cells #[.string a0_0, .int .i64 a0_1] 30 (0, 0)) (by (with_reducible repeat (first | refine blk_drewN ?_ _ | refine blk_drew ?_ | refine blk_alloc ?_ _)); exact BK268.out) hb); have n1_ := Aside0.mk (below_step (by repeat (first | (with_reducible first | exact HB.out | apply below_alloc | apply pw_below_drewN | apply below_drew1 | refine below_set ?_ GE268.out) | exact HB.out)) hb); clear BK268; clear HB; have BK268 := n0_; have HB := n1_; clear n0_ n1_; (try clear hb); (try clear hb2); (try clear hk); (try clear hi); have hcz9_0 : w8.cell? ⟨gb268, 0, none⟩ = some (.string a0_0) := (blk_cell BK268.out 0).trans rfl; have hcz9_1 : w8.cell? ⟨gb268, 1, none⟩ = some (.int .i64 a0_1) := (blk_cell BK268.out 1).trans rfl; have hfz9_0 := blk_frozen BK268.out 0; have hfz9_1 := blk_frozen BK268.out 1)); go_upto_if 17 with (first | ((with_reducible refine gate_dst (N := 1) rfl ?_); refine box_event ?hg (N := 1) ?hd (cs := #[.string a0_0, .int .i64 a0_1]) (t := 30) ?hr ?_; (case hd => rfl); (case hg => rfl); (case hr => first | (go_simp; done) | (go_simp; rfl)); intro gb268 hg w6 hbox hb; have n0_ := Aside0.mk (below_step (by repeat (first | (with_reducible first | exact HB.out | apply below_alloc | apply pw_below_drewN | apply below_drew1) | exact HB.out)) hb); have n1_ := Aside0.mk (hbox); have n2_ := Aside0.mk ((by rw [hg]; exact (below_size (by repeat (first | (with_reducible first | exact HB.out | apply below_alloc | apply pw_below_drewN | apply below_drew1) | exact HB.out))) : w.heap.size ≤ gb268)); have n3_ := Aside0.mk ((by rw [hg]; exact (below_size (by repeat (first | (with_reducible first | exact HB.out | apply below_alloc | apply pw_below_drewN | apply below_drew1) | exact HB.out))) : w.heap.size ≤ gb268)); clear HB; have HB := n0_; have BK268 := n1_; have GW268 := n2_; have GE268 := n3_; clear n0_ n1_ n2_ n3_; clear hb hbox hg; have hcz7_0 : w6.cell? ⟨gb268, 0, none⟩ = some (.string a0_0) := (blk_cell BK268.out 0).trans rfl; have hcz7_1 : w6.cell? ⟨gb268, 1, none⟩ = some (.int .i64 a0_1) := (blk_cell BK268.out 1).trans rfl; have hfz7_0 := blk_frozen BK268.out 0; have hfz7_1 := blk_frozen BK268.out 1) | (go_at_call 48; (with_reducible refine (supercargoref01_May.calls k a0_0 a0_1 true _ A2.out).mono ?_); rintro e w8 ⟨rfl, hb⟩; have n0_ := Aside0.mk (blk_below (g := gb268) (o := .cells #[.string a0_0, .int .i64 a0_1] 30 (0, 0)) (by (with_reducible repeat (first | refine blk_drewN ?_ _ | refine blk_drew ?_ | refine blk_alloc ?_ _)); exact BK268.out) hb); have n1_ := Aside0.mk (below_step (by repeat (first | (with_reducible first | exact HB.out | apply below_alloc | apply pw_below_drewN | apply below_drew1 | refine below_set ?_ GE268.out) | exact HB.out)) hb); clear BK268; clear HB; have BK268 := n0_; have HB := n1_; clear n0_ n1_; (try clear hb); (try clear hb2); (try clear hk); (try clear hi); have hcz9_0 : w8.cell? ⟨gb268, 0, none⟩ = some (.string a0_0) := (blk_cell BK268.out 0).trans rfl; have hcz9_1 : w8.cell? ⟨gb268, 1, none⟩ = some (.int .i64 a0_1) := (blk_cell BK268.out 1).trans rfl; have hfz9_0 := blk_frozen BK268.out 0; have hfz9_1 := blk_frozen BK268.out 1)))
   (try simp only [Act.put, List.setIfInBounds_toArray, List.set_cons_zero, List.set_cons_succ])
   go_cut [3, 4] (fun v3 v4 wc => ∃ (kq : Nat) (x3_4 : Int) (x4_4 : ByteArray), v3 = .int .i64 x3_4 ∧ v4 = .string x4_4 ∧ Aside0 (supercargoref01_Text.j0 kq x3_4 x4_4 a0_0 a0_1 = some r) ∧ Aside0 (kq ≤ k) ∧ Aside0 (wc.heap[gb268]? = some (.cells #[.string a0_0, .int .i64 a0_1] 30 (0, 0))) ∧ Aside0 (Below w.heap.size w wc))
   case first =>
    have H := HC5.out
    clear HC5
    by_cases c10 : a0_1 < 0
    ·
     rw [if_pos c10] at H
     have c10b0 : decide (a0_1 < 0) = true := decide_eq_true c10
     clear c10
     (first | rw [c10b0] | (simp only [i64_w, i32_w]; rw [c10b0]) | skip)
     by_cases c11 : (a0_0 ++ (⟨#[32]⟩ : ByteArray)).size + 1 ≤ 9223372036854775807
     ·
      rw [if_pos c11] at H
      have c11b0 := eq_true c11
      have c11s : ¬ (9223372036854775807 < a0_0.size + 1 + 1) := by have q := c11; rw [ByteArray.size_append] at q; exact Nat.not_lt.2 q
      have c11b1 : decide ((a0_0 ++ (⟨#[32]⟩ : ByteArray)).size + 1 ≤ 9223372036854775807) = true := decide_eq_true c11
      try have c11b2 : (9223372036854775807 < (a0_0 ++ (⟨#[32]⟩ : ByteArray)).size + 1) = False := eq_false (Nat.not_lt.2 c11)
      have H' := Aside0.mk H
      clear H
      go_wp2
      repeat (go_quiet (fail); try go_wp2)
      go_meet
      case rel => exact ⟨_, (wrap64 (-a0_1)), ((a0_0 ++ (⟨#[32]⟩ : ByteArray)) ++ (⟨#[45]⟩ : ByteArray)), (by first | rfl | (simp; done) | (simp [*]; done)), (by first | rfl | (simp; done) | (simp [*]; done)), H', ⟨by first | omega | exact Nat.le_refl _⟩, ⟨by (with_reducible repeat (first | refine blk_drewN ?_ _ | refine blk_drew ?_ | refine blk_alloc ?_ _)); exact BK268.out⟩, ⟨by repeat (first | (with_reducible first | exact HB.out | apply below_alloc | apply pw_below_drewN | apply below_drew1 | refine below_set ?_ GE268.out) | exact HB.out)⟩⟩
     ·
      rw [if_neg c11] at H
      exact absurd H (by simp)
    ·
     rw [if_neg c10] at H
     have c10b0 : decide (a0_1 < 0) = false := decide_eq_false c10
     clear c10
     (first | rw [c10b0] | (simp only [i64_w, i32_w]; rw [c10b0]) | skip)
     have H' := Aside0.mk H
     clear H
     go_wp2
     repeat (go_quiet (fail); try go_wp2)
     go_meet
     case rel => exact ⟨_, (a0_1), (a0_0 ++ (⟨#[32]⟩ : ByteArray)), (by first | rfl | (simp; done) | (simp [*]; done)), (by first | rfl | (simp; done) | (simp [*]; done)), H', ⟨by first | omega | exact Nat.le_refl _⟩, ⟨by (with_reducible repeat (first | refine blk_drewN ?_ _ | refine blk_drew ?_ | refine blk_alloc ?_ _)); exact BK268.out⟩, ⟨by repeat (first | (with_reducible first | exact HB.out | apply below_alloc | apply pw_below_drewN | apply below_drew1 | refine below_set ?_ GE268.out) | exact HB.out)⟩⟩
   case rest =>
    clear HC5
    try clear c1
    try clear p2
    try clear c3
    try clear c4
    try clear c4b0
    try clear c4b1
    try clear c4b2
    try clear c5
    try clear p6
    try clear c10
    try clear c10b0
    try clear c11
    try clear c11b0
    try clear c11b1
    try clear c11b2
    try clear hcz7_0
    try clear hcz7_1
    try clear hcz9_0
    try clear hcz9_1
    try clear hfz7_0
    try clear hfz7_1
    try clear hfz9_0
    try clear hfz9_1
    obtain ⟨kq, x3_4, x4_4, rfl, rfl, HA, HJ4, BK268, HB⟩ := hcut
    cases kq with
    | zero => exact absurd HA.out (by simp [supercargoref01_Text.j0])
    | succ kj4 =>
     have H := HA.out
     clear HA
     simp only [supercargoref01_Text.j0] at H
     replace H := Option.bind_eq_some_iff.mp H
     obtain ⟨t270, A120, H⟩ := H
     replace H : (supercargoref01_Text.l0 kj4 x3_4 x4_4 t270 1 0) = some r := H
     have A12 := Aside0.mk A120
     clear A120
     have H' := Aside0.mk H
     clear H
     have hcz13_0 : wc.cell? ⟨gb268, 0, none⟩ = some (.string a0_0) := (blk_cell BK268.out 0).trans rfl
     have hcz13_1 : wc.cell? ⟨gb268, 1, none⟩ = some (.int .i64 a0_1) := (blk_cell BK268.out 1).trans rfl
     have hfz13_0 := blk_frozen BK268.out 0
     have hfz13_1 := blk_frozen BK268.out 1
     go_wp2_with (first | (go_at_call 75; (with_reducible refine (supercargoref01_Digits.calls kj4 a0_0 t270 _ A12.out).mono ?_); rintro e w' ⟨rfl, ⟨nd, rfl⟩⟩; (try first | exact ⟨rfl, _, World.drewN_drewN _ _ _⟩ | exact ⟨rfl, _, Eq.trans (World.drewN_drewN _ _ _) (congrArg (World.drewN _) (Nat.add_assoc _ _ _))⟩)))
     repeat (go_quiet (first | (go_at_call 75; (with_reducible refine (supercargoref01_Digits.calls kj4 a0_0 t270 _ A12.out).mono ?_); rintro e w' ⟨rfl, ⟨nd, rfl⟩⟩; (try first | exact ⟨rfl, _, World.drewN_drewN _ _ _⟩ | exact ⟨rfl, _, Eq.trans (World.drewN_drewN _ _ _) (congrArg (World.drewN _) (Nat.add_assoc _ _ _))⟩))); try go_wp2_with (first | (go_at_call 75; (with_reducible refine (supercargoref01_Digits.calls kj4 a0_0 t270 _ A12.out).mono ?_); rintro e w' ⟨rfl, ⟨nd, rfl⟩⟩; (try first | exact ⟨rfl, _, World.drewN_drewN _ _ _⟩ | exact ⟨rfl, _, Eq.trans (World.drewN_drewN _ _ _) (congrArg (World.drewN _) (Nat.add_assoc _ _ _))⟩))))
     go_loopg [6, 7] kj4 (fun kq v6 v7 w' => ∃ (x6_2 : Int) (x7_2 : Int), v6 = .int .i64 x6_2 ∧ v7 = .int .i64 x7_2 ∧ Aside0 (supercargoref01_Text.l0 kq x3_4 x4_4 t270 x6_2 x7_2 = some r) ∧ Aside0 (kq ≤ kj4) ∧ Aside0 (w'.heap[gb268]? = some (.cells #[.string a0_0, .int .i64 a0_1] 30 (0, 0))) ∧ Aside0 (Below w.heap.size w w'))
     case atStart => exact ⟨(1), (0), (by first | rfl | (simp; done) | (simp [*]; done)), (by first | rfl | (simp; done) | (simp [*]; done)), H', ⟨Nat.le_refl _⟩, ⟨by (with_reducible repeat (first | refine blk_drewN ?_ _ | refine blk_drew ?_ | refine blk_alloc ?_ _)); exact BK268.out⟩, ⟨by repeat (first | (with_reducible first | exact HB.out | apply below_alloc | apply pw_below_drewN | apply below_drew1 | refine below_set ?_ GE268.out) | exact HB.out)⟩⟩
     case round =>
      clear H'
      try clear c1
      try clear p2
      try clear c3
      try clear c4
      try clear c4b0
      try clear c4b1
      try clear c4b2
      try clear c5
      try clear p6
      try clear c10
      try clear c10b0
      try clear c11
      try clear c11b0
      try clear c11b1
      try clear c11b2
      try clear hcz13_0
      try clear hcz13_1
      try clear hcz7_0
      try clear hcz7_1
      try clear hcz9_0
      try clear hcz9_1
      try clear hfz13_0
      try clear hfz13_1
      try clear hfz7_0
      try clear hfz7_1
      try clear hfz9_0
      try clear hfz9_1
      try clear p2
      try clear p6
      obtain ⟨x6_2, x7_2, rfl, rfl, HA, HK2, BK268, HB⟩ := hrel
      cases gk with
      | zero => exact absurd HA.out (by simp [supercargoref01_Text.l0])
      | succ k2 =>
       have H := HA.out
       clear HA
       simp only [supercargoref01_Text.l0] at H
       by_cases c14 : x7_2 < t270
       ·
        rw [if_pos c14] at H
        have c14b0 : decide (x7_2 < t270) = true := decide_eq_true c14
        clear c14
        have H' := Aside0.mk H
        clear H
        go_wp2
        repeat (go_quiet (fail); try go_wp2)
        go_roundg k2
        case measure => have := HJ4.out; have := HK2.out; omega
        case rel => exact ⟨(wrap64 (10 * x6_2)), (wrap64 (x7_2 + 1)), (by first | rfl | (simp; done) | (simp [*]; done)), (by first | rfl | (simp; done) | (simp [*]; done)), H', ⟨by have := HJ4.out; have := HK2.out; omega⟩, ⟨by (with_reducible repeat (first | refine blk_drewN ?_ _ | refine blk_drew ?_ | refine blk_alloc ?_ _)); exact BK268.out⟩, ⟨by repeat (first | (with_reducible first | exact HB.out | apply below_alloc | apply pw_below_drewN | apply below_drew1 | refine below_set ?_ GE268.out) | exact HB.out)⟩⟩
       ·
        rw [if_neg c14] at H
        have c14b0 : decide (x7_2 < t270) = false := decide_eq_false c14
        clear c14
        by_cases c15 : x6_2 = 0
        ·
         rw [if_pos c15] at H
         exact absurd H (by simp)
        ·
         rw [if_neg c15] at H
         have c15b0 : (x6_2 == 0) = false := beq_eq_false_iff_ne.mpr c15
         have c15b1 : (x6_2 != 0) = true := bne_iff_ne.mpr c15
         replace H := Option.bind_eq_some_iff.mp H
         obtain ⟨t271, A160, H⟩ := H
         replace H : (if x4_4.size + t271.size ≤ 9223372036854775807 then (if t270 > 0 then ((supercargoref01_whole.f k2 (Int.tmod x3_4 x6_2) t270).bind fun t272 => (if 1 + t272.size ≤ 9223372036854775807 then (if (x4_4 ++ t271).size + ((⟨#[46]⟩ : ByteArray) ++ t272).size ≤ 9223372036854775807 then (some ((x4_4 ++ t271) ++ ((⟨#[46]⟩ : ByteArray) ++ t272))) else (none)) else (none))) else (some (x4_4 ++ t271))) else (none)) = some r := H
         have A16 := Aside0.mk A160
         clear A160
         by_cases c17 : x4_4.size + t271.size ≤ 9223372036854775807
         ·
          rw [if_pos c17] at H
          have c17b0 := eq_true c17
          have c17b1 : decide (x4_4.size + t271.size ≤ 9223372036854775807) = true := decide_eq_true c17
          try have c17b2 : (9223372036854775807 < x4_4.size + t271.size) = False := eq_false (Nat.not_lt.2 c17)
          by_cases c18 : t270 > 0
          ·
           rw [if_pos c18] at H
           have c18b0 : decide (0 < t270) = true := decide_eq_true c18
           clear c18
           replace H := Option.bind_eq_some_iff.mp H
           obtain ⟨t272, A190, H⟩ := H
           replace H : (if 1 + t272.size ≤ 9223372036854775807 then (if (x4_4 ++ t271).size + ((⟨#[46]⟩ : ByteArray) ++ t272).size ≤ 9223372036854775807 then (some ((x4_4 ++ t271) ++ ((⟨#[46]⟩ : ByteArray) ++ t272))) else (none)) else (none)) = some r := H
           have A19 := Aside0.mk A190
           clear A190
           by_cases c20 : 1 + t272.size ≤ 9223372036854775807
           ·
            rw [if_pos c20] at H
            have c20b0 := eq_true c20
            have c20b1 : decide (1 + t272.size ≤ 9223372036854775807) = true := decide_eq_true c20
            try have c20b2 : (9223372036854775807 < 1 + t272.size) = False := eq_false (Nat.not_lt.2 c20)
            by_cases c21 : (x4_4 ++ t271).size + ((⟨#[46]⟩ : ByteArray) ++ t272).size ≤ 9223372036854775807
            ·
             rw [if_pos c21] at H
             have c21b0 := eq_true c21
             have c21b1 : decide ((x4_4 ++ t271).size + ((⟨#[46]⟩ : ByteArray) ++ t272).size ≤ 9223372036854775807) = true := decide_eq_true c21
             try have c21b2 : (9223372036854775807 < (x4_4 ++ t271).size + ((⟨#[46]⟩ : ByteArray) ++ t272).size) = False := eq_false (Nat.not_lt.2 c21)
             obtain rfl := Option.some.inj H
             go_wp2_with (first | (go_at_call 76; (with_reducible refine (supercargoref01_whole.calls k2 (wrap64 (Int.tdiv x3_4 x6_2)) 1 t271 _ A16.out).mono ?_); rintro e w22 ⟨rfl, hb⟩; have n0_ := Aside0.mk (blk_below (g := gb268) (o := .cells #[.string a0_0, .int .i64 a0_1] 30 (0, 0)) (by (with_reducible repeat (first | refine blk_drewN ?_ _ | refine blk_drew ?_ | refine blk_alloc ?_ _)); exact BK268.out) hb); have n1_ := Aside0.mk (below_step (by repeat (first | (with_reducible first | exact HB.out | apply below_alloc | apply pw_below_drewN | apply below_drew1 | refine below_set ?_ GE268.out) | exact HB.out)) hb); clear BK268; clear HB; have BK268 := n0_; have HB := n1_; clear n0_ n1_; (try clear hb); (try clear hb2); (try clear hk); (try clear hi)) | (go_at_call 76; (with_reducible refine (supercargoref01_whole.calls k2 (Int.tmod x3_4 x6_2) t270 t272 _ A19.out).mono ?_); rintro e w23 ⟨rfl, hb⟩; have n0_ := Aside0.mk (blk_below (g := gb268) (o := .cells #[.string a0_0, .int .i64 a0_1] 30 (0, 0)) (by (with_reducible repeat (first | refine blk_drewN ?_ _ | refine blk_drew ?_ | refine blk_alloc ?_ _)); exact BK268.out) hb); have n1_ := Aside0.mk (below_step (by repeat (first | (with_reducible first | exact HB.out | apply below_alloc | apply pw_below_drewN | apply below_drew1 | refine below_set ?_ GE268.out) | exact HB.out)) hb); clear BK268; clear HB; have BK268 := n0_; have HB := n1_; clear n0_ n1_; (try clear hb); (try clear hb2); (try clear hk); (try clear hi)))
             repeat (go_quiet (first | (go_at_call 76; (with_reducible refine (supercargoref01_whole.calls k2 (wrap64 (Int.tdiv x3_4 x6_2)) 1 t271 _ A16.out).mono ?_); rintro e w22 ⟨rfl, hb⟩; have n0_ := Aside0.mk (blk_below (g := gb268) (o := .cells #[.string a0_0, .int .i64 a0_1] 30 (0, 0)) (by (with_reducible repeat (first | refine blk_drewN ?_ _ | refine blk_drew ?_ | refine blk_alloc ?_ _)); exact BK268.out) hb); have n1_ := Aside0.mk (below_step (by repeat (first | (with_reducible first | exact HB.out | apply below_alloc | apply pw_below_drewN | apply below_drew1 | refine below_set ?_ GE268.out) | exact HB.out)) hb); clear BK268; clear HB; have BK268 := n0_; have HB := n1_; clear n0_ n1_; (try clear hb); (try clear hb2); (try clear hk); (try clear hi)) | (go_at_call 76; (with_reducible refine (supercargoref01_whole.calls k2 (Int.tmod x3_4 x6_2) t270 t272 _ A19.out).mono ?_); rintro e w23 ⟨rfl, hb⟩; have n0_ := Aside0.mk (blk_below (g := gb268) (o := .cells #[.string a0_0, .int .i64 a0_1] 30 (0, 0)) (by (with_reducible repeat (first | refine blk_drewN ?_ _ | refine blk_drew ?_ | refine blk_alloc ?_ _)); exact BK268.out) hb); have n1_ := Aside0.mk (below_step (by repeat (first | (with_reducible first | exact HB.out | apply below_alloc | apply pw_below_drewN | apply below_drew1 | refine below_set ?_ GE268.out) | exact HB.out)) hb); clear BK268; clear HB; have BK268 := n0_; have HB := n1_; clear n0_ n1_; (try clear hb); (try clear hb2); (try clear hk); (try clear hi))); try go_wp2_with (first | (go_at_call 76; (with_reducible refine (supercargoref01_whole.calls k2 (wrap64 (Int.tdiv x3_4 x6_2)) 1 t271 _ A16.out).mono ?_); rintro e w22 ⟨rfl, hb⟩; have n0_ := Aside0.mk (blk_below (g := gb268) (o := .cells #[.string a0_0, .int .i64 a0_1] 30 (0, 0)) (by (with_reducible repeat (first | refine blk_drewN ?_ _ | refine blk_drew ?_ | refine blk_alloc ?_ _)); exact BK268.out) hb); have n1_ := Aside0.mk (below_step (by repeat (first | (with_reducible first | exact HB.out | apply below_alloc | apply pw_below_drewN | apply below_drew1 | refine below_set ?_ GE268.out) | exact HB.out)) hb); clear BK268; clear HB; have BK268 := n0_; have HB := n1_; clear n0_ n1_; (try clear hb); (try clear hb2); (try clear hk); (try clear hi)) | (go_at_call 76; (with_reducible refine (supercargoref01_whole.calls k2 (Int.tmod x3_4 x6_2) t270 t272 _ A19.out).mono ?_); rintro e w23 ⟨rfl, hb⟩; have n0_ := Aside0.mk (blk_below (g := gb268) (o := .cells #[.string a0_0, .int .i64 a0_1] 30 (0, 0)) (by (with_reducible repeat (first | refine blk_drewN ?_ _ | refine blk_drew ?_ | refine blk_alloc ?_ _)); exact BK268.out) hb); have n1_ := Aside0.mk (below_step (by repeat (first | (with_reducible first | exact HB.out | apply below_alloc | apply pw_below_drewN | apply below_drew1 | refine below_set ?_ GE268.out) | exact HB.out)) hb); clear BK268; clear HB; have BK268 := n0_; have HB := n1_; clear n0_ n1_; (try clear hb); (try clear hb2); (try clear hk); (try clear hi))))
             go_ret
             exact ⟨by first | rfl | (simp [errW_none, errW_some] <;> rfl) | (simp [*, errW_none, errW_some] <;> rfl), by repeat (first | (with_reducible first | exact HB.out | apply below_alloc | apply pw_below_drewN | apply below_drew1 | refine below_set ?_ GE268.out) | exact HB.out)⟩
            ·
             rw [if_neg c21] at H
             exact absurd H (by simp)
           ·
            rw [if_neg c20] at H
            exact absurd H (by simp)
          ·
           rw [if_neg c18] at H
           have c18b0 : decide (0 < t270) = false := decide_eq_false c18
           clear c18
           obtain rfl := Option.some.inj H
           go_wp2_with (first | (go_at_call 76; (with_reducible refine (supercargoref01_whole.calls k2 (wrap64 (Int.tdiv x3_4 x6_2)) 1 t271 _ A16.out).mono ?_); rintro e w24 ⟨rfl, hb⟩; have n0_ := Aside0.mk (blk_below (g := gb268) (o := .cells #[.string a0_0, .int .i64 a0_1] 30 (0, 0)) (by (with_reducible repeat (first | refine blk_drewN ?_ _ | refine blk_drew ?_ | refine blk_alloc ?_ _)); exact BK268.out) hb); have n1_ := Aside0.mk (below_step (by repeat (first | (with_reducible first | exact HB.out | apply below_alloc | apply pw_below_drewN | apply below_drew1 | refine below_set ?_ GE268.out) | exact HB.out)) hb); clear BK268; clear HB; have BK268 := n0_; have HB := n1_; clear n0_ n1_; (try clear hb); (try clear hb2); (try clear hk); (try clear hi)))
           repeat (go_quiet (first | (go_at_call 76; (with_reducible refine (supercargoref01_whole.calls k2 (wrap64 (Int.tdiv x3_4 x6_2)) 1 t271 _ A16.out).mono ?_); rintro e w24 ⟨rfl, hb⟩; have n0_ := Aside0.mk (blk_below (g := gb268) (o := .cells #[.string a0_0, .int .i64 a0_1] 30 (0, 0)) (by (with_reducible repeat (first | refine blk_drewN ?_ _ | refine blk_drew ?_ | refine blk_alloc ?_ _)); exact BK268.out) hb); have n1_ := Aside0.mk (below_step (by repeat (first | (with_reducible first | exact HB.out | apply below_alloc | apply pw_below_drewN | apply below_drew1 | refine below_set ?_ GE268.out) | exact HB.out)) hb); clear BK268; clear HB; have BK268 := n0_; have HB := n1_; clear n0_ n1_; (try clear hb); (try clear hb2); (try clear hk); (try clear hi))); try go_wp2_with (first | (go_at_call 76; (with_reducible refine (supercargoref01_whole.calls k2 (wrap64 (Int.tdiv x3_4 x6_2)) 1 t271 _ A16.out).mono ?_); rintro e w24 ⟨rfl, hb⟩; have n0_ := Aside0.mk (blk_below (g := gb268) (o := .cells #[.string a0_0, .int .i64 a0_1] 30 (0, 0)) (by (with_reducible repeat (first | refine blk_drewN ?_ _ | refine blk_drew ?_ | refine blk_alloc ?_ _)); exact BK268.out) hb); have n1_ := Aside0.mk (below_step (by repeat (first | (with_reducible first | exact HB.out | apply below_alloc | apply pw_below_drewN | apply below_drew1 | refine below_set ?_ GE268.out) | exact HB.out)) hb); clear BK268; clear HB; have BK268 := n0_; have HB := n1_; clear n0_ n1_; (try clear hb); (try clear hb2); (try clear hk); (try clear hi))))
           go_ret
           exact ⟨by first | rfl | (simp [errW_none, errW_some] <;> rfl) | (simp [*, errW_none, errW_some] <;> rfl), by repeat (first | (with_reducible first | exact HB.out | apply below_alloc | apply pw_below_drewN | apply below_drew1 | refine below_set ?_ GE268.out) | exact HB.out)⟩
         ·
          rw [if_neg c17] at H
          exact absurd H (by simp)
  ·
   rw [if_neg c4] at H
   exact absurd H (by simp)
 ·
  replace c3 := Bool.eq_false_iff.mpr c3
  subst c3
  have H1 : (some (⟨#[]⟩ : ByteArray)) = some r := by rw [if_neg (show ¬ (false = true) by decide)] at H; exact H
  clear H
  have H := H1
  clear H1
  obtain rfl := Option.some.inj H
  go_enter Tryz.func52, Tryz.ntmps52
  go_wp2_with (first | ((with_reducible refine gate_dst (N := 1) rfl ?_); refine box_event ?hg (N := 1) ?hd (cs := #[.string a0_0, .int .i64 a0_1]) (t := 30) ?hr ?_; (case hd => rfl); (case hg => rfl); (case hr => first | (go_simp; done) | (go_simp; rfl)); intro gb268 hg w25 hbox hb; have n0_ := Aside0.mk (below_step (by repeat (first | (with_reducible first | exact HB.out | apply below_alloc | apply pw_below_drewN | apply below_drew1) | exact HB.out)) hb); have n1_ := Aside0.mk (hbox); have n2_ := Aside0.mk ((by rw [hg]; exact (below_size (by repeat (first | (with_reducible first | exact HB.out | apply below_alloc | apply pw_below_drewN | apply below_drew1) | exact HB.out))) : w.heap.size ≤ gb268)); have n3_ := Aside0.mk ((by rw [hg]; exact (below_size (by repeat (first | (with_reducible first | exact HB.out | apply below_alloc | apply pw_below_drewN | apply below_drew1) | exact HB.out))) : w.heap.size ≤ gb268)); clear HB; have HB := n0_; have BK268 := n1_; have GW268 := n2_; have GE268 := n3_; clear n0_ n1_ n2_ n3_; clear hb hbox hg; have hcz26_0 : w25.cell? ⟨gb268, 0, none⟩ = some (.string a0_0) := (blk_cell BK268.out 0).trans rfl; have hcz26_1 : w25.cell? ⟨gb268, 1, none⟩ = some (.int .i64 a0_1) := (blk_cell BK268.out 1).trans rfl; have hfz26_0 := blk_frozen BK268.out 0; have hfz26_1 := blk_frozen BK268.out 1) | (go_at_call 48; (with_reducible refine (supercargoref01_May.calls k a0_0 a0_1 false _ A2.out).mono ?_); rintro e w27 ⟨rfl, hb⟩; have n0_ := Aside0.mk (blk_below (g := gb268) (o := .cells #[.string a0_0, .int .i64 a0_1] 30 (0, 0)) (by (with_reducible repeat (first | refine blk_drewN ?_ _ | refine blk_drew ?_ | refine blk_alloc ?_ _)); exact BK268.out) hb); have n1_ := Aside0.mk (below_step (by repeat (first | (with_reducible first | exact HB.out | apply below_alloc | apply pw_below_drewN | apply below_drew1 | refine below_set ?_ GE268.out) | exact HB.out)) hb); clear BK268; clear HB; have BK268 := n0_; have HB := n1_; clear n0_ n1_; (try clear hb); (try clear hb2); (try clear hk); (try clear hi)))
  repeat (go_quiet (first | ((with_reducible refine gate_dst (N := 1) rfl ?_); refine box_event ?hg (N := 1) ?hd (cs := #[.string a0_0, .int .i64 a0_1]) (t := 30) ?hr ?_; (case hd => rfl); (case hg => rfl); (case hr => first | (go_simp; done) | (go_simp; rfl)); intro gb268 hg w25 hbox hb; have n0_ := Aside0.mk (below_step (by repeat (first | (with_reducible first | exact HB.out | apply below_alloc | apply pw_below_drewN | apply below_drew1) | exact HB.out)) hb); have n1_ := Aside0.mk (hbox); have n2_ := Aside0.mk ((by rw [hg]; exact (below_size (by repeat (first | (with_reducible first | exact HB.out | apply below_alloc | apply pw_below_drewN | apply below_drew1) | exact HB.out))) : w.heap.size ≤ gb268)); have n3_ := Aside0.mk ((by rw [hg]; exact (below_size (by repeat (first | (with_reducible first | exact HB.out | apply below_alloc | apply pw_below_drewN | apply below_drew1) | exact HB.out))) : w.heap.size ≤ gb268)); clear HB; have HB := n0_; have BK268 := n1_; have GW268 := n2_; have GE268 := n3_; clear n0_ n1_ n2_ n3_; clear hb hbox hg; have hcz26_0 : w25.cell? ⟨gb268, 0, none⟩ = some (.string a0_0) := (blk_cell BK268.out 0).trans rfl; have hcz26_1 : w25.cell? ⟨gb268, 1, none⟩ = some (.int .i64 a0_1) := (blk_cell BK268.out 1).trans rfl; have hfz26_0 := blk_frozen BK268.out 0; have hfz26_1 := blk_frozen BK268.out 1) | (go_at_call 48; (with_reducible refine (supercargoref01_May.calls k a0_0 a0_1 false _ A2.out).mono ?_); rintro e w27 ⟨rfl, hb⟩; have n0_ := Aside0.mk (blk_below (g := gb268) (o := .cells #[.string a0_0, .int .i64 a0_1] 30 (0, 0)) (by (with_reducible repeat (first | refine blk_drewN ?_ _ | refine blk_drew ?_ | refine blk_alloc ?_ _)); exact BK268.out) hb); have n1_ := Aside0.mk (below_step (by repeat (first | (with_reducible first | exact HB.out | apply below_alloc | apply pw_below_drewN | apply below_drew1 | refine below_set ?_ GE268.out) | exact HB.out)) hb); clear BK268; clear HB; have BK268 := n0_; have HB := n1_; clear n0_ n1_; (try clear hb); (try clear hb2); (try clear hk); (try clear hi))); try go_wp2_with (first | ((with_reducible refine gate_dst (N := 1) rfl ?_); refine box_event ?hg (N := 1) ?hd (cs := #[.string a0_0, .int .i64 a0_1]) (t := 30) ?hr ?_; (case hd => rfl); (case hg => rfl); (case hr => first | (go_simp; done) | (go_simp; rfl)); intro gb268 hg w25 hbox hb; have n0_ := Aside0.mk (below_step (by repeat (first | (with_reducible first | exact HB.out | apply below_alloc | apply pw_below_drewN | apply below_drew1) | exact HB.out)) hb); have n1_ := Aside0.mk (hbox); have n2_ := Aside0.mk ((by rw [hg]; exact (below_size (by repeat (first | (with_reducible first | exact HB.out | apply below_alloc | apply pw_below_drewN | apply below_drew1) | exact HB.out))) : w.heap.size ≤ gb268)); have n3_ := Aside0.mk ((by rw [hg]; exact (below_size (by repeat (first | (with_reducible first | exact HB.out | apply below_alloc | apply pw_below_drewN | apply below_drew1) | exact HB.out))) : w.heap.size ≤ gb268)); clear HB; have HB := n0_; have BK268 := n1_; have GW268 := n2_; have GE268 := n3_; clear n0_ n1_ n2_ n3_; clear hb hbox hg; have hcz26_0 : w25.cell? ⟨gb268, 0, none⟩ = some (.string a0_0) := (blk_cell BK268.out 0).trans rfl; have hcz26_1 : w25.cell? ⟨gb268, 1, none⟩ = some (.int .i64 a0_1) := (blk_cell BK268.out 1).trans rfl; have hfz26_0 := blk_frozen BK268.out 0; have hfz26_1 := blk_frozen BK268.out 1) | (go_at_call 48; (with_reducible refine (supercargoref01_May.calls k a0_0 a0_1 false _ A2.out).mono ?_); rintro e w27 ⟨rfl, hb⟩; have n0_ := Aside0.mk (blk_below (g := gb268) (o := .cells #[.string a0_0, .int .i64 a0_1] 30 (0, 0)) (by (with_reducible repeat (first | refine blk_drewN ?_ _ | refine blk_drew ?_ | refine blk_alloc ?_ _)); exact BK268.out) hb); have n1_ := Aside0.mk (below_step (by repeat (first | (with_reducible first | exact HB.out | apply below_alloc | apply pw_below_drewN | apply below_drew1 | refine below_set ?_ GE268.out) | exact HB.out)) hb); clear BK268; clear HB; have BK268 := n0_; have HB := n1_; clear n0_ n1_; (try clear hb); (try clear hb2); (try clear hk); (try clear hi))))
  go_ret
  exact ⟨by first | rfl | (simp [errW_none, errW_some] <;> rfl) | (simp [*, errW_none, errW_some] <;> rfl), by repeat (first | (with_reducible first | exact HB.out | apply below_alloc | apply pw_below_drewN | apply below_drew1 | refine below_set ?_ GE268.out) | exact HB.out)⟩
end Go.Proofs.YtkblmomfiimkiaaGreatDoor.P
end

section
namespace Go.Proofs.YtkblmomfiimkiaaGreatDoor.P
open Go.RowKit Go.Proofs.YtkblmomfiimkiaaGreatDoorW.PrintWords Go.Proofs.YtkblmomfiimkiaaGreatDoorW.PrintLast Go.Proofs.YtkblmomfiimkiaaGreatDoorW.PrintMore
set_option linter.unusedSimpArgs false
set_option linter.unusedVariables false
open Go.Proofs.YtkblmomfiimkiaaGreatDoor.Fp
open Go.Lib (itoa decDigits)
theorem digits01_f (a : ByteArray) (k : Nat) (hk : 1 ≤ k) : supercargoref01_Digits.f k a = some (scaleN a.data.toList : Int) := by
 obtain ⟨k, rfl⟩ : ∃ m, k = m + 1 := ⟨k - 1, by omega⟩
 unfold supercargoref01_Digits.f scaleN
 simp only [supercargoref01_Digits.j0, Lib.toList_data]
 generalize a.data.toList = l
 by_cases h1 : l = [74, 80, 89]
 ·
  subst h1; rfl
 ·
  rw [if_neg h1]
  by_cases h2 : l = [75, 82, 87]
  ·
   subst h2; rfl
  ·
   have e : (l == [75, 82, 87]) = false := beq_eq_false_iff_ne.2 h2
   rw [e, if_neg (by simp), if_neg (show ¬ (l = [74, 80, 89] ∨ l = [75, 82, 87]) from fun h => h.elim h1 h2)]
   by_cases h3 : l = [66, 72, 68]
   ·
    subst h3; rfl
   ·
    rw [if_neg h3]
    by_cases h4 : l = [75, 87, 68]
    ·
     subst h4; rfl
    ·
     rw [if_neg h4]
     by_cases h5 : l = [84, 78, 68]
     ·
      subst h5; rfl
     ·
      rw [if_neg h5, if_neg (show ¬ (l = [66, 72, 68] ∨ l = [75, 87, 68] ∨ l = [84, 78, 68]) from fun h => h.elim h3 fun h => h.elim h4 h5)]; rfl
theorem strDig (e : Nat) (h : e < 10) : strOfNums [wrap64 (48 + (e : Int)) % 256] = bs [UInt8.ofNat (48 + e)] := by
 have : wrap64 (48 + (e : Int)) % 256 = ((48 + e : Nat) : Int) := by unfold wrap64; omega
 rw [this]; rfl
theorem whole_l0 (least : Nat) (hl : least ≤ 100) : ∀ (L n k : Nat) (s : List UInt8), n < 10 ^ L → n < 9223372036854775807 → (L = 0 → least ≤ s.length) → (L ≠ 0 → L + s.length ≤ least ∨ 10 ^ (L - 1) ≤ n) → (least ≤ L + s.length) → s.length + L ≤ 1000 → L < k →
  supercargoref01_whole.l0 k (n : Int) (least : Int) (bs s) = some (bs (digs L n ++ s)) := by
 intro L
 induction L with
 | zero =>
  intro n k s h1 _ h2 _ _ _ hk
  obtain ⟨k, rfl⟩ : ∃ m, k = m + 1 := ⟨k - 1, by omega⟩
  have := h2 rfl
  simp only [supercargoref01_whole.l0]
  rw [if_neg (by omega), if_neg (by rw [bs_size]; omega)]
  rfl
 | succ L ih =>
  intro n k s h1 hn h2 h3 h4 h5 hk
  obtain ⟨k, rfl⟩ : ∃ m, k = m + 1 := ⟨k - 1, by omega⟩
  have hd : (Int.tmod (n : Int) 10) = ((n % 10 : Nat) : Int) := rfl
  have hq : (Int.tdiv (n : Int) 10) = ((n / 10 : Nat) : Int) := rfl
  have hw : wrap64 ((n / 10 : Nat) : Int) = ((n / 10 : Nat) : Int) := by unfold wrap64; omega
  have h10 : n / 10 < 10 ^ L := by rw [Nat.pow_succ] at h1; omega
  have step : (strOfNums [wrap64 (48 + ((n % 10 : Nat) : Int)) % 256]).size + (bs s).size ≤ 9223372036854775807 := by
   rw [strDig _ (by omega), bs_size, bs_size, List.length_singleton]; omega
  have next : supercargoref01_whole.l0 k ((n / 10 : Nat) : Int) (least : Int) (strOfNums [wrap64 (48 + ((n % 10 : Nat) : Int)) % 256] ++ bs s) = some (bs (digs (L + 1) n ++ s)) := by
   rw [strDig _ (by omega), bs_app]
   rw [ih (n / 10) k ([UInt8.ofNat (48 + n % 10)] ++ s) h10 (by omega) ?_ ?_ ?_ ?_ (by omega)]
   ·
    rw [digs, List.append_assoc]
   ·
    intro h; subst h; rw [List.length_append, List.length_singleton]; omega
   ·
    intro h
    rw [List.length_append, List.length_singleton]
    rcases h3 (by omega) with g | g
    ·
     left; omega
    ·
     right
     rw [Nat.add_sub_cancel] at g
     have e : 10 ^ L = 10 ^ (L - 1) * 10 := by rw [← Nat.pow_succ]; congr 1; omega
     rw [e] at g; omega
   ·
    rw [List.length_append, List.length_singleton]; omega
   ·
    rw [List.length_append, List.length_singleton]; omega
  simp only [supercargoref01_whole.l0]
  rw [hd, hq, hw]
  by_cases hpos : (n : Int) > 0
  ·
   rw [if_pos hpos, Option.bind_some, if_pos step, next]
  ·
   rw [if_neg hpos]
   have hlt : s.length < least := by
    rcases h3 (by omega) with g | g
    ·
     omega
    ·
     have := Nat.pow_pos (n := L) (show 0 < 10 by decide); rw [Nat.add_sub_cancel] at g; omega
   rw [if_pos (by rw [bs_size]; omega), Option.bind_some, if_pos step, next]
theorem digs_mod : ∀ d n, digs d (n % 10 ^ d) = digs d n
 | 0, _ => rfl
 | d + 1, n => by
  rw [digs, digs, Nat.pow_succ]
  have e1 : n % (10 ^ d * 10) / 10 = n / 10 % 10 ^ d := by rw [Nat.mul_comm, Nat.mod_mul_right_div_self]
  have e2 : n % (10 ^ d * 10) % 10 = n % 10 := Nat.mod_mod_of_dvd _ (Nat.dvd_mul_left _ _)
  rw [e1, e2, digs_mod d]
theorem dec_digs : ∀ L n, n < 10 ^ (L + 1) → (L = 0 ∨ 10 ^ L ≤ n) → decDigits n = digs (L + 1) n
 | 0, n, h, _ => by
  have h10 : n < 10 := by simpa using h
  rw [dec_small h10, digs, digs, List.nil_append, Nat.mod_eq_of_lt h10]
 | L + 1, n, h, g => by
  have g' : 10 ^ (L + 1) ≤ n := g.resolve_left (by omega)
  have e : 10 ^ (L + 1) = 10 ^ L * 10 := Nat.pow_succ ..
  have e2 : 10 ^ (L + 1 + 1) = 10 ^ (L + 1) * 10 := Nat.pow_succ ..
  have p : 0 < 10 ^ L := Nat.pow_pos (by decide)
  rw [dec_big (by omega), digs, dec_digs L (n / 10) (by omega) (by right; omega)]
theorem len_of : ∀ D n, n < 10 ^ (D + 1) → ∃ L, L ≤ D ∧ n < 10 ^ (L + 1) ∧ (L = 0 ∨ 10 ^ L ≤ n)
 | 0, n, h => ⟨0, Nat.le_refl _, h, Or.inl rfl⟩
 | D + 1, n, h => by
  by_cases g : n < 10 ^ (D + 1)
  ·
   obtain ⟨L, h1, h2, h3⟩ := len_of D n g; exact ⟨L, by omega, h2, h3⟩
  ·
   exact ⟨D + 1, Nat.le_refl _, h, Or.inr (by omega)⟩
theorem whole_one (n : Nat) (hn : n < 10000000000000) (k : Nat) (hk : 20 ≤ k) : supercargoref01_whole.f k (n : Int) 1 = some (bs (decDigits n)) := by
 obtain ⟨L, h1, h2, h3⟩ := len_of 12 n hn
 have h := whole_l0 1 (by omega) (L + 1) n k [] h2 (by omega) (by omega) (fun _ => by rw [Nat.add_sub_cancel]; rcases h3 with g | g; (left; subst g; simp); exact Or.inr g) (by simp) (by simp; omega) (by omega)
 rw [List.append_nil, ← dec_digs L n h2 h3] at h
 exact h
theorem whole_last (d m : Nat) (hd : 0 < d) (h3 : d ≤ 3) (k : Nat) (hk : 20 ≤ k) : supercargoref01_whole.f k ((m % 10 ^ d : Nat) : Int) (d : Int) = some (bs (digs d m)) := by
 have hp : 0 < 10 ^ d := Nat.pow_pos (by decide)
 have hlt := Nat.mod_lt m hp
 have h4 : 10 ^ d ≤ 10 ^ 3 := Nat.pow_le_pow_right (by decide) h3
 have h := whole_l0 d (by omega) d (m % 10 ^ d) k [] hlt (by omega) (by omega) (fun _ => by left; simp) (by simp) (by simp; omega) (by omega)
 rw [List.append_nil, digs_mod] at h
 exact h
theorem text01_end (d : Nat) (hd : d = 0 ∨ d = 2 ∨ d = 3) (m : Nat) (hm : m ≤ 1099511627776) (p : List UInt8) (hp : p.length ≤ 100) (k : Nat) (hk : 60 ≤ k) :
  supercargoref01_Text.l0 k (m : Int) (bs p) (d : Int) 1 0 = some (bs (p ++ amountL d m)) := by
 have fin : ∀ (k : Nat), 30 ≤ k → supercargoref01_Text.l0 k (m : Int) (bs p) (d : Int) ((10 ^ d : Nat) : Int) (d : Int) = some (bs (p ++ amountL d m)) := by
  intro k hk
  obtain ⟨k, rfl⟩ : ∃ j, k = j + 1 := ⟨k - 1, by omega⟩
  have hpos : 0 < 10 ^ d := Nat.pow_pos (by decide)
  have e1 : (Int.tdiv (m : Int) ((10 ^ d : Nat) : Int)) = ((m / 10 ^ d : Nat) : Int) := rfl
  have e2 : (Int.tmod (m : Int) ((10 ^ d : Nat) : Int)) = ((m % 10 ^ d : Nat) : Int) := rfl
  have hq : m / 10 ^ d ≤ m := Nat.div_le_self _ _
  have hw : wrap64 ((m / 10 ^ d : Nat) : Int) = ((m / 10 ^ d : Nat) : Int) := by
   generalize m / 10 ^ d = q at hq
   unfold wrap64; omega
  have hlen : (decDigits (m / 10 ^ d)).length ≤ 13 := dec_len_le 12 _ (by omega)
  simp only [supercargoref01_Text.l0]
  rw [if_neg (by omega), if_neg (by omega), e1, e2, hw, whole_one _ (by omega) k (by omega), Option.bind_some, if_pos (by rw [bs_size, bs_size]; omega)]
  unfold amountL
  by_cases h0 : d = 0
  ·
   subst h0
   rw [if_neg (by omega), if_pos rfl, List.append_nil, bs_app]
  ·
   rw [if_pos (by omega), whole_last d m (by omega) (by omega) k (by omega), Option.bind_some, if_pos (by rw [bs_size, digs_length]; omega), if_pos (by rw [bs_app, bs_size, List.length_append, ByteArray.size_append, bs_size, digs_length]; show _ + (1 + d) ≤ _; omega), if_neg h0]
   have e : ((⟨#[46]⟩ : ByteArray) ++ bs (digs d m)) = bs (46 :: digs d m) := bs_app [46] (digs d m)
   rw [e, bs_app, bs_app, List.append_assoc]
 have a1 : wrap64 (0 + 1) = 1 := by kernel_rfl
 have a2 : wrap64 (1 + 1) = 2 := by kernel_rfl
 have a3 : wrap64 (2 + 1) = 3 := by kernel_rfl
 have b1 : wrap64 (10 * 1) = 10 := by kernel_rfl
 have b2 : wrap64 (10 * 10) = 100 := by kernel_rfl
 have b3 : wrap64 (10 * 100) = 1000 := by kernel_rfl
 rcases hd with h | h | h
 ·
  subst h; exact fin k (by omega)
 ·
  subst h
  obtain ⟨k, rfl⟩ : ∃ j, k = j + 2 := ⟨k - 2, by omega⟩
  rw [supercargoref01_Text.l0, if_pos (by decide), a1, b1, supercargoref01_Text.l0, if_pos (by decide), a2, b2]
  exact fin k (by omega)
 ·
  subst h
  obtain ⟨k, rfl⟩ : ∃ j, k = j + 3 := ⟨k - 3, by omega⟩
  rw [supercargoref01_Text.l0, if_pos (by decide), a1, b1, supercargoref01_Text.l0, if_pos (by decide), a2, b2, supercargoref01_Text.l0, if_pos (by decide), a3, b3]
  exact fin k (by omega)
theorem scale_is (l : List UInt8) : scaleN l = 0 ∨ scaleN l = 2 ∨ scaleN l = 3 := by unfold scaleN; split <;> (try split) <;> omega
theorem text01_f (a : ByteArray) (n : Int) (h : moneyMay a.data.toList n = true) (k : Nat) (hk : 70 ≤ k) : supercargoref01_Text.f k a n = some (bs (moneyT a.data.toList n)) := by
 obtain ⟨hl, _, h0, h1⟩ := money_cur h
 obtain ⟨k, rfl⟩ : ∃ j, k = j + 1 := ⟨k - 1, by omega⟩
 have hz : a.size = 3 := by rw [← size_list, hl]
 have e0 : a = bs a.data.toList := (bs_list a).symm
 have e32 : (a ++ (⟨#[32]⟩ : ByteArray)) = bs (a.data.toList ++ [32]) := by rw [show (⟨#[32]⟩ : ByteArray) = bs [32] from rfl]; rw [← bs_app, bs_list]
 unfold supercargoref01_Text.f moneyT
 rw [may01_f a n _ (by omega), Option.bind_some, if_pos h, if_pos h, if_pos (by omega), e32]
 by_cases hn : n < 0
 ·
  rw [if_pos hn, if_pos (by rw [bs_size, List.length_append, hl]; simp)]
  have hw : wrap64 (-n) = (n.natAbs : Int) := by unfold wrap64; omega
  have e45 : (bs (a.data.toList ++ [32]) ++ (⟨#[45]⟩ : ByteArray)) = bs (a.data.toList ++ [32] ++ [45]) := bs_app _ [45]
  simp only [supercargoref01_Text.j0]
  rw [digits01_f a k (by omega), Option.bind_some, hw, e45, text01_end _ (scale_is _) _ (by omega) _ (by rw [List.length_append, List.length_append, hl]; simp) k (by omega)]
  unfold signL
  rw [if_pos hn]
  simp
 ·
  rw [if_neg hn]
  have hw : n = (n.natAbs : Int) := by omega
  simp only [supercargoref01_Text.j0]
  rw [digits01_f a k (by omega), Option.bind_some]
  have := text01_end _ (scale_is a.data.toList) n.natAbs (by omega) (a.data.toList ++ [32]) (by rw [List.length_append, hl]; simp) k (by omega)
  rw [← hw] at this
  rw [this]
  unfold signL
  rw [if_neg hn]
  simp
end Go.Proofs.YtkblmomfiimkiaaGreatDoor.P
end

section
namespace Go.Proofs.YtkblmomfiimkiaaGreatDoor.P
open Go.RowKit Go.Proofs.YtkblmomfiimkiaaGreatDoorW.PrintWords Go.Proofs.YtkblmomfiimkiaaGreatDoorW.PrintLast Go.Proofs.YtkblmomfiimkiaaGreatDoorW.PrintMore
attribute [local go_sem] max2_int min2_int max_two min_two max_three min_three max_four min_four   -- for this text's walks alone
set_option linter.unusedVariables false
set_option linter.unusedSimpArgs false
def supercargoref05_Digits.f : Nat → Int → Option (ByteArray)
 | 0, _ => none
 | k + 1, a0 => if a0 < 0 then (if a0 > (-10) then ((some (([(wrap64 (48 - a0)) % 256] : List Int) : List Int)).bind fun y273 => (if 1 + (strOfNums y273).size ≤ 9223372036854775807 then (some ((⟨#[45]⟩ : ByteArray) ++ (strOfNums y273))) else (none))) else ((supercargoref05_Digits.f k (wrap64 (Int.tdiv a0 10))).bind fun t276 => ((some (([(wrap64 (48 - (Int.tmod a0 10))) % 256] : List Int) : List Int)).bind fun y277 => (if t276.size + (strOfNums y277).size ≤ 9223372036854775807 then (some (t276 ++ (strOfNums y277))) else (none))))) else (if a0 < 10 then (some (strOfNums (([(wrap64 (48 + a0)) % 256] : List Int)))) else ((supercargoref05_Digits.f k (wrap64 (Int.tdiv a0 10))).bind fun t283 => ((some (([(wrap64 (48 + (Int.tmod a0 10))) % 256] : List Int) : List Int)).bind fun y284 => (if t283.size + (strOfNums y284).size ≤ 9223372036854775807 then (some (t283 ++ (strOfNums y284))) else (none)))))
theorem supercargoref05_Digits.mono_l : ∀ k, (∀ y0, LeO (supercargoref05_Digits.f k y0) (supercargoref05_Digits.f (k + 1) y0))
 | 0 => fun _ r h => by simp [supercargoref05_Digits.f] at h
 | k + 1 => by
  have ih0 := supercargoref05_Digits.mono_l k
  ·
   intro y0
   unfold supercargoref05_Digits.f
   repeat' first
   | (with_reducible exact ih0 _)
   | (with_reducible exact LeO.refl _)
   | (with_reducible exact LeO.none _)
   | (with_reducible refine LeO.ite ?_ ?_)
   | (with_reducible refine LeO.bind ?_ (fun _ => ?_))
   | exact ih0 _
   | exact LeO.none _
   | refine LeO.ite ?_ ?_
   | refine LeO.bind ?_ (fun _ => ?_)
theorem supercargoref05_Digits.mono : ∀ a0 k, LeO (supercargoref05_Digits.f k a0) (supercargoref05_Digits.f (k + 1) a0) := by
 intro a0 k
 have ih0 := supercargoref05_Digits.mono_l k
 exact ih0 a0
def supercargoref05_Digits.T4 : Bool × List (List Nat × List Nat) := (true, [([], []), ([0], [0]), ([1], [1]), ([], []), ([3], [3]), ([4], [4]), ([5], [5]), ([6], [6]), ([7], [7]), ([2, 8], [2, 8]), ([9, 2, 0, 1, 2, 3, 4, 5, 6, 7, 8, 9], [9])])
def supercargoref05_Digits.B4 : List Nat := [0, 1, 3, 0, 8, 24, 56, 120, 248, 511, 1023]
theorem supercargoref05_Digits.tab4 : rtab .any (opsOf Tryz.f77 4) = supercargoref05_Digits.T4 := by kernel_rfl
theorem supercargoref05_Digits.bits4 : waitsOk supercargoref05_Digits.T4.2 supercargoref05_Digits.B4 = true := by kernel_rfl
def supercargoref05_Digits.T7 : Bool × List (List Nat × List Nat) := (true, [([], []), ([0], [0]), ([1], [1]), ([], []), ([3], [3]), ([4], [4]), ([5], [5]), ([6], [6]), ([7], [7]), ([2, 8], [2, 8]), ([9, 2, 0, 1, 2, 3, 4, 5, 6, 7, 8, 9], [9])])
def supercargoref05_Digits.B7 : List Nat := [0, 1, 3, 0, 8, 24, 56, 120, 248, 511, 1023]
theorem supercargoref05_Digits.tab7 : rtab .any (opsOf Tryz.f77 7) = supercargoref05_Digits.T7 := by kernel_rfl
theorem supercargoref05_Digits.bits7 : waitsOk supercargoref05_Digits.T7.2 supercargoref05_Digits.B7 = true := by kernel_rfl
set_option maxHeartbeats 8000000 in
set_option maxRecDepth 100000 in
theorem supercargoref05_Digits.calls (k : Nat) : ∀ (a0 : Int) (r : ByteArray) (w : World) (h : supercargoref05_Digits.f k a0 = some r),
  Calls Tryz.prog 77 #[.int .i64 a0] w fun e w' => e = .returned (.string r) ∧ Below w.heap.size w w' := by
 induction k using Nat.strongRecOn with
 | _ k ih =>
 intro a0 r w h
 cases k with
 | zero => exact absurd h (by simp [supercargoref05_Digits.f])
 | succ k =>
 simp only [supercargoref05_Digits.f] at h
 have HB := Aside0.mk (Below.refl w.heap.size w)
 have H : (if a0 < 0 then (if a0 > (-10) then ((some (([(wrap64 (48 - a0)) % 256] : List Int) : List Int)).bind fun y273 => (if 1 + (strOfNums y273).size ≤ 9223372036854775807 then (some ((⟨#[45]⟩ : ByteArray) ++ (strOfNums y273))) else (none))) else ((supercargoref05_Digits.f k (wrap64 (Int.tdiv a0 10))).bind fun t276 => ((some (([(wrap64 (48 - (Int.tmod a0 10))) % 256] : List Int) : List Int)).bind fun y277 => (if t276.size + (strOfNums y277).size ≤ 9223372036854775807 then (some (t276 ++ (strOfNums y277))) else (none))))) else (if a0 < 10 then (some (strOfNums (([(wrap64 (48 + a0)) % 256] : List Int)))) else ((supercargoref05_Digits.f k (wrap64 (Int.tdiv a0 10))).bind fun t283 => ((some (([(wrap64 (48 + (Int.tmod a0 10))) % 256] : List Int) : List Int)).bind fun y284 => (if t283.size + (strOfNums y284).size ≤ 9223372036854775807 then (some (t283 ++ (strOfNums y284))) else (none)))))) = some r := h
 clear h
 by_cases c2 : a0 < 0
 ·
  rw [if_pos c2] at H
  have c2b0 : decide (a0 < 0) = true := decide_eq_true c2
  clear c2
  by_cases c3 : a0 > (-10)
  ·
   rw [if_pos c3] at H
   have c3b0 : decide ((-10) < a0) = true := decide_eq_true c3
   clear c3
   obtain ⟨y273, hy273⟩ : ∃ y_ : List Int, y_ = (([(wrap64 (48 - a0)) % 256] : List Int)) := ⟨_, rfl⟩
   replace H : (if 1 + (strOfNums y273).size ≤ 9223372036854775807 then (some ((⟨#[45]⟩ : ByteArray) ++ (strOfNums y273))) else (none)) = some r := by first | (rw [hy273]; with_reducible exact H) | (have H2_ := (Option.bind_some _ _).symm.trans H; rw [hy273]; with_reducible exact H2_) | (have H2_ := (Option.bind_some _ _).symm.trans H; with_reducible exact H2_) | with_reducible exact H | (rw [hy273]; exact H) | exact H
   have Ny273 := Aside0.mk hy273
   clear hy273
   by_cases c4 : 1 + (strOfNums y273).size ≤ 9223372036854775807
   ·
    rw [if_pos c4] at H
    have c4b0 := eq_true c4
    have c4b1 : decide (1 + (strOfNums y273).size ≤ 9223372036854775807) = true := decide_eq_true c4
    try have c4b2 : (9223372036854775807 < 1 + (strOfNums y273).size) = False := eq_false (Nat.not_lt.2 c4)
    obtain rfl := Option.some.inj H
    go_enter Tryz.func77, Tryz.ntmps77
    go_wp2_with (first | ((with_reducible refine gate_dst (N := 10) rfl ?_); refine Kd.R_lit (Kd.int .u8) _ 5 ?hg (N := 10) ?hd (xs := ([(wrap64 (48 - a0)) % 256] : List Int)) (inner := [.int .u8 ((wrap64 (48 - a0)) % 256)]) (ok := fun _ => True) (okp := fun _ => True) ?hr ?hp (fun _ hk => hk) trivial (Below.refl _ _) (Nat.le_refl _) (by simp) ?_; (case hd => rfl); (case hg => rfl); (case hr => first | (go_simp; done) | (go_simp; rfl)); (case hp => exact (Reps.one (show Kd.M (Kd.int .u8) _ _ _ ((wrap64 (48 - a0)) % 256) [.int .u8 ((wrap64 (48 - a0)) % 256)] from rfl) (Reps.none _ _))); intro v274 w5 ho6 hb hg_ hnew_; clear hg_ hnew_; (first | rw [← Ny273.out] at ho6 | (simp only [Int.reduceToNat] at ho6; rw [← Ny273.out] at ho6)); have n0_ := Aside0.mk (Kd.R_lower ho6 (below_size (by repeat (first | (with_reducible first | exact HB.out | apply below_alloc | apply pw_below_drewN | apply below_drew1) | exact HB.out)))); have n1_ := Aside0.mk (below_step (by repeat (first | (with_reducible first | exact HB.out | apply below_alloc | apply pw_below_drewN | apply below_drew1) | exact HB.out)) hb); clear HB; have HO275 := n0_; have HB := n1_; clear n0_ n1_; clear hb ho6; have hcv7 := own_string (P := Tryz.prog) Tryz.underlying110 Tryz.underlying5 Tryz.underlying9 (Kd.own_of_R HO275.out)))
    go_ret
    exact ⟨by first | rfl | (simp [errW_none, errW_some] <;> rfl) | (simp [*, errW_none, errW_some] <;> rfl), by repeat (first | (with_reducible first | exact HB.out | apply below_alloc | apply pw_below_drewN | apply below_drew1) | exact HB.out)⟩
   ·
    rw [if_neg c4] at H
    exact absurd H (by simp)
  ·
   rw [if_neg c3] at H
   have c3b0 : decide ((-10) < a0) = false := decide_eq_false c3
   clear c3
   replace H := Option.bind_eq_some_iff.mp H
   obtain ⟨t276, A80, H⟩ := H
   replace H : ((some (([(wrap64 (48 - (Int.tmod a0 10))) % 256] : List Int) : List Int)).bind fun y277 => (if t276.size + (strOfNums y277).size ≤ 9223372036854775807 then (some (t276 ++ (strOfNums y277))) else (none))) = some r := H
   have A8 := Aside0.mk A80
   clear A80
   obtain ⟨y277, hy277⟩ : ∃ y_ : List Int, y_ = (([(wrap64 (48 - (Int.tmod a0 10))) % 256] : List Int)) := ⟨_, rfl⟩
   replace H : (if t276.size + (strOfNums y277).size ≤ 9223372036854775807 then (some (t276 ++ (strOfNums y277))) else (none)) = some r := by first | (rw [hy277]; with_reducible exact H) | (have H2_ := (Option.bind_some _ _).symm.trans H; rw [hy277]; with_reducible exact H2_) | (have H2_ := (Option.bind_some _ _).symm.trans H; with_reducible exact H2_) | with_reducible exact H | (rw [hy277]; exact H) | exact H
   have Ny277 := Aside0.mk hy277
   clear hy277
   by_cases c9 : t276.size + (strOfNums y277).size ≤ 9223372036854775807
   ·
    rw [if_pos c9] at H
    have c9b0 := eq_true c9
    have c9b1 : decide (t276.size + (strOfNums y277).size ≤ 9223372036854775807) = true := decide_eq_true c9
    try have c9b2 : (9223372036854775807 < t276.size + (strOfNums y277).size) = False := eq_false (Nat.not_lt.2 c9)
    obtain rfl := Option.some.inj H
    go_enter Tryz.func77, Tryz.ntmps77
    try go_wp2
    have n0_ := Aside0.mk (below_drew1 HB.out)
    clear HB
    have HB := n0_
    clear n0_
    refine start_ (n := 11) (S := fun w' => True) (ds := []) #[false, false, false, false, false, false, false, false, false, false, false] (by kernel_rfl) rfl rfl trivial (fun hHeld => ?_); refine with_tabW supercargoref05_Digits.tab4 supercargoref05_Digits.bits4 (fun HT_ HW_ => ?_)
    generalize w.drew = w10 at HB hHeld ⊢
    refine pure_ (i := 0) (N := some 13) (v := ?_) (a' := ?_) #[true, false, false, false, false, false, false, false, false, false, false] rfl rfl (any_of HT_.out (by kernel_rfl)) (fun _ _ _ h => h) (Or.inl ⟨by rfl, ?_⟩) ?_ ?_
    rotate_left
    ·
     intro w'
     go_simp
     with_reducible rfl
    rotate_left
    ·
     simp only [Act.put, List.setIfInBounds_toArray, List.set_cons_zero, List.set_cons_succ, i64_w, i32_w]
     rfl
    refine pure_ (i := 1) (N := some 14) (v := ?_) (a' := ?_) #[true, true, false, false, false, false, false, false, false, false, false] rfl rfl (any_of HT_.out (by kernel_rfl)) (fun _ _ _ h => h) (Or.inl ⟨by rfl, ?_⟩) ?_ ?_
    rotate_left
    ·
     intro w'
     go_simp
     with_reducible rfl
    rotate_left
    ·
     simp only [Act.put, List.setIfInBounds_toArray, List.set_cons_zero, List.set_cons_succ, i64_w, i32_w]
     rfl
    refine pure_ (i := 3) (N := some 16) (v := ?_) (a' := ?_) #[true, true, false, true, false, false, false, false, false, false, false] rfl rfl (any_of HT_.out (by kernel_rfl)) (fun _ _ _ h => h) (Or.inl ⟨by rfl, ?_⟩) ?_ ?_
    rotate_left
    ·
     intro w'
     go_simp
     with_reducible rfl
    rotate_left
    ·
     simp only [Act.put, List.setIfInBounds_toArray, List.set_cons_zero, List.set_cons_succ, i64_w, i32_w]
     rfl
    refine pure_ (i := 4) (N := some 17) (v := ?_) (a' := ?_) #[true, true, false, true, true, false, false, false, false, false, false] rfl rfl (any_of HT_.out (by kernel_rfl)) (fun _ _ _ h => h) (Or.inl ⟨by rfl, ?_⟩) ?_ ?_
    rotate_left
    ·
     intro w'
     go_simp
     with_reducible rfl
    rotate_left
    ·
     simp only [Act.put, List.setIfInBounds_toArray, List.set_cons_zero, List.set_cons_succ, i64_w, i32_w]
     rfl
    refine pure_ (i := 5) (N := some 18) (v := ?_) (a' := ?_) #[true, true, false, true, true, true, false, false, false, false, false] rfl rfl (any_of HT_.out (by kernel_rfl)) (fun _ _ _ h => h) (Or.inl ⟨by rfl, ?_⟩) ?_ ?_
    rotate_left
    ·
     intro w'
     go_simp
     with_reducible rfl
    rotate_left
    ·
     simp only [Act.put, List.setIfInBounds_toArray, List.set_cons_zero, List.set_cons_succ, i64_w, i32_w]
     rfl
    refine pure_ (i := 6) (N := some 19) (v := ?_) (a' := ?_) #[true, true, false, true, true, true, true, false, false, false, false] rfl rfl (any_of HT_.out (by kernel_rfl)) (fun _ _ _ h => h) (Or.inl ⟨by rfl, ?_⟩) ?_ ?_
    rotate_left
    ·
     intro w'
     go_simp
     with_reducible rfl
    rotate_left
    ·
     simp only [Act.put, List.setIfInBounds_toArray, List.set_cons_zero, List.set_cons_succ, i64_w, i32_w]
     rfl
    refine join_ (σ := Value) 2 #[true, true, true, true, true, true, true, true, true, false, false] (fun s_ => [(15, .string t276), (20, s_), (21, .string (strOfNums y277))]) (fun s_ w' => (Kd.R (Kd.int .u8) 5 w' w.heap.size (fun _ => True) s_ y277) ∧ (Below w.heap.size w w')) ?_ ?_
    rotate_left
    ·
     intro hCont
     refine two_ (i := 2) (j := 7) (Ni := some 15) (Nj := some 20) #[true, true, true, true, true, true, true, false, false, false, false] #[true, true, false, true, true, true, true, true, false, false, false] rfl rfl rfl rfl (two_of HT_.out (by kernel_rfl)) (by decide) (by decide) (fun K hK => ?_) (fun K hK => ?_)
     ·
      skip
      refine goes_ Tryz.func77 (by kernel_rfl) rfl #[.int .i64 (wrap64 (Int.tdiv a0 10))] (by rfl) rfl rfl (by (try simp only [List.map_toArray, List.map_cons, List.map_nil]); first | done | rfl | (simp only [List.length_drop, List.length_take]; rfl)) ?_
      with_reducible refine (ih k (by omega) (wrap64 (Int.tdiv a0 10)) t276 _ A8.out).mono ?_
      rintro e w11 ⟨rfl, hb⟩
      refine ⟨_, rfl, ?_⟩
      have n0_ := Aside0.mk (below_step (by repeat (first | (with_reducible first | exact HB.out | apply below_alloc | apply pw_below_drewN | apply below_drew1) | exact HB.out)) hb)
      clear HB
      have HB := n0_
      clear n0_
      (try clear hb)
      (try clear hb2)
      (try clear hk)
      (try clear hi)
      refine hK.out _ _ trivial (fun hHeld => ?_)
      clear hK K
      refine norm_ (a' := ?_) ?_ ?_
      rotate_left
      ·
       show Act.put _ (some 15) _ = _
       simp only [Act.put, List.setIfInBounds_toArray, List.set_cons_zero, List.set_cons_succ, i64_w, i32_w]
       rfl
      refine one_ (i := 7) (N := some 20) #[true, true, true, true, true, true, true, true, false, false, false] rfl rfl (one_of HT_.out (by kernel_rfl)) (by decide) (fun K hK => ?_)
      refine Kd.R_lit_step (Kd.int .u8) _ 5 ?hg (N := 20) ?hd (xs := ([(wrap64 (48 - (Int.tmod a0 10))) % 256] : List Int)) (inner := [.int .u8 ((wrap64 (48 - (Int.tmod a0 10))) % 256)]) (ok := fun _ => True) (okp := fun _ => True) ?hr ?hp (fun _ hk => hk) trivial (Below.refl _ _) (Nat.le_refl _) (by simp) ?_; (case hd => rfl); (case hg => rfl); (case hr => first | (go_simp; done) | (go_simp; rfl)); (case hp => exact (Reps.one (show Kd.M (Kd.int .u8) _ _ _ ((wrap64 (48 - (Int.tmod a0 10))) % 256) [.int .u8 ((wrap64 (48 - (Int.tmod a0 10))) % 256)] from rfl) (Reps.none _ _)))
      intro v278 w12 ho13 hb hg_ hnew_
      clear hg_ hnew_
      (first | rw [← Ny277.out] at ho13 | (simp only [Int.reduceToNat] at ho13; rw [← Ny277.out] at ho13))
      have n0_ := Aside0.mk (Kd.R_lower ho13 (below_size (by repeat (first | (with_reducible first | exact HB.out | apply below_alloc | apply pw_below_drewN | apply below_drew1) | exact HB.out))))
      have n1_ := Aside0.mk (below_step (by repeat (first | (with_reducible first | exact HB.out | apply below_alloc | apply pw_below_drewN | apply below_drew1) | exact HB.out)) hb)
      clear HB
      have HO279 := n0_
      have HB := n1_
      clear n0_ n1_
      clear hb ho13
      refine hK.out _ _ trivial (fun hHeld => ?_)
      clear hK K
      refine norm_ (a' := ?_) ?_ ?_
      rotate_left
      ·
       show Act.put _ (some 20) _ = _
       simp only [Act.put, List.setIfInBounds_toArray, List.set_cons_zero, List.set_cons_succ, i64_w, i32_w]
       rfl
      refine one_ (i := 8) (N := some 21) #[true, true, true, true, true, true, true, true, true, false, false] rfl rfl (one_of HT_.out (by kernel_rfl)) (by decide) (fun K hK => ?_)
      have hcv14 := own_string (P := Tryz.prog) Tryz.underlying110 Tryz.underlying5 Tryz.underlying9 (Kd.own_of_R HO279.out)
      refine value_ (w1 := ?_) (v := ?_) (by rfl) rfl ?_ ?_
      rotate_left 2
      ·
       go_simp
       constructor
       ·
        rfl
       ·
        rfl
      clear hcv14
      refine hK.out _ _ trivial (fun hHeld => ?_)
      clear hK K
      refine norm_ (a' := ?_) ?_ ?_
      rotate_left
      ·
       show Act.put _ (some 21) _ = _
       simp only [Act.put, List.setIfInBounds_toArray, List.set_cons_zero, List.set_cons_succ, i64_w, i32_w]
       rfl
      exact norm_ (by simp only [putAll, Act.put, List.setIfInBounds_toArray, List.set_cons_zero, List.set_cons_succ]) (hCont (v278) _ ⟨(by (with_reducible repeat (first | apply Kd.R_alloc | apply Kd.R_drewN | apply Kd.R_drew)); exact HO279.out), (by repeat (first | (with_reducible first | exact HB.out | apply below_alloc | apply pw_below_drewN | apply below_drew1) | exact HB.out))⟩)
     ·
      skip
      refine Kd.R_lit_step (Kd.int .u8) _ 5 ?hg (N := 20) ?hd (xs := ([(wrap64 (48 - (Int.tmod a0 10))) % 256] : List Int)) (inner := [.int .u8 ((wrap64 (48 - (Int.tmod a0 10))) % 256)]) (ok := fun _ => True) (okp := fun _ => True) ?hr ?hp (fun _ hk => hk) trivial (Below.refl _ _) (Nat.le_refl _) (by simp) ?_; (case hd => rfl); (case hg => rfl); (case hr => first | (go_simp; done) | (go_simp; rfl)); (case hp => exact (Reps.one (show Kd.M (Kd.int .u8) _ _ _ ((wrap64 (48 - (Int.tmod a0 10))) % 256) [.int .u8 ((wrap64 (48 - (Int.tmod a0 10))) % 256)] from rfl) (Reps.none _ _)))
      intro v278 w11 ho12 hb hg_ hnew_
      clear hg_ hnew_
      (first | rw [← Ny277.out] at ho12 | (simp only [Int.reduceToNat] at ho12; rw [← Ny277.out] at ho12))
      have n0_ := Aside0.mk (Kd.R_lower ho12 (below_size (by repeat (first | (with_reducible first | exact HB.out | apply below_alloc | apply pw_below_drewN | apply below_drew1) | exact HB.out))))
      have n1_ := Aside0.mk (below_step (by repeat (first | (with_reducible first | exact HB.out | apply below_alloc | apply pw_below_drewN | apply below_drew1) | exact HB.out)) hb)
      clear HB
      have HO279 := n0_
      have HB := n1_
      clear n0_ n1_
      clear hb ho12
      refine hK.out _ _ trivial (fun hHeld => ?_)
      clear hK K
      refine norm_ (a' := ?_) ?_ ?_
      rotate_left
      ·
       show Act.put _ (some 20) _ = _
       simp only [Act.put, List.setIfInBounds_toArray, List.set_cons_zero, List.set_cons_succ, i64_w, i32_w]
       rfl
      refine two_ (i := 2) (j := 8) (Ni := some 15) (Nj := some 21) #[true, true, true, true, true, true, true, true, false, false, false] #[true, true, false, true, true, true, true, true, true, false, false] rfl rfl rfl rfl (two_of HT_.out (by kernel_rfl)) (by decide) (by decide) (fun K hK => ?_) (fun K hK => ?_)
      ·
       skip
       refine goes_ Tryz.func77 (by kernel_rfl) rfl #[.int .i64 (wrap64 (Int.tdiv a0 10))] (by rfl) rfl rfl (by (try simp only [List.map_toArray, List.map_cons, List.map_nil]); first | done | rfl | (simp only [List.length_drop, List.length_take]; rfl)) ?_
       with_reducible refine (ih k (by omega) (wrap64 (Int.tdiv a0 10)) t276 _ A8.out).mono ?_
       rintro e w13 ⟨rfl, hb⟩
       refine ⟨_, rfl, ?_⟩
       have n0_ := Aside0.mk (Kd.R_below (by (with_reducible repeat (first | apply Kd.R_alloc | apply Kd.R_drewN | apply Kd.R_drew)); exact HO279.out) hb)
       have n1_ := Aside0.mk (below_step (by repeat (first | (with_reducible first | exact HB.out | apply below_alloc | apply pw_below_drewN | apply below_drew1) | exact HB.out)) hb)
       clear HO279
       clear HB
       have HO279 := n0_
       have HB := n1_
       clear n0_ n1_
       (try clear hb)
       (try clear hb2)
       (try clear hk)
       (try clear hi)
       refine hK.out _ _ trivial (fun hHeld => ?_)
       clear hK K
       refine norm_ (a' := ?_) ?_ ?_
       rotate_left
       ·
        show Act.put _ (some 15) _ = _
        simp only [Act.put, List.setIfInBounds_toArray, List.set_cons_zero, List.set_cons_succ, i64_w, i32_w]
        rfl
       refine one_ (i := 8) (N := some 21) #[true, true, true, true, true, true, true, true, true, false, false] rfl rfl (one_of HT_.out (by kernel_rfl)) (by decide) (fun K hK => ?_)
       have hcv14 := own_string (P := Tryz.prog) Tryz.underlying110 Tryz.underlying5 Tryz.underlying9 (Kd.own_of_R HO279.out)
       refine value_ (w1 := ?_) (v := ?_) (by rfl) rfl ?_ ?_
       rotate_left 2
       ·
        go_simp
        constructor
        ·
         rfl
        ·
         rfl
       clear hcv14
       refine hK.out _ _ trivial (fun hHeld => ?_)
       clear hK K
       refine norm_ (a' := ?_) ?_ ?_
       rotate_left
       ·
        show Act.put _ (some 21) _ = _
        simp only [Act.put, List.setIfInBounds_toArray, List.set_cons_zero, List.set_cons_succ, i64_w, i32_w]
        rfl
       exact norm_ (by simp only [putAll, Act.put, List.setIfInBounds_toArray, List.set_cons_zero, List.set_cons_succ]) (hCont (v278) _ ⟨(by (with_reducible repeat (first | apply Kd.R_alloc | apply Kd.R_drewN | apply Kd.R_drew)); exact HO279.out), (by repeat (first | (with_reducible first | exact HB.out | apply below_alloc | apply pw_below_drewN | apply below_drew1) | exact HB.out))⟩)
      ·
       skip
       have hcv13 := own_string (P := Tryz.prog) Tryz.underlying110 Tryz.underlying5 Tryz.underlying9 (Kd.own_of_R HO279.out)
       refine value_ (w1 := ?_) (v := ?_) (by rfl) rfl ?_ ?_
       rotate_left 2
       ·
        go_simp
        constructor
        ·
         rfl
        ·
         rfl
       clear hcv13
       refine hK.out _ _ trivial (fun hHeld => ?_)
       clear hK K
       refine norm_ (a' := ?_) ?_ ?_
       rotate_left
       ·
        show Act.put _ (some 21) _ = _
        simp only [Act.put, List.setIfInBounds_toArray, List.set_cons_zero, List.set_cons_succ, i64_w, i32_w]
        rfl
       refine one_ (i := 2) (N := some 15) #[true, true, true, true, true, true, true, true, true, false, false] rfl rfl (one_of HT_.out (by kernel_rfl)) (by decide) (fun K hK => ?_)
       refine goes_ Tryz.func77 (by kernel_rfl) rfl #[.int .i64 (wrap64 (Int.tdiv a0 10))] (by rfl) rfl rfl (by (try simp only [List.map_toArray, List.map_cons, List.map_nil]); first | done | rfl | (simp only [List.length_drop, List.length_take]; rfl)) ?_
       with_reducible refine (ih k (by omega) (wrap64 (Int.tdiv a0 10)) t276 _ A8.out).mono ?_
       rintro e w14 ⟨rfl, hb⟩
       refine ⟨_, rfl, ?_⟩
       have n0_ := Aside0.mk (Kd.R_below (by (with_reducible repeat (first | apply Kd.R_alloc | apply Kd.R_drewN | apply Kd.R_drew)); exact HO279.out) hb)
       have n1_ := Aside0.mk (below_step (by repeat (first | (with_reducible first | exact HB.out | apply below_alloc | apply pw_below_drewN | apply below_drew1) | exact HB.out)) hb)
       clear HO279
       clear HB
       have HO279 := n0_
       have HB := n1_
       clear n0_ n1_
       (try clear hb)
       (try clear hb2)
       (try clear hk)
       (try clear hi)
       refine hK.out _ _ trivial (fun hHeld => ?_)
       clear hK K
       refine norm_ (a' := ?_) ?_ ?_
       rotate_left
       ·
        show Act.put _ (some 15) _ = _
        simp only [Act.put, List.setIfInBounds_toArray, List.set_cons_zero, List.set_cons_succ, i64_w, i32_w]
        rfl
       exact norm_ (by simp only [putAll, Act.put, List.setIfInBounds_toArray, List.set_cons_zero, List.set_cons_succ]) (hCont (v278) _ ⟨(by (with_reducible repeat (first | apply Kd.R_alloc | apply Kd.R_drewN | apply Kd.R_drew)); exact HO279.out), (by repeat (first | (with_reducible first | exact HB.out | apply below_alloc | apply pw_below_drewN | apply below_drew1) | exact HB.out))⟩)
    rintro v278 w15 ⟨h0_, h1_⟩
    have n0_ : Aside0 (Kd.R (Kd.int .u8) 5 w15 w.heap.size (fun _ => True) v278 y277) := ⟨h0_⟩
    have n1_ : Aside0 (Below w.heap.size w w15) := ⟨h1_⟩
    clear HB
    clear h0_ h1_
    have HO279 := n0_
    have HB := n1_
    clear n0_ n1_
    have hHeld := trivial
    refine norm_ (a' := ?_) ?_ ?_
    rotate_left
    ·
     simp only [putAll, Act.put, List.setIfInBounds_toArray, List.set_cons_zero, List.set_cons_succ]
     rfl
    refine pure_ (i := 9) (N := some 22) (v := ?_) (a' := ?_) #[true, true, true, true, true, true, true, true, true, true, false] rfl rfl (any_of HT_.out (by kernel_rfl)) (fun _ _ _ h => h) (Or.inl ⟨by rfl, ?_⟩) ?_ ?_
    rotate_left
    ·
     intro w'
     go_simp
     with_reducible rfl
    rotate_left
    ·
     simp only [Act.put, List.setIfInBounds_toArray, List.set_cons_zero, List.set_cons_succ, i64_w, i32_w]
     rfl
    refine pure_ (i := 10) (N := some 2) (v := ?_) (a' := ?_) #[true, true, true, true, true, true, true, true, true, true, true] rfl rfl (any_of HT_.out (by kernel_rfl)) (fun _ _ _ h => h) (Or.inl ⟨by rfl, ?_⟩) ?_ ?_
    rotate_left
    ·
     intro w'
     go_simp
     with_reducible rfl
    rotate_left
    ·
     simp only [Act.put, List.setIfInBounds_toArray, List.set_cons_zero, List.set_cons_succ, i64_w, i32_w]
     rfl
    refine done_ (done_of HT_.out (by kernel_rfl)) ?_
    try go_wp2
    go_ret
    exact ⟨by first | rfl | (simp [errW_none, errW_some] <;> rfl) | (simp [*, errW_none, errW_some] <;> rfl), by repeat (first | (with_reducible first | exact HB.out | apply below_alloc | apply pw_below_drewN | apply below_drew1) | exact HB.out)⟩
   ·
    rw [if_neg c9] at H
    exact absurd H (by simp)
 ·
  rw [if_neg c2] at H
  have c2b0 : decide (a0 < 0) = false := decide_eq_false c2
  clear c2
  by_cases c16 : a0 < 10
  ·
   rw [if_pos c16] at H
   have c16b0 : decide (a0 < 10) = true := decide_eq_true c16
   clear c16
   obtain ⟨y280, hy280⟩ : ∃ y_ : List Int, y_ = (([(wrap64 (48 + a0)) % 256] : List Int)) := ⟨_, rfl⟩
   replace H : (some (strOfNums y280)) = some r := by first | (rw [hy280]; with_reducible exact H) | (have H2_ := (Option.bind_some _ _).symm.trans H; rw [hy280]; with_reducible exact H2_) | (have H2_ := (Option.bind_some _ _).symm.trans H; with_reducible exact H2_) | with_reducible exact H | (rw [hy280]; exact H) | exact H
   have Ny280 := Aside0.mk hy280
   clear hy280
   obtain rfl := Option.some.inj H
   go_enter Tryz.func77, Tryz.ntmps77
   go_wp2_with (first | ((with_reducible refine gate_dst (N := 28) rfl ?_); refine Kd.R_lit (Kd.int .u8) _ 5 ?hg (N := 28) ?hd (xs := ([(wrap64 (48 + a0)) % 256] : List Int)) (inner := [.int .u8 ((wrap64 (48 + a0)) % 256)]) (ok := fun _ => True) (okp := fun _ => True) ?hr ?hp (fun _ hk => hk) trivial (Below.refl _ _) (Nat.le_refl _) (by simp) ?_; (case hd => rfl); (case hg => rfl); (case hr => first | (go_simp; done) | (go_simp; rfl)); (case hp => exact (Reps.one (show Kd.M (Kd.int .u8) _ _ _ ((wrap64 (48 + a0)) % 256) [.int .u8 ((wrap64 (48 + a0)) % 256)] from rfl) (Reps.none _ _))); intro v281 w17 ho18 hb hg_ hnew_; clear hg_ hnew_; (first | rw [← Ny280.out] at ho18 | (simp only [Int.reduceToNat] at ho18; rw [← Ny280.out] at ho18)); have n0_ := Aside0.mk (Kd.R_lower ho18 (below_size (by repeat (first | (with_reducible first | exact HB.out | apply below_alloc | apply pw_below_drewN | apply below_drew1) | exact HB.out)))); have n1_ := Aside0.mk (below_step (by repeat (first | (with_reducible first | exact HB.out | apply below_alloc | apply pw_below_drewN | apply below_drew1) | exact HB.out)) hb); clear HB; have HO282 := n0_; have HB := n1_; clear n0_ n1_; clear hb ho18; have hcv19 := own_string (P := Tryz.prog) Tryz.underlying110 Tryz.underlying5 Tryz.underlying9 (Kd.own_of_R HO282.out)))
   go_ret
   exact ⟨by first | rfl | (simp [errW_none, errW_some] <;> rfl) | (simp [*, errW_none, errW_some] <;> rfl), by repeat (first | (with_reducible first | exact HB.out | apply below_alloc | apply pw_below_drewN | apply below_drew1) | exact HB.out)⟩
  ·
   rw [if_neg c16] at H
   have c16b0 : decide (a0 < 10) = false := decide_eq_false c16
   clear c16
   replace H := Option.bind_eq_some_iff.mp H
   obtain ⟨t283, A200, H⟩ := H
   replace H : ((some (([(wrap64 (48 + (Int.tmod a0 10))) % 256] : List Int) : List Int)).bind fun y284 => (if t283.size + (strOfNums y284).size ≤ 9223372036854775807 then (some (t283 ++ (strOfNums y284))) else (none))) = some r := H
   have A20 := Aside0.mk A200
   clear A200
   obtain ⟨y284, hy284⟩ : ∃ y_ : List Int, y_ = (([(wrap64 (48 + (Int.tmod a0 10))) % 256] : List Int)) := ⟨_, rfl⟩
   replace H : (if t283.size + (strOfNums y284).size ≤ 9223372036854775807 then (some (t283 ++ (strOfNums y284))) else (none)) = some r := by first | (rw [hy284]; with_reducible exact H) | (have H2_ := (Option.bind_some _ _).symm.trans H; rw [hy284]; with_reducible exact H2_) | (have H2_ := (Option.bind_some _ _).symm.trans H; with_reducible exact H2_) | with_reducible exact H | (rw [hy284]; exact H) | exact H
   have Ny284 := Aside0.mk hy284
   clear hy284
   by_cases c21 : t283.size + (strOfNums y284).size ≤ 9223372036854775807
   ·
    rw [if_pos c21] at H
    have c21b0 := eq_true c21
    have c21b1 : decide (t283.size + (strOfNums y284).size ≤ 9223372036854775807) = true := decide_eq_true c21
    try have c21b2 : (9223372036854775807 < t283.size + (strOfNums y284).size) = False := eq_false (Nat.not_lt.2 c21)
    obtain rfl := Option.some.inj H
    go_enter Tryz.func77, Tryz.ntmps77
    try go_wp2
    have n0_ := Aside0.mk (below_drew1 HB.out)
    clear HB
    have HB := n0_
    clear n0_
    refine start_ (n := 11) (S := fun w' => True) (ds := []) #[false, false, false, false, false, false, false, false, false, false, false] (by kernel_rfl) rfl rfl trivial (fun hHeld => ?_); refine with_tabW supercargoref05_Digits.tab7 supercargoref05_Digits.bits7 (fun HT_ HW_ => ?_)
    generalize w.drew = w22 at HB hHeld ⊢
    refine pure_ (i := 0) (N := some 30) (v := ?_) (a' := ?_) #[true, false, false, false, false, false, false, false, false, false, false] rfl rfl (any_of HT_.out (by kernel_rfl)) (fun _ _ _ h => h) (Or.inl ⟨by rfl, ?_⟩) ?_ ?_
    rotate_left
    ·
     intro w'
     go_simp
     with_reducible rfl
    rotate_left
    ·
     simp only [Act.put, List.setIfInBounds_toArray, List.set_cons_zero, List.set_cons_succ, i64_w, i32_w]
     rfl
    refine pure_ (i := 1) (N := some 31) (v := ?_) (a' := ?_) #[true, true, false, false, false, false, false, false, false, false, false] rfl rfl (any_of HT_.out (by kernel_rfl)) (fun _ _ _ h => h) (Or.inl ⟨by rfl, ?_⟩) ?_ ?_
    rotate_left
    ·
     intro w'
     go_simp
     with_reducible rfl
    rotate_left
    ·
     simp only [Act.put, List.setIfInBounds_toArray, List.set_cons_zero, List.set_cons_succ, i64_w, i32_w]
     rfl
    refine pure_ (i := 3) (N := some 33) (v := ?_) (a' := ?_) #[true, true, false, true, false, false, false, false, false, false, false] rfl rfl (any_of HT_.out (by kernel_rfl)) (fun _ _ _ h => h) (Or.inl ⟨by rfl, ?_⟩) ?_ ?_
    rotate_left
    ·
     intro w'
     go_simp
     with_reducible rfl
    rotate_left
    ·
     simp only [Act.put, List.setIfInBounds_toArray, List.set_cons_zero, List.set_cons_succ, i64_w, i32_w]
     rfl
    refine pure_ (i := 4) (N := some 34) (v := ?_) (a' := ?_) #[true, true, false, true, true, false, false, false, false, false, false] rfl rfl (any_of HT_.out (by kernel_rfl)) (fun _ _ _ h => h) (Or.inl ⟨by rfl, ?_⟩) ?_ ?_
    rotate_left
    ·
     intro w'
     go_simp
     with_reducible rfl
    rotate_left
    ·
     simp only [Act.put, List.setIfInBounds_toArray, List.set_cons_zero, List.set_cons_succ, i64_w, i32_w]
     rfl
    refine pure_ (i := 5) (N := some 35) (v := ?_) (a' := ?_) #[true, true, false, true, true, true, false, false, false, false, false] rfl rfl (any_of HT_.out (by kernel_rfl)) (fun _ _ _ h => h) (Or.inl ⟨by rfl, ?_⟩) ?_ ?_
    rotate_left
    ·
     intro w'
     go_simp
     with_reducible rfl
    rotate_left
    ·
     simp only [Act.put, List.setIfInBounds_toArray, List.set_cons_zero, List.set_cons_succ, i64_w, i32_w]
     rfl
    refine pure_ (i := 6) (N := some 36) (v := ?_) (a' := ?_) #[true, true, false, true, true, true, true, false, false, false, false] rfl rfl (any_of HT_.out (by kernel_rfl)) (fun _ _ _ h => h) (Or.inl ⟨by rfl, ?_⟩) ?_ ?_
    rotate_left
    ·
     intro w'
     go_simp
     with_reducible rfl
    rotate_left
    ·
     simp only [Act.put, List.setIfInBounds_toArray, List.set_cons_zero, List.set_cons_succ, i64_w, i32_w]
     rfl
    refine join_ (σ := Value) 2 #[true, true, true, true, true, true, true, true, true, false, false] (fun s_ => [(32, .string t283), (37, s_), (38, .string (strOfNums y284))]) (fun s_ w' => (Kd.R (Kd.int .u8) 5 w' w.heap.size (fun _ => True) s_ y284) ∧ (Below w.heap.size w w')) ?_ ?_
    rotate_left
    ·
     intro hCont
     refine two_ (i := 2) (j := 7) (Ni := some 32) (Nj := some 37) #[true, true, true, true, true, true, true, false, false, false, false] #[true, true, false, true, true, true, true, true, false, false, false] rfl rfl rfl rfl (two_of HT_.out (by kernel_rfl)) (by decide) (by decide) (fun K hK => ?_) (fun K hK => ?_)
     ·
      skip
      refine goes_ Tryz.func77 (by kernel_rfl) rfl #[.int .i64 (wrap64 (Int.tdiv a0 10))] (by rfl) rfl rfl (by (try simp only [List.map_toArray, List.map_cons, List.map_nil]); first | done | rfl | (simp only [List.length_drop, List.length_take]; rfl)) ?_
      with_reducible refine (ih k (by omega) (wrap64 (Int.tdiv a0 10)) t283 _ A20.out).mono ?_
      rintro e w23 ⟨rfl, hb⟩
      refine ⟨_, rfl, ?_⟩
      have n0_ := Aside0.mk (below_step (by repeat (first | (with_reducible first | exact HB.out | apply below_alloc | apply pw_below_drewN | apply below_drew1) | exact HB.out)) hb)
      clear HB
      have HB := n0_
      clear n0_
      (try clear hb)
      (try clear hb2)
      (try clear hk)
      (try clear hi)
      refine hK.out _ _ trivial (fun hHeld => ?_)
      clear hK K
      refine norm_ (a' := ?_) ?_ ?_
      rotate_left
      ·
       show Act.put _ (some 32) _ = _
       simp only [Act.put, List.setIfInBounds_toArray, List.set_cons_zero, List.set_cons_succ, i64_w, i32_w]
       rfl
      refine one_ (i := 7) (N := some 37) #[true, true, true, true, true, true, true, true, false, false, false] rfl rfl (one_of HT_.out (by kernel_rfl)) (by decide) (fun K hK => ?_)
      refine Kd.R_lit_step (Kd.int .u8) _ 5 ?hg (N := 37) ?hd (xs := ([(wrap64 (48 + (Int.tmod a0 10))) % 256] : List Int)) (inner := [.int .u8 ((wrap64 (48 + (Int.tmod a0 10))) % 256)]) (ok := fun _ => True) (okp := fun _ => True) ?hr ?hp (fun _ hk => hk) trivial (Below.refl _ _) (Nat.le_refl _) (by simp) ?_; (case hd => rfl); (case hg => rfl); (case hr => first | (go_simp; done) | (go_simp; rfl)); (case hp => exact (Reps.one (show Kd.M (Kd.int .u8) _ _ _ ((wrap64 (48 + (Int.tmod a0 10))) % 256) [.int .u8 ((wrap64 (48 + (Int.tmod a0 10))) % 256)] from rfl) (Reps.none _ _)))
      intro v285 w24 ho25 hb hg_ hnew_
      clear hg_ hnew_
      (first | rw [← Ny284.out] at ho25 | (simp only [Int.reduceToNat] at ho25; rw [← Ny284.out] at ho25))
      have n0_ := Aside0.mk (Kd.R_lower ho25 (below_size (by repeat (first | (with_reducible first | exact HB.out | apply below_alloc | apply pw_below_drewN | apply below_drew1) | exact HB.out))))
      have n1_ := Aside0.mk (below_step (by repeat (first | (with_reducible first | exact HB.out | apply below_alloc | apply pw_below_drewN | apply below_drew1) | exact HB.out)) hb)
      clear HB
      have HO286 := n0_
      have HB := n1_
      clear n0_ n1_
      clear hb ho25
      refine hK.out _ _ trivial (fun hHeld => ?_)
      clear hK K
      refine norm_ (a' := ?_) ?_ ?_
      rotate_left
      ·
       show Act.put _ (some 37) _ = _
       simp only [Act.put, List.setIfInBounds_toArray, List.set_cons_zero, List.set_cons_succ, i64_w, i32_w]
       rfl
      refine one_ (i := 8) (N := some 38) #[true, true, true, true, true, true, true, true, true, false, false] rfl rfl (one_of HT_.out (by kernel_rfl)) (by decide) (fun K hK => ?_)
      have hcv26 := own_string (P := Tryz.prog) Tryz.underlying110 Tryz.underlying5 Tryz.underlying9 (Kd.own_of_R HO286.out)
      refine value_ (w1 := ?_) (v := ?_) (by rfl) rfl ?_ ?_
      rotate_left 2
      ·
       go_simp
       constructor
       ·
        rfl
       ·
        rfl
      clear hcv26
      refine hK.out _ _ trivial (fun hHeld => ?_)
      clear hK K
      refine norm_ (a' := ?_) ?_ ?_
      rotate_left
      ·
       show Act.put _ (some 38) _ = _
       simp only [Act.put, List.setIfInBounds_toArray, List.set_cons_zero, List.set_cons_succ, i64_w, i32_w]
       rfl
      exact norm_ (by simp only [putAll, Act.put, List.setIfInBounds_toArray, List.set_cons_zero, List.set_cons_succ]) (hCont (v285) _ ⟨(by (with_reducible repeat (first | apply Kd.R_alloc | apply Kd.R_drewN | apply Kd.R_drew)); exact HO286.out), (by repeat (first | (with_reducible first | exact HB.out | apply below_alloc | apply pw_below_drewN | apply below_drew1) | exact HB.out))⟩)
     ·
      skip
      refine Kd.R_lit_step (Kd.int .u8) _ 5 ?hg (N := 37) ?hd (xs := ([(wrap64 (48 + (Int.tmod a0 10))) % 256] : List Int)) (inner := [.int .u8 ((wrap64 (48 + (Int.tmod a0 10))) % 256)]) (ok := fun _ => True) (okp := fun _ => True) ?hr ?hp (fun _ hk => hk) trivial (Below.refl _ _) (Nat.le_refl _) (by simp) ?_; (case hd => rfl); (case hg => rfl); (case hr => first | (go_simp; done) | (go_simp; rfl)); (case hp => exact (Reps.one (show Kd.M (Kd.int .u8) _ _ _ ((wrap64 (48 + (Int.tmod a0 10))) % 256) [.int .u8 ((wrap64 (48 + (Int.tmod a0 10))) % 256)] from rfl) (Reps.none _ _)))
      intro v285 w23 ho24 hb hg_ hnew_
      clear hg_ hnew_
      (first | rw [← Ny284.out] at ho24 | (simp only [Int.reduceToNat] at ho24; rw [← Ny284.out] at ho24))
      have n0_ := Aside0.mk (Kd.R_lower ho24 (below_size (by repeat (first | (with_reducible first | exact HB.out | apply below_alloc | apply pw_below_drewN | apply below_drew1) | exact HB.out))))
      have n1_ := Aside0.mk (below_step (by repeat (first | (with_reducible first | exact HB.out | apply below_alloc | apply pw_below_drewN | apply below_drew1) | exact HB.out)) hb)
      clear HB
      have HO286 := n0_
      have HB := n1_
      clear n0_ n1_
      clear hb ho24
      refine hK.out _ _ trivial (fun hHeld => ?_)
      clear hK K
      refine norm_ (a' := ?_) ?_ ?_
      rotate_left
      ·
       show Act.put _ (some 37) _ = _
       simp only [Act.put, List.setIfInBounds_toArray, List.set_cons_zero, List.set_cons_succ, i64_w, i32_w]
       rfl
      refine two_ (i := 2) (j := 8) (Ni := some 32) (Nj := some 38) #[true, true, true, true, true, true, true, true, false, false, false] #[true, true, false, true, true, true, true, true, true, false, false] rfl rfl rfl rfl (two_of HT_.out (by kernel_rfl)) (by decide) (by decide) (fun K hK => ?_) (fun K hK => ?_)
      ·
       skip
       refine goes_ Tryz.func77 (by kernel_rfl) rfl #[.int .i64 (wrap64 (Int.tdiv a0 10))] (by rfl) rfl rfl (by (try simp only [List.map_toArray, List.map_cons, List.map_nil]); first | done | rfl | (simp only [List.length_drop, List.length_take]; rfl)) ?_
       with_reducible refine (ih k (by omega) (wrap64 (Int.tdiv a0 10)) t283 _ A20.out).mono ?_
       rintro e w25 ⟨rfl, hb⟩
       refine ⟨_, rfl, ?_⟩
       have n0_ := Aside0.mk (Kd.R_below (by (with_reducible repeat (first | apply Kd.R_alloc | apply Kd.R_drewN | apply Kd.R_drew)); exact HO286.out) hb)
       have n1_ := Aside0.mk (below_step (by repeat (first | (with_reducible first | exact HB.out | apply below_alloc | apply pw_below_drewN | apply below_drew1) | exact HB.out)) hb)
       clear HO286
       clear HB
       have HO286 := n0_
       have HB := n1_
       clear n0_ n1_
       (try clear hb)
       (try clear hb2)
       (try clear hk)
       (try clear hi)
       refine hK.out _ _ trivial (fun hHeld => ?_)
       clear hK K
       refine norm_ (a' := ?_) ?_ ?_
       rotate_left
       ·
        show Act.put _ (some 32) _ = _
        simp only [Act.put, List.setIfInBounds_toArray, List.set_cons_zero, List.set_cons_succ, i64_w, i32_w]
        rfl
       refine one_ (i := 8) (N := some 38) #[true, true, true, true, true, true, true, true, true, false, false] rfl rfl (one_of HT_.out (by kernel_rfl)) (by decide) (fun K hK => ?_)
       have hcv26 := own_string (P := Tryz.prog) Tryz.underlying110 Tryz.underlying5 Tryz.underlying9 (Kd.own_of_R HO286.out)
       refine value_ (w1 := ?_) (v := ?_) (by rfl) rfl ?_ ?_
       rotate_left 2
       ·
        go_simp
        constructor
        ·
         rfl
        ·
         rfl
       clear hcv26
       refine hK.out _ _ trivial (fun hHeld => ?_)
       clear hK K
       refine norm_ (a' := ?_) ?_ ?_
       rotate_left
       ·
        show Act.put _ (some 38) _ = _
        simp only [Act.put, List.setIfInBounds_toArray, List.set_cons_zero, List.set_cons_succ, i64_w, i32_w]
        rfl
       exact norm_ (by simp only [putAll, Act.put, List.setIfInBounds_toArray, List.set_cons_zero, List.set_cons_succ]) (hCont (v285) _ ⟨(by (with_reducible repeat (first | apply Kd.R_alloc | apply Kd.R_drewN | apply Kd.R_drew)); exact HO286.out), (by repeat (first | (with_reducible first | exact HB.out | apply below_alloc | apply pw_below_drewN | apply below_drew1) | exact HB.out))⟩)
      ·
       skip
       have hcv25 := own_string (P := Tryz.prog) Tryz.underlying110 Tryz.underlying5 Tryz.underlying9 (Kd.own_of_R HO286.out)
       refine value_ (w1 := ?_) (v := ?_) (by rfl) rfl ?_ ?_
       rotate_left 2
       ·
        go_simp
        constructor
        ·
         rfl
        ·
         rfl
       clear hcv25
       refine hK.out _ _ trivial (fun hHeld => ?_)
       clear hK K
       refine norm_ (a' := ?_) ?_ ?_
       rotate_left
       ·
        show Act.put _ (some 38) _ = _
        simp only [Act.put, List.setIfInBounds_toArray, List.set_cons_zero, List.set_cons_succ, i64_w, i32_w]
        rfl
       refine one_ (i := 2) (N := some 32) #[true, true, true, true, true, true, true, true, true, false, false] rfl rfl (one_of HT_.out (by kernel_rfl)) (by decide) (fun K hK => ?_)
       refine goes_ Tryz.func77 (by kernel_rfl) rfl #[.int .i64 (wrap64 (Int.tdiv a0 10))] (by rfl) rfl rfl (by (try simp only [List.map_toArray, List.map_cons, List.map_nil]); first | done | rfl | (simp only [List.length_drop, List.length_take]; rfl)) ?_
       with_reducible refine (ih k (by omega) (wrap64 (Int.tdiv a0 10)) t283 _ A20.out).mono ?_
       rintro e w26 ⟨rfl, hb⟩
       refine ⟨_, rfl, ?_⟩
       have n0_ := Aside0.mk (Kd.R_below (by (with_reducible repeat (first | apply Kd.R_alloc | apply Kd.R_drewN | apply Kd.R_drew)); exact HO286.out) hb)
       have n1_ := Aside0.mk (below_step (by repeat (first | (with_reducible first | exact HB.out | apply below_alloc | apply pw_below_drewN | apply below_drew1) | exact HB.out)) hb)
       clear HO286
       clear HB
       have HO286 := n0_
       have HB := n1_
       clear n0_ n1_
       (try clear hb)
       (try clear hb2)
       (try clear hk)
       (try clear hi)
       refine hK.out _ _ trivial (fun hHeld => ?_)
       clear hK K
       refine norm_ (a' := ?_) ?_ ?_
       rotate_left
       ·
        show Act.put _ (some 32) _ = _
        simp only [Act.put, List.setIfInBounds_toArray, List.set_cons_zero, List.set_cons_succ, i64_w, i32_w]
        rfl
       exact norm_ (by simp only [putAll, Act.put, List.setIfInBounds_toArray, List.set_cons_zero, List.set_cons_succ]) (hCont (v285) _ ⟨(by (with_reducible repeat (first | apply Kd.R_alloc | apply Kd.R_drewN | apply Kd.R_drew)); exact HO286.out), (by repeat (first | (with_reducible first | exact HB.out | apply below_alloc | apply pw_below_drewN | apply below_drew1) | exact HB.out))⟩)
    rintro v285 w27 ⟨h0_, h1_⟩
    have n0_ : Aside0 (Kd.R (Kd.int .u8) 5 w27 w.heap.size (fun _ => True) v285 y284) := ⟨h0_⟩
    have n1_ : Aside0 (Below w.heap.size w w27) := ⟨h1_⟩
    clear HB
    clear h0_ h1_
    have HO286 := n0_
    have HB := n1_
    clear n0_ n1_
    have hHeld := trivial
    refine norm_ (a' := ?_) ?_ ?_
    rotate_left
    ·
     simp only [putAll, Act.put, List.setIfInBounds_toArray, List.set_cons_zero, List.set_cons_succ]
     rfl
    refine pure_ (i := 9) (N := some 39) (v := ?_) (a' := ?_) #[true, true, true, true, true, true, true, true, true, true, false] rfl rfl (any_of HT_.out (by kernel_rfl)) (fun _ _ _ h => h) (Or.inl ⟨by rfl, ?_⟩) ?_ ?_
    rotate_left
    ·
     intro w'
     go_simp
     with_reducible rfl
    rotate_left
    ·
     simp only [Act.put, List.setIfInBounds_toArray, List.set_cons_zero, List.set_cons_succ, i64_w, i32_w]
     rfl
    refine pure_ (i := 10) (N := some 2) (v := ?_) (a' := ?_) #[true, true, true, true, true, true, true, true, true, true, true] rfl rfl (any_of HT_.out (by kernel_rfl)) (fun _ _ _ h => h) (Or.inl ⟨by rfl, ?_⟩) ?_ ?_
    rotate_left
    ·
     intro w'
     go_simp
     with_reducible rfl
    rotate_left
    ·
     simp only [Act.put, List.setIfInBounds_toArray, List.set_cons_zero, List.set_cons_succ, i64_w, i32_w]
     rfl
    refine done_ (done_of HT_.out (by kernel_rfl)) ?_
    try go_wp2
    go_ret
    exact ⟨by first | rfl | (simp [errW_none, errW_some] <;> rfl) | (simp [*, errW_none, errW_some] <;> rfl), by repeat (first | (with_reducible first | exact HB.out | apply below_alloc | apply pw_below_drewN | apply below_drew1) | exact HB.out)⟩
   ·
    rw [if_neg c21] at H
    exact absurd H (by simp)
end Go.Proofs.YtkblmomfiimkiaaGreatDoor.P
end

section
namespace Go.Proofs.YtkblmomfiimkiaaGreatDoor.P
open Go.RowKit Go.Proofs.YtkblmomfiimkiaaGreatDoorW.PrintWords Go.Proofs.YtkblmomfiimkiaaGreatDoorW.PrintLast Go.Proofs.YtkblmomfiimkiaaGreatDoorW.PrintMore
set_option linter.unusedSimpArgs false
set_option linter.unusedVariables false
open Go.Proofs.YtkblmomfiimkiaaGreatDoor.Fp
open Go.Lib (itoa decDigits parseIntB parseUintB parseUintM)
theorem num_one (x : Int) (c : Nat) (h : x.toNat = c) : strOfNums [x] = ⟨([UInt8.ofNat c] : List UInt8).toArray⟩ := by
 show (⟨([x].map fun n => UInt8.ofNat n.toNat).toArray⟩ : ByteArray) = _
 rw [List.map_singleton, h]
theorem num_dig (e : Nat) (h : e < 10) : strOfNums [wrap64 (48 + (e : Int)) % 256] = ⟨([UInt8.ofNat (48 + e)] : List UInt8).toArray⟩ := num_one _ _ (by unfold wrap64; omega)
theorem num_neg (e : Nat) (h : e < 10) : strOfNums [wrap64 (48 - -(e : Int)) % 256] = ⟨([UInt8.ofNat (48 + e)] : List UInt8).toArray⟩ := num_one _ _ (by unfold wrap64; omega)
theorem app_mkN (L M : List UInt8) : ((⟨L.toArray⟩ : ByteArray) ++ (⟨M.toArray⟩ : ByteArray)) = ⟨(L ++ M).toArray⟩ := by
 apply ByteArray.ext; simp
theorem size_mkN (L : List UInt8) : (⟨L.toArray⟩ : ByteArray).size = L.length := by simp [ByteArray.size]
theorem tdiv_pos (m : Nat) : ((m : Int)).tdiv 10 = ((m / 10 : Nat) : Int) := rfl
theorem tmod_pos (m : Nat) : ((m : Int)).tmod 10 = ((m % 10 : Nat) : Int) := rfl
theorem tdiv_neg (m : Nat) : (-(m : Int)).tdiv 10 = -((m / 10 : Nat) : Int) := by rw [Int.neg_tdiv]; rfl
theorem tmod_neg (m : Nat) : (-(m : Int)).tmod 10 = -((m % 10 : Nat) : Int) := by rw [Int.neg_tmod]; rfl
theorem Digits_f : ∀ (d : Nat) (n : Int), n.natAbs < 10 ^ d → -9223372036854775808 ≤ n → n ≤ 9223372036854775807 → ∀ k, d < k → supercargoref05_Digits.f k n = some ⟨(itoa n).toArray⟩ := by
 intro d
 induction d with
 | zero =>
  intro n hd h0 h1 k hk
  obtain ⟨k, rfl⟩ : ∃ m, k = m + 1 := ⟨k - 1, by omega⟩
  have hn : n = 0 := by simp at hd; omega
  subst hn
  simp only [supercargoref05_Digits.f]
  rw [if_neg (by omega), if_pos (by omega), num_one _ 48 (by unfold wrap64; omega)]
  have : itoa 0 = [UInt8.ofNat 48] := by unfold itoa; rw [if_neg (by decide)]; exact dec_small (by decide)
  rw [this]
 | succ d ih =>
  intro n hd h0 h1 k hk
  obtain ⟨k, rfl⟩ : ∃ m, k = m + 1 := ⟨k - 1, by omega⟩
  simp only [supercargoref05_Digits.f]
  by_cases hn : n < 0
  ·
   have hi : itoa n = 45 :: decDigits n.natAbs := by unfold itoa; rw [if_pos hn]
   rw [if_pos hn]
   by_cases h10 : n > -10
   ·
    rw [if_pos h10, Option.bind_some, num_one _ (48 + n.natAbs) (by unfold wrap64; omega), size_mkN, if_pos (by simp), hi, dec_small (show n.natAbs < 10 by omega)]
    rw [show ((⟨#[45]⟩ : ByteArray)) = ⟨([45] : List UInt8).toArray⟩ by rfl, app_mkN]
    rfl
   ·
    have hnn : n = -((n.natAbs : Nat) : Int) := by omega
    have ht : n.tdiv 10 = -((n.natAbs / 10 : Nat) : Int) := by conv => lhs; rw [hnn, tdiv_neg]
    have hm : n.tmod 10 = -((n.natAbs % 10 : Nat) : Int) := by conv => lhs; rw [hnn, tmod_neg]
    have hw : wrap64 (n.tdiv 10) = -((n.natAbs / 10 : Nat) : Int) := by rw [ht]; unfold wrap64; omega
    rw [if_neg h10, hw, ih _ (by rw [Nat.pow_succ] at hd; omega) (by omega) (by omega) k (by omega), Option.bind_some, Option.bind_some, hm, num_neg _ (Nat.mod_lt _ (by decide))]
    have hj : itoa (-((n.natAbs / 10 : Nat) : Int)) = 45 :: decDigits (n.natAbs / 10) := by
     unfold itoa; rw [if_pos (by omega)]; congr 2; omega
    have hl := Lib.itoa_length_le (-((n.natAbs / 10 : Nat) : Int)) (by omega) (by omega)
    rw [size_mkN, size_mkN, if_pos (by rw [List.length_singleton]; omega), app_mkN, hj, hi, dec_big (show ¬ n.natAbs < 10 by omega)]
    rfl
  ·
   have hi : itoa n = decDigits n.toNat := by unfold itoa; rw [if_neg hn]
   rw [if_neg hn]
   by_cases h10 : n < 10
   ·
    rw [if_pos h10, num_one _ (48 + n.toNat) (by unfold wrap64; omega), hi, dec_small (show n.toNat < 10 by omega)]
   ·
    have hnn : n = ((n.toNat : Nat) : Int) := by omega
    have ht : n.tdiv 10 = ((n.toNat / 10 : Nat) : Int) := by conv => lhs; rw [hnn, tdiv_pos]
    have hm : n.tmod 10 = ((n.toNat % 10 : Nat) : Int) := by conv => lhs; rw [hnn, tmod_pos]
    have hw : wrap64 (n.tdiv 10) = ((n.toNat / 10 : Nat) : Int) := by rw [ht]; unfold wrap64; omega
    rw [if_neg h10, hw, ih _ (by rw [Nat.pow_succ] at hd; omega) (by omega) (by omega) k (by omega), Option.bind_some, Option.bind_some, hm, num_dig _ (Nat.mod_lt _ (by decide))]
    have hj : itoa ((n.toNat / 10 : Nat) : Int) = decDigits (n.toNat / 10) := by
     unfold itoa; rw [if_neg (by omega)]; congr 1
    have hl := Lib.itoa_length_le ((n.toNat / 10 : Nat) : Int) (by omega) (by omega)
    rw [size_mkN, size_mkN, if_pos (by rw [List.length_singleton]; omega), app_mkN, hj, hi, dec_big (show ¬ n.toNat < 10 by omega)]
theorem Digits_at (n : Int) (h0 : -9223372036854775808 ≤ n) (h1 : n ≤ 9223372036854775807) (k : Nat) (hk : 19 < k) : supercargoref05_Digits.f k n = some ⟨(itoa n).toArray⟩ :=
 Digits_f 19 n (by omega) h0 h1 k hk
end Go.Proofs.YtkblmomfiimkiaaGreatDoor.P
end

section
namespace Go.Proofs.YtkblmomfiimkiaaGreatDoor.P
open Go.RowKit Go.Proofs.YtkblmomfiimkiaaGreatDoorW.PrintWords Go.Proofs.YtkblmomfiimkiaaGreatDoorW.PrintLast Go.Proofs.YtkblmomfiimkiaaGreatDoorW.PrintMore
set_option linter.unusedSimpArgs false
set_option linter.unusedVariables false
theorem last_more_ {P : Program} {md : Region.Mode} {ops : Array Oper} {Q : Exit → Act → World → Prop} {S S' : World → Prop} (hss : ∀ w, S' w → S w) : ∀ (n : Nat) (l : Array Bool) (a : Act) (w : World), S' w → wpAnyLast P md ops Q S' [] n l a w → wpAnyLast P md ops Q S [] n l a w
 | 0, _, _, _, _, h => h
 | n + 1, _, _, _, hS, h => ⟨h.1, fun i hi => wpOp_mono (fun a' w' h' => ⟨fun _ _ => hss _ (h'.1 (by simp) hS), last_more_ hss n _ a' w' (h'.1 (by simp) hS) h'.2⟩) (h.2 i hi)⟩
theorem last_more {P : Program} {md : Region.Mode} {ops : Array Oper} {Q : Exit → Act → World → Prop} {S : World → Prop} (S' : World → Prop) {n : Nat} {l : Array Bool} {a : Act} {w : World} (hss : ∀ w, S' w → S w) (hS : S' w) (h : S' w → wpAnyLast P md ops Q S' [] n l a w) : wpAnyLast P md ops Q S [] n l a w :=
 last_more_ hss n l a w hS (h hS)
end Go.Proofs.YtkblmomfiimkiaaGreatDoor.P
end

section
namespace Go.Proofs.YtkblmomfiimkiaaGreatDoor.P
open Go.RowKit Go.Proofs.YtkblmomfiimkiaaGreatDoorW.PrintWords Go.Proofs.YtkblmomfiimkiaaGreatDoorW.PrintLast Go.Proofs.YtkblmomfiimkiaaGreatDoorW.PrintMore
attribute [local go_sem] max2_int min2_int max_two min_two max_three min_three max_four min_four   -- for this text's walks alone
set_option linter.unusedVariables false
set_option linter.unusedSimpArgs false
def supercargoref09_number.f (k : Nat) (a0 : ByteArray) (a1 : Int) : Option (ByteArray × ByteArray) := (supercargoref05_Digits.f k a1).bind fun t288 => (some (a0, t288))
theorem supercargoref09_number.mono : ∀ a0 a1 k, LeO (supercargoref09_number.f k a0 a1) (supercargoref09_number.f (k + 1) a0 a1) := by
 intro a0 a1 k
 unfold supercargoref09_number.f
 repeat' first
   | (with_reducible exact supercargoref05_Digits.mono _ _)
   | (with_reducible exact LeO.refl _)
   | (with_reducible exact LeO.none _)
   | (with_reducible refine LeO.ite ?_ ?_)
   | (with_reducible refine LeO.bind ?_ (fun _ => ?_))
   | exact supercargoref05_Digits.mono _ _
   | exact LeO.none _
   | refine LeO.ite ?_ ?_
   | refine LeO.bind ?_ (fun _ => ?_)
set_option maxHeartbeats 8000000 in
set_option maxRecDepth 100000 in
theorem supercargoref09_number.calls (k : Nat) (a0 : ByteArray) (a1 : Int) (r1 : ByteArray) (r2 : ByteArray) (w : World) (h : supercargoref09_number.f k a0 a1 = some (r1, r2)) :
  Calls Tryz.prog 53 #[.string a0, .int .i64 a1] w fun e w' => e = .returned (.agg #[.string r1, .string r2]) ∧ Below w.heap.size w w' := by
 have hu43 := Tryz.underlying43
 have HB := Aside0.mk (Below.refl w.heap.size w)
 have H : ((supercargoref05_Digits.f k a1).bind fun t288 => (some (a0, t288))) = some (r1, r2) := h
 clear h
 replace H := Option.bind_eq_some_iff.mp H
 obtain ⟨t288, A30, H⟩ := H
 replace H : (some (a0, t288)) = some (r1, r2) := H
 have A3 := Aside0.mk A30
 clear A30
 simp only [Option.some.injEq, Prod.mk.injEq] at H
 obtain ⟨rfl, rfl⟩ := H
 go_enter Tryz.func53, Tryz.ntmps53
 go_wp2_with (first | ((with_reducible refine gate_dst (N := 4) rfl ?_); refine box_event ?hg (N := 4) ?hd (cs := #[.string (⟨#[]⟩ : ByteArray), .string (⟨#[]⟩ : ByteArray)]) (t := 43) ?hr ?_; (case hd => rfl); (case hg => rfl); (case hr => first | (go_simp; done) | (go_simp; rfl)); intro gb287 hg w4 hbox hb; have n0_ := Aside0.mk (below_step (by repeat (first | (with_reducible first | exact HB.out | apply below_alloc | apply pw_below_drewN | apply below_drew1) | exact HB.out)) hb); have n1_ := Aside0.mk (hbox); have n2_ := Aside0.mk ((by rw [hg]; exact (below_size (by repeat (first | (with_reducible first | exact HB.out | apply below_alloc | apply pw_below_drewN | apply below_drew1) | exact HB.out))) : w.heap.size ≤ gb287)); have n3_ := Aside0.mk ((by rw [hg]; exact (below_size (by repeat (first | (with_reducible first | exact HB.out | apply below_alloc | apply pw_below_drewN | apply below_drew1) | exact HB.out))) : w.heap.size ≤ gb287)); clear HB; have HB := n0_; have BK287 := n1_; have GW287 := n2_; have GE287 := n3_; clear n0_ n1_ n2_ n3_; clear hb hbox hg) | ((with_reducible refine gate_callee (f := 77) rfl ?_); refine goesL_ (some 7) rfl rfl Tryz.func77 (by kernel_rfl) rfl #[.int .i64 a1] rfl (by (try simp only [List.map_toArray, List.map_cons, List.map_nil]); first | done | rfl | (simp only [List.length_drop, List.length_take]; rfl)) ?_; (with_reducible refine (supercargoref05_Digits.calls k a1 t288 _ A3.out).mono ?_); rintro e w5 ⟨rfl, hb⟩; refine ⟨_, rfl, ?_⟩; have n0_ := Aside0.mk (blk_below (g := gb287) (o := .cells #[.string (⟨#[]⟩ : ByteArray), .string (⟨#[]⟩ : ByteArray)] 43 (0, 0)) (by (with_reducible repeat (first | refine blk_drewN ?_ _ | refine blk_drew ?_ | refine blk_alloc ?_ _)); exact BK287.out) hb); have n1_ := Aside0.mk (below_step (by repeat (first | (with_reducible first | exact HB.out | apply below_alloc | apply pw_below_drewN | apply below_drew1 | refine below_set ?_ GE287.out) | exact HB.out)) hb); clear BK287; clear HB; have BK287 := n0_; have HB := n1_; clear n0_ n1_; (try clear hb); (try clear hb2); (try clear hk); (try clear hi); have hcz6_0 : w5.cell? ⟨gb287, 0, none⟩ = some (.string (⟨#[]⟩ : ByteArray)) := (blk_cell BK287.out 0).trans rfl; have hcz6_1 : w5.cell? ⟨gb287, 1, none⟩ = some (.string (⟨#[]⟩ : ByteArray)) := (blk_cell BK287.out 1).trans rfl; have hfz6_0 := blk_frozen BK287.out 0; have hfz6_1 := blk_frozen BK287.out 1))
 refine bodyPost_ret (results_cell_row rfl _ _ gb287 43 #[.string a0, .string t288] (0, 0) _ rfl (by (with_reducible repeat (first | refine blk_drewN ?_ _ | refine blk_drew ?_ | refine blk_alloc ?_ _)); refine blk_put (cs := #[.string a0, .string (⟨#[]⟩ : ByteArray)]) ?_ 1 _ rfl; (with_reducible repeat (first | refine blk_drewN ?_ _ | refine blk_drew ?_ | refine blk_alloc ?_ _)); refine blk_put (cs := #[.string (⟨#[]⟩ : ByteArray), .string (⟨#[]⟩ : ByteArray)]) ?_ 0 _ rfl; (with_reducible repeat (first | refine blk_drewN ?_ _ | refine blk_drew ?_ | refine blk_alloc ?_ _)); exact BK287.out) Tryz.underlying43 rfl (by kernel_rfl)) rfl ?_
 exact ⟨by first | rfl | (simp [errW_none, errW_some] <;> rfl) | (simp [*, errW_none, errW_some] <;> rfl), by repeat (first | (with_reducible first | exact HB.out | apply below_alloc | apply pw_below_drewN | apply below_drew1 | refine below_set ?_ GE287.out) | exact HB.out)⟩
end Go.Proofs.YtkblmomfiimkiaaGreatDoor.P
end
