/- What the claim's theorem leans on. Conditions: none of its own. (Written by prune.py out of the texts Px28 Px29 Px35 Px36 Px37 Ref5 Pap Px30, without what the claim doesn't lean on.) -/
import Derived.Test.YtkblmomfiimkiaaGreatDoorM2
import Derived.Test.YtkblmomfiimkiaaGreatDoorM4
import Derived.Test.YtkblmomfiimkiaaGreatDoorM6
import Derived.Test.YtkblmomfiimkiaaGreatDoorM8
import Derived.Test.YtkblmomfiimkiaaGreatDoorM10
import Derived.Test.YtkblmomfiimkiaaGreatDoorM11
section
namespace Go.Proofs.YtkblmomfiimkiaaGreatDoor.P
open Go.RowKit Go.Proofs.YtkblmomfiimkiaaGreatDoorW.PrintWords Go.Proofs.YtkblmomfiimkiaaGreatDoorW.PrintLast Go.Proofs.YtkblmomfiimkiaaGreatDoorW.PrintMore
attribute [local go_sem] max2_int min2_int max_two min_two max_three min_three max_four min_four   -- for this text's walks alone
set_option linter.unusedVariables false
set_option linter.unusedSimpArgs false
def supercargoref05_May.f (k : Nat) (a0_0 : ByteArray) (a0_1 : ByteArray) : Option (Bool) := (supercargoref05_Name.f k a0_0).bind fun t230 => (if t230 = true then (some (decide ((a0_1.size : Int) ≤ 4096))) else (some false))
theorem supercargoref05_May.mono : ∀ a0 a1 k, LeO (supercargoref05_May.f k a0 a1) (supercargoref05_May.f (k + 1) a0 a1) := by
 intro a0 a1 k
 unfold supercargoref05_May.f
 repeat' first
   | (with_reducible exact supercargoref05_Name.mono _ _)
   | (with_reducible exact LeO.refl _)
   | (with_reducible exact LeO.none _)
   | (with_reducible refine LeO.ite ?_ ?_)
   | (with_reducible refine LeO.bind ?_ (fun _ => ?_))
   | exact supercargoref05_Name.mono _ _
   | exact LeO.none _
   | refine LeO.ite ?_ ?_
   | refine LeO.bind ?_ (fun _ => ?_)
set_option maxHeartbeats 8000000 in
set_option maxRecDepth 100000 in
theorem supercargoref05_May.calls (k : Nat) (a0_0 : ByteArray) (a0_1 : ByteArray) (r : Bool) (w : World) (h : supercargoref05_May.f k a0_0 a0_1 = some r) :
  Calls Tryz.prog 60 #[.agg #[.string a0_0, .string a0_1]] w fun e w' => e = .returned (.bool r) ∧ Below w.heap.size w w' := by
 have hu43 := Tryz.underlying43
 have HB := Aside0.mk (Below.refl w.heap.size w)
 have H : ((supercargoref05_Name.f k a0_0).bind fun t230 => (if t230 = true then (some (decide ((a0_1.size : Int) ≤ 4096))) else (some false))) = some r := h
 clear h
 replace H := Option.bind_eq_some_iff.mp H
 obtain ⟨t230, A20, H⟩ := H
 replace H : (if t230 = true then (some (decide ((a0_1.size : Int) ≤ 4096))) else (some false)) = some r := H
 have A2 := Aside0.mk A20
 clear A20
 by_cases c3 : t230 = true
 ·
  subst c3
  have H1 : (some (decide ((a0_1.size : Int) ≤ 4096))) = some r := by rw [if_pos rfl] at H; exact H
  clear H
  have H := H1
  clear H1
  obtain rfl := Option.some.inj H
  go_enter Tryz.func60, Tryz.ntmps60
  go_wp2_with (first | ((with_reducible refine gate_dst (N := 1) rfl ?_); (try (refine gate_guard (by rfl) ?_; dsimp only)); refine box_event ?hg (N := 1) ?hd (cs := #[.string a0_0, .string a0_1]) (t := 43) ?hr ?_; (case hd => rfl); (case hg => rfl); (case hr => first | (go_simp; done) | (go_simp; rfl)); intro gb229 hg w4 hbox hb; have n0_ := Aside0.mk (below_step (by repeat (first | (with_reducible first | exact HB.out | apply below_alloc | apply pw_below_drewN | apply below_drew1) | exact HB.out)) hb); have n1_ := Aside0.mk (hbox); have n2_ := Aside0.mk ((by rw [hg]; exact (below_size (by repeat (first | (with_reducible first | exact HB.out | apply below_alloc | apply pw_below_drewN | apply below_drew1) | exact HB.out))) : w.heap.size ≤ gb229)); have n3_ := Aside0.mk ((by rw [hg]; exact (below_size (by repeat (first | (with_reducible first | exact HB.out | apply below_alloc | apply pw_below_drewN | apply below_drew1) | exact HB.out))) : w.heap.size ≤ gb229)); clear HB; have HB := n0_; have BK229 := n1_; have GW229 := n2_; have GE229 := n3_; clear n0_ n1_ n2_ n3_; clear hb hbox hg; have hcz5_0 : w4.cell? ⟨gb229, 0, none⟩ = some (.string a0_0) := (blk_cell BK229.out 0).trans rfl; have hcz5_1 : w4.cell? ⟨gb229, 1, none⟩ = some (.string a0_1) := (blk_cell BK229.out 1).trans rfl; have hfz5_0 := blk_frozen BK229.out 0; have hfz5_1 := blk_frozen BK229.out 1) | ((with_reducible refine gate_callee (f := 44) rfl ?_); refine goesL_ (some 5) rfl rfl Tryz.func44 (by kernel_rfl) rfl #[.string a0_0] rfl (by (try simp only [List.map_toArray, List.map_cons, List.map_nil]); first | done | rfl | (simp only [List.length_drop, List.length_take]; rfl)) ?_; (with_reducible refine (supercargoref05_Name.calls k a0_0 true _ A2.out).mono ?_); rintro e w' ⟨rfl, ⟨nd, rfl⟩⟩; refine ⟨_, rfl, ?_⟩))
  go_ret
  exact ⟨by first | rfl | (simp [errW_none, errW_some] <;> rfl) | (simp [*, errW_none, errW_some] <;> rfl), by repeat (first | (with_reducible first | exact HB.out | apply below_alloc | apply pw_below_drewN | apply below_drew1 | refine below_set ?_ GE229.out) | exact HB.out)⟩
 ·
  replace c3 := Bool.eq_false_iff.mpr c3
  subst c3
  have H1 : (some false) = some r := by rw [if_neg (show ¬ (false = true) by decide)] at H; exact H
  clear H
  have H := H1
  clear H1
  obtain rfl := Option.some.inj H
  go_enter Tryz.func60, Tryz.ntmps60
  go_wp2_with (first | ((with_reducible refine gate_dst (N := 1) rfl ?_); (try (refine gate_guard (by rfl) ?_; dsimp only)); refine box_event ?hg (N := 1) ?hd (cs := #[.string a0_0, .string a0_1]) (t := 43) ?hr ?_; (case hd => rfl); (case hg => rfl); (case hr => first | (go_simp; done) | (go_simp; rfl)); intro gb229 hg w6 hbox hb; have n0_ := Aside0.mk (below_step (by repeat (first | (with_reducible first | exact HB.out | apply below_alloc | apply pw_below_drewN | apply below_drew1) | exact HB.out)) hb); have n1_ := Aside0.mk (hbox); have n2_ := Aside0.mk ((by rw [hg]; exact (below_size (by repeat (first | (with_reducible first | exact HB.out | apply below_alloc | apply pw_below_drewN | apply below_drew1) | exact HB.out))) : w.heap.size ≤ gb229)); have n3_ := Aside0.mk ((by rw [hg]; exact (below_size (by repeat (first | (with_reducible first | exact HB.out | apply below_alloc | apply pw_below_drewN | apply below_drew1) | exact HB.out))) : w.heap.size ≤ gb229)); clear HB; have HB := n0_; have BK229 := n1_; have GW229 := n2_; have GE229 := n3_; clear n0_ n1_ n2_ n3_; clear hb hbox hg; have hcz7_0 : w6.cell? ⟨gb229, 0, none⟩ = some (.string a0_0) := (blk_cell BK229.out 0).trans rfl; have hcz7_1 : w6.cell? ⟨gb229, 1, none⟩ = some (.string a0_1) := (blk_cell BK229.out 1).trans rfl; have hfz7_0 := blk_frozen BK229.out 0; have hfz7_1 := blk_frozen BK229.out 1) | ((with_reducible refine gate_callee (f := 44) rfl ?_); refine goesL_ (some 5) rfl rfl Tryz.func44 (by kernel_rfl) rfl #[.string a0_0] rfl (by (try simp only [List.map_toArray, List.map_cons, List.map_nil]); first | done | rfl | (simp only [List.length_drop, List.length_take]; rfl)) ?_; (with_reducible refine (supercargoref05_Name.calls k a0_0 false _ A2.out).mono ?_); rintro e w' ⟨rfl, ⟨nd, rfl⟩⟩; refine ⟨_, rfl, ?_⟩))
  go_ret
  exact ⟨by first | rfl | (simp [errW_none, errW_some] <;> rfl) | (simp [*, errW_none, errW_some] <;> rfl), by repeat (first | (with_reducible first | exact HB.out | apply below_alloc | apply pw_below_drewN | apply below_drew1 | refine below_set ?_ GE229.out) | exact HB.out)⟩
end Go.Proofs.YtkblmomfiimkiaaGreatDoor.P
end

section
namespace Go.Proofs.YtkblmomfiimkiaaGreatDoor.P
open Go.RowKit Go.Proofs.YtkblmomfiimkiaaGreatDoorW.PrintWords Go.Proofs.YtkblmomfiimkiaaGreatDoorW.PrintLast Go.Proofs.YtkblmomfiimkiaaGreatDoorW.PrintMore
attribute [local go_sem] max2_int min2_int max_two min_two max_three min_three max_four min_four   -- for this text's walks alone
set_option linter.unusedVariables false
set_option linter.unusedSimpArgs false
mutual
def supercargoref05_Text.l0 : Nat → List (S43) → ByteArray → Int → Option (ByteArray × Int)
 | 0, _, _, _ => none
 | k + 1, x0, x4, x5 => if x5 < (x0.length : Int) then (if 0 ≤ x5 then ((supercargoref05_May.f k ((rd_T43 x0 x5).f0) ((rd_T43 x0 x5).f1)).bind fun t232 => (if t232 = true then (if ((rd_T43 x0 x5).f0).size + 1 ≤ 9223372036854775807 then (if x4.size + (((rd_T43 x0 x5).f0) ++ (⟨#[61]⟩ : ByteArray)).size ≤ 9223372036854775807 then (supercargoref05_Text.l1 k x0 (x4 ++ (((rd_T43 x0 x5).f0) ++ (⟨#[61]⟩ : ByteArray))) x5 0) else (none)) else (none)) else (some ((⟨#[]⟩ : ByteArray), 1)))) else (none)) else (some (x4, 0))
def supercargoref05_Text.l1 : Nat → List (S43) → ByteArray → Int → Int → Option (ByteArray × Int)
 | 0, _, _, _, _ => none
 | k + 1, x0, x4, x5, x6 => if 0 ≤ x5 then (if x5 < (x0.length : Int) then (if x6 < (((rd_T43 x0 x5).f1).size : Int) then (if 0 ≤ x6 then (if (bt ((rd_T43 x0 x5).f1) x6) = 92 then (if x4.size + 2 ≤ 9223372036854775807 then (supercargoref05_Text.l1 k x0 (x4 ++ (⟨#[92, 92]⟩ : ByteArray)) x5 (wrap64 (x6 + 1))) else (none)) else (if (bt ((rd_T43 x0 x5).f1) x6) = 10 then (if x4.size + 2 ≤ 9223372036854775807 then (supercargoref05_Text.l1 k x0 (x4 ++ (⟨#[92, 110]⟩ : ByteArray)) x5 (wrap64 (x6 + 1))) else (none)) else (if x6 ≤ (wrap64 (x6 + 1)) then (if (wrap64 (x6 + 1)) ≤ (((rd_T43 x0 x5).f1).size : Int) then (if x4.size + (((rd_T43 x0 x5).f1).extract (x6 : Int).toNat ((wrap64 (x6 + 1)) : Int).toNat).size ≤ 9223372036854775807 then (supercargoref05_Text.l1 k x0 (x4 ++ (((rd_T43 x0 x5).f1).extract (x6 : Int).toNat ((wrap64 (x6 + 1)) : Int).toNat)) x5 (wrap64 (x6 + 1))) else (none)) else (none)) else (none)))) else (none)) else (if x4.size + 1 ≤ 9223372036854775807 then (supercargoref05_Text.l0 k x0 (x4 ++ (⟨#[10]⟩ : ByteArray)) (wrap64 (x5 + 1))) else (none))) else (none)) else (none)
end
def supercargoref05_Text.f (k : Nat) (l0 : List (S43)) : Option (ByteArray × Int) := if (l0.length : Int) > 64 then (some ((⟨#[]⟩ : ByteArray), 7)) else (supercargoref05_Text.l0 k l0 (⟨#[]⟩ : ByteArray) 0)
theorem supercargoref05_Text.mono_l : ∀ k, (∀ y0 y1 y2, LeO (supercargoref05_Text.l0 k y0 y1 y2) (supercargoref05_Text.l0 (k + 1) y0 y1 y2)) ∧ (∀ y0 y1 y2 y3, LeO (supercargoref05_Text.l1 k y0 y1 y2 y3) (supercargoref05_Text.l1 (k + 1) y0 y1 y2 y3))
 | 0 => ⟨fun _ _ _ r h => by simp [supercargoref05_Text.l0] at h, fun _ _ _ _ r h => by simp [supercargoref05_Text.l1] at h⟩
 | k + 1 => by
  obtain ⟨ih0, ih1⟩ := supercargoref05_Text.mono_l k
  refine ⟨?_, ?_⟩
  ·
   intro y0 y1 y2
   unfold supercargoref05_Text.l0
   repeat' first
   | (with_reducible exact ih0 _ _ _)
   | (with_reducible exact ih1 _ _ _ _)
   | (with_reducible exact supercargoref05_May.mono _ _ _)
   | (with_reducible exact LeO.refl _)
   | (with_reducible exact LeO.none _)
   | (with_reducible refine LeO.ite ?_ ?_)
   | (with_reducible refine LeO.bind ?_ (fun _ => ?_))
   | exact ih0 _ _ _
   | exact ih1 _ _ _ _
   | exact supercargoref05_May.mono _ _ _
   | exact LeO.none _
   | refine LeO.ite ?_ ?_
   | refine LeO.bind ?_ (fun _ => ?_)
  ·
   intro y0 y1 y2 y3
   unfold supercargoref05_Text.l1
   repeat' first
   | (with_reducible exact ih0 _ _ _)
   | (with_reducible exact ih1 _ _ _ _)
   | (with_reducible exact supercargoref05_May.mono _ _ _)
   | (with_reducible exact LeO.refl _)
   | (with_reducible exact LeO.none _)
   | (with_reducible refine LeO.ite ?_ ?_)
   | (with_reducible refine LeO.bind ?_ (fun _ => ?_))
   | exact ih0 _ _ _
   | exact ih1 _ _ _ _
   | exact supercargoref05_May.mono _ _ _
   | exact LeO.none _
   | refine LeO.ite ?_ ?_
   | refine LeO.bind ?_ (fun _ => ?_)
theorem supercargoref05_Text.mono : ∀ a0 k, LeO (supercargoref05_Text.f k a0) (supercargoref05_Text.f (k + 1) a0) := by
 intro a0 k
 obtain ⟨ih0, ih1⟩ := supercargoref05_Text.mono_l k
 unfold supercargoref05_Text.f
 repeat' first
   | (with_reducible exact ih0 _ _ _)
   | (with_reducible exact ih1 _ _ _ _)
   | (with_reducible exact supercargoref05_May.mono _ _ _)
   | (with_reducible exact LeO.refl _)
   | (with_reducible exact LeO.none _)
   | (with_reducible refine LeO.ite ?_ ?_)
   | (with_reducible refine LeO.bind ?_ (fun _ => ?_))
   | exact ih0 _ _ _
   | exact ih1 _ _ _ _
   | exact supercargoref05_May.mono _ _ _
   | exact LeO.none _
   | refine LeO.ite ?_ ?_
   | refine LeO.bind ?_ (fun _ => ?_)
set_option maxHeartbeats 8000000 in
set_option maxRecDepth 100000 in
theorem supercargoref05_Text.calls (k : Nat) (A0 : Option Addr) (c0 : Nat) (l0 : List (S43)) (r1 : ByteArray) (r2 : Int) (w : World) (hr0 : Kd.C k43 w A0 l0.length l0) (hc0 : l0.length ≤ c0) (h : supercargoref05_Text.f k l0 = some (r1, r2)) :
  Calls Tryz.prog 24 #[.slice A0 l0.length c0] w fun e w' => e = .returned (.tuple #[.string r1, .int .i64 r2]) ∧ Below w.heap.size w w' := by
 have hu43 := Tryz.underlying43
 have HR0 := Aside0.mk hr0
 have HC0 := Aside0.mk hc0
 clear hr0 hc0
 have HB := Aside0.mk (Below.refl w.heap.size w)
 have H : (if (l0.length : Int) > 64 then (some ((⟨#[]⟩ : ByteArray), 7)) else (supercargoref05_Text.l0 k l0 (⟨#[]⟩ : ByteArray) 0)) = some (r1, r2) := h
 clear h
 by_cases c2 : (l0.length : Int) > 64
 ·
  rw [if_pos c2] at H
  have c2b0 : decide (64 < (l0.length : Int)) = true := decide_eq_true c2
  have c2b1 : decide (64 < l0.length) = true := decide_eq_true (by omega)
  clear c2
  simp only [Option.some.injEq, Prod.mk.injEq] at H
  obtain ⟨rfl, rfl⟩ := H
  go_enter Tryz.func24, Tryz.ntmps24
  go_wp2
  go_ret2
  exact ⟨by first | rfl | (simp [errW_none, errW_some] <;> rfl) | (simp [*, errW_none, errW_some] <;> rfl), by repeat (first | (with_reducible first | exact HB.out | apply below_alloc | apply pw_below_drewN | apply below_drew1) | exact HB.out)⟩
 ·
  rw [if_neg c2] at H
  have c2b0 : decide (64 < (l0.length : Int)) = false := decide_eq_false c2
  have c2b1 : decide (64 < l0.length) = false := decide_eq_false (by omega)
  clear c2
  have H' := Aside0.mk H
  clear H
  go_enter Tryz.func24, Tryz.ntmps24
  go_wp2
  go_loopg [4, 5] k (fun kq v4 v5 w' => ∃ (x4_1 : ByteArray) (x5_1 : Int), v4 = .string x4_1 ∧ v5 = .int .i64 x5_1 ∧ Aside0 (supercargoref05_Text.l0 kq l0 x4_1 x5_1 = some (r1, r2)) ∧ Aside0 (kq ≤ k) ∧ Aside0 (Below w.heap.size w w'))
  case atStart => exact ⟨((⟨#[]⟩ : ByteArray)), (0), (by first | rfl | (simp; done) | (simp [*]; done)), (by first | rfl | (simp; done) | (simp [*]; done)), H', ⟨Nat.le_refl _⟩, ⟨by repeat (first | (with_reducible first | exact HB.out | apply below_alloc | apply pw_below_drewN | apply below_drew1) | exact HB.out)⟩⟩
  case round =>
   clear H'
   try clear c2
   try clear c2b0
   try clear c2b1
   try clear p2
   obtain ⟨x4_1, x5_1, rfl, rfl, HA, HK1, HB⟩ := hrel
   cases gk with
   | zero => exact absurd HA.out (by simp [supercargoref05_Text.l0])
   | succ k1 =>
    have H := HA.out
    clear HA
    simp only [supercargoref05_Text.l0] at H
    by_cases c3 : x5_1 < (l0.length : Int)
    ·
     rw [if_pos c3] at H
     have c3b0 : decide (x5_1 < (l0.length : Int)) = true := decide_eq_true c3
     clear c3
     by_cases c4 : 0 ≤ x5_1
     ·
      rw [if_pos c4] at H
      have c4b0 : decide (0 ≤ x5_1) = true := decide_eq_true c4
      clear c4
      replace H := Option.bind_eq_some_iff.mp H
      obtain ⟨t232, A50, H⟩ := H
      replace H : (if t232 = true then (if ((rd_T43 l0 x5_1).f0).size + 1 ≤ 9223372036854775807 then (if x4_1.size + (((rd_T43 l0 x5_1).f0) ++ (⟨#[61]⟩ : ByteArray)).size ≤ 9223372036854775807 then (supercargoref05_Text.l1 k1 l0 (x4_1 ++ (((rd_T43 l0 x5_1).f0) ++ (⟨#[61]⟩ : ByteArray))) x5_1 0) else (none)) else (none)) else (some ((⟨#[]⟩ : ByteArray), 1))) = some (r1, r2) := H
      have A5 := Aside0.mk A50
      clear A50
      by_cases c6 : t232 = true
      ·
       subst c6
       have H1 : (if ((rd_T43 l0 x5_1).f0).size + 1 ≤ 9223372036854775807 then (if x4_1.size + (((rd_T43 l0 x5_1).f0) ++ (⟨#[61]⟩ : ByteArray)).size ≤ 9223372036854775807 then (supercargoref05_Text.l1 k1 l0 (x4_1 ++ (((rd_T43 l0 x5_1).f0) ++ (⟨#[61]⟩ : ByteArray))) x5_1 0) else (none)) else (none)) = some (r1, r2) := by rw [if_pos rfl] at H; exact H
       clear H
       have H := H1
       clear H1
       by_cases c7 : ((rd_T43 l0 x5_1).f0).size + 1 ≤ 9223372036854775807
       ·
        rw [if_pos c7] at H
        have c7b0 := eq_true c7
        have c7b1 : decide (((rd_T43 l0 x5_1).f0).size + 1 ≤ 9223372036854775807) = true := decide_eq_true c7
        try have c7b2 : (9223372036854775807 < ((rd_T43 l0 x5_1).f0).size + 1) = False := eq_false (Nat.not_lt.2 c7)
        by_cases c8 : x4_1.size + (((rd_T43 l0 x5_1).f0) ++ (⟨#[61]⟩ : ByteArray)).size ≤ 9223372036854775807
        ·
         rw [if_pos c8] at H
         have c8b0 := eq_true c8
         have c8b1 : decide (x4_1.size + (((rd_T43 l0 x5_1).f0) ++ (⟨#[61]⟩ : ByteArray)).size ≤ 9223372036854775807) = true := decide_eq_true c8
         try have c8b2 : (9223372036854775807 < x4_1.size + (((rd_T43 l0 x5_1).f0) ++ (⟨#[61]⟩ : ByteArray)).size) = False := eq_false (Nat.not_lt.2 c8)
         have H' := Aside0.mk H
         clear H
         have p231 : 0 ≤ (x5_1 : Int) := of_decide_eq_true (by first | (with_reducible assumption) | assumption)
         have q231 : x5_1 < (l0.length : Int) := of_decide_eq_true (by first | (with_reducible assumption) | assumption)
         obtain ⟨ad231, e231, hx231_0, hx231_1⟩ := at_T43 HR0.out x5_1 p231 q231
         cases e231
         replace hx231_0 := (HB.out.cell (World.block_lt_of_cell? w _ hx231_0)).trans hx231_0
         replace hx231_1 := (HB.out.cell (World.block_lt_of_cell? w _ hx231_1)).trans hx231_1
         replace p231 := eq_true p231
         replace q231 := eq_true q231
         go_wp2_with (first | ((with_reducible refine gate_callee (f := 60) rfl ?_); refine goesL_ (some 21) rfl rfl Tryz.func60 (by kernel_rfl) rfl #[.agg #[.string ((rd_T43 l0 x5_1).f0), .string ((rd_T43 l0 x5_1).f1)]] rfl (by (try simp only [List.map_toArray, List.map_cons, List.map_nil]); first | done | rfl | (simp only [List.length_drop, List.length_take]; rfl)) ?_; (with_reducible refine (supercargoref05_May.calls k1 ((rd_T43 l0 x5_1).f0) ((rd_T43 l0 x5_1).f1) true _ A5.out).mono ?_); rintro e w9 ⟨rfl, hb⟩; refine ⟨_, rfl, ?_⟩; have n0_ := Aside0.mk (below_step (by repeat (first | (with_reducible first | exact HB.out | apply below_alloc | apply pw_below_drewN | apply below_drew1) | exact HB.out)) hb); clear HB; have HB := n0_; clear n0_; (try clear hb); (try clear hb2); (try clear hk); (try clear hi); have p233 : 0 ≤ (x5_1 : Int) := of_decide_eq_true (by first | (with_reducible assumption) | assumption); have q233 : x5_1 < (l0.length : Int) := of_decide_eq_true (by first | (with_reducible assumption) | assumption); obtain ⟨ad233, e233, hx233_0, hx233_1⟩ := at_T43 HR0.out x5_1 p233 q233; obtain rfl : ad231 = ad233 := (by injection e233); replace hx233_0 := (HB.out.cell (World.block_lt_of_cell? w _ hx233_0)).trans hx233_0; replace hx233_1 := (HB.out.cell (World.block_lt_of_cell? w _ hx233_1)).trans hx233_1; replace p233 := eq_true p233; replace q233 := eq_true q233))
         go_loopg [4, 6] k1 (fun kq v4 v6 w' => ∃ (x4_2 : ByteArray) (x6_2 : Int), v4 = .string x4_2 ∧ v6 = .int .i64 x6_2 ∧ Aside0 (supercargoref05_Text.l1 kq l0 x4_2 x5_1 x6_2 = some (r1, r2)) ∧ Aside0 (kq ≤ k1) ∧ Aside0 (Below w.heap.size w w'))
         case atStart => exact ⟨(x4_1 ++ (((rd_T43 l0 x5_1).f0) ++ (⟨#[61]⟩ : ByteArray))), (0), (by first | rfl | (simp; done) | (simp [*]; done)), (by first | rfl | (simp; done) | (simp [*]; done)), H', ⟨Nat.le_refl _⟩, ⟨by repeat (first | (with_reducible first | exact HB.out | apply below_alloc | apply pw_below_drewN | apply below_drew1) | exact HB.out)⟩⟩
         case round =>
          clear H'
          try clear c2
          try clear c2b0
          try clear c2b1
          try clear p2
          try clear q2
          try clear hx2
          try clear c3
          try clear c3b0
          try clear c4
          try clear c4b0
          try clear c6
          try clear c7
          try clear c7b0
          try clear c7b1
          try clear c7b2
          try clear c8
          try clear c8b0
          try clear c8b1
          try clear c8b2
          try clear hx231_0
          try clear hx231_1
          try clear hx233_0
          try clear hx233_1
          try clear p2
          try clear p231
          try clear p233
          try clear q231
          try clear q233
          obtain ⟨x4_2, x6_2, rfl, rfl, HA, HK2, HB⟩ := hrel
          cases gk with
          | zero => exact absurd HA.out (by simp [supercargoref05_Text.l1])
          | succ k2 =>
           have H := HA.out
           clear HA
           simp only [supercargoref05_Text.l1] at H
           by_cases c10 : 0 ≤ x5_1
           ·
            rw [if_pos c10] at H
            have c10b0 : decide (0 ≤ x5_1) = true := decide_eq_true c10
            clear c10
            by_cases c11 : x5_1 < (l0.length : Int)
            ·
             rw [if_pos c11] at H
             have c11b0 : decide (x5_1 < (l0.length : Int)) = true := decide_eq_true c11
             clear c11
             by_cases c12 : x6_2 < (((rd_T43 l0 x5_1).f1).size : Int)
             ·
              rw [if_pos c12] at H
              have c12b0 : decide (x6_2 < (((rd_T43 l0 x5_1).f1).size : Int)) = true := decide_eq_true c12
              clear c12
              by_cases c13 : 0 ≤ x6_2
              ·
               rw [if_pos c13] at H
               have c13b0 : decide (0 ≤ x6_2) = true := decide_eq_true c13
               clear c13
               by_cases c15 : (bt ((rd_T43 l0 x5_1).f1) x6_2) = 92
               ·
                rw [if_pos c15] at H
                have c15b0 : ((bt ((rd_T43 l0 x5_1).f1) x6_2) == 92) = true := beq_iff_eq.mpr c15
                have c15b1 : ((bt ((rd_T43 l0 x5_1).f1) x6_2) != 92) = false := bne_eq_false_iff_eq.mpr c15
                clear c15
                by_cases c16 : x4_2.size + 2 ≤ 9223372036854775807
                ·
                 rw [if_pos c16] at H
                 have c16b0 := eq_true c16
                 have c16b1 : decide (x4_2.size + 2 ≤ 9223372036854775807) = true := decide_eq_true c16
                 try have c16b2 : (9223372036854775807 < x4_2.size + 2) = False := eq_false (Nat.not_lt.2 c16)
                 have H' := Aside0.mk H
                 clear H
                 have p234 : 0 ≤ (x5_1 : Int) := of_decide_eq_true (by first | (with_reducible assumption) | assumption)
                 have q234 : x5_1 < (l0.length : Int) := of_decide_eq_true (by first | (with_reducible assumption) | assumption)
                 obtain ⟨ad234, e234, hx234_0, hx234_1⟩ := at_T43 HR0.out x5_1 p234 q234
                 obtain rfl : ad231 = ad234 := (by injection e234)
                 replace hx234_0 := (HB.out.cell (World.block_lt_of_cell? w _ hx234_0)).trans hx234_0
                 replace hx234_1 := (HB.out.cell (World.block_lt_of_cell? w _ hx234_1)).trans hx234_1
                 replace p234 := eq_true p234
                 replace q234 := eq_true q234
                 have p235 : 0 ≤ (x5_1 : Int) := of_decide_eq_true (by first | (with_reducible assumption) | assumption)
                 have q235 : x5_1 < (l0.length : Int) := of_decide_eq_true (by first | (with_reducible assumption) | assumption)
                 obtain ⟨ad235, e235, hx235_0, hx235_1⟩ := at_T43 HR0.out x5_1 p235 q235
                 obtain rfl : ad231 = ad235 := (by injection e235)
                 replace hx235_0 := (HB.out.cell (World.block_lt_of_cell? w _ hx235_0)).trans hx235_0
                 replace hx235_1 := (HB.out.cell (World.block_lt_of_cell? w _ hx235_1)).trans hx235_1
                 replace p235 := eq_true p235
                 replace q235 := eq_true q235
                 have p14 : 0 ≤ (x6_2 : Int) := of_decide_eq_true (by first | (with_reducible assumption) | assumption)
                 have q14 : x6_2 < (((rd_T43 l0 x5_1).f1).size : Int) := of_decide_eq_true (by first | (with_reducible assumption) | assumption)
                 have hx14 := bt_at ((rd_T43 l0 x5_1).f1) x6_2
                 replace p14 := eq_true p14
                 replace q14 := eq_true q14
                 go_wp2
                 go_roundg k2
                 case measure => have := HK1.out; have := HK2.out; omega
                 case rel => exact ⟨(x4_2 ++ (⟨#[92, 92]⟩ : ByteArray)), (wrap64 (x6_2 + 1)), (by first | rfl | (simp; done) | (simp [*]; done)), (by first | rfl | (simp; done) | (simp [*]; done)), H', ⟨by have := HK1.out; have := HK2.out; omega⟩, ⟨by repeat (first | (with_reducible first | exact HB.out | apply below_alloc | apply pw_below_drewN | apply below_drew1) | exact HB.out)⟩⟩
                ·
                 rw [if_neg c16] at H
                 exact absurd H (by simp)
               ·
                rw [if_neg c15] at H
                have c15b0 : ((bt ((rd_T43 l0 x5_1).f1) x6_2) == 92) = false := beq_eq_false_iff_ne.mpr c15
                have c15b1 : ((bt ((rd_T43 l0 x5_1).f1) x6_2) != 92) = true := bne_iff_ne.mpr c15
                by_cases c17 : (bt ((rd_T43 l0 x5_1).f1) x6_2) = 10
                ·
                 rw [if_pos c17] at H
                 have c17b0 : ((bt ((rd_T43 l0 x5_1).f1) x6_2) == 10) = true := beq_iff_eq.mpr c17
                 have c17b1 : ((bt ((rd_T43 l0 x5_1).f1) x6_2) != 10) = false := bne_eq_false_iff_eq.mpr c17
                 clear c17
                 by_cases c18 : x4_2.size + 2 ≤ 9223372036854775807
                 ·
                  rw [if_pos c18] at H
                  have c18b0 := eq_true c18
                  have c18b1 : decide (x4_2.size + 2 ≤ 9223372036854775807) = true := decide_eq_true c18
                  try have c18b2 : (9223372036854775807 < x4_2.size + 2) = False := eq_false (Nat.not_lt.2 c18)
                  have H' := Aside0.mk H
                  clear H
                  have p234 : 0 ≤ (x5_1 : Int) := of_decide_eq_true (by first | (with_reducible assumption) | assumption)
                  have q234 : x5_1 < (l0.length : Int) := of_decide_eq_true (by first | (with_reducible assumption) | assumption)
                  obtain ⟨ad234, e234, hx234_0, hx234_1⟩ := at_T43 HR0.out x5_1 p234 q234
                  obtain rfl : ad231 = ad234 := (by injection e234)
                  replace hx234_0 := (HB.out.cell (World.block_lt_of_cell? w _ hx234_0)).trans hx234_0
                  replace hx234_1 := (HB.out.cell (World.block_lt_of_cell? w _ hx234_1)).trans hx234_1
                  replace p234 := eq_true p234
                  replace q234 := eq_true q234
                  have p235 : 0 ≤ (x5_1 : Int) := of_decide_eq_true (by first | (with_reducible assumption) | assumption)
                  have q235 : x5_1 < (l0.length : Int) := of_decide_eq_true (by first | (with_reducible assumption) | assumption)
                  obtain ⟨ad235, e235, hx235_0, hx235_1⟩ := at_T43 HR0.out x5_1 p235 q235
                  obtain rfl : ad231 = ad235 := (by injection e235)
                  replace hx235_0 := (HB.out.cell (World.block_lt_of_cell? w _ hx235_0)).trans hx235_0
                  replace hx235_1 := (HB.out.cell (World.block_lt_of_cell? w _ hx235_1)).trans hx235_1
                  replace p235 := eq_true p235
                  replace q235 := eq_true q235
                  have p14 : 0 ≤ (x6_2 : Int) := of_decide_eq_true (by first | (with_reducible assumption) | assumption)
                  have q14 : x6_2 < (((rd_T43 l0 x5_1).f1).size : Int) := of_decide_eq_true (by first | (with_reducible assumption) | assumption)
                  have hx14 := bt_at ((rd_T43 l0 x5_1).f1) x6_2
                  replace p14 := eq_true p14
                  replace q14 := eq_true q14
                  go_wp2
                  go_roundg k2
                  case measure => have := HK1.out; have := HK2.out; omega
                  case rel => exact ⟨(x4_2 ++ (⟨#[92, 110]⟩ : ByteArray)), (wrap64 (x6_2 + 1)), (by first | rfl | (simp; done) | (simp [*]; done)), (by first | rfl | (simp; done) | (simp [*]; done)), H', ⟨by have := HK1.out; have := HK2.out; omega⟩, ⟨by repeat (first | (with_reducible first | exact HB.out | apply below_alloc | apply pw_below_drewN | apply below_drew1) | exact HB.out)⟩⟩
                 ·
                  rw [if_neg c18] at H
                  exact absurd H (by simp)
                ·
                 rw [if_neg c17] at H
                 have c17b0 : ((bt ((rd_T43 l0 x5_1).f1) x6_2) == 10) = false := beq_eq_false_iff_ne.mpr c17
                 have c17b1 : ((bt ((rd_T43 l0 x5_1).f1) x6_2) != 10) = true := bne_iff_ne.mpr c17
                 have c19b0 := eq_true (of_decide_eq_true (by first | (with_reducible assumption) | assumption) : 0 ≤ x6_2)
                 by_cases c20 : x6_2 ≤ (wrap64 (x6_2 + 1))
                 ·
                  rw [if_pos c20] at H
                  have c20b0 := eq_true c20
                  have c20b1 : decide (x6_2 ≤ (wrap64 (x6_2 + 1))) = true := decide_eq_true c20
                  by_cases c21 : (wrap64 (x6_2 + 1)) ≤ (((rd_T43 l0 x5_1).f1).size : Int)
                  ·
                   rw [if_pos c21] at H
                   have c21b0 := eq_true c21
                   have c21b1 : decide ((wrap64 (x6_2 + 1)) ≤ (((rd_T43 l0 x5_1).f1).size : Int)) = true := decide_eq_true c21
                   by_cases c22 : x4_2.size + (((rd_T43 l0 x5_1).f1).extract (x6_2 : Int).toNat ((wrap64 (x6_2 + 1)) : Int).toNat).size ≤ 9223372036854775807
                   ·
                    rw [if_pos c22] at H
                    have c22b0 := eq_true c22
                    have c22b1 : decide (x4_2.size + (((rd_T43 l0 x5_1).f1).extract (x6_2 : Int).toNat ((wrap64 (x6_2 + 1)) : Int).toNat).size ≤ 9223372036854775807) = true := decide_eq_true c22
                    try have c22b2 : (9223372036854775807 < x4_2.size + (((rd_T43 l0 x5_1).f1).extract (x6_2 : Int).toNat ((wrap64 (x6_2 + 1)) : Int).toNat).size) = False := eq_false (Nat.not_lt.2 c22)
                    have H' := Aside0.mk H
                    clear H
                    have p234 : 0 ≤ (x5_1 : Int) := of_decide_eq_true (by first | (with_reducible assumption) | assumption)
                    have q234 : x5_1 < (l0.length : Int) := of_decide_eq_true (by first | (with_reducible assumption) | assumption)
                    obtain ⟨ad234, e234, hx234_0, hx234_1⟩ := at_T43 HR0.out x5_1 p234 q234
                    obtain rfl : ad231 = ad234 := (by injection e234)
                    replace hx234_0 := (HB.out.cell (World.block_lt_of_cell? w _ hx234_0)).trans hx234_0
                    replace hx234_1 := (HB.out.cell (World.block_lt_of_cell? w _ hx234_1)).trans hx234_1
                    replace p234 := eq_true p234
                    replace q234 := eq_true q234
                    have p235 : 0 ≤ (x5_1 : Int) := of_decide_eq_true (by first | (with_reducible assumption) | assumption)
                    have q235 : x5_1 < (l0.length : Int) := of_decide_eq_true (by first | (with_reducible assumption) | assumption)
                    obtain ⟨ad235, e235, hx235_0, hx235_1⟩ := at_T43 HR0.out x5_1 p235 q235
                    obtain rfl : ad231 = ad235 := (by injection e235)
                    replace hx235_0 := (HB.out.cell (World.block_lt_of_cell? w _ hx235_0)).trans hx235_0
                    replace hx235_1 := (HB.out.cell (World.block_lt_of_cell? w _ hx235_1)).trans hx235_1
                    replace p235 := eq_true p235
                    replace q235 := eq_true q235
                    have p14 : 0 ≤ (x6_2 : Int) := of_decide_eq_true (by first | (with_reducible assumption) | assumption)
                    have q14 : x6_2 < (((rd_T43 l0 x5_1).f1).size : Int) := of_decide_eq_true (by first | (with_reducible assumption) | assumption)
                    have hx14 := bt_at ((rd_T43 l0 x5_1).f1) x6_2
                    replace p14 := eq_true p14
                    replace q14 := eq_true q14
                    have p236 : 0 ≤ (x5_1 : Int) := of_decide_eq_true (by first | (with_reducible assumption) | assumption)
                    have q236 : x5_1 < (l0.length : Int) := of_decide_eq_true (by first | (with_reducible assumption) | assumption)
                    obtain ⟨ad236, e236, hx236_0, hx236_1⟩ := at_T43 HR0.out x5_1 p236 q236
                    obtain rfl : ad231 = ad236 := (by injection e236)
                    replace hx236_0 := (HB.out.cell (World.block_lt_of_cell? w _ hx236_0)).trans hx236_0
                    replace hx236_1 := (HB.out.cell (World.block_lt_of_cell? w _ hx236_1)).trans hx236_1
                    replace p236 := eq_true p236
                    replace q236 := eq_true q236
                    go_wp2
                    go_roundg k2
                    case measure => have := HK1.out; have := HK2.out; omega
                    case rel => exact ⟨(x4_2 ++ (((rd_T43 l0 x5_1).f1).extract (x6_2 : Int).toNat ((wrap64 (x6_2 + 1)) : Int).toNat)), (wrap64 (x6_2 + 1)), (by first | rfl | (simp; done) | (simp [*]; done)), (by first | rfl | (simp; done) | (simp [*]; done)), H', ⟨by have := HK1.out; have := HK2.out; omega⟩, ⟨by repeat (first | (with_reducible first | exact HB.out | apply below_alloc | apply pw_below_drewN | apply below_drew1) | exact HB.out)⟩⟩
                   ·
                    rw [if_neg c22] at H
                    exact absurd H (by simp)
                  ·
                   rw [if_neg c21] at H
                   exact absurd H (by simp)
                 ·
                  rw [if_neg c20] at H
                  exact absurd H (by simp)
              ·
               rw [if_neg c13] at H
               exact absurd H (by simp)
             ·
              rw [if_neg c12] at H
              have c12b0 : decide (x6_2 < (((rd_T43 l0 x5_1).f1).size : Int)) = false := decide_eq_false c12
              clear c12
              by_cases c23 : x4_2.size + 1 ≤ 9223372036854775807
              ·
               rw [if_pos c23] at H
               have c23b0 := eq_true c23
               have c23b1 : decide (x4_2.size + 1 ≤ 9223372036854775807) = true := decide_eq_true c23
               try have c23b2 : (9223372036854775807 < x4_2.size + 1) = False := eq_false (Nat.not_lt.2 c23)
               have H' := Aside0.mk H
               clear H
               have p234 : 0 ≤ (x5_1 : Int) := of_decide_eq_true (by first | (with_reducible assumption) | assumption)
               have q234 : x5_1 < (l0.length : Int) := of_decide_eq_true (by first | (with_reducible assumption) | assumption)
               obtain ⟨ad234, e234, hx234_0, hx234_1⟩ := at_T43 HR0.out x5_1 p234 q234
               obtain rfl : ad231 = ad234 := (by injection e234)
               replace hx234_0 := (HB.out.cell (World.block_lt_of_cell? w _ hx234_0)).trans hx234_0
               replace hx234_1 := (HB.out.cell (World.block_lt_of_cell? w _ hx234_1)).trans hx234_1
               replace p234 := eq_true p234
               replace q234 := eq_true q234
               go_wp2
               go_roundg k2
               case measure => have := HK1.out; have := HK2.out; omega
               case rel => exact ⟨(x4_2 ++ (⟨#[10]⟩ : ByteArray)), (wrap64 (x5_1 + 1)), (by first | rfl | (simp; done) | (simp [*]; done)), (by first | rfl | (simp; done) | (simp [*]; done)), H', ⟨by have := HK1.out; have := HK2.out; omega⟩, ⟨by repeat (first | (with_reducible first | exact HB.out | apply below_alloc | apply pw_below_drewN | apply below_drew1) | exact HB.out)⟩⟩
              ·
               rw [if_neg c23] at H
               exact absurd H (by simp)
            ·
             rw [if_neg c11] at H
             exact absurd H (by simp)
           ·
            rw [if_neg c10] at H
            exact absurd H (by simp)
        ·
         rw [if_neg c8] at H
         exact absurd H (by simp)
       ·
        rw [if_neg c7] at H
        exact absurd H (by simp)
      ·
       replace c6 := Bool.eq_false_iff.mpr c6
       subst c6
       have H1 : (some ((⟨#[]⟩ : ByteArray), 1)) = some (r1, r2) := by rw [if_neg (show ¬ (false = true) by decide)] at H; exact H
       clear H
       have H := H1
       clear H1
       simp only [Option.some.injEq, Prod.mk.injEq] at H
       obtain ⟨rfl, rfl⟩ := H
       have p231 : 0 ≤ (x5_1 : Int) := of_decide_eq_true (by first | (with_reducible assumption) | assumption)
       have q231 : x5_1 < (l0.length : Int) := of_decide_eq_true (by first | (with_reducible assumption) | assumption)
       obtain ⟨ad231, e231, hx231_0, hx231_1⟩ := at_T43 HR0.out x5_1 p231 q231
       cases e231
       replace hx231_0 := (HB.out.cell (World.block_lt_of_cell? w _ hx231_0)).trans hx231_0
       replace hx231_1 := (HB.out.cell (World.block_lt_of_cell? w _ hx231_1)).trans hx231_1
       replace p231 := eq_true p231
       replace q231 := eq_true q231
       go_wp2_with (first | ((with_reducible refine gate_callee (f := 60) rfl ?_); refine goesL_ (some 21) rfl rfl Tryz.func60 (by kernel_rfl) rfl #[.agg #[.string ((rd_T43 l0 x5_1).f0), .string ((rd_T43 l0 x5_1).f1)]] rfl (by (try simp only [List.map_toArray, List.map_cons, List.map_nil]); first | done | rfl | (simp only [List.length_drop, List.length_take]; rfl)) ?_; (with_reducible refine (supercargoref05_May.calls k1 ((rd_T43 l0 x5_1).f0) ((rd_T43 l0 x5_1).f1) false _ A5.out).mono ?_); rintro e w24 ⟨rfl, hb⟩; refine ⟨_, rfl, ?_⟩; have n0_ := Aside0.mk (below_step (by repeat (first | (with_reducible first | exact HB.out | apply below_alloc | apply pw_below_drewN | apply below_drew1) | exact HB.out)) hb); clear HB; have HB := n0_; clear n0_; (try clear hb); (try clear hb2); (try clear hk); (try clear hi)))
       go_ret2
       exact ⟨by first | rfl | (simp [errW_none, errW_some] <;> rfl) | (simp [*, errW_none, errW_some] <;> rfl), by repeat (first | (with_reducible first | exact HB.out | apply below_alloc | apply pw_below_drewN | apply below_drew1) | exact HB.out)⟩
     ·
      rw [if_neg c4] at H
      exact absurd H (by simp)
    ·
     rw [if_neg c3] at H
     have c3b0 : decide (x5_1 < (l0.length : Int)) = false := decide_eq_false c3
     clear c3
     simp only [Option.some.injEq, Prod.mk.injEq] at H
     obtain ⟨rfl, rfl⟩ := H
     go_wp2
     go_ret2
     exact ⟨by first | rfl | (simp [errW_none, errW_some] <;> rfl) | (simp [*, errW_none, errW_some] <;> rfl), by repeat (first | (with_reducible first | exact HB.out | apply below_alloc | apply pw_below_drewN | apply below_drew1) | exact HB.out)⟩
end Go.Proofs.YtkblmomfiimkiaaGreatDoor.P
end

section
namespace Go.Proofs.YtkblmomfiimkiaaGreatDoor.P
open Go.RowKit Go.Proofs.YtkblmomfiimkiaaGreatDoorW.PrintWords Go.Proofs.YtkblmomfiimkiaaGreatDoorW.PrintLast Go.Proofs.YtkblmomfiimkiaaGreatDoorW.PrintMore
attribute [local go_sem] max2_int min2_int max_two min_two max_three min_three max_four min_four   -- for this text's walks alone
set_option linter.unusedVariables false
set_option linter.unusedSimpArgs false
def supercargoref05_Kind.f (a0 : Int) : Option (ByteArray) := (some (([(⟨#[105, 110, 118, 111, 105, 99, 101]⟩ : ByteArray), (⟨#[112, 97, 99, 107, 105, 110, 103]⟩ : ByteArray), (⟨#[108, 97, 100, 105, 110, 103]⟩ : ByteArray), (⟨#[105, 110, 115, 117, 114, 97, 110, 99, 101]⟩ : ByteArray), (⟨#[111, 114, 105, 103, 105, 110]⟩ : ByteArray), (⟨#[100, 114, 97, 102, 116]⟩ : ByteArray)] : List ByteArray) : List ByteArray)).bind fun y241 => (if a0 < 0 then (some (⟨#[]⟩ : ByteArray)) else (if a0 > 5 then (some (⟨#[]⟩ : ByteArray)) else (if 0 ≤ a0 then (if a0 < (y241.length : Int) then (some (rdOf ByteArray.empty y241 a0)) else (none)) else (none))))
set_option maxHeartbeats 8000000 in
set_option maxRecDepth 100000 in
theorem supercargoref05_Kind.calls (a0 : Int) (r : ByteArray) (w : World) (h : supercargoref05_Kind.f a0 = some r) :
  Calls Tryz.prog 72 #[.int .i64 a0] w fun e w' => e = .returned (.string r) ∧ Below w.heap.size w w' := by
 have HB := Aside0.mk (Below.refl w.heap.size w)
 have H : ((some (([(⟨#[105, 110, 118, 111, 105, 99, 101]⟩ : ByteArray), (⟨#[112, 97, 99, 107, 105, 110, 103]⟩ : ByteArray), (⟨#[108, 97, 100, 105, 110, 103]⟩ : ByteArray), (⟨#[105, 110, 115, 117, 114, 97, 110, 99, 101]⟩ : ByteArray), (⟨#[111, 114, 105, 103, 105, 110]⟩ : ByteArray), (⟨#[100, 114, 97, 102, 116]⟩ : ByteArray)] : List ByteArray) : List ByteArray)).bind fun y241 => (if a0 < 0 then (some (⟨#[]⟩ : ByteArray)) else (if a0 > 5 then (some (⟨#[]⟩ : ByteArray)) else (if 0 ≤ a0 then (if a0 < (y241.length : Int) then (some (rdOf ByteArray.empty y241 a0)) else (none)) else (none))))) = some r := h
 clear h
 obtain ⟨y241, hy241⟩ : ∃ y_ : List ByteArray, y_ = (([(⟨#[105, 110, 118, 111, 105, 99, 101]⟩ : ByteArray), (⟨#[112, 97, 99, 107, 105, 110, 103]⟩ : ByteArray), (⟨#[108, 97, 100, 105, 110, 103]⟩ : ByteArray), (⟨#[105, 110, 115, 117, 114, 97, 110, 99, 101]⟩ : ByteArray), (⟨#[111, 114, 105, 103, 105, 110]⟩ : ByteArray), (⟨#[100, 114, 97, 102, 116]⟩ : ByteArray)] : List ByteArray)) := ⟨_, rfl⟩
 replace H : (if a0 < 0 then (some (⟨#[]⟩ : ByteArray)) else (if a0 > 5 then (some (⟨#[]⟩ : ByteArray)) else (if 0 ≤ a0 then (if a0 < (y241.length : Int) then (some (rdOf ByteArray.empty y241 a0)) else (none)) else (none)))) = some r := by first | (rw [hy241]; with_reducible exact H) | (have H2_ := (Option.bind_some _ _).symm.trans H; rw [hy241]; with_reducible exact H2_) | (have H2_ := (Option.bind_some _ _).symm.trans H; with_reducible exact H2_) | with_reducible exact H | (rw [hy241]; exact H) | exact H
 have Ny241 := Aside0.mk hy241
 clear hy241
 by_cases c2 : a0 < 0
 ·
  rw [if_pos c2] at H
  have c2b0 : decide (a0 < 0) = true := decide_eq_true c2
  clear c2
  obtain rfl := Option.some.inj H
  go_enter Tryz.func72, Tryz.ntmps72
  go_wp2_with (first | ((with_reducible refine gate_dst (N := 4) rfl ?_); refine Kd.R_lit Kd.string _ 9 ?hg (N := 4) ?hd (xs := ([(⟨#[105, 110, 118, 111, 105, 99, 101]⟩ : ByteArray), (⟨#[112, 97, 99, 107, 105, 110, 103]⟩ : ByteArray), (⟨#[108, 97, 100, 105, 110, 103]⟩ : ByteArray), (⟨#[105, 110, 115, 117, 114, 97, 110, 99, 101]⟩ : ByteArray), (⟨#[111, 114, 105, 103, 105, 110]⟩ : ByteArray), (⟨#[100, 114, 97, 102, 116]⟩ : ByteArray)] : List ByteArray)) (inner := [.string (⟨#[105, 110, 118, 111, 105, 99, 101]⟩ : ByteArray), .string (⟨#[112, 97, 99, 107, 105, 110, 103]⟩ : ByteArray), .string (⟨#[108, 97, 100, 105, 110, 103]⟩ : ByteArray), .string (⟨#[105, 110, 115, 117, 114, 97, 110, 99, 101]⟩ : ByteArray), .string (⟨#[111, 114, 105, 103, 105, 110]⟩ : ByteArray), .string (⟨#[100, 114, 97, 102, 116]⟩ : ByteArray)]) (ok := fun _ => True) (okp := fun _ => True) ?hr ?hp (fun _ hk => hk) trivial (Below.refl _ _) (Nat.le_refl _) (by simp) ?_; (case hd => rfl); (case hg => rfl); (case hr => first | (go_simp; done) | (go_simp; rfl)); (case hp => exact (Reps.one (show Kd.M Kd.string _ _ _ (⟨#[105, 110, 118, 111, 105, 99, 101]⟩ : ByteArray) [.string (⟨#[105, 110, 118, 111, 105, 99, 101]⟩ : ByteArray)] from rfl) (Reps.one (show Kd.M Kd.string _ _ _ (⟨#[112, 97, 99, 107, 105, 110, 103]⟩ : ByteArray) [.string (⟨#[112, 97, 99, 107, 105, 110, 103]⟩ : ByteArray)] from rfl) (Reps.one (show Kd.M Kd.string _ _ _ (⟨#[108, 97, 100, 105, 110, 103]⟩ : ByteArray) [.string (⟨#[108, 97, 100, 105, 110, 103]⟩ : ByteArray)] from rfl) (Reps.one (show Kd.M Kd.string _ _ _ (⟨#[105, 110, 115, 117, 114, 97, 110, 99, 101]⟩ : ByteArray) [.string (⟨#[105, 110, 115, 117, 114, 97, 110, 99, 101]⟩ : ByteArray)] from rfl) (Reps.one (show Kd.M Kd.string _ _ _ (⟨#[111, 114, 105, 103, 105, 110]⟩ : ByteArray) [.string (⟨#[111, 114, 105, 103, 105, 110]⟩ : ByteArray)] from rfl) (Reps.one (show Kd.M Kd.string _ _ _ (⟨#[100, 114, 97, 102, 116]⟩ : ByteArray) [.string (⟨#[100, 114, 97, 102, 116]⟩ : ByteArray)] from rfl) (Reps.none _ _)))))))); intro v242 w3 ho4 hb hg_ hnew_; clear hg_ hnew_; (first | rw [← Ny241.out] at ho4 | (simp only [Int.reduceToNat] at ho4; rw [← Ny241.out] at ho4)); have n0_ := Aside0.mk (Kd.R_lower ho4 (below_size (by repeat (first | (with_reducible first | exact HB.out | apply below_alloc | apply pw_below_drewN | apply below_drew1) | exact HB.out)))); have n1_ := Aside0.mk (below_step (by repeat (first | (with_reducible first | exact HB.out | apply below_alloc | apply pw_below_drewN | apply below_drew1) | exact HB.out)) hb); clear HB; have HO243 := n0_; have HB := n1_; clear n0_ n1_; clear hb ho4))
  go_ret
  exact ⟨by first | rfl | (simp [errW_none, errW_some] <;> rfl) | (simp [*, errW_none, errW_some] <;> rfl), by repeat (first | (with_reducible first | exact HB.out | apply below_alloc | apply pw_below_drewN | apply below_drew1) | exact HB.out)⟩
 ·
  rw [if_neg c2] at H
  have c2b0 : decide (a0 < 0) = false := decide_eq_false c2
  clear c2
  by_cases c5 : a0 > 5
  ·
   rw [if_pos c5] at H
   have c5b0 : decide (5 < a0) = true := decide_eq_true c5
   clear c5
   obtain rfl := Option.some.inj H
   go_enter Tryz.func72, Tryz.ntmps72
   go_wp2_with (first | ((with_reducible refine gate_dst (N := 4) rfl ?_); refine Kd.R_lit Kd.string _ 9 ?hg (N := 4) ?hd (xs := ([(⟨#[105, 110, 118, 111, 105, 99, 101]⟩ : ByteArray), (⟨#[112, 97, 99, 107, 105, 110, 103]⟩ : ByteArray), (⟨#[108, 97, 100, 105, 110, 103]⟩ : ByteArray), (⟨#[105, 110, 115, 117, 114, 97, 110, 99, 101]⟩ : ByteArray), (⟨#[111, 114, 105, 103, 105, 110]⟩ : ByteArray), (⟨#[100, 114, 97, 102, 116]⟩ : ByteArray)] : List ByteArray)) (inner := [.string (⟨#[105, 110, 118, 111, 105, 99, 101]⟩ : ByteArray), .string (⟨#[112, 97, 99, 107, 105, 110, 103]⟩ : ByteArray), .string (⟨#[108, 97, 100, 105, 110, 103]⟩ : ByteArray), .string (⟨#[105, 110, 115, 117, 114, 97, 110, 99, 101]⟩ : ByteArray), .string (⟨#[111, 114, 105, 103, 105, 110]⟩ : ByteArray), .string (⟨#[100, 114, 97, 102, 116]⟩ : ByteArray)]) (ok := fun _ => True) (okp := fun _ => True) ?hr ?hp (fun _ hk => hk) trivial (Below.refl _ _) (Nat.le_refl _) (by simp) ?_; (case hd => rfl); (case hg => rfl); (case hr => first | (go_simp; done) | (go_simp; rfl)); (case hp => exact (Reps.one (show Kd.M Kd.string _ _ _ (⟨#[105, 110, 118, 111, 105, 99, 101]⟩ : ByteArray) [.string (⟨#[105, 110, 118, 111, 105, 99, 101]⟩ : ByteArray)] from rfl) (Reps.one (show Kd.M Kd.string _ _ _ (⟨#[112, 97, 99, 107, 105, 110, 103]⟩ : ByteArray) [.string (⟨#[112, 97, 99, 107, 105, 110, 103]⟩ : ByteArray)] from rfl) (Reps.one (show Kd.M Kd.string _ _ _ (⟨#[108, 97, 100, 105, 110, 103]⟩ : ByteArray) [.string (⟨#[108, 97, 100, 105, 110, 103]⟩ : ByteArray)] from rfl) (Reps.one (show Kd.M Kd.string _ _ _ (⟨#[105, 110, 115, 117, 114, 97, 110, 99, 101]⟩ : ByteArray) [.string (⟨#[105, 110, 115, 117, 114, 97, 110, 99, 101]⟩ : ByteArray)] from rfl) (Reps.one (show Kd.M Kd.string _ _ _ (⟨#[111, 114, 105, 103, 105, 110]⟩ : ByteArray) [.string (⟨#[111, 114, 105, 103, 105, 110]⟩ : ByteArray)] from rfl) (Reps.one (show Kd.M Kd.string _ _ _ (⟨#[100, 114, 97, 102, 116]⟩ : ByteArray) [.string (⟨#[100, 114, 97, 102, 116]⟩ : ByteArray)] from rfl) (Reps.none _ _)))))))); intro v242 w6 ho7 hb hg_ hnew_; clear hg_ hnew_; (first | rw [← Ny241.out] at ho7 | (simp only [Int.reduceToNat] at ho7; rw [← Ny241.out] at ho7)); have n0_ := Aside0.mk (Kd.R_lower ho7 (below_size (by repeat (first | (with_reducible first | exact HB.out | apply below_alloc | apply pw_below_drewN | apply below_drew1) | exact HB.out)))); have n1_ := Aside0.mk (below_step (by repeat (first | (with_reducible first | exact HB.out | apply below_alloc | apply pw_below_drewN | apply below_drew1) | exact HB.out)) hb); clear HB; have HO243 := n0_; have HB := n1_; clear n0_ n1_; clear hb ho7))
   go_ret
   exact ⟨by first | rfl | (simp [errW_none, errW_some] <;> rfl) | (simp [*, errW_none, errW_some] <;> rfl), by repeat (first | (with_reducible first | exact HB.out | apply below_alloc | apply pw_below_drewN | apply below_drew1) | exact HB.out)⟩
  ·
   rw [if_neg c5] at H
   have c5b0 : decide (5 < a0) = false := decide_eq_false c5
   clear c5
   by_cases c8 : 0 ≤ a0
   ·
    rw [if_pos c8] at H
    have c8b0 : decide (0 ≤ a0) = true := decide_eq_true c8
    clear c8
    by_cases c9 : a0 < (y241.length : Int)
    ·
     rw [if_pos c9] at H
     have c9b0 : decide (a0 < (y241.length : Int)) = true := decide_eq_true c9
     clear c9
     obtain rfl := Option.some.inj H
     go_enter Tryz.func72, Tryz.ntmps72
     go_wp2_with (first | ((with_reducible refine gate_dst (N := 4) rfl ?_); refine Kd.R_lit Kd.string _ 9 ?hg (N := 4) ?hd (xs := ([(⟨#[105, 110, 118, 111, 105, 99, 101]⟩ : ByteArray), (⟨#[112, 97, 99, 107, 105, 110, 103]⟩ : ByteArray), (⟨#[108, 97, 100, 105, 110, 103]⟩ : ByteArray), (⟨#[105, 110, 115, 117, 114, 97, 110, 99, 101]⟩ : ByteArray), (⟨#[111, 114, 105, 103, 105, 110]⟩ : ByteArray), (⟨#[100, 114, 97, 102, 116]⟩ : ByteArray)] : List ByteArray)) (inner := [.string (⟨#[105, 110, 118, 111, 105, 99, 101]⟩ : ByteArray), .string (⟨#[112, 97, 99, 107, 105, 110, 103]⟩ : ByteArray), .string (⟨#[108, 97, 100, 105, 110, 103]⟩ : ByteArray), .string (⟨#[105, 110, 115, 117, 114, 97, 110, 99, 101]⟩ : ByteArray), .string (⟨#[111, 114, 105, 103, 105, 110]⟩ : ByteArray), .string (⟨#[100, 114, 97, 102, 116]⟩ : ByteArray)]) (ok := fun _ => True) (okp := fun _ => True) ?hr ?hp (fun _ hk => hk) trivial (Below.refl _ _) (Nat.le_refl _) (by simp) ?_; (case hd => rfl); (case hg => rfl); (case hr => first | (go_simp; done) | (go_simp; rfl)); (case hp => exact (Reps.one (show Kd.M Kd.string _ _ _ (⟨#[105, 110, 118, 111, 105, 99, 101]⟩ : ByteArray) [.string (⟨#[105, 110, 118, 111, 105, 99, 101]⟩ : ByteArray)] from rfl) (Reps.one (show Kd.M Kd.string _ _ _ (⟨#[112, 97, 99, 107, 105, 110, 103]⟩ : ByteArray) [.string (⟨#[112, 97, 99, 107, 105, 110, 103]⟩ : ByteArray)] from rfl) (Reps.one (show Kd.M Kd.string _ _ _ (⟨#[108, 97, 100, 105, 110, 103]⟩ : ByteArray) [.string (⟨#[108, 97, 100, 105, 110, 103]⟩ : ByteArray)] from rfl) (Reps.one (show Kd.M Kd.string _ _ _ (⟨#[105, 110, 115, 117, 114, 97, 110, 99, 101]⟩ : ByteArray) [.string (⟨#[105, 110, 115, 117, 114, 97, 110, 99, 101]⟩ : ByteArray)] from rfl) (Reps.one (show Kd.M Kd.string _ _ _ (⟨#[111, 114, 105, 103, 105, 110]⟩ : ByteArray) [.string (⟨#[111, 114, 105, 103, 105, 110]⟩ : ByteArray)] from rfl) (Reps.one (show Kd.M Kd.string _ _ _ (⟨#[100, 114, 97, 102, 116]⟩ : ByteArray) [.string (⟨#[100, 114, 97, 102, 116]⟩ : ByteArray)] from rfl) (Reps.none _ _)))))))); intro v242 w10 ho11 hb hg_ hnew_; clear hg_ hnew_; (first | rw [← Ny241.out] at ho11 | (simp only [Int.reduceToNat] at ho11; rw [← Ny241.out] at ho11)); have n0_ := Aside0.mk (Kd.R_lower ho11 (below_size (by repeat (first | (with_reducible first | exact HB.out | apply below_alloc | apply pw_below_drewN | apply below_drew1) | exact HB.out)))); have n1_ := Aside0.mk (below_step (by repeat (first | (with_reducible first | exact HB.out | apply below_alloc | apply pw_below_drewN | apply below_drew1) | exact HB.out)) hb); clear HB; have HO243 := n0_; have HB := n1_; clear n0_ n1_; clear hb ho11; obtain ⟨Ao12, co12, eo12⟩ := Kd.R_slice HO243.out; subst eo12; have p244 : 0 ≤ (a0 : Int) := of_decide_eq_true (by first | (with_reducible assumption) | assumption); have q244 : a0 < (y241.length : Int) := of_decide_eq_true (by first | (with_reducible assumption) | assumption); obtain ⟨ad244, e244, hx244_0⟩ := Kd.at_string (Kd.R_reads' HO243.out).2.2 a0 p244 q244; cases e244; replace p244 := eq_true p244; replace q244 := eq_true q244))
     go_ret
     exact ⟨by first | rfl | (simp [errW_none, errW_some] <;> rfl) | (simp [*, errW_none, errW_some] <;> rfl), by repeat (first | (with_reducible first | exact HB.out | apply below_alloc | apply pw_below_drewN | apply below_drew1) | exact HB.out)⟩
    ·
     rw [if_neg c9] at H
     exact absurd H (by simp)
   ·
    rw [if_neg c8] at H
    exact absurd H (by simp)
end Go.Proofs.YtkblmomfiimkiaaGreatDoor.P
end

section
namespace Go.Proofs.YtkblmomfiimkiaaGreatDoor.P
open Go.RowKit Go.Proofs.YtkblmomfiimkiaaGreatDoorW.PrintWords Go.Proofs.YtkblmomfiimkiaaGreatDoorW.PrintLast Go.Proofs.YtkblmomfiimkiaaGreatDoorW.PrintMore
attribute [local go_sem] max2_int min2_int max_two min_two max_three min_three max_four min_four   -- for this text's walks alone
set_option linter.unusedVariables false
set_option linter.unusedSimpArgs false
def supercargoref05_Paper.l0 : Nat → Int → Int → ByteArray → ByteArray → List (S43) → Option (Bool)
 | 0, _, _, _, _, _ => none
 | k + 1, x3, x246000, x246001, x246002, x246003 => if x3 < (x246003.length : Int) then (if 0 ≤ x3 then ((supercargoref05_May.f k ((rd_T43 x246003 x3).f0) ((rd_T43 x246003 x3).f1)).bind fun t247 => (if t247 = true then (supercargoref05_Paper.l0 k (wrap64 (x3 + 1)) x246000 x246001 x246002 x246003) else (some false))) else (none)) else ((supercargoref05_Kind.f x246000).bind fun t248 => (if t248.toList = ([] : List UInt8) then (some false) else (if (x246001.size : Int) ≤ 4096 then (if (x246002.size : Int) ≤ 4096 then (some (decide ((x246003.length : Int) ≤ 61))) else (some false)) else (some false))))
def supercargoref05_Paper.f (k : Nat) (a0_0 : Int) (a0_1 : ByteArray) (a0_2 : ByteArray) (l0_3 : List (S43)) : Option (Bool) := supercargoref05_Paper.l0 k 0 a0_0 a0_1 a0_2 l0_3
theorem supercargoref05_Paper.mono_l : ∀ k, (∀ y0 y1 y2 y3 y4, LeO (supercargoref05_Paper.l0 k y0 y1 y2 y3 y4) (supercargoref05_Paper.l0 (k + 1) y0 y1 y2 y3 y4))
 | 0 => fun _ _ _ _ _ r h => by simp [supercargoref05_Paper.l0] at h
 | k + 1 => by
  have ih0 := supercargoref05_Paper.mono_l k
  ·
   intro y0 y1 y2 y3 y4
   unfold supercargoref05_Paper.l0
   repeat' first
   | (with_reducible exact ih0 _ _ _ _ _)
   | (with_reducible exact supercargoref05_May.mono _ _ _)
   | (with_reducible exact LeO.refl _)
   | (with_reducible exact LeO.none _)
   | (with_reducible refine LeO.ite ?_ ?_)
   | (with_reducible refine LeO.bind ?_ (fun _ => ?_))
   | exact ih0 _ _ _ _ _
   | exact supercargoref05_May.mono _ _ _
   | exact LeO.none _
   | refine LeO.ite ?_ ?_
   | refine LeO.bind ?_ (fun _ => ?_)
theorem supercargoref05_Paper.mono : ∀ a0 a1 a2 a3 k, LeO (supercargoref05_Paper.f k a0 a1 a2 a3) (supercargoref05_Paper.f (k + 1) a0 a1 a2 a3) := by
 intro a0 a1 a2 a3 k
 have ih0 := supercargoref05_Paper.mono_l k
 unfold supercargoref05_Paper.f
 repeat' first
   | (with_reducible exact ih0 _ _ _ _ _)
   | (with_reducible exact supercargoref05_May.mono _ _ _)
   | (with_reducible exact LeO.refl _)
   | (with_reducible exact LeO.none _)
   | (with_reducible refine LeO.ite ?_ ?_)
   | (with_reducible refine LeO.bind ?_ (fun _ => ?_))
   | exact ih0 _ _ _ _ _
   | exact supercargoref05_May.mono _ _ _
   | exact LeO.none _
   | refine LeO.ite ?_ ?_
   | refine LeO.bind ?_ (fun _ => ?_)
set_option maxHeartbeats 8000000 in
set_option maxRecDepth 100000 in
theorem supercargoref05_Paper.calls (k : Nat) (a0_0 : Int) (a0_1 : ByteArray) (a0_2 : ByteArray) (A0_3 : Option Addr) (c0_3 : Nat) (l0_3 : List (S43)) (r : Bool) (w : World) (hr0_3 : Kd.C k43 w A0_3 l0_3.length l0_3) (hc0_3 : l0_3.length ≤ c0_3) (h : supercargoref05_Paper.f k a0_0 a0_1 a0_2 l0_3 = some r) :
  Calls Tryz.prog 49 #[.agg #[.int .i64 a0_0, .string a0_1, .string a0_2, .slice A0_3 l0_3.length c0_3]] w fun e w' => e = .returned (.bool r) ∧ Below w.heap.size w w' := by
 have hu38 := Tryz.underlying38
 have hu43 := Tryz.underlying43
 have HR0_3 := Aside0.mk hr0_3
 have HC0_3 := Aside0.mk hc0_3
 clear hr0_3 hc0_3
 have HB := Aside0.mk (Below.refl w.heap.size w)
 have H : (supercargoref05_Paper.l0 k 0 a0_0 a0_1 a0_2 l0_3) = some r := h
 clear h
 have H' := Aside0.mk H
 clear H
 go_enter Tryz.func49, Tryz.ntmps49
 go_wp2_with (first | ((with_reducible refine gate_dst (N := 1) rfl ?_); (try (refine gate_guard (by rfl) ?_; dsimp only)); refine box_event ?hg (N := 1) ?hd (cs := #[.int .i64 a0_0, .string a0_1, .string a0_2, .slice A0_3 l0_3.length c0_3]) (t := 38) ?hr ?_; (case hd => rfl); (case hg => rfl); (case hr => first | (go_simp; done) | (go_simp; rfl)); intro gb245 hg w2 hbox hb; have n0_ := Aside0.mk (below_step (by repeat (first | (with_reducible first | exact HB.out | apply below_alloc | apply pw_below_drewN | apply below_drew1) | exact HB.out)) hb); have n1_ := Aside0.mk (hbox); have n2_ := Aside0.mk ((by rw [hg]; exact (below_size (by repeat (first | (with_reducible first | exact HB.out | apply below_alloc | apply pw_below_drewN | apply below_drew1) | exact HB.out))) : w.heap.size ≤ gb245)); have n3_ := Aside0.mk ((by rw [hg]; exact (below_size (by repeat (first | (with_reducible first | exact HB.out | apply below_alloc | apply pw_below_drewN | apply below_drew1) | exact HB.out))) : w.heap.size ≤ gb245)); clear HB; have HB := n0_; have BK245 := n1_; have GW245 := n2_; have GE245 := n3_; clear n0_ n1_ n2_ n3_; clear hb hbox hg))
 go_loopg [3] k (fun kq v3 w' => ∃ (x3_1 : Int), v3 = .int .i64 x3_1 ∧ Aside0 (supercargoref05_Paper.l0 kq x3_1 a0_0 a0_1 a0_2 l0_3 = some r) ∧ Aside0 (kq ≤ k) ∧ Aside0 (w'.heap[gb245]? = some (.cells #[.int .i64 a0_0, .string a0_1, .string a0_2, (.slice A0_3 l0_3.length c0_3)] 38 (0, 0))) ∧ Aside0 (Below w.heap.size w w'))
 case atStart => exact ⟨(0), (by first | rfl | (simp; done) | (simp [*]; done)), H', ⟨Nat.le_refl _⟩, ⟨by (with_reducible repeat (first | refine blk_drewN ?_ _ | refine blk_drew ?_ | refine blk_alloc ?_ _)); exact BK245.out⟩, ⟨by repeat (first | (with_reducible first | exact HB.out | apply below_alloc | apply pw_below_drewN | apply below_drew1 | refine below_set ?_ GE245.out) | exact HB.out)⟩⟩
 case round =>
  clear H'
  try clear p2
  obtain ⟨x3_1, rfl, HA, HK1, BK245, HB⟩ := hrel
  cases gk with
  | zero => exact absurd HA.out (by simp [supercargoref05_Paper.l0])
  | succ k1 =>
   have H := HA.out
   clear HA
   simp only [supercargoref05_Paper.l0] at H
   by_cases c3 : x3_1 < (l0_3.length : Int)
   ·
    rw [if_pos c3] at H
    have c3b0 : decide (x3_1 < (l0_3.length : Int)) = true := decide_eq_true c3
    clear c3
    by_cases c4 : 0 ≤ x3_1
    ·
     rw [if_pos c4] at H
     have c4b0 : decide (0 ≤ x3_1) = true := decide_eq_true c4
     clear c4
     replace H := Option.bind_eq_some_iff.mp H
     obtain ⟨t247, A50, H⟩ := H
     replace H : (if t247 = true then (supercargoref05_Paper.l0 k1 (wrap64 (x3_1 + 1)) a0_0 a0_1 a0_2 l0_3) else (some false)) = some r := H
     have A5 := Aside0.mk A50
     clear A50
     by_cases c6 : t247 = true
     ·
      subst c6
      have H1 : (supercargoref05_Paper.l0 k1 (wrap64 (x3_1 + 1)) a0_0 a0_1 a0_2 l0_3) = some r := by rw [if_pos rfl] at H; exact H
      clear H
      have H := H1
      clear H1
      have H' := Aside0.mk H
      clear H
      have hcz7_0 : wr.cell? ⟨gb245, 0, none⟩ = some (.int .i64 a0_0) := (blk_cell BK245.out 0).trans rfl
      have hcz7_1 : wr.cell? ⟨gb245, 1, none⟩ = some (.string a0_1) := (blk_cell BK245.out 1).trans rfl
      have hcz7_2 : wr.cell? ⟨gb245, 2, none⟩ = some (.string a0_2) := (blk_cell BK245.out 2).trans rfl
      have hcz7_3 : wr.cell? ⟨gb245, 3, none⟩ = some (.slice A0_3 l0_3.length c0_3) := (blk_cell BK245.out 3).trans rfl
      have hfz7_0 := blk_frozen BK245.out 0
      have hfz7_1 := blk_frozen BK245.out 1
      have hfz7_2 := blk_frozen BK245.out 2
      have hfz7_3 := blk_frozen BK245.out 3
      have p246 : 0 ≤ (x3_1 : Int) := of_decide_eq_true (by first | (with_reducible assumption) | assumption)
      have q246 : x3_1 < (l0_3.length : Int) := of_decide_eq_true (by first | (with_reducible assumption) | assumption)
      obtain ⟨ad246, e246, hx246_0, hx246_1⟩ := at_T43 HR0_3.out x3_1 p246 q246
      cases e246
      replace hx246_0 := (HB.out.cell (World.block_lt_of_cell? w _ hx246_0)).trans hx246_0
      replace hx246_1 := (HB.out.cell (World.block_lt_of_cell? w _ hx246_1)).trans hx246_1
      replace p246 := eq_true p246
      replace q246 := eq_true q246
      go_wp2_with (first | ((with_reducible refine gate_callee (f := 60) rfl ?_); refine goesL_ (some 16) rfl rfl Tryz.func60 (by kernel_rfl) rfl #[.agg #[.string ((rd_T43 l0_3 x3_1).f0), .string ((rd_T43 l0_3 x3_1).f1)]] rfl (by (try simp only [List.map_toArray, List.map_cons, List.map_nil]); first | done | rfl | (simp only [List.length_drop, List.length_take]; rfl)) ?_; (with_reducible refine (supercargoref05_May.calls k1 ((rd_T43 l0_3 x3_1).f0) ((rd_T43 l0_3 x3_1).f1) true _ A5.out).mono ?_); rintro e w8 ⟨rfl, hb⟩; refine ⟨_, rfl, ?_⟩; have n0_ := Aside0.mk (blk_below (g := gb245) (o := .cells #[.int .i64 a0_0, .string a0_1, .string a0_2, .slice (some ad246) l0_3.length c0_3] 38 (0, 0)) (by (with_reducible repeat (first | refine blk_drewN ?_ _ | refine blk_drew ?_ | refine blk_alloc ?_ _)); exact BK245.out) hb); have n1_ := Aside0.mk (below_step (by repeat (first | (with_reducible first | exact HB.out | apply below_alloc | apply pw_below_drewN | apply below_drew1 | refine below_set ?_ GE245.out) | exact HB.out)) hb); clear BK245; clear HB; have BK245 := n0_; have HB := n1_; clear n0_ n1_; (try clear hb); (try clear hb2); (try clear hk); (try clear hi)))
      go_roundg k1
      case measure => have := HK1.out; omega
      case rel => exact ⟨(wrap64 (x3_1 + 1)), (by first | rfl | (simp; done) | (simp [*]; done)), H', ⟨by have := HK1.out; omega⟩, ⟨by (with_reducible repeat (first | refine blk_drewN ?_ _ | refine blk_drew ?_ | refine blk_alloc ?_ _)); exact BK245.out⟩, ⟨by repeat (first | (with_reducible first | exact HB.out | apply below_alloc | apply pw_below_drewN | apply below_drew1 | refine below_set ?_ GE245.out) | exact HB.out)⟩⟩
     ·
      replace c6 := Bool.eq_false_iff.mpr c6
      subst c6
      have H1 : (some false) = some r := by rw [if_neg (show ¬ (false = true) by decide)] at H; exact H
      clear H
      have H := H1
      clear H1
      obtain rfl := Option.some.inj H
      have hcz9_0 : wr.cell? ⟨gb245, 0, none⟩ = some (.int .i64 a0_0) := (blk_cell BK245.out 0).trans rfl
      have hcz9_1 : wr.cell? ⟨gb245, 1, none⟩ = some (.string a0_1) := (blk_cell BK245.out 1).trans rfl
      have hcz9_2 : wr.cell? ⟨gb245, 2, none⟩ = some (.string a0_2) := (blk_cell BK245.out 2).trans rfl
      have hcz9_3 : wr.cell? ⟨gb245, 3, none⟩ = some (.slice A0_3 l0_3.length c0_3) := (blk_cell BK245.out 3).trans rfl
      have hfz9_0 := blk_frozen BK245.out 0
      have hfz9_1 := blk_frozen BK245.out 1
      have hfz9_2 := blk_frozen BK245.out 2
      have hfz9_3 := blk_frozen BK245.out 3
      have p246 : 0 ≤ (x3_1 : Int) := of_decide_eq_true (by first | (with_reducible assumption) | assumption)
      have q246 : x3_1 < (l0_3.length : Int) := of_decide_eq_true (by first | (with_reducible assumption) | assumption)
      obtain ⟨ad246, e246, hx246_0, hx246_1⟩ := at_T43 HR0_3.out x3_1 p246 q246
      cases e246
      replace hx246_0 := (HB.out.cell (World.block_lt_of_cell? w _ hx246_0)).trans hx246_0
      replace hx246_1 := (HB.out.cell (World.block_lt_of_cell? w _ hx246_1)).trans hx246_1
      replace p246 := eq_true p246
      replace q246 := eq_true q246
      go_wp2_with (first | ((with_reducible refine gate_callee (f := 60) rfl ?_); refine goesL_ (some 16) rfl rfl Tryz.func60 (by kernel_rfl) rfl #[.agg #[.string ((rd_T43 l0_3 x3_1).f0), .string ((rd_T43 l0_3 x3_1).f1)]] rfl (by (try simp only [List.map_toArray, List.map_cons, List.map_nil]); first | done | rfl | (simp only [List.length_drop, List.length_take]; rfl)) ?_; (with_reducible refine (supercargoref05_May.calls k1 ((rd_T43 l0_3 x3_1).f0) ((rd_T43 l0_3 x3_1).f1) false _ A5.out).mono ?_); rintro e w10 ⟨rfl, hb⟩; refine ⟨_, rfl, ?_⟩; have n0_ := Aside0.mk (blk_below (g := gb245) (o := .cells #[.int .i64 a0_0, .string a0_1, .string a0_2, .slice (some ad246) l0_3.length c0_3] 38 (0, 0)) (by (with_reducible repeat (first | refine blk_drewN ?_ _ | refine blk_drew ?_ | refine blk_alloc ?_ _)); exact BK245.out) hb); have n1_ := Aside0.mk (below_step (by repeat (first | (with_reducible first | exact HB.out | apply below_alloc | apply pw_below_drewN | apply below_drew1 | refine below_set ?_ GE245.out) | exact HB.out)) hb); clear BK245; clear HB; have BK245 := n0_; have HB := n1_; clear n0_ n1_; (try clear hb); (try clear hb2); (try clear hk); (try clear hi)))
      go_ret
      exact ⟨by first | rfl | (simp [errW_none, errW_some] <;> rfl) | (simp [*, errW_none, errW_some] <;> rfl), by repeat (first | (with_reducible first | exact HB.out | apply below_alloc | apply pw_below_drewN | apply below_drew1 | refine below_set ?_ GE245.out) | exact HB.out)⟩
    ·
     rw [if_neg c4] at H
     exact absurd H (by simp)
   ·
    rw [if_neg c3] at H
    have c3b0 : decide (x3_1 < (l0_3.length : Int)) = false := decide_eq_false c3
    clear c3
    replace H := Option.bind_eq_some_iff.mp H
    obtain ⟨t248, A110, H⟩ := H
    replace H : (if t248.toList = ([] : List UInt8) then (some false) else (if (a0_1.size : Int) ≤ 4096 then (if (a0_2.size : Int) ≤ 4096 then (some (decide ((l0_3.length : Int) ≤ 61))) else (some false)) else (some false))) = some r := H
    have A11 := Aside0.mk A110
    clear A110
    by_cases c12 : t248.toList = ([] : List UInt8)
    ·
     rw [if_pos c12] at H
     have c12b0 : (t248.toList == ([] : List UInt8)) = true := beq_iff_eq.mpr c12
     have c12b1 : (t248.toList != ([] : List UInt8)) = false := bne_eq_false_iff_eq.mpr c12
     clear c12
     obtain rfl := Option.some.inj H
     have hcz13_0 : wr.cell? ⟨gb245, 0, none⟩ = some (.int .i64 a0_0) := (blk_cell BK245.out 0).trans rfl
     have hcz13_1 : wr.cell? ⟨gb245, 1, none⟩ = some (.string a0_1) := (blk_cell BK245.out 1).trans rfl
     have hcz13_2 : wr.cell? ⟨gb245, 2, none⟩ = some (.string a0_2) := (blk_cell BK245.out 2).trans rfl
     have hcz13_3 : wr.cell? ⟨gb245, 3, none⟩ = some (.slice A0_3 l0_3.length c0_3) := (blk_cell BK245.out 3).trans rfl
     have hfz13_0 := blk_frozen BK245.out 0
     have hfz13_1 := blk_frozen BK245.out 1
     have hfz13_2 := blk_frozen BK245.out 2
     have hfz13_3 := blk_frozen BK245.out 3
     go_wp2_with (first | ((with_reducible refine gate_callee (f := 72) rfl ?_); refine goesL_ (some 20) rfl rfl Tryz.func72 (by kernel_rfl) rfl #[.int .i64 a0_0] rfl (by (try simp only [List.map_toArray, List.map_cons, List.map_nil]); first | done | rfl | (simp only [List.length_drop, List.length_take]; rfl)) ?_; (with_reducible refine (supercargoref05_Kind.calls a0_0 t248 _ A11.out).mono ?_); rintro e w14 ⟨rfl, hb⟩; refine ⟨_, rfl, ?_⟩; have n0_ := Aside0.mk (blk_below (g := gb245) (o := .cells #[.int .i64 a0_0, .string a0_1, .string a0_2, .slice A0_3 l0_3.length c0_3] 38 (0, 0)) (by (with_reducible repeat (first | refine blk_drewN ?_ _ | refine blk_drew ?_ | refine blk_alloc ?_ _)); exact BK245.out) hb); have n1_ := Aside0.mk (below_step (by repeat (first | (with_reducible first | exact HB.out | apply below_alloc | apply pw_below_drewN | apply below_drew1 | refine below_set ?_ GE245.out) | exact HB.out)) hb); clear BK245; clear HB; have BK245 := n0_; have HB := n1_; clear n0_ n1_; (try clear hb); (try clear hb2); (try clear hk); (try clear hi)))
     go_ret
     exact ⟨by first | rfl | (simp [errW_none, errW_some] <;> rfl) | (simp [*, errW_none, errW_some] <;> rfl), by repeat (first | (with_reducible first | exact HB.out | apply below_alloc | apply pw_below_drewN | apply below_drew1 | refine below_set ?_ GE245.out) | exact HB.out)⟩
    ·
     rw [if_neg c12] at H
     have c12b0 : (t248.toList == ([] : List UInt8)) = false := beq_eq_false_iff_ne.mpr c12
     have c12b1 : (t248.toList != ([] : List UInt8)) = true := bne_iff_ne.mpr c12
     by_cases c15 : (a0_1.size : Int) ≤ 4096
     ·
      rw [if_pos c15] at H
      have c15b0 : decide ((a0_1.size : Int) ≤ 4096) = true := decide_eq_true c15
      have c15b1 : decide (a0_1.size ≤ 4096) = true := decide_eq_true (by omega)
      clear c15
      by_cases c16 : (a0_2.size : Int) ≤ 4096
      ·
       rw [if_pos c16] at H
       have c16b0 : decide ((a0_2.size : Int) ≤ 4096) = true := decide_eq_true c16
       have c16b1 : decide (a0_2.size ≤ 4096) = true := decide_eq_true (by omega)
       clear c16
       obtain rfl := Option.some.inj H
       have hcz17_0 : wr.cell? ⟨gb245, 0, none⟩ = some (.int .i64 a0_0) := (blk_cell BK245.out 0).trans rfl
       have hcz17_1 : wr.cell? ⟨gb245, 1, none⟩ = some (.string a0_1) := (blk_cell BK245.out 1).trans rfl
       have hcz17_2 : wr.cell? ⟨gb245, 2, none⟩ = some (.string a0_2) := (blk_cell BK245.out 2).trans rfl
       have hcz17_3 : wr.cell? ⟨gb245, 3, none⟩ = some (.slice A0_3 l0_3.length c0_3) := (blk_cell BK245.out 3).trans rfl
       have hfz17_0 := blk_frozen BK245.out 0
       have hfz17_1 := blk_frozen BK245.out 1
       have hfz17_2 := blk_frozen BK245.out 2
       have hfz17_3 := blk_frozen BK245.out 3
       go_wp2_with (first | ((with_reducible refine gate_callee (f := 72) rfl ?_); refine goesL_ (some 20) rfl rfl Tryz.func72 (by kernel_rfl) rfl #[.int .i64 a0_0] rfl (by (try simp only [List.map_toArray, List.map_cons, List.map_nil]); first | done | rfl | (simp only [List.length_drop, List.length_take]; rfl)) ?_; (with_reducible refine (supercargoref05_Kind.calls a0_0 t248 _ A11.out).mono ?_); rintro e w18 ⟨rfl, hb⟩; refine ⟨_, rfl, ?_⟩; have n0_ := Aside0.mk (blk_below (g := gb245) (o := .cells #[.int .i64 a0_0, .string a0_1, .string a0_2, .slice A0_3 l0_3.length c0_3] 38 (0, 0)) (by (with_reducible repeat (first | refine blk_drewN ?_ _ | refine blk_drew ?_ | refine blk_alloc ?_ _)); exact BK245.out) hb); have n1_ := Aside0.mk (below_step (by repeat (first | (with_reducible first | exact HB.out | apply below_alloc | apply pw_below_drewN | apply below_drew1 | refine below_set ?_ GE245.out) | exact HB.out)) hb); clear BK245; clear HB; have BK245 := n0_; have HB := n1_; clear n0_ n1_; (try clear hb); (try clear hb2); (try clear hk); (try clear hi); have hcz19_0 : w18.cell? ⟨gb245, 0, none⟩ = some (.int .i64 a0_0) := (blk_cell BK245.out 0).trans rfl; have hcz19_1 : w18.cell? ⟨gb245, 1, none⟩ = some (.string a0_1) := (blk_cell BK245.out 1).trans rfl; have hcz19_2 : w18.cell? ⟨gb245, 2, none⟩ = some (.string a0_2) := (blk_cell BK245.out 2).trans rfl; have hcz19_3 : w18.cell? ⟨gb245, 3, none⟩ = some (.slice A0_3 l0_3.length c0_3) := (blk_cell BK245.out 3).trans rfl; have hfz19_0 := blk_frozen BK245.out 0; have hfz19_1 := blk_frozen BK245.out 1; have hfz19_2 := blk_frozen BK245.out 2; have hfz19_3 := blk_frozen BK245.out 3))
       go_ret
       exact ⟨by first | rfl | (simp [errW_none, errW_some] <;> rfl) | (simp [*, errW_none, errW_some] <;> rfl), by repeat (first | (with_reducible first | exact HB.out | apply below_alloc | apply pw_below_drewN | apply below_drew1 | refine below_set ?_ GE245.out) | exact HB.out)⟩
      ·
       rw [if_neg c16] at H
       have c16b0 : decide ((a0_2.size : Int) ≤ 4096) = false := decide_eq_false c16
       have c16b1 : decide (a0_2.size ≤ 4096) = false := decide_eq_false (by omega)
       clear c16
       obtain rfl := Option.some.inj H
       have hcz20_0 : wr.cell? ⟨gb245, 0, none⟩ = some (.int .i64 a0_0) := (blk_cell BK245.out 0).trans rfl
       have hcz20_1 : wr.cell? ⟨gb245, 1, none⟩ = some (.string a0_1) := (blk_cell BK245.out 1).trans rfl
       have hcz20_2 : wr.cell? ⟨gb245, 2, none⟩ = some (.string a0_2) := (blk_cell BK245.out 2).trans rfl
       have hcz20_3 : wr.cell? ⟨gb245, 3, none⟩ = some (.slice A0_3 l0_3.length c0_3) := (blk_cell BK245.out 3).trans rfl
       have hfz20_0 := blk_frozen BK245.out 0
       have hfz20_1 := blk_frozen BK245.out 1
       have hfz20_2 := blk_frozen BK245.out 2
       have hfz20_3 := blk_frozen BK245.out 3
       go_wp2_with (first | ((with_reducible refine gate_callee (f := 72) rfl ?_); refine goesL_ (some 20) rfl rfl Tryz.func72 (by kernel_rfl) rfl #[.int .i64 a0_0] rfl (by (try simp only [List.map_toArray, List.map_cons, List.map_nil]); first | done | rfl | (simp only [List.length_drop, List.length_take]; rfl)) ?_; (with_reducible refine (supercargoref05_Kind.calls a0_0 t248 _ A11.out).mono ?_); rintro e w21 ⟨rfl, hb⟩; refine ⟨_, rfl, ?_⟩; have n0_ := Aside0.mk (blk_below (g := gb245) (o := .cells #[.int .i64 a0_0, .string a0_1, .string a0_2, .slice A0_3 l0_3.length c0_3] 38 (0, 0)) (by (with_reducible repeat (first | refine blk_drewN ?_ _ | refine blk_drew ?_ | refine blk_alloc ?_ _)); exact BK245.out) hb); have n1_ := Aside0.mk (below_step (by repeat (first | (with_reducible first | exact HB.out | apply below_alloc | apply pw_below_drewN | apply below_drew1 | refine below_set ?_ GE245.out) | exact HB.out)) hb); clear BK245; clear HB; have BK245 := n0_; have HB := n1_; clear n0_ n1_; (try clear hb); (try clear hb2); (try clear hk); (try clear hi); have hcz22_0 : w21.cell? ⟨gb245, 0, none⟩ = some (.int .i64 a0_0) := (blk_cell BK245.out 0).trans rfl; have hcz22_1 : w21.cell? ⟨gb245, 1, none⟩ = some (.string a0_1) := (blk_cell BK245.out 1).trans rfl; have hcz22_2 : w21.cell? ⟨gb245, 2, none⟩ = some (.string a0_2) := (blk_cell BK245.out 2).trans rfl; have hcz22_3 : w21.cell? ⟨gb245, 3, none⟩ = some (.slice A0_3 l0_3.length c0_3) := (blk_cell BK245.out 3).trans rfl; have hfz22_0 := blk_frozen BK245.out 0; have hfz22_1 := blk_frozen BK245.out 1; have hfz22_2 := blk_frozen BK245.out 2; have hfz22_3 := blk_frozen BK245.out 3))
       go_ret
       exact ⟨by first | rfl | (simp [errW_none, errW_some] <;> rfl) | (simp [*, errW_none, errW_some] <;> rfl), by repeat (first | (with_reducible first | exact HB.out | apply below_alloc | apply pw_below_drewN | apply below_drew1 | refine below_set ?_ GE245.out) | exact HB.out)⟩
     ·
      rw [if_neg c15] at H
      have c15b0 : decide ((a0_1.size : Int) ≤ 4096) = false := decide_eq_false c15
      have c15b1 : decide (a0_1.size ≤ 4096) = false := decide_eq_false (by omega)
      clear c15
      obtain rfl := Option.some.inj H
      have hcz23_0 : wr.cell? ⟨gb245, 0, none⟩ = some (.int .i64 a0_0) := (blk_cell BK245.out 0).trans rfl
      have hcz23_1 : wr.cell? ⟨gb245, 1, none⟩ = some (.string a0_1) := (blk_cell BK245.out 1).trans rfl
      have hcz23_2 : wr.cell? ⟨gb245, 2, none⟩ = some (.string a0_2) := (blk_cell BK245.out 2).trans rfl
      have hcz23_3 : wr.cell? ⟨gb245, 3, none⟩ = some (.slice A0_3 l0_3.length c0_3) := (blk_cell BK245.out 3).trans rfl
      have hfz23_0 := blk_frozen BK245.out 0
      have hfz23_1 := blk_frozen BK245.out 1
      have hfz23_2 := blk_frozen BK245.out 2
      have hfz23_3 := blk_frozen BK245.out 3
      go_wp2_with (first | ((with_reducible refine gate_callee (f := 72) rfl ?_); refine goesL_ (some 20) rfl rfl Tryz.func72 (by kernel_rfl) rfl #[.int .i64 a0_0] rfl (by (try simp only [List.map_toArray, List.map_cons, List.map_nil]); first | done | rfl | (simp only [List.length_drop, List.length_take]; rfl)) ?_; (with_reducible refine (supercargoref05_Kind.calls a0_0 t248 _ A11.out).mono ?_); rintro e w24 ⟨rfl, hb⟩; refine ⟨_, rfl, ?_⟩; have n0_ := Aside0.mk (blk_below (g := gb245) (o := .cells #[.int .i64 a0_0, .string a0_1, .string a0_2, .slice A0_3 l0_3.length c0_3] 38 (0, 0)) (by (with_reducible repeat (first | refine blk_drewN ?_ _ | refine blk_drew ?_ | refine blk_alloc ?_ _)); exact BK245.out) hb); have n1_ := Aside0.mk (below_step (by repeat (first | (with_reducible first | exact HB.out | apply below_alloc | apply pw_below_drewN | apply below_drew1 | refine below_set ?_ GE245.out) | exact HB.out)) hb); clear BK245; clear HB; have BK245 := n0_; have HB := n1_; clear n0_ n1_; (try clear hb); (try clear hb2); (try clear hk); (try clear hi); have hcz25_0 : w24.cell? ⟨gb245, 0, none⟩ = some (.int .i64 a0_0) := (blk_cell BK245.out 0).trans rfl; have hcz25_1 : w24.cell? ⟨gb245, 1, none⟩ = some (.string a0_1) := (blk_cell BK245.out 1).trans rfl; have hcz25_2 : w24.cell? ⟨gb245, 2, none⟩ = some (.string a0_2) := (blk_cell BK245.out 2).trans rfl; have hcz25_3 : w24.cell? ⟨gb245, 3, none⟩ = some (.slice A0_3 l0_3.length c0_3) := (blk_cell BK245.out 3).trans rfl; have hfz25_0 := blk_frozen BK245.out 0; have hfz25_1 := blk_frozen BK245.out 1; have hfz25_2 := blk_frozen BK245.out 2; have hfz25_3 := blk_frozen BK245.out 3))
      go_ret
      exact ⟨by first | rfl | (simp [errW_none, errW_some] <;> rfl) | (simp [*, errW_none, errW_some] <;> rfl), by repeat (first | (with_reducible first | exact HB.out | apply below_alloc | apply pw_below_drewN | apply below_drew1 | refine below_set ?_ GE245.out) | exact HB.out)⟩
end Go.Proofs.YtkblmomfiimkiaaGreatDoor.P
end

section
namespace Go.Proofs.YtkblmomfiimkiaaGreatDoor.P
open Go.RowKit Go.Proofs.YtkblmomfiimkiaaGreatDoorW.PrintWords Go.Proofs.YtkblmomfiimkiaaGreatDoorW.PrintLast Go.Proofs.YtkblmomfiimkiaaGreatDoorW.PrintMore
attribute [local go_sem] max2_int min2_int max_two min_two max_three min_three max_four min_four   -- for this text's walks alone
set_option linter.unusedVariables false
set_option linter.unusedSimpArgs false
def supercargoref05_Record.f (a0_0 : Int) (a0_1 : ByteArray) (a0_2 : ByteArray) (l0_3 : List (S43)) : Option ((List (S43))) := (supercargoref05_Kind.f a0_0).bind fun t250 => ((some (([(⟨(⟨#[112, 97, 112, 101, 114]⟩ : ByteArray), t250⟩ : S43), (⟨(⟨#[110, 117, 109, 98, 101, 114]⟩ : ByteArray), a0_1⟩ : S43), (⟨(⟨#[105, 115, 115, 117, 101, 114]⟩ : ByteArray), a0_2⟩ : S43)] : List (S43)) : List (S43))).bind fun y251 => (if y251.length + l0_3.length < 4398046511104 then (some (y251 ++ l0_3)) else (none)))
def supercargoref05_Record.T1 : Bool × List (List Nat × List Nat) := (true, [([], []), ([0], [0]), ([1], [1]), ([2], [2]), ([], []), ([4], [4]), ([5], [5]), ([], []), ([7], [7]), ([8], [8]), ([3, 6, 9], [3, 6, 9]), ([10, 2, 0, 1, 2, 3, 4, 5, 6, 7, 8, 9, 10], [10])])
def supercargoref05_Record.B1 : List Nat := [0, 1, 3, 7, 0, 16, 48, 0, 128, 384, 1023, 2047]
theorem supercargoref05_Record.tab1 : rtab .any (opsOf Tryz.f50 1) = supercargoref05_Record.T1 := by kernel_rfl
theorem supercargoref05_Record.bits1 : waitsOk supercargoref05_Record.T1.2 supercargoref05_Record.B1 = true := by kernel_rfl
set_option maxHeartbeats 8000000 in
set_option maxRecDepth 100000 in
theorem supercargoref05_Record.calls (a0_0 : Int) (a0_1 : ByteArray) (a0_2 : ByteArray) (A0_3 : Option Addr) (c0_3 : Nat) (l0_3 : List (S43)) (r : List (S43)) (w : World) (hr0_3 : Kd.C k43 w A0_3 l0_3.length l0_3) (hc0_3 : l0_3.length ≤ c0_3) (h : supercargoref05_Record.f a0_0 a0_1 a0_2 l0_3 = some r) :
  Calls Tryz.prog 50 #[.agg #[.int .i64 a0_0, .string a0_1, .string a0_2, .slice A0_3 l0_3.length c0_3]] w fun e w' => ∃ v0_ : Value, e = .returned (v0_) ∧ Kd.R k43 43 w' w.heap.size (fun _ => True) v0_ r ∧ Below w.heap.size w w' := by
 have hu38 := Tryz.underlying38
 have hu43 := Tryz.underlying43
 have HR0_3 := Aside0.mk hr0_3
 have HC0_3 := Aside0.mk hc0_3
 clear hr0_3 hc0_3
 have HB := Aside0.mk (Below.refl w.heap.size w)
 have H : ((supercargoref05_Kind.f a0_0).bind fun t250 => ((some (([(⟨(⟨#[112, 97, 112, 101, 114]⟩ : ByteArray), t250⟩ : S43), (⟨(⟨#[110, 117, 109, 98, 101, 114]⟩ : ByteArray), a0_1⟩ : S43), (⟨(⟨#[105, 115, 115, 117, 101, 114]⟩ : ByteArray), a0_2⟩ : S43)] : List (S43)) : List (S43))).bind fun y251 => (if y251.length + l0_3.length < 4398046511104 then (some (y251 ++ l0_3)) else (none)))) = some r := h
 clear h
 replace H := Option.bind_eq_some_iff.mp H
 obtain ⟨t250, A20, H⟩ := H
 replace H : ((some (([(⟨(⟨#[112, 97, 112, 101, 114]⟩ : ByteArray), t250⟩ : S43), (⟨(⟨#[110, 117, 109, 98, 101, 114]⟩ : ByteArray), a0_1⟩ : S43), (⟨(⟨#[105, 115, 115, 117, 101, 114]⟩ : ByteArray), a0_2⟩ : S43)] : List (S43)) : List (S43))).bind fun y251 => (if y251.length + l0_3.length < 4398046511104 then (some (y251 ++ l0_3)) else (none))) = some r := H
 have A2 := Aside0.mk A20
 clear A20
 obtain ⟨y251, hy251⟩ : ∃ y_ : List (S43), y_ = (([(⟨(⟨#[112, 97, 112, 101, 114]⟩ : ByteArray), t250⟩ : S43), (⟨(⟨#[110, 117, 109, 98, 101, 114]⟩ : ByteArray), a0_1⟩ : S43), (⟨(⟨#[105, 115, 115, 117, 101, 114]⟩ : ByteArray), a0_2⟩ : S43)] : List (S43))) := ⟨_, rfl⟩
 replace H : (if y251.length + l0_3.length < 4398046511104 then (some (y251 ++ l0_3)) else (none)) = some r := by first | (rw [hy251]; with_reducible exact H) | (have H2_ := (Option.bind_some _ _).symm.trans H; rw [hy251]; with_reducible exact H2_) | (have H2_ := (Option.bind_some _ _).symm.trans H; with_reducible exact H2_) | with_reducible exact H | (rw [hy251]; exact H) | exact H
 have Ny251 := Aside0.mk hy251
 clear hy251
 by_cases c3 : y251.length + l0_3.length < 4398046511104
 ·
  rw [if_pos c3] at H
  have LMc3 := Aside0.mk c3
  clear c3
  obtain ⟨y254, hy254⟩ : ∃ y_ : List (S43), y_ = (y251 ++ l0_3) := ⟨_, rfl⟩
  replace H : (some y254) = some r := by first | (rw [hy254]; with_reducible exact H) | (have H2_ := (Option.bind_some _ _).symm.trans H; rw [hy254]; with_reducible exact H2_) | (have H2_ := (Option.bind_some _ _).symm.trans H; with_reducible exact H2_) | with_reducible exact H | (rw [hy254]; exact H) | exact H
  have Ny254 := Aside0.mk hy254
  clear hy254
  obtain rfl := Option.some.inj H
  go_enter Tryz.func50, Tryz.ntmps50
  try go_wp2_with (first | ((with_reducible refine gate_dst (N := 1) rfl ?_); refine box_event ?hg (N := 1) ?hd (cs := #[.int .i64 a0_0, .string a0_1, .string a0_2, .slice A0_3 l0_3.length c0_3]) (t := 38) ?hr ?_; (case hd => rfl); (case hg => rfl); (case hr => first | (go_simp; done) | (go_simp; rfl)); intro gb249 hg w4 hbox hb; have n0_ := Aside0.mk (below_step (by repeat (first | (with_reducible first | exact HB.out | apply below_alloc | apply pw_below_drewN | apply below_drew1) | exact HB.out)) hb); have n1_ := Aside0.mk (hbox); have n2_ := Aside0.mk ((by rw [hg]; exact (below_size (by repeat (first | (with_reducible first | exact HB.out | apply below_alloc | apply pw_below_drewN | apply below_drew1) | exact HB.out))) : w.heap.size ≤ gb249)); have n3_ := Aside0.mk ((by rw [hg]; exact (below_size (by repeat (first | (with_reducible first | exact HB.out | apply below_alloc | apply pw_below_drewN | apply below_drew1) | exact HB.out))) : w.heap.size ≤ gb249)); clear HB; have HB := n0_; have BK249 := n1_; have GW249 := n2_; have GE249 := n3_; clear n0_ n1_ n2_ n3_; clear hb hbox hg))
  have n0_ := Aside0.mk (blk_drew BK249.out)
  have n1_ := Aside0.mk (below_drew1 HB.out)
  clear BK249
  clear HB
  have BK249 := n0_
  have HB := n1_
  clear n0_ n1_
  refine start_ (n := 12) (S := fun w' => w'.cell? ⟨gb249, 0, none⟩ = some (.int .i64 a0_0) ∧ w'.cell? ⟨gb249, 1, none⟩ = some (.string a0_1) ∧ w'.cell? ⟨gb249, 2, none⟩ = some (.string a0_2) ∧ w'.cell? ⟨gb249, 3, none⟩ = some (.slice A0_3 l0_3.length c0_3)) (ds := []) #[false, false, false, false, false, false, false, false, false, false, false, false] (by kernel_rfl) rfl rfl ⟨(blk_cell BK249.out 0).trans rfl, (blk_cell BK249.out 1).trans rfl, (blk_cell BK249.out 2).trans rfl, (blk_cell BK249.out 3).trans rfl⟩ (fun hHeld => ?_); refine with_tabW supercargoref05_Record.tab1 supercargoref05_Record.bits1 (fun HT_ HW_ => ?_)
  generalize w4.drew = w5 at BK249 HB hHeld ⊢
  refine pure_ (i := 0) (N := some 4) (v := ?_) (a' := ?_) #[true, false, false, false, false, false, false, false, false, false, false, false] rfl rfl (any_of HT_.out (by kernel_rfl)) (fun _ _ _ h => h) (Or.inl ⟨by rfl, ?_⟩) ?_ ?_
  rotate_left
  ·
   intro w'
   go_simp
   with_reducible rfl
  rotate_left
  ·
   simp only [Act.put, List.setIfInBounds_toArray, List.set_cons_zero, List.set_cons_succ, i64_w, i32_w]
   rfl
  refine pure_ (i := 4) (N := some 8) (v := ?_) (a' := ?_) #[true, false, false, false, true, false, false, false, false, false, false, false] rfl rfl (any_of HT_.out (by kernel_rfl)) (fun _ _ _ h => h) (Or.inl ⟨by rfl, ?_⟩) ?_ ?_
  rotate_left
  ·
   intro w'
   go_simp
   with_reducible rfl
  rotate_left
  ·
   simp only [Act.put, List.setIfInBounds_toArray, List.set_cons_zero, List.set_cons_succ, i64_w, i32_w]
   rfl
  refine pure_ (i := 7) (N := some 11) (v := ?_) (a' := ?_) #[true, false, false, false, true, false, false, true, false, false, false, false] rfl rfl (any_of HT_.out (by kernel_rfl)) (fun _ _ _ h => h) (Or.inl ⟨by rfl, ?_⟩) ?_ ?_
  rotate_left
  ·
   intro w'
   go_simp
   with_reducible rfl
  rotate_left
  ·
   simp only [Act.put, List.setIfInBounds_toArray, List.set_cons_zero, List.set_cons_succ, i64_w, i32_w]
   rfl
  refine take_ (i := 1) (N := some 5) (v := ?_) (a' := ?_) #[true, true, false, false, true, false, false, true, false, false, false, false] rfl rfl (take_ofW HT_.out HW_.out (by kernel_rfl)) (fun _ _ _ h => h) (Or.inl ⟨by rfl, ?_⟩) hHeld ?_ ?_
  rotate_left
  ·
   rintro w' ⟨s0, s1, s2, s3⟩
   go_simp
   with_reducible rfl
  rotate_left
  ·
   simp only [Act.put, List.setIfInBounds_toArray, List.set_cons_zero, List.set_cons_succ, i64_w, i32_w]
   rfl
  refine take_ (i := 5) (N := some 9) (v := ?_) (a' := ?_) #[true, true, false, false, true, true, false, true, false, false, false, false] rfl rfl (take_ofW HT_.out HW_.out (by kernel_rfl)) (fun _ _ _ h => h) (Or.inl ⟨by rfl, ?_⟩) hHeld ?_ ?_
  rotate_left
  ·
   rintro w' ⟨s0, s1, s2, s3⟩
   go_simp
   with_reducible rfl
  rotate_left
  ·
   simp only [Act.put, List.setIfInBounds_toArray, List.set_cons_zero, List.set_cons_succ, i64_w, i32_w]
   rfl
  refine pure_ (i := 6) (N := some 10) (v := ?_) (a' := ?_) #[true, true, false, false, true, true, true, true, false, false, false, false] rfl rfl (any_of HT_.out (by kernel_rfl)) (fun _ _ _ h => h) (Or.inl ⟨by rfl, ?_⟩) ?_ ?_
  rotate_left
  ·
   intro w'
   go_simp
   with_reducible rfl
  rotate_left
  ·
   simp only [Act.put, List.setIfInBounds_toArray, List.set_cons_zero, List.set_cons_succ, i64_w, i32_w]
   rfl
  refine take_ (i := 8) (N := some 12) (v := ?_) (a' := ?_) #[true, true, false, false, true, true, true, true, true, false, false, false] rfl rfl (take_ofW HT_.out HW_.out (by kernel_rfl)) (fun _ _ _ h => h) (Or.inl ⟨by rfl, ?_⟩) hHeld ?_ ?_
  rotate_left
  ·
   rintro w' ⟨s0, s1, s2, s3⟩
   go_simp
   with_reducible rfl
  rotate_left
  ·
   simp only [Act.put, List.setIfInBounds_toArray, List.set_cons_zero, List.set_cons_succ, i64_w, i32_w]
   rfl
  refine pure_ (i := 9) (N := some 13) (v := ?_) (a' := ?_) #[true, true, false, false, true, true, true, true, true, true, false, false] rfl rfl (any_of HT_.out (by kernel_rfl)) (fun _ _ _ h => h) (Or.inl ⟨by rfl, ?_⟩) ?_ ?_
  rotate_left
  ·
   intro w'
   go_simp
   with_reducible rfl
  rotate_left
  ·
   simp only [Act.put, List.setIfInBounds_toArray, List.set_cons_zero, List.set_cons_succ, i64_w, i32_w]
   rfl
  refine one_ (i := 2) (N := some 6) #[true, true, true, false, true, true, true, true, true, true, false, false] rfl rfl (one_of HT_.out (by kernel_rfl)) (by decide) (fun K hK => ?_)
  refine goes_ Tryz.func72 (by kernel_rfl) rfl #[.int .i64 a0_0] (by rfl) rfl rfl (by (try simp only [List.map_toArray, List.map_cons, List.map_nil]); first | done | rfl | (simp only [List.length_drop, List.length_take]; rfl)) ?_
  with_reducible refine (supercargoref05_Kind.calls a0_0 t250 _ A2.out).mono ?_
  rintro e w6 ⟨rfl, hb⟩
  refine ⟨_, rfl, ?_⟩
  have n0_ := Aside0.mk (blk_below (g := gb249) (o := .cells #[.int .i64 a0_0, .string a0_1, .string a0_2, .slice A0_3 l0_3.length c0_3] 38 (0, 0)) (by (with_reducible repeat (first | refine blk_drewN ?_ _ | refine blk_drew ?_ | refine blk_alloc ?_ _)); exact BK249.out) hb)
  have n1_ := Aside0.mk (below_step (by repeat (first | (with_reducible first | exact HB.out | apply below_alloc | apply pw_below_drewN | apply below_drew1 | refine below_set ?_ GE249.out) | exact HB.out)) hb)
  clear BK249
  clear HB
  have BK249 := n0_
  have HB := n1_
  clear n0_ n1_
  (try clear hb)
  (try clear hb2)
  (try clear hk)
  (try clear hi)
  refine hK.out _ _ ⟨(blk_cell BK249.out 0).trans rfl, (blk_cell BK249.out 1).trans rfl, (blk_cell BK249.out 2).trans rfl, (blk_cell BK249.out 3).trans rfl⟩ (fun hHeld => ?_)
  clear hK K
  refine norm_ (a' := ?_) ?_ ?_
  rotate_left
  ·
   show Act.put _ (some 6) _ = _
   simp only [Act.put, List.setIfInBounds_toArray, List.set_cons_zero, List.set_cons_succ, i64_w, i32_w]
   rfl
  refine pure_ (i := 3) (N := some 7) (v := ?_) (a' := ?_) #[true, true, true, true, true, true, true, true, true, true, false, false] rfl rfl (any_of HT_.out (by kernel_rfl)) (fun _ _ _ h => h) (Or.inl ⟨by rfl, ?_⟩) ?_ ?_
  rotate_left
  ·
   intro w'
   go_simp
   with_reducible rfl
  rotate_left
  ·
   simp only [Act.put, List.setIfInBounds_toArray, List.set_cons_zero, List.set_cons_succ, i64_w, i32_w]
   rfl
  refine one_ (i := 10) (N := some 14) #[true, true, true, true, true, true, true, true, true, true, true, false] rfl rfl (one_of HT_.out (by kernel_rfl)) (by decide) (fun K hK => ?_)
  refine Kd.R_lit_step k43 _ 43 ?hg (N := 14) ?hd (xs := ([(⟨(⟨#[112, 97, 112, 101, 114]⟩ : ByteArray), t250⟩ : S43), (⟨(⟨#[110, 117, 109, 98, 101, 114]⟩ : ByteArray), a0_1⟩ : S43), (⟨(⟨#[105, 115, 115, 117, 101, 114]⟩ : ByteArray), a0_2⟩ : S43)] : List (S43))) (inner := [.string (⟨#[112, 97, 112, 101, 114]⟩ : ByteArray), .string t250, .string (⟨#[110, 117, 109, 98, 101, 114]⟩ : ByteArray), .string a0_1, .string (⟨#[105, 115, 115, 117, 101, 114]⟩ : ByteArray), .string a0_2]) (ok := fun _ => True) (okp := fun _ => True) ?hr ?hp (fun _ hk => hk) trivial (Below.refl _ _) (Nat.le_refl _) (by simp) ?_; (case hd => rfl); (case hg => rfl); (case hr => first | (go_simp; done) | (go_simp; rfl)); (case hp => exact (Reps.c2 (show Kd.M k43 _ _ _ (⟨(⟨#[112, 97, 112, 101, 114]⟩ : ByteArray), t250⟩ : S43) [.string (⟨#[112, 97, 112, 101, 114]⟩ : ByteArray), .string t250] from (k43_mkM _ _ _ (⟨(⟨#[112, 97, 112, 101, 114]⟩ : ByteArray), t250⟩ : S43) )) (Reps.c2 (show Kd.M k43 _ _ _ (⟨(⟨#[110, 117, 109, 98, 101, 114]⟩ : ByteArray), a0_1⟩ : S43) [.string (⟨#[110, 117, 109, 98, 101, 114]⟩ : ByteArray), .string a0_1] from (k43_mkM _ _ _ (⟨(⟨#[110, 117, 109, 98, 101, 114]⟩ : ByteArray), a0_1⟩ : S43) )) (Reps.c2 (show Kd.M k43 _ _ _ (⟨(⟨#[105, 115, 115, 117, 101, 114]⟩ : ByteArray), a0_2⟩ : S43) [.string (⟨#[105, 115, 115, 117, 101, 114]⟩ : ByteArray), .string a0_2] from (k43_mkM _ _ _ (⟨(⟨#[105, 115, 115, 117, 101, 114]⟩ : ByteArray), a0_2⟩ : S43) )) (Reps.none _ _)))))
  intro v252 w7 ho8 hb hg_ hnew_
  clear hg_ hnew_
  (first | rw [← Ny251.out] at ho8 | (simp only [Int.reduceToNat] at ho8; rw [← Ny251.out] at ho8))
  have n0_ := Aside0.mk (Kd.R_lower ho8 (below_size (by repeat (first | (with_reducible first | exact HB.out | apply below_alloc | apply pw_below_drewN | apply below_drew1 | refine below_set ?_ GE249.out) | exact HB.out))))
  have n1_ := Aside0.mk (blk_below (g := gb249) (o := .cells #[.int .i64 a0_0, .string a0_1, .string a0_2, .slice A0_3 l0_3.length c0_3] 38 (0, 0)) (by (with_reducible repeat (first | refine blk_drewN ?_ _ | refine blk_drew ?_ | refine blk_alloc ?_ _)); exact BK249.out) hb)
  have n2_ := Aside0.mk (below_step (by repeat (first | (with_reducible first | exact HB.out | apply below_alloc | apply pw_below_drewN | apply below_drew1 | refine below_set ?_ GE249.out) | exact HB.out)) hb)
  clear BK249
  clear HB
  have HO253 := n0_
  have BK249 := n1_
  have HB := n2_
  clear n0_ n1_ n2_
  clear hb ho8
  refine hK.out _ _ ⟨(blk_cell BK249.out 0).trans rfl, (blk_cell BK249.out 1).trans rfl, (blk_cell BK249.out 2).trans rfl, (blk_cell BK249.out 3).trans rfl⟩ (fun hHeld => ?_)
  clear hK K
  refine norm_ (a' := ?_) ?_ ?_
  rotate_left
  ·
   show Act.put _ (some 14) _ = _
   simp only [Act.put, List.setIfInBounds_toArray, List.set_cons_zero, List.set_cons_succ, i64_w, i32_w]
   rfl
  refine pure_ (i := 11) (N := some 3) (v := ?_) (a' := ?_) #[true, true, true, true, true, true, true, true, true, true, true, true] rfl rfl (any_of HT_.out (by kernel_rfl)) (fun _ _ _ h => h) (Or.inl ⟨by rfl, ?_⟩) ?_ ?_
  rotate_left
  ·
   intro w'
   go_simp
   with_reducible rfl
  rotate_left
  ·
   simp only [Act.put, List.setIfInBounds_toArray, List.set_cons_zero, List.set_cons_succ, i64_w, i32_w]
   rfl
  refine done_ (done_of HT_.out (by kernel_rfl)) ?_
  have hcz9_0 : w7.cell? ⟨gb249, 0, none⟩ = some (.int .i64 a0_0) := (blk_cell BK249.out 0).trans rfl
  have hcz9_1 : w7.cell? ⟨gb249, 1, none⟩ = some (.string a0_1) := (blk_cell BK249.out 1).trans rfl
  have hcz9_2 : w7.cell? ⟨gb249, 2, none⟩ = some (.string a0_2) := (blk_cell BK249.out 2).trans rfl
  have hcz9_3 : w7.cell? ⟨gb249, 3, none⟩ = some (.slice A0_3 l0_3.length c0_3) := (blk_cell BK249.out 3).trans rfl
  have hfz9_0 := blk_frozen BK249.out 0
  have hfz9_1 := blk_frozen BK249.out 1
  have hfz9_2 := blk_frozen BK249.out 2
  have hfz9_3 := blk_frozen BK249.out 3
  try go_wp2_with (first | ((with_reducible refine gate_builtin (b := .append) (xs := #[.tmp 15, .tmp 17]) rfl ?_); at_builtin; refine Kd.R_append_rows k43 (w0 := w) w.heap.size rfl (.tmp 15) (.tmp 17) 36 43 (.agg #[(.string ⟨#[]⟩), (.string ⟨#[]⟩)]) 32 rfl Tryz.underlying36 info43 rfl (by decide) (by omega) v252 y251 l0_3 _ _ _ (fun _ => True) (fun _ => False) rfl rfl ?aO ?aR (fun _ _ h => h) (fun _ h => h.elim) ?aF ?aB ?aS ?aL ?_; (case aR => repeat (first | exact (Kd.C_below HR0_3.out HB.out) | (with_reducible refine Kd.C_alloc ?_ _) | (with_reducible refine Kd.C_drewN ?_ _) | (with_reducible refine Kd.C_drew ?_))); (case aB => exact (by repeat (first | (with_reducible first | exact HB.out | apply below_alloc | apply pw_below_drewN | apply below_drew1 | refine below_set ?_ GE249.out) | exact HB.out))); (case aF => exact (fun _ _ => trivial)); (case aO => exact (by (with_reducible repeat (first | apply Kd.R_alloc | apply Kd.R_drewN | apply Kd.R_drew)); exact HO253.out)); (case aS => exact (below_size (by repeat (first | (with_reducible first | exact HB.out | apply below_alloc | apply pw_below_drewN | apply below_drew1 | refine below_set ?_ GE249.out) | exact HB.out)))); (case aL => have := LMc3.out; omega); intro v255 w10 ho hb hg hat; rw [← Ny254.out] at ho; have n0_ := Aside0.mk (blk_grown (g := gb249) (o := .cells #[.int .i64 a0_0, .string a0_1, .string a0_2, .slice A0_3 l0_3.length c0_3] 38 (0, 0)) (by (with_reducible repeat (first | refine blk_drewN ?_ _ | refine blk_drew ?_ | refine blk_alloc ?_ _)); exact BK249.out) hg (Kd.R_ne HO253.out BK249.out (by decide))); have n1_ := Aside0.mk (hb); have n2_ := Aside0.mk (ho); clear BK249; clear HB; clear HO253; have BK249 := n0_; have HB := n1_; have HO256 := n2_; clear n0_ n1_ n2_; clear ho hb hg hat))
  go_ret
  exact ⟨_, by first | rfl | (simp [errW_none, errW_some] <;> rfl) | (simp [*, errW_none, errW_some] <;> rfl), by (with_reducible repeat (first | apply Kd.R_alloc | apply Kd.R_drewN | apply Kd.R_drew)); exact HO256.out, by repeat (first | (with_reducible first | exact HB.out | apply below_alloc | apply pw_below_drewN | apply below_drew1 | refine below_set ?_ GE249.out) | exact HB.out)⟩
 ·
  rw [if_neg c3] at H
  exact absurd H (by simp)
end Go.Proofs.YtkblmomfiimkiaaGreatDoor.P
end

section
namespace Go.Proofs.YtkblmomfiimkiaaGreatDoor.P
open Go.RowKit Go.Proofs.YtkblmomfiimkiaaGreatDoorW.PrintWords Go.Proofs.YtkblmomfiimkiaaGreatDoorW.PrintLast Go.Proofs.YtkblmomfiimkiaaGreatDoorW.PrintMore
set_option linter.unusedSimpArgs false
set_option linter.unusedVariables false
open Go.Proofs.YtkblmomfiimkiaaGreatDoor.Fp
theorem wrap_nat (i : Nat) (h : i < 9223372036854775807) : wrap64 ((i : Int) + 1) = ((i + 1 : Nat) : Int) := by unfold wrap64; omega
theorem rd_nat (l : List S43) (i : Nat) (h : i < l.length) : rd_T43 l (i : Int) = l[i] := by
 unfold rd_T43
 simp [List.getD, List.getElem?_eq_getElem h]
theorem bt_nat (s : ByteArray) (i : Nat) (h : i < s.data.toList.length) : bt s (i : Int) = ((s.data.toList[i]).toNat : Int) := by
 unfold bt
 rw [dif_pos (show ((i : Int).toNat < s.size) by simpa using h)]
 rfl
theorem size_list (s : ByteArray) : s.data.toList.length = s.size := by simp
theorem app_mk (L M : List UInt8) : ((⟨L.toArray⟩ : ByteArray) ++ (⟨M.toArray⟩ : ByteArray)) = ⟨(L ++ M).toArray⟩ := by
 apply ByteArray.ext; simp
theorem mk_list (s : ByteArray) : (⟨s.data.toList.toArray⟩ : ByteArray) = s := by apply ByteArray.ext; simp
theorem size_mk (L : List UInt8) : (⟨L.toArray⟩ : ByteArray).size = L.length := by simp [ByteArray.size]
theorem cut_one (s : ByteArray) (i : Nat) (h : i < s.data.toList.length) : s.extract i (i + 1) = ⟨([s.data.toList[i]] : List UInt8).toArray⟩ := by
 apply ByteArray.ext
 rw [ByteArray.data_extract]
 apply Array.ext'
 rw [Array.toList_extract, List.extract, List.drop_eq_getElem_cons h]
 simp
theorem Name_l0 (s : ByteArray) (hs : s.size ≤ 9223372036854775807) : ∀ (d i k : Nat), i + d = s.size → d < k →
  supercargoref05_Name.l0 k s (i : Int) = some ((s.data.toList.drop i).all okB && (decide (1 ≤ s.size) && decide (s.size ≤ 16))) := by
 intro d
 induction d with
 | zero =>
  intro i k h1 h2
  obtain ⟨k, rfl⟩ : ∃ m, k = m + 1 := ⟨k - 1, by omega⟩
  simp only [supercargoref05_Name.l0]
  rw [if_neg (by omega), List.drop_eq_nil_of_le (by rw [size_list]; omega)]
  by_cases c : 1 ≤ s.size
  ·
   rw [if_pos (by omega)]; simp [c]; omega
  ·
   rw [if_neg (by omega)]; simp [c]
 | succ d ih =>
  intro i k h1 h2
  obtain ⟨k, rfl⟩ : ∃ m, k = m + 1 := ⟨k - 1, by omega⟩
  have hi : i < s.data.toList.length := by rw [size_list]; omega
  simp only [supercargoref05_Name.l0]
  rw [if_pos (by omega), if_pos (by omega), bt_nat s i hi, wrap_nat i (by omega), ih (i + 1) k (by omega) (by omega), List.drop_eq_getElem_cons hi, List.all_cons]
  generalize s.data.toList[i] = c
  generalize (s.data.toList.drop (i + 1)).all okB = X
  generalize (decide (1 ≤ s.size) && decide (s.size ≤ 16)) = Y
  have e : okB c = ((decide (97 ≤ c.toNat) && decide (c.toNat ≤ 122)) || (decide (48 ≤ c.toNat) && decide (c.toNat ≤ 57)) || decide (c.toNat = 45)) := rfl
  rw [e]
  generalize c.toNat = n
  by_cases h1 : n < 97 <;> by_cases h2 : 122 < n <;> by_cases h3 : n < 48 <;> by_cases h4 : 57 < n <;> by_cases h5 : n = 45 <;>
   simp [show ((n : Int) < 97) = (n < 97) by simp; omega, show ((n : Int) > 122) = (122 < n) by simp; omega, show ((n : Int) < 48) = (n < 48) by simp; omega, show ((n : Int) > 57) = (57 < n) by simp; omega, show ((n : Int) = 45) = (n = 45) by simp; omega, h1, h2, h3, h4, h5, show (97 ≤ n) = ¬ (n < 97) by simp, show (n ≤ 122) = ¬ (122 < n) by simp, show (48 ≤ n) = ¬ (n < 48) by simp, show (n ≤ 57) = ¬ (57 < n) by simp] <;> omega
theorem Name_f (s : ByteArray) (hs : s.size ≤ 9223372036854775807) (k : Nat) (hk : s.size < k) : supercargoref05_Name.f k s = some (nameB s.data.toList) := by
 have := Name_l0 s hs s.size 0 k (by omega) hk
 rw [List.drop_zero] at this
 unfold supercargoref05_Name.f
 rw [show ((0 : Int)) = ((0 : Nat) : Int) by rfl, this]
 unfold nameB
 rw [size_list]
 congr 1
 by_cases c : s.data.toList = []
 ·
  have : s.size = 0 := by rw [← size_list, c]; rfl
  simp [c, this]
 ·
  have : 1 ≤ s.size := by rw [← size_list]; exact List.length_pos_iff.2 c
  have e : s.data.toList.isEmpty = false := by simpa using c
  rw [e]
  simp only [this, decide_true, Bool.true_and, Bool.not_false]
  rw [Bool.and_comm]
theorem May_f (a b : ByteArray) (ha : a.size ≤ 9223372036854775807) (k : Nat) (hk : a.size < k) : supercargoref05_May.f k a b = some (mayB a.data.toList b.data.toList) := by
 unfold supercargoref05_May.f
 rw [Name_f a ha k hk, Option.bind_some]
 unfold mayB
 rw [size_list]
 cases nameB a.data.toList
 ·
  simp
 ·
  simp; omega
theorem Text_l1 (l : List S43) (i : Nat) (hi : i < l.length) (hv : (l[i]).f1.size ≤ 9223372036854775807) : ∀ (d j k : Nat) (X : List UInt8), j + d = (l[i]).f1.size → X.length + 2 * d + 1 ≤ 9223372036854775807 →
  supercargoref05_Text.l1 (k + d + 1) l ⟨X.toArray⟩ (i : Int) (j : Int) = supercargoref05_Text.l0 k l ⟨(X ++ (esc ((l[i]).f1.data.toList.drop j) ++ [10])).toArray⟩ (wrap64 ((i : Int) + 1)) := by
 intro d
 induction d with
 | zero =>
  intro j k X h1 h2
  simp only [supercargoref05_Text.l1]
  rw [if_pos (by omega), if_pos (by omega), rd_nat l i hi, if_neg (by omega), size_mk, if_pos (by omega), List.drop_eq_nil_of_le (by rw [size_list]; omega)]
  rw [show ((⟨#[10]⟩ : ByteArray)) = ⟨([10] : List UInt8).toArray⟩ by rfl, app_mk]
  simp [esc]
 | succ d ih =>
  intro j k X h1 h2
  have hj : j < (l[i]).f1.data.toList.length := by rw [size_list]; omega
  rw [show k + (d + 1) + 1 = (k + d + 1) + 1 by omega]
  generalize hn : k + d + 1 = n
  simp only [supercargoref05_Text.l1]
  rw [if_pos (by omega), if_pos (by omega), rd_nat l i hi, if_pos (by omega), if_pos (by omega), bt_nat _ j hj, wrap_nat j (by omega), size_mk]
  have e2 : esc ((l[i]).f1.data.toList.drop j) = escC ((l[i]).f1.data.toList[j]) ++ esc ((l[i]).f1.data.toList.drop (j + 1)) := by
   rw [List.drop_eq_getElem_cons hj]; rfl
  rw [e2]
  by_cases c1 : (l[i]).f1.data.toList[j] = 92
  ·
   have e1 : escC ((l[i]).f1.data.toList[j]) = [92, 92] := by rw [c1]; rfl
   rw [if_pos (by rw [c1]; rfl), if_pos (by omega), e1, show ((⟨#[92, 92]⟩ : ByteArray)) = ⟨([92, 92] : List UInt8).toArray⟩ by rfl, app_mk, ← hn, ih (j + 1) k (X ++ [92, 92]) (by omega) (by simp; omega)]
   simp
  ·
   have n1 : ¬ (((l[i]).f1.data.toList[j]).toNat : Int) = 92 := by intro h; apply c1; apply UInt8.toNat_inj.1; show ((l[i]).f1.data.toList[j]).toNat = 92; omega
   by_cases c2 : (l[i]).f1.data.toList[j] = 10
   ·
    have e1 : escC ((l[i]).f1.data.toList[j]) = [92, 110] := by rw [c2]; rfl
    rw [if_neg n1, if_pos (by rw [c2]; rfl), if_pos (by omega), e1, show ((⟨#[92, 110]⟩ : ByteArray)) = ⟨([92, 110] : List UInt8).toArray⟩ by rfl, app_mk, ← hn, ih (j + 1) k (X ++ [92, 110]) (by omega) (by simp; omega)]
    simp
   ·
    have n2 : ¬ (((l[i]).f1.data.toList[j]).toNat : Int) = 10 := by intro h; apply c2; apply UInt8.toNat_inj.1; show ((l[i]).f1.data.toList[j]).toNat = 10; omega
    have e1 : escC ((l[i]).f1.data.toList[j]) = [(l[i]).f1.data.toList[j]] := by unfold escC; rw [if_neg c1, if_neg c2]
    rw [if_neg n1, if_neg n2, if_pos (by omega), if_pos (by omega), show ((j : Int)).toNat = j by omega, show (((j + 1 : Nat) : Int)).toNat = j + 1 by omega, cut_one _ j hj, size_mk, if_pos (by simp; omega), app_mk, ← hn, ih (j + 1) k _ (by omega) (by simp; omega), e1]
    simp
theorem Text_l0 (l : List S43) (hl : l.length ≤ 64) (hs : ∀ x ∈ l, x.f0.size ≤ 9223372036854775807 ∧ x.f1.size ≤ 9223372036854775807) : ∀ (d i : Nat) (X : List UInt8), i + d = l.length → X.length + 9000 * d ≤ 1000000 →
  ∃ K, ∀ k, K ≤ k → supercargoref05_Text.l0 k l ⟨X.toArray⟩ (i : Int) = some (if (l.drop i).all mayF = true then (⟨(X ++ (l.drop i).flatMap lineF).toArray⟩, 0) else (⟨#[]⟩, 1)) := by
 intro d
 induction d with
 | zero =>
  intro i X h1 h2
  refine ⟨1, fun k hk => ?_⟩
  obtain ⟨k, rfl⟩ : ∃ m, k = m + 1 := ⟨k - 1, by omega⟩
  simp only [supercargoref05_Text.l0]
  rw [if_neg (by omega), List.drop_eq_nil_of_le (by omega)]
  simp
 | succ d ih =>
  intro i X h1 h2
  have hi : i < l.length := by omega
  obtain ⟨hs0, hs1⟩ := hs (l[i]) (List.getElem_mem hi)
  have hd := List.drop_eq_getElem_cons hi
  by_cases hm : mayF (l[i]) = true
  ·
   obtain ⟨m0, m1⟩ := may_small hm
   have hlen := lineF_len hm
   obtain ⟨K, hK⟩ := ih (i + 1) (X ++ lineF (l[i])) (by omega) (by simp; omega)
   refine ⟨K + (l[i]).f1.size + (l[i]).f0.size + 2, fun k hk => ?_⟩
   obtain ⟨k, rfl⟩ : ∃ m, k = (m + (l[i]).f1.size + 1) + 1 := ⟨k - 2 - (l[i]).f1.size, by omega⟩
   simp only [supercargoref05_Text.l0]
   rw [if_pos (by omega), if_pos (by omega), rd_nat l i hi, May_f _ _ hs0 _ (by omega), Option.bind_some, show mayB (l[i]).f0.data.toList (l[i]).f1.data.toList = true from hm, if_pos rfl, if_pos (by omega)]
   have ea : ((⟨X.toArray⟩ : ByteArray) ++ ((l[i]).f0 ++ (⟨#[61]⟩ : ByteArray))) = ⟨(X ++ ((l[i]).f0.data.toList ++ [61])).toArray⟩ := by
    conv => lhs; rw [← mk_list (l[i]).f0, show ((⟨#[61]⟩ : ByteArray)) = ⟨([61] : List UInt8).toArray⟩ by rfl, app_mk, app_mk]
   have eb : ((l[i]).f0 ++ (⟨#[61]⟩ : ByteArray)).size = (l[i]).f0.size + 1 := by simp [ByteArray.size_append]; rfl
   rw [eb, size_mk, if_pos (by omega), ea, show (0 : Int) = ((0 : Nat) : Int) by rfl, Text_l1 l i hi hs1 (l[i]).f1.size 0 k _ (by omega) (by simp; omega), wrap_nat i (by omega)]
   have ec : X ++ ((l[i]).f0.data.toList ++ [61]) ++ (esc ((l[i]).f1.data.toList.drop 0) ++ [10]) = X ++ lineF (l[i]) := by
    unfold lineF lineB; simp
   rw [ec, hK k (by omega), hd, List.all_cons, hm, List.flatMap_cons, Bool.true_and, List.append_assoc]
   rfl
  ·
   refine ⟨(l[i]).f0.size + 2, fun k hk => ?_⟩
   obtain ⟨k, rfl⟩ : ∃ m, k = m + 1 := ⟨k - 1, by omega⟩
   have hm' : mayF (l[i]) = false := by simpa using hm
   simp only [supercargoref05_Text.l0]
   rw [if_pos (by omega), if_pos (by omega), rd_nat l i hi, May_f _ _ hs0 _ (by omega), Option.bind_some, show mayB (l[i]).f0.data.toList (l[i]).f1.data.toList = false from hm', if_neg (by simp), hd, List.all_cons, hm']
   simp
theorem Text_f (l : List S43) (hs : ∀ x ∈ l, x.f0.size ≤ 9223372036854775807 ∧ x.f1.size ≤ 9223372036854775807) (r : ByteArray × Int) (hr : field_Text.f l = some r) : ∃ K, ∀ k, K ≤ k → supercargoref05_Text.f k l = some r := by
 unfold field_Text.f at hr
 by_cases hl : 64 < l.length
 ·
  rw [if_pos hl] at hr
  refine ⟨0, fun k _ => ?_⟩
  unfold supercargoref05_Text.f
  rw [if_pos (by omega)]
  exact hr
 ·
  rw [if_neg hl] at hr
  obtain ⟨K, hK⟩ := Text_l0 l (by omega) hs l.length 0 [] (by omega) (by simp; omega)
  refine ⟨K, fun k hk => ?_⟩
  unfold supercargoref05_Text.f
  rw [if_neg (by omega)]
  have := hK k hk
  rw [List.drop_zero, List.nil_append] at this
  exact this.trans hr
def firstAt {α : Type} (p : α → Bool) : List α → Int → Int
 | [], _ => -1
 | x :: r, i => if p x = true then i else firstAt p r (i + 1)
def kindsL : List ByteArray := [⟨#[105, 110, 118, 111, 105, 99, 101]⟩, ⟨#[112, 97, 99, 107, 105, 110, 103]⟩, ⟨#[108, 97, 100, 105, 110, 103]⟩, ⟨#[105, 110, 115, 117, 114, 97, 110, 99, 101]⟩, ⟨#[111, 114, 105, 103, 105, 110]⟩, ⟨#[100, 114, 97, 102, 116]⟩]
def sameB (v s : ByteArray) : Bool := v.toList == s.toList
def kindAt (v : ByteArray) : Int := firstAt (sameB v) kindsL 0
def kindN (n : Int) : ByteArray := if 0 ≤ n ∧ n ≤ 5 then rdOf ByteArray.empty kindsL n else ⟨#[]⟩
theorem Kind_f (n : Int) : supercargoref05_Kind.f n = some (kindN n) := by
 unfold supercargoref05_Kind.f kindN
 rw [Option.bind_some]
 by_cases h0 : n < 0
 ·
  rw [if_pos h0, if_neg (by omega)]
 ·
  rw [if_neg h0]
  by_cases h5 : n > 5
  ·
   rw [if_pos h5, if_neg (by omega)]
  ·
   rw [if_neg h5, if_pos (by omega), if_pos (by show n < (6 : Int); omega), if_pos (by omega)]
   rfl
theorem six {n : Int} (h0 : 0 ≤ n) (h5 : n ≤ 5) : n = 0 ∨ n = 1 ∨ n = 2 ∨ n = 3 ∨ n = 4 ∨ n = 5 := by omega
theorem kindN_good {n : Int} (h0 : 0 ≤ n) (h5 : n ≤ 5) : kindAt (rdOf ByteArray.empty kindsL n) = n ∧ (rdOf ByteArray.empty kindsL n).size ≤ 9 ∧ (rdOf ByteArray.empty kindsL n).toList ≠ [] := by
 rcases six h0 h5 with rfl | rfl | rfl | rfl | rfl | rfl <;>
  refine ⟨by simp [rdOf, kindAt, firstAt, sameB, kindsL, Lib.toList_data], by simp [rdOf, kindsL, ByteArray.size], by simp [rdOf, kindsL, Lib.toList_data]⟩
def papB (n : Int) (s1 s2 : ByteArray) (l : List S43) : Bool := decide (0 ≤ n ∧ n ≤ 5) && (decide (s1.size ≤ 4096) && (decide (s2.size ≤ 4096) && decide (l.length ≤ 61)))
theorem Paper_l0 (n : Int) (s1 s2 : ByteArray) (l : List S43) (hl : l.length ≤ 9223372036854775807) (hs : ∀ x ∈ l, x.f0.size ≤ 140737488351232) : ∀ (d i k : Nat), i + d = l.length → d + 140737488351233 < k →
  supercargoref05_Paper.l0 k (i : Int) n s1 s2 l = some ((l.drop i).all mayF && papB n s1 s2 l) := by
 intro d
 induction d with
 | zero =>
  intro i k h1 h2
  obtain ⟨k, rfl⟩ : ∃ m, k = m + 1 := ⟨k - 1, by omega⟩
  simp only [supercargoref05_Paper.l0]
  rw [if_neg (by omega), List.drop_eq_nil_of_le (by omega), Kind_f, Option.bind_some]
  unfold kindN papB
  by_cases hn : 0 ≤ n ∧ n ≤ 5
  ·
   rw [if_pos hn, if_neg (kindN_good hn.1 hn.2).2.2, decide_eq_true hn]
   by_cases c1 : s1.size ≤ 4096
   ·
    rw [if_pos (by omega)]
    by_cases c2 : s2.size ≤ 4096
    ·
     rw [if_pos (by omega)]; simp [c1, c2]; omega
    ·
     rw [if_neg (by omega)]; simp [c2]
   ·
    rw [if_neg (by omega)]; simp [c1]
  ·
   rw [if_neg hn, decide_eq_false hn]
   rw [if_pos (by simp [Lib.toList_data])]
   simp
 | succ d ih =>
  intro i k h1 h2
  obtain ⟨k, rfl⟩ : ∃ m, k = m + 1 := ⟨k - 1, by omega⟩
  have hi : i < l.length := by omega
  have hsi := hs (l[i]) (List.getElem_mem hi)
  simp only [supercargoref05_Paper.l0]
  rw [if_pos (by omega), if_pos (by omega), rd_nat l i hi, May_f _ _ (by omega) _ (by omega), Option.bind_some, wrap_nat i (by omega), ih (i + 1) k (by omega) (by omega), List.drop_eq_getElem_cons hi, List.all_cons]
  have e : mayB (l[i]).f0.data.toList (l[i]).f1.data.toList = mayF (l[i]) := rfl
  rw [e]
  cases mayF (l[i])
  ·
   rw [if_neg (by simp)]; simp
  ·
   rw [if_pos rfl]; simp
theorem Paper_f (n : Int) (s1 s2 : ByteArray) (l : List S43) (hl : l.length ≤ 9223372036854775807) (hs : ∀ x ∈ l, x.f0.size ≤ 140737488351232) (k : Nat) (hk : l.length + 140737488351233 < k) :
  supercargoref05_Paper.f k n s1 s2 l = some (l.all mayF && papB n s1 s2 l) := by
 have := Paper_l0 n s1 s2 l hl hs l.length 0 k (by omega) hk
 rwa [List.drop_zero] at this
def recL (v s1 s2 : ByteArray) (l : List S43) : List S43 := ⟨⟨#[112, 97, 112, 101, 114]⟩, v⟩ :: ⟨⟨#[110, 117, 109, 98, 101, 114]⟩, s1⟩ :: ⟨⟨#[105, 115, 115, 117, 101, 114]⟩, s2⟩ :: l
theorem rec_may (v s1 s2 : ByteArray) (l : List S43) (hv : v.size ≤ 4096) : (recL v s1 s2 l).all mayF = (decide (s1.size ≤ 4096) && (decide (s2.size ≤ 4096) && l.all mayF)) := by
 have e0 : mayF (⟨⟨#[112, 97, 112, 101, 114]⟩, v⟩ : S43) = decide (v.size ≤ 4096) := by
  unfold mayF mayB; rw [size_list]; rfl
 have e1 : mayF (⟨⟨#[110, 117, 109, 98, 101, 114]⟩, s1⟩ : S43) = decide (s1.size ≤ 4096) := by
  unfold mayF mayB; rw [size_list]; rfl
 have e2 : mayF (⟨⟨#[105, 115, 115, 117, 101, 114]⟩, s2⟩ : S43) = decide (s2.size ≤ 4096) := by
  unfold mayF mayB; rw [size_list]; rfl
 unfold recL
 rw [List.all_cons, List.all_cons, List.all_cons, e0, e1, e2, decide_eq_true hv, Bool.true_and]
theorem rec_len (v s1 s2 : ByteArray) (l : List S43) : (recL v s1 s2 l).length = l.length + 3 := rfl
theorem Text_bad (l : List S43) (h : ¬ (l.length ≤ 64 ∧ l.all mayF = true)) : ∃ s c, field_Text.f l = some (s, c) ∧ c ≠ 0 := by
 unfold field_Text.f
 by_cases c1 : 64 < l.length
 ·
  rw [if_pos c1]; exact ⟨_, _, rfl, by simp⟩
 ·
  rw [if_neg c1]
  by_cases c2 : l.all mayF = true
  ·
   exact absurd ⟨by omega, c2⟩ h
  ·
   rw [if_neg c2]; exact ⟨_, _, rfl, by simp⟩
theorem Text_good (l : List S43) (h1 : l.length ≤ 64) (h2 : l.all mayF = true) : field_Text.f l = some (⟨(l.flatMap lineF).toArray⟩, 0) := by
 unfold field_Text.f
 rw [if_neg (by omega), if_pos h2]
theorem Doc_out (n : Int) (s1 s2 : ByteArray) (l : List S43) (k : Nat) (hn : ¬ (0 ≤ n ∧ n ≤ 5)) : field_Doc.f (k + 1) n s1 s2 l = some (⟨#[]⟩, 1) := by
 unfold field_Doc.f
 have e : field_kinds.f = some kindsL := rfl
 rw [e, Option.bind_some]
 have e6 : (kindsL.length : Int) = 6 := rfl
 by_cases h0 : n < 0
 ·
  rw [if_pos h0]; simp only [field_Doc.j0]; rw [if_pos trivial]
 ·
  rw [if_neg h0, e6, decide_eq_true (by omega)]; simp only [field_Doc.j0]; rw [if_pos trivial]
theorem Doc_in (n : Int) (s1 s2 : ByteArray) (l : List S43) (k : Nat) (hn : 0 ≤ n ∧ n ≤ 5) (hl : l.length ≤ 1000) :
  field_Doc.f (k + 1) n s1 s2 l = (field_Text.f (recL (rdOf ByteArray.empty kindsL n) s1 s2 l)).bind fun x => if x.2 = 0 then some (x.1, 0) else some (⟨#[]⟩, 1) := by
 unfold field_Doc.f
 have e : field_kinds.f = some kindsL := rfl
 rw [e, Option.bind_some]
 have e6 : (kindsL.length : Int) = 6 := rfl
 rw [if_neg (by omega), e6, decide_eq_false (by omega)]
 simp only [field_Doc.j0]
 rw [if_neg (by simp), if_pos hn.1, if_pos (by rw [e6]; omega), Option.bind_some, if_pos (by show 3 + l.length < _; omega)]
 rfl
end Go.Proofs.YtkblmomfiimkiaaGreatDoor.P
end

section
namespace Go.Proofs.YtkblmomfiimkiaaGreatDoor.P
open Go.RowKit Go.Proofs.YtkblmomfiimkiaaGreatDoorW.PrintWords Go.Proofs.YtkblmomfiimkiaaGreatDoorW.PrintLast Go.Proofs.YtkblmomfiimkiaaGreatDoorW.PrintMore
set_option linter.unusedSimpArgs false
set_option linter.unusedVariables false
open Go.Proofs.YtkblmomfiimkiaaGreatDoor.Fp
def docL (y : S38) : List S43 := recL (kindN y.f0) y.f1 y.f2 y.f3
def docT (y : S38) : ByteArray := ⟨((docL y).flatMap lineF).toArray⟩
def pv (y : S38) : Bool := y.f3.all mayF && papB y.f0 y.f1 y.f2 y.f3
def tv (y : S38) : Bool := decide (((docT y).size : Int) ≤ 4096)
def Few (y : S38) : Prop := y.f3.length ≤ 1000 ∧ ∀ x ∈ y.f3, x.f0.size ≤ 140737488351232
theorem pv_parts {y : S38} (h : pv y = true) : (0 ≤ y.f0 ∧ y.f0 ≤ 5) ∧ y.f1.size ≤ 4096 ∧ y.f2.size ≤ 4096 ∧ y.f3.length ≤ 61 ∧ y.f3.all mayF = true := by
 unfold pv papB at h
 rw [Bool.and_eq_true, Bool.and_eq_true, Bool.and_eq_true, Bool.and_eq_true] at h
 exact ⟨of_decide_eq_true h.2.1, of_decide_eq_true h.2.2.1, of_decide_eq_true h.2.2.2.1, of_decide_eq_true h.2.2.2.2, h.1⟩
theorem kindN_in {n : Int} (h : 0 ≤ n ∧ n ≤ 5) : kindN n = rdOf ByteArray.empty kindsL n := by unfold kindN; rw [if_pos h]
theorem docL_may {y : S38} (h : pv y = true) : (docL y).all mayF = true ∧ (docL y).length ≤ 64 := by
 obtain ⟨h0, h1, h2, h3, h4⟩ := pv_parts h
 obtain ⟨ka, kb, kc⟩ := kindN_good h0.1 h0.2
 unfold docL
 rw [kindN_in h0, rec_may _ _ _ _ (by omega), rec_len, h4]
 simp [h1, h2]
 omega
theorem paper9_f (y : S38) (hf : Few y) (k : Nat) (hk : 140737488360000 ≤ k) : supercargoref05_Paper.f k y.f0 y.f1 y.f2 y.f3 = some (pv y) :=
 Paper_f y.f0 y.f1 y.f2 y.f3 (by have := hf.1; omega) hf.2 k (by have := hf.1; omega)
theorem record9_f (y : S38) (hf : y.f3.length ≤ 1000) : supercargoref05_Record.f y.f0 y.f1 y.f2 y.f3 = some (docL y) := by
 unfold supercargoref05_Record.f
 rw [Kind_f, Option.bind_some, Option.bind_some, if_pos (by show 3 + y.f3.length < _; omega)]
 rfl
theorem text9_f (y : S38) (h : pv y = true) : ∃ K, ∀ k, K ≤ k → supercargoref05_Text.f k (docL y) = some (docT y, 0) := by
 obtain ⟨h1, h2⟩ := docL_may h
 refine Text_f _ (fun x hx => ?_) _ (Text_good _ h2 h1)
 have := may_small (List.all_eq_true.1 h1 x hx)
 omega
theorem doc_f (y : S38) (hf : y.f3.length ≤ 1000) (k : Nat) : field_Doc.f (k + 1) y.f0 y.f1 y.f2 y.f3 = some (if pv y = true then (docT y, 0) else (⟨#[]⟩, 1)) := by
 by_cases hn : 0 ≤ y.f0 ∧ y.f0 ≤ 5
 ·
  rw [Doc_in _ _ _ _ _ hn hf]
  by_cases hp : pv y = true
  ·
   obtain ⟨h1, h2⟩ := docL_may hp
   have h3 := Text_good _ h2 h1
   unfold docL at h3
   rw [kindN_in hn] at h3
   rw [h3, Option.bind_some, if_pos rfl, if_pos hp]
   unfold docT docL
   rw [kindN_in hn]
  ·
   obtain ⟨ka, kb, kc⟩ := kindN_good hn.1 hn.2
   obtain ⟨s, c, e, hc⟩ := Text_bad (recL (rdOf ByteArray.empty kindsL y.f0) y.f1 y.f2 y.f3) (by
    rintro ⟨a1, a2⟩
    apply hp
    rw [rec_len] at a1
    rw [rec_may _ _ _ _ (by omega)] at a2
    rw [Bool.and_eq_true, Bool.and_eq_true] at a2
    unfold pv papB
    rw [a2.2.2, a2.1, a2.2.1, decide_eq_true hn, decide_eq_true (show y.f3.length ≤ 61 by omega)]
    rfl)
   rw [e, Option.bind_some, if_neg hc, if_neg hp]
 ·
  rw [Doc_out _ _ _ _ _ hn, if_neg]
  intro hp
  exact hn (pv_parts hp).1
theorem paper_told (y : S38) (hf : y.f3.length ≤ 1000) : post_paper.f 1 y.f0 y.f1 y.f2 y.f3 = some (pv y && tv y) := by
 unfold post_paper.f
 rw [doc_f y hf 0, Option.bind_some]
 by_cases hp : pv y = true
 ·
  rw [if_pos hp, if_pos rfl, hp]
  exact congrArg some (Bool.true_and (tv y)).symm
 ·
  rw [if_neg hp, if_neg (by simp)]
  rw [Bool.not_eq_true] at hp
  rw [hp]; rfl
theorem paperB_eq (y : S38) (hf : y.f3.length ≤ 1000) : paperB y = (pv y && tv y) := by unfold paperB; rw [paper_told y hf]; rfl
theorem paperTold (y : S38) (hf : y.f3.length ≤ 1000) : PaperTold y := by unfold PaperTold; rw [paperB_eq y hf, paper_told y hf]
end Go.Proofs.YtkblmomfiimkiaaGreatDoor.P
end

section
namespace Go.Proofs.YtkblmomfiimkiaaGreatDoor.P
open Go.RowKit Go.Proofs.YtkblmomfiimkiaaGreatDoorW.PrintWords Go.Proofs.YtkblmomfiimkiaaGreatDoorW.PrintLast Go.Proofs.YtkblmomfiimkiaaGreatDoorW.PrintMore
attribute [local go_sem] max2_int min2_int max_two min_two max_three min_three max_four min_four   -- for this text's walks alone
set_option linter.unusedVariables false
set_option linter.unusedSimpArgs false
def supercargoref09_between.f (a0 : Int) (a1 : Int) (a2 : Int) : Option (Bool) := if a0 ≥ a1 then (some (decide (a0 ≤ a2))) else (some false)
set_option maxHeartbeats 8000000 in
set_option maxRecDepth 100000 in
theorem supercargoref09_between.calls (a0 : Int) (a1 : Int) (a2 : Int) (r : Bool) (w : World) (h : supercargoref09_between.f a0 a1 a2 = some r) :
  Calls Tryz.prog 45 #[.int .i64 a0, .int .i64 a1, .int .i64 a2] w fun e w' => e = .returned (.bool r) ∧ Drawn0 w w' := by
 have H : (if a0 ≥ a1 then (some (decide (a0 ≤ a2))) else (some false)) = some r := h
 clear h
 by_cases c4 : a0 ≥ a1
 ·
  rw [if_pos c4] at H
  have c4b0 : decide (a1 ≤ a0) = true := decide_eq_true c4
  clear c4
  obtain rfl := Option.some.inj H
  go_enter Tryz.func45, Tryz.ntmps45
  go_wp2
  go_ret
  exact ⟨by first | rfl | (simp; done) | (simp [*]; done), by repeat (first | exact Drawn0.refl _ | apply Drawn0.step)⟩
 ·
  rw [if_neg c4] at H
  have c4b0 : decide (a1 ≤ a0) = false := decide_eq_false c4
  clear c4
  obtain rfl := Option.some.inj H
  go_enter Tryz.func45, Tryz.ntmps45
  go_wp2
  go_ret
  exact ⟨by first | rfl | (simp; done) | (simp [*]; done), by repeat (first | exact Drawn0.refl _ | apply Drawn0.step)⟩
end Go.Proofs.YtkblmomfiimkiaaGreatDoor.P
end
