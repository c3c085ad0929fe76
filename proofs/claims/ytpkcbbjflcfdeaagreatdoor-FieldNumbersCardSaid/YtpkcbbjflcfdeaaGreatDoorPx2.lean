-- WRITTEN BY wip/gprint.py of this seat's repository, over the kit's printer, with given contracts.
import Derived.Test.YtpkcbbjflcfdeaaGreatDoorPx0
import Derived.Test.YtpkcbbjflcfdeaaGreatDoorPx1
import Derived.Test.YtpkcbbjflcfdeaaGreatDoorGivenN
namespace Go.Proofs.YtpkcbbjflcfdeaaGreatDoor.P
open Go.RowKit Go.Proofs.YtpkcbbjflcfdeaaGreatDoorW.PrintWords Go.Proofs.YtpkcbbjflcfdeaaGreatDoorW.PrintLast Go.Proofs.YtpkcbbjflcfdeaaGreatDoorW.PrintMore
attribute [local go_sem] max2_int min2_int max_two min_two max_three min_three max_four min_four   -- for this text's walks alone
set_option linter.unusedVariables false
set_option linter.unusedSimpArgs false

/-! ### supercargoref05_Number: function 6 -/
mutual
def supercargoref05_Number.j0 : Nat → ByteArray → Bool → Option (Int × Bool)
  | 0, _, _ => none
  | k + 1, x0, x13 => if x13 = true then (some (0, false)) else (if 0 < (x0.size : Int) then (if (bt x0 0) = 45 then (supercargoref05_Number.j1 k x0 0 1) else (supercargoref05_Number.j1 k x0 0 0)) else (none))
def supercargoref05_Number.j1 : Nat → ByteArray → Int → Int → Option (Int × Bool)
  | 0, _, _, _ => none
  | k + 1, x0, x4, x5 => supercargoref05_Number.l0 k x0 x4 x5 x5
def supercargoref05_Number.l0 : Nat → ByteArray → Int → Int → Int → Option (Int × Bool)
  | 0, _, _, _, _ => none
  | k + 1, x0, x4, x5, x6 => if x6 < (x0.size : Int) then (if 0 ≤ x6 then (if (bt x0 x6) < 48 then (some (0, false)) else (if (bt x0 x6) > 57 then (some (0, false)) else (if x4 > 461168601842738790 then (some (0, false)) else (supercargoref05_Number.l0 k x0 (wrap64 ((wrap64 ((wrap64 (10 * x4)) + (wrap64 (bt x0 x6)))) - 48)) x5 (wrap64 (x6 + 1)))))) else (none)) else (if x5 = 1 then (if (wrap64 (-x4)) > 4611686018427387904 then (some (0, false)) else (if (wrap64 (-x4)) < (-4611686018427387904) then (some (0, false)) else ((supercargoref05_Digits.f k (wrap64 (-x4))).bind fun t125 => (if t125.toList = x0.toList then (some (wrap64 (-x4), true)) else (some (0, false)))))) else (if x4 > 4611686018427387904 then (some (0, false)) else (if x4 < (-4611686018427387904) then (some (0, false)) else ((supercargoref05_Digits.f k x4).bind fun t126 => (if t126.toList = x0.toList then (some (x4, true)) else (some (0, false)))))))
end
def supercargoref05_Number.f (k : Nat) (a0 : ByteArray) : Option (Int × Bool) := if a0.toList = ([] : List UInt8) then (supercargoref05_Number.j0 k a0 true) else (supercargoref05_Number.j0 k a0 (decide ((a0.size : Int) > 20)))
theorem supercargoref05_Number.mono_l : ∀ k, (∀ y0 y1, LeO (supercargoref05_Number.j0 k y0 y1) (supercargoref05_Number.j0 (k + 1) y0 y1)) ∧ (∀ y0 y1 y2, LeO (supercargoref05_Number.j1 k y0 y1 y2) (supercargoref05_Number.j1 (k + 1) y0 y1 y2)) ∧ (∀ y0 y1 y2 y3, LeO (supercargoref05_Number.l0 k y0 y1 y2 y3) (supercargoref05_Number.l0 (k + 1) y0 y1 y2 y3))
  | 0 => ⟨fun _ _ r h => by simp [supercargoref05_Number.j0] at h, fun _ _ _ r h => by simp [supercargoref05_Number.j1] at h, fun _ _ _ _ r h => by simp [supercargoref05_Number.l0] at h⟩
  | k + 1 => by
    obtain ⟨ih0, ih1, ih2⟩ := supercargoref05_Number.mono_l k
    refine ⟨?_, ?_, ?_⟩
    · intro y0 y1
      unfold supercargoref05_Number.j0
      repeat' first
      | (with_reducible exact ih0 _ _)
      | (with_reducible exact ih1 _ _ _)
      | (with_reducible exact ih2 _ _ _ _)
      | (with_reducible exact supercargoref05_Digits.mono _ _)
      | (with_reducible exact LeO.refl _)
      | (with_reducible exact LeO.none _)
      | (with_reducible refine LeO.ite ?_ ?_)
      | (with_reducible refine LeO.bind ?_ (fun _ => ?_))
      | exact ih0 _ _
      | exact ih1 _ _ _
      | exact ih2 _ _ _ _
      | exact supercargoref05_Digits.mono _ _
      | exact LeO.none _
      | refine LeO.ite ?_ ?_
      | refine LeO.bind ?_ (fun _ => ?_)
    · intro y0 y1 y2
      unfold supercargoref05_Number.j1
      repeat' first
      | (with_reducible exact ih0 _ _)
      | (with_reducible exact ih1 _ _ _)
      | (with_reducible exact ih2 _ _ _ _)
      | (with_reducible exact supercargoref05_Digits.mono _ _)
      | (with_reducible exact LeO.refl _)
      | (with_reducible exact LeO.none _)
      | (with_reducible refine LeO.ite ?_ ?_)
      | (with_reducible refine LeO.bind ?_ (fun _ => ?_))
      | exact ih0 _ _
      | exact ih1 _ _ _
      | exact ih2 _ _ _ _
      | exact supercargoref05_Digits.mono _ _
      | exact LeO.none _
      | refine LeO.ite ?_ ?_
      | refine LeO.bind ?_ (fun _ => ?_)
    · intro y0 y1 y2 y3
      unfold supercargoref05_Number.l0
      repeat' first
      | (with_reducible exact ih0 _ _)
      | (with_reducible exact ih1 _ _ _)
      | (with_reducible exact ih2 _ _ _ _)
      | (with_reducible exact supercargoref05_Digits.mono _ _)
      | (with_reducible exact LeO.refl _)
      | (with_reducible exact LeO.none _)
      | (with_reducible refine LeO.ite ?_ ?_)
      | (with_reducible refine LeO.bind ?_ (fun _ => ?_))
      | exact ih0 _ _
      | exact ih1 _ _ _
      | exact ih2 _ _ _ _
      | exact supercargoref05_Digits.mono _ _
      | exact LeO.none _
      | refine LeO.ite ?_ ?_
      | refine LeO.bind ?_ (fun _ => ?_)
theorem supercargoref05_Number.mono : ∀ a0 k, LeO (supercargoref05_Number.f k a0) (supercargoref05_Number.f (k + 1) a0) := by
  intro a0 k
  obtain ⟨ih0, ih1, ih2⟩ := supercargoref05_Number.mono_l k
  unfold supercargoref05_Number.f
  repeat' first
      | (with_reducible exact ih0 _ _)
      | (with_reducible exact ih1 _ _ _)
      | (with_reducible exact ih2 _ _ _ _)
      | (with_reducible exact supercargoref05_Digits.mono _ _)
      | (with_reducible exact LeO.refl _)
      | (with_reducible exact LeO.none _)
      | (with_reducible refine LeO.ite ?_ ?_)
      | (with_reducible refine LeO.bind ?_ (fun _ => ?_))
      | exact ih0 _ _
      | exact ih1 _ _ _
      | exact ih2 _ _ _ _
      | exact supercargoref05_Digits.mono _ _
      | exact LeO.none _
      | refine LeO.ite ?_ ?_
      | refine LeO.bind ?_ (fun _ => ?_)
set_option maxHeartbeats 8000000 in
set_option maxRecDepth 100000 in
theorem supercargoref05_Number.calls (k : Nat) (a0 : ByteArray) (r1 : Int) (r2 : Bool) (w : World) (h : supercargoref05_Number.f k a0 = some (r1, r2)) :
    Calls Tryz.prog 6 #[.string a0] w fun e w' => e = .returned (.tuple #[.int .i64 r1, .bool r2]) ∧ Below w.heap.size w w' := by
  have HB := Aside0.mk (Below.refl w.heap.size w)
  have H : (if a0.toList = ([] : List UInt8) then (supercargoref05_Number.j0 k a0 true) else (supercargoref05_Number.j0 k a0 (decide ((a0.size : Int) > 20)))) = some (r1, r2) := h
  clear h
  have HC2 := Aside0.mk H
  clear H
  go_enter Tryz.func6, Tryz.ntmps6
  go_upto_region 1 with (fail)
  go_cut [13] (fun v13 wc => ∃ (kq : Nat) (x13_1 : Bool), v13 = .bool x13_1 ∧ Aside0 (supercargoref05_Number.j0 kq a0 x13_1 = some (r1, r2)) ∧ Aside0 (kq ≤ k) ∧ Aside0 (Below w.heap.size w wc))
  case first =>
    have H := HC2.out
    clear HC2
    by_cases c3 : a0.toList = ([] : List UInt8)
    · rw [if_pos c3] at H
      have c3b0 : (a0.toList == ([] : List UInt8)) = true := beq_iff_eq.mpr c3
      have c3b1 : (a0.toList != ([] : List UInt8)) = false := bne_eq_false_iff_eq.mpr c3
      clear c3
      (first | rw [c3b0] | (simp only [i64_w, i32_w]; rw [c3b0]) | skip)
      have H' := Aside0.mk H
      clear H
      go_wp2
      go_meet
      case rel => exact ⟨_, (true), (by first | rfl | (simp; done) | (simp [*]; done)), H', ⟨by first | omega | exact Nat.le_refl _⟩, ⟨by repeat (first | (with_reducible first | exact HB.out | apply below_alloc | apply pw_below_drewN | apply below_drew1) | exact HB.out)⟩⟩
    · rw [if_neg c3] at H
      have c3b0 : (a0.toList == ([] : List UInt8)) = false := beq_eq_false_iff_ne.mpr c3
      have c3b1 : (a0.toList != ([] : List UInt8)) = true := bne_iff_ne.mpr c3
      (first | rw [c3b0] | (simp only [i64_w, i32_w]; rw [c3b0]) | skip)
      have H' := Aside0.mk H
      clear H
      go_wp2
      go_meet
      case rel => exact ⟨_, (decide ((a0.size : Int) > 20)), (by first | rfl | (simp; done) | (simp [*]; done)), H', ⟨by first | omega | exact Nat.le_refl _⟩, ⟨by repeat (first | (with_reducible first | exact HB.out | apply below_alloc | apply pw_below_drewN | apply below_drew1) | exact HB.out)⟩⟩
  case rest =>
    clear HC2
    try clear p2
    try clear c3
    try clear c3b0
    try clear c3b1
    obtain ⟨kq, x13_1, rfl, HA, HJ1, HB⟩ := hcut
    cases kq with
    | zero => exact absurd HA.out (by simp [supercargoref05_Number.j0])
    | succ kj1 =>
      have H := HA.out
      clear HA
      simp only [supercargoref05_Number.j0] at H
      by_cases c4 : x13_1 = true
      · subst c4
        have H1 : (some (0, false)) = some (r1, r2) := by rw [if_pos rfl] at H; exact H
        clear H
        have H := H1
        clear H1
        simp only [Option.some.injEq, Prod.mk.injEq] at H
        obtain ⟨rfl, rfl⟩ := H
        go_wp2
        go_ret2
        exact ⟨by first | rfl | (simp [errW_none, errW_some] <;> rfl) | (simp [*, errW_none, errW_some] <;> rfl), by repeat (first | (with_reducible first | exact HB.out | apply below_alloc | apply pw_below_drewN | apply below_drew1) | exact HB.out)⟩
      · replace c4 := Bool.eq_false_iff.mpr c4
        subst c4
        have H1 : (if 0 < (a0.size : Int) then (if (bt a0 0) = 45 then (supercargoref05_Number.j1 kj1 a0 0 1) else (supercargoref05_Number.j1 kj1 a0 0 0)) else (none)) = some (r1, r2) := by rw [if_neg (show ¬ (false = true) by decide)] at H; exact H
        clear H
        have H := H1
        clear H1
        by_cases c5 : 0 < (a0.size : Int)
        · rw [if_pos c5] at H
          have c5b0 : decide (0 < (a0.size : Int)) = true := decide_eq_true c5
          have c5b1 : decide (0 < a0.size) = true := decide_eq_true (by omega)
          clear c5
          have HC7 := Aside0.mk H
          clear H
          have p6 : 0 ≤ (0 : Int) := (by omega)
          have q6 : 0 < a0.size := (by have : (0 : Int) < (a0.size : Int) := of_decide_eq_true (by first | (with_reducible assumption) | assumption); omega)
          have hx6 : ∀ h : 0 < a0.size, ((a0[0]'h).toNat : Int) = bt a0 0 := bt_at a0 0
          clear p6
          have qi6 : (0 < (a0.size : Int)) = True := eq_true (of_decide_eq_true (by first | (with_reducible assumption) | assumption))
          replace q6 := eq_true q6
          go_upto_if 16 with (fail)
          go_cut [5] (fun v5 wc => ∃ (kq : Nat) (x5_6 : Int), v5 = .int .i64 x5_6 ∧ Aside0 (supercargoref05_Number.j1 kq a0 0 x5_6 = some (r1, r2)) ∧ Aside0 (kq ≤ kj1) ∧ Aside0 (Below w.heap.size w wc))
          case first =>
            have H := HC7.out
            clear HC7
            by_cases c8 : (bt a0 0) = 45
            · rw [if_pos c8] at H
              have c8b0 : ((bt a0 0) == 45) = true := beq_iff_eq.mpr c8
              have c8b1 : ((bt a0 0) != 45) = false := bne_eq_false_iff_eq.mpr c8
              clear c8
              (first | rw [c8b0] | (simp only [i64_w, i32_w]; rw [c8b0]) | skip)
              have H' := Aside0.mk H
              clear H
              go_wp2
              go_meet
              case rel => exact ⟨_, (1), (by first | rfl | (simp; done) | (simp [*]; done)), H', ⟨by have := HJ1.out; first | omega | exact Nat.le_refl _⟩, ⟨by repeat (first | (with_reducible first | exact HB.out | apply below_alloc | apply pw_below_drewN | apply below_drew1) | exact HB.out)⟩⟩
            · rw [if_neg c8] at H
              have c8b0 : ((bt a0 0) == 45) = false := beq_eq_false_iff_ne.mpr c8
              have c8b1 : ((bt a0 0) != 45) = true := bne_iff_ne.mpr c8
              (first | rw [c8b0] | (simp only [i64_w, i32_w]; rw [c8b0]) | skip)
              have H' := Aside0.mk H
              clear H
              go_wp2
              go_meet
              case rel => exact ⟨_, (0), (by first | rfl | (simp; done) | (simp [*]; done)), H', ⟨by have := HJ1.out; first | omega | exact Nat.le_refl _⟩, ⟨by repeat (first | (with_reducible first | exact HB.out | apply below_alloc | apply pw_below_drewN | apply below_drew1) | exact HB.out)⟩⟩
          case rest =>
            clear HC7
            try clear p2
            try clear c3
            try clear c3b0
            try clear c3b1
            try clear c4
            try clear c5
            try clear c5b0
            try clear c5b1
            try clear c6
            try clear p6
            try clear q6
            try clear hx6
            try clear qi6
            try clear c8
            try clear c8b0
            try clear c8b1
            try clear p2
            try clear p6
            try clear q6
            obtain ⟨kq, x5_6, rfl, HA, HJ6, HB⟩ := hcut
            cases kq with
            | zero => exact absurd HA.out (by simp [supercargoref05_Number.j1])
            | succ kj6 =>
              have H := HA.out
              clear HA
              simp only [supercargoref05_Number.j1] at H
              have H' := Aside0.mk H
              clear H
              go_wp2
              go_loopg [4, 6] kj6 (fun kq v4 v6 w' => ∃ (x4_3 : Int) (x6_3 : Int), v4 = .int .i64 x4_3 ∧ v6 = .int .i64 x6_3 ∧ Aside0 (supercargoref05_Number.l0 kq a0 x4_3 x5_6 x6_3 = some (r1, r2)) ∧ Aside0 (kq ≤ kj6) ∧ Aside0 (Below w.heap.size w w'))
              case atStart => exact ⟨(0), (x5_6), (by first | rfl | (simp; done) | (simp [*]; done)), (by first | rfl | (simp; done) | (simp [*]; done)), H', ⟨Nat.le_refl _⟩, ⟨by repeat (first | (with_reducible first | exact HB.out | apply below_alloc | apply pw_below_drewN | apply below_drew1) | exact HB.out)⟩⟩
              case round =>
                clear H'
                try clear p2
                try clear c3
                try clear c3b0
                try clear c3b1
                try clear c4
                try clear c5
                try clear c5b0
                try clear c5b1
                try clear c6
                try clear p6
                try clear q6
                try clear hx6
                try clear qi6
                try clear c8
                try clear c8b0
                try clear c8b1
                try clear p2
                try clear p6
                try clear q6
                obtain ⟨x4_3, x6_3, rfl, rfl, HA, HK3, HB⟩ := hrel
                cases gk with
                | zero => exact absurd HA.out (by simp [supercargoref05_Number.l0])
                | succ k3 =>
                  have H := HA.out
                  clear HA
                  simp only [supercargoref05_Number.l0] at H
                  by_cases c9 : x6_3 < (a0.size : Int)
                  · rw [if_pos c9] at H
                    have c9b0 : decide (x6_3 < (a0.size : Int)) = true := decide_eq_true c9
                    clear c9
                    by_cases c10 : 0 ≤ x6_3
                    · rw [if_pos c10] at H
                      have c10b0 : decide (0 ≤ x6_3) = true := decide_eq_true c10
                      clear c10
                      by_cases c12 : (bt a0 x6_3) < 48
                      · rw [if_pos c12] at H
                        have c12b0 : decide ((bt a0 x6_3) < 48) = true := decide_eq_true c12
                        clear c12
                        simp only [Option.some.injEq, Prod.mk.injEq] at H
                        obtain ⟨rfl, rfl⟩ := H
                        have p11 : 0 ≤ (x6_3 : Int) := of_decide_eq_true (by first | (with_reducible assumption) | assumption)
                        have q11 : x6_3 < (a0.size : Int) := of_decide_eq_true (by first | (with_reducible assumption) | assumption)
                        have hx11 := bt_at a0 x6_3
                        replace p11 := eq_true p11
                        replace q11 := eq_true q11
                        go_wp2
                        go_ret2
                        exact ⟨by first | rfl | (simp [errW_none, errW_some] <;> rfl) | (simp [*, errW_none, errW_some] <;> rfl), by repeat (first | (with_reducible first | exact HB.out | apply below_alloc | apply pw_below_drewN | apply below_drew1) | exact HB.out)⟩
                      · rw [if_neg c12] at H
                        have c12b0 : decide ((bt a0 x6_3) < 48) = false := decide_eq_false c12
                        clear c12
                        by_cases c14 : (bt a0 x6_3) > 57
                        · rw [if_pos c14] at H
                          have c14b0 : decide (57 < (bt a0 x6_3)) = true := decide_eq_true c14
                          clear c14
                          simp only [Option.some.injEq, Prod.mk.injEq] at H
                          obtain ⟨rfl, rfl⟩ := H
                          have p11 : 0 ≤ (x6_3 : Int) := of_decide_eq_true (by first | (with_reducible assumption) | assumption)
                          have q11 : x6_3 < (a0.size : Int) := of_decide_eq_true (by first | (with_reducible assumption) | assumption)
                          have hx11 := bt_at a0 x6_3
                          replace p11 := eq_true p11
                          replace q11 := eq_true q11
                          have p13 : 0 ≤ (x6_3 : Int) := of_decide_eq_true (by first | (with_reducible assumption) | assumption)
                          have q13 : x6_3 < (a0.size : Int) := of_decide_eq_true (by first | (with_reducible assumption) | assumption)
                          have hx13 := bt_at a0 x6_3
                          replace p13 := eq_true p13
                          replace q13 := eq_true q13
                          go_wp2
                          go_ret2
                          exact ⟨by first | rfl | (simp [errW_none, errW_some] <;> rfl) | (simp [*, errW_none, errW_some] <;> rfl), by repeat (first | (with_reducible first | exact HB.out | apply below_alloc | apply pw_below_drewN | apply below_drew1) | exact HB.out)⟩
                        · rw [if_neg c14] at H
                          have c14b0 : decide (57 < (bt a0 x6_3)) = false := decide_eq_false c14
                          clear c14
                          by_cases c15 : x4_3 > 461168601842738790
                          · rw [if_pos c15] at H
                            have c15b0 : decide (461168601842738790 < x4_3) = true := decide_eq_true c15
                            clear c15
                            simp only [Option.some.injEq, Prod.mk.injEq] at H
                            obtain ⟨rfl, rfl⟩ := H
                            have p11 : 0 ≤ (x6_3 : Int) := of_decide_eq_true (by first | (with_reducible assumption) | assumption)
                            have q11 : x6_3 < (a0.size : Int) := of_decide_eq_true (by first | (with_reducible assumption) | assumption)
                            have hx11 := bt_at a0 x6_3
                            replace p11 := eq_true p11
                            replace q11 := eq_true q11
                            have p13 : 0 ≤ (x6_3 : Int) := of_decide_eq_true (by first | (with_reducible assumption) | assumption)
                            have q13 : x6_3 < (a0.size : Int) := of_decide_eq_true (by first | (with_reducible assumption) | assumption)
                            have hx13 := bt_at a0 x6_3
                            replace p13 := eq_true p13
                            replace q13 := eq_true q13
                            go_wp2
                            go_ret2
                            exact ⟨by first | rfl | (simp [errW_none, errW_some] <;> rfl) | (simp [*, errW_none, errW_some] <;> rfl), by repeat (first | (with_reducible first | exact HB.out | apply below_alloc | apply pw_below_drewN | apply below_drew1) | exact HB.out)⟩
                          · rw [if_neg c15] at H
                            have c15b0 : decide (461168601842738790 < x4_3) = false := decide_eq_false c15
                            clear c15
                            have H' := Aside0.mk H
                            clear H
                            have p11 : 0 ≤ (x6_3 : Int) := of_decide_eq_true (by first | (with_reducible assumption) | assumption)
                            have q11 : x6_3 < (a0.size : Int) := of_decide_eq_true (by first | (with_reducible assumption) | assumption)
                            have hx11 := bt_at a0 x6_3
                            replace p11 := eq_true p11
                            replace q11 := eq_true q11
                            have p13 : 0 ≤ (x6_3 : Int) := of_decide_eq_true (by first | (with_reducible assumption) | assumption)
                            have q13 : x6_3 < (a0.size : Int) := of_decide_eq_true (by first | (with_reducible assumption) | assumption)
                            have hx13 := bt_at a0 x6_3
                            replace p13 := eq_true p13
                            replace q13 := eq_true q13
                            have p16 : 0 ≤ (x6_3 : Int) := of_decide_eq_true (by first | (with_reducible assumption) | assumption)
                            have q16 : x6_3 < (a0.size : Int) := of_decide_eq_true (by first | (with_reducible assumption) | assumption)
                            have hx16 := bt_at a0 x6_3
                            replace p16 := eq_true p16
                            replace q16 := eq_true q16
                            go_wp2
                            go_roundg k3
                            case measure => have := HJ1.out; have := HJ6.out; have := HK3.out; omega
                            case rel => exact ⟨(wrap64 ((wrap64 ((wrap64 (10 * x4_3)) + (wrap64 (bt a0 x6_3)))) - 48)), (wrap64 (x6_3 + 1)), (by first | rfl | (simp; done) | (simp [*]; done)), (by first | rfl | (simp; done) | (simp [*]; done)), H', ⟨by have := HJ1.out; have := HJ6.out; have := HK3.out; omega⟩, ⟨by repeat (first | (with_reducible first | exact HB.out | apply below_alloc | apply pw_below_drewN | apply below_drew1) | exact HB.out)⟩⟩
                    · rw [if_neg c10] at H
                      exact absurd H (by simp)
                  · rw [if_neg c9] at H
                    have c9b0 : decide (x6_3 < (a0.size : Int)) = false := decide_eq_false c9
                    clear c9
                    by_cases c17 : x5_6 = 1
                    · rw [if_pos c17] at H
                      have c17b0 : (x5_6 == 1) = true := beq_iff_eq.mpr c17
                      have c17b1 : (x5_6 != 1) = false := bne_eq_false_iff_eq.mpr c17
                      clear c17
                      by_cases c18 : (wrap64 (-x4_3)) > 4611686018427387904
                      · rw [if_pos c18] at H
                        have c18b0 : decide (4611686018427387904 < (wrap64 (-x4_3))) = true := decide_eq_true c18
                        clear c18
                        simp only [Option.some.injEq, Prod.mk.injEq] at H
                        obtain ⟨rfl, rfl⟩ := H
                        go_wp2
                        go_ret2
                        exact ⟨by first | rfl | (simp [errW_none, errW_some] <;> rfl) | (simp [*, errW_none, errW_some] <;> rfl), by repeat (first | (with_reducible first | exact HB.out | apply below_alloc | apply pw_below_drewN | apply below_drew1) | exact HB.out)⟩
                      · rw [if_neg c18] at H
                        have c18b0 : decide (4611686018427387904 < (wrap64 (-x4_3))) = false := decide_eq_false c18
                        clear c18
                        by_cases c19 : (wrap64 (-x4_3)) < (-4611686018427387904)
                        · rw [if_pos c19] at H
                          have c19b0 : decide ((wrap64 (-x4_3)) < (-4611686018427387904)) = true := decide_eq_true c19
                          clear c19
                          simp only [Option.some.injEq, Prod.mk.injEq] at H
                          obtain ⟨rfl, rfl⟩ := H
                          go_wp2
                          go_ret2
                          exact ⟨by first | rfl | (simp [errW_none, errW_some] <;> rfl) | (simp [*, errW_none, errW_some] <;> rfl), by repeat (first | (with_reducible first | exact HB.out | apply below_alloc | apply pw_below_drewN | apply below_drew1) | exact HB.out)⟩
                        · rw [if_neg c19] at H
                          have c19b0 : decide ((wrap64 (-x4_3)) < (-4611686018427387904)) = false := decide_eq_false c19
                          clear c19
                          replace H := Option.bind_eq_some_iff.mp H
                          obtain ⟨t125, A200, H⟩ := H
                          replace H : (if t125.toList = a0.toList then (some (wrap64 (-x4_3), true)) else (some (0, false))) = some (r1, r2) := H
                          have A20 := Aside0.mk A200
                          clear A200
                          by_cases c21 : t125.toList = a0.toList
                          · rw [if_pos c21] at H
                            have c21b0 : (t125.toList == a0.toList) = true := beq_iff_eq.mpr c21
                            have c21b1 : (t125.toList != a0.toList) = false := bne_eq_false_iff_eq.mpr c21
                            clear c21
                            simp only [Option.some.injEq, Prod.mk.injEq] at H
                            obtain ⟨rfl, rfl⟩ := H
                            go_wp2_with (first | (go_at_call 7; (with_reducible refine (supercargoref05_Digits.calls k3 (wrap64 (-x4_3)) t125 _ A20.out).mono ?_); rintro e w22 ⟨rfl, hb⟩; have n0_ := Aside0.mk (below_step (by repeat (first | (with_reducible first | exact HB.out | apply below_alloc | apply pw_below_drewN | apply below_drew1) | exact HB.out)) hb); clear HB; have HB := n0_; clear n0_; (try clear hb); (try clear hb2); (try clear hk); (try clear hi)))
                            go_ret2
                            exact ⟨by first | rfl | (simp [errW_none, errW_some] <;> rfl) | (simp [*, errW_none, errW_some] <;> rfl), by repeat (first | (with_reducible first | exact HB.out | apply below_alloc | apply pw_below_drewN | apply below_drew1) | exact HB.out)⟩
                          · rw [if_neg c21] at H
                            have c21b0 : (t125.toList == a0.toList) = false := beq_eq_false_iff_ne.mpr c21
                            have c21b1 : (t125.toList != a0.toList) = true := bne_iff_ne.mpr c21
                            simp only [Option.some.injEq, Prod.mk.injEq] at H
                            obtain ⟨rfl, rfl⟩ := H
                            go_wp2_with (first | (go_at_call 7; (with_reducible refine (supercargoref05_Digits.calls k3 (wrap64 (-x4_3)) t125 _ A20.out).mono ?_); rintro e w23 ⟨rfl, hb⟩; have n0_ := Aside0.mk (below_step (by repeat (first | (with_reducible first | exact HB.out | apply below_alloc | apply pw_below_drewN | apply below_drew1) | exact HB.out)) hb); clear HB; have HB := n0_; clear n0_; (try clear hb); (try clear hb2); (try clear hk); (try clear hi)))
                            go_ret2
                            exact ⟨by first | rfl | (simp [errW_none, errW_some] <;> rfl) | (simp [*, errW_none, errW_some] <;> rfl), by repeat (first | (with_reducible first | exact HB.out | apply below_alloc | apply pw_below_drewN | apply below_drew1) | exact HB.out)⟩
                    · rw [if_neg c17] at H
                      have c17b0 : (x5_6 == 1) = false := beq_eq_false_iff_ne.mpr c17
                      have c17b1 : (x5_6 != 1) = true := bne_iff_ne.mpr c17
                      by_cases c24 : x4_3 > 4611686018427387904
                      · rw [if_pos c24] at H
                        have c24b0 : decide (4611686018427387904 < x4_3) = true := decide_eq_true c24
                        clear c24
                        simp only [Option.some.injEq, Prod.mk.injEq] at H
                        obtain ⟨rfl, rfl⟩ := H
                        go_wp2
                        go_ret2
                        exact ⟨by first | rfl | (simp [errW_none, errW_some] <;> rfl) | (simp [*, errW_none, errW_some] <;> rfl), by repeat (first | (with_reducible first | exact HB.out | apply below_alloc | apply pw_below_drewN | apply below_drew1) | exact HB.out)⟩
                      · rw [if_neg c24] at H
                        have c24b0 : decide (4611686018427387904 < x4_3) = false := decide_eq_false c24
                        clear c24
                        by_cases c25 : x4_3 < (-4611686018427387904)
                        · rw [if_pos c25] at H
                          have c25b0 : decide (x4_3 < (-4611686018427387904)) = true := decide_eq_true c25
                          clear c25
                          simp only [Option.some.injEq, Prod.mk.injEq] at H
                          obtain ⟨rfl, rfl⟩ := H
                          go_wp2
                          go_ret2
                          exact ⟨by first | rfl | (simp [errW_none, errW_some] <;> rfl) | (simp [*, errW_none, errW_some] <;> rfl), by repeat (first | (with_reducible first | exact HB.out | apply below_alloc | apply pw_below_drewN | apply below_drew1) | exact HB.out)⟩
                        · rw [if_neg c25] at H
                          have c25b0 : decide (x4_3 < (-4611686018427387904)) = false := decide_eq_false c25
                          clear c25
                          replace H := Option.bind_eq_some_iff.mp H
                          obtain ⟨t126, A260, H⟩ := H
                          replace H : (if t126.toList = a0.toList then (some (x4_3, true)) else (some (0, false))) = some (r1, r2) := H
                          have A26 := Aside0.mk A260
                          clear A260
                          by_cases c27 : t126.toList = a0.toList
                          · rw [if_pos c27] at H
                            have c27b0 : (t126.toList == a0.toList) = true := beq_iff_eq.mpr c27
                            have c27b1 : (t126.toList != a0.toList) = false := bne_eq_false_iff_eq.mpr c27
                            clear c27
                            simp only [Option.some.injEq, Prod.mk.injEq] at H
                            obtain ⟨rfl, rfl⟩ := H
                            go_wp2_with (first | (go_at_call 7; (with_reducible refine (supercargoref05_Digits.calls k3 x4_3 t126 _ A26.out).mono ?_); rintro e w28 ⟨rfl, hb⟩; have n0_ := Aside0.mk (below_step (by repeat (first | (with_reducible first | exact HB.out | apply below_alloc | apply pw_below_drewN | apply below_drew1) | exact HB.out)) hb); clear HB; have HB := n0_; clear n0_; (try clear hb); (try clear hb2); (try clear hk); (try clear hi)))
                            go_ret2
                            exact ⟨by first | rfl | (simp [errW_none, errW_some] <;> rfl) | (simp [*, errW_none, errW_some] <;> rfl), by repeat (first | (with_reducible first | exact HB.out | apply below_alloc | apply pw_below_drewN | apply below_drew1) | exact HB.out)⟩
                          · rw [if_neg c27] at H
                            have c27b0 : (t126.toList == a0.toList) = false := beq_eq_false_iff_ne.mpr c27
                            have c27b1 : (t126.toList != a0.toList) = true := bne_iff_ne.mpr c27
                            simp only [Option.some.injEq, Prod.mk.injEq] at H
                            obtain ⟨rfl, rfl⟩ := H
                            go_wp2_with (first | (go_at_call 7; (with_reducible refine (supercargoref05_Digits.calls k3 x4_3 t126 _ A26.out).mono ?_); rintro e w29 ⟨rfl, hb⟩; have n0_ := Aside0.mk (below_step (by repeat (first | (with_reducible first | exact HB.out | apply below_alloc | apply pw_below_drewN | apply below_drew1) | exact HB.out)) hb); clear HB; have HB := n0_; clear n0_; (try clear hb); (try clear hb2); (try clear hk); (try clear hi)))
                            go_ret2
                            exact ⟨by first | rfl | (simp [errW_none, errW_some] <;> rfl) | (simp [*, errW_none, errW_some] <;> rfl), by repeat (first | (with_reducible first | exact HB.out | apply below_alloc | apply pw_below_drewN | apply below_drew1) | exact HB.out)⟩
        · rw [if_neg c5] at H
          exact absurd H (by simp)

/-! ### supercargolaw05_FieldNumbers: function 3 -/
def supercargolaw05_FieldNumbers.j0 : Nat → Int → Bool → Option (Bool)
  | 0, _, _ => none
  | k + 1, x1, x33 => if x33 = true then (some false) else ((supercargoref05_Digits.f k x1).bind fun t132 => ((field_Number.f t132).bind fun bt133 => (if x1 ≥ (-4611686018427387904) then (if (bt133.2 == (decide (x1 ≤ 4611686018427387904))) = true then (if x1 ≤ 4611686018427387904 then (if bt133.1 = x1 then ((supercargolaw05_awake.f).bind fun t135 => (some t135)) else (some false)) else ((supercargolaw05_awake.f).bind fun t136 => (some t136))) else (some false)) else (if (bt133.2 == false) = true then ((supercargolaw05_awake.f).bind fun t137 => (some t137)) else (some false)))))
def supercargolaw05_FieldNumbers.f (k : Nat) (a0 : ByteArray) (a1 : Int) : Option (Bool) := if (a0.size : Int) > 100 then ((supercargolaw05_awake.f).bind fun t127 => (some t127)) else ((field_Number.f a0).bind fun bt128 => ((supercargoref05_Number.f k a0).bind fun bt130 => (if bt128.1 = bt130.1 then (supercargolaw05_FieldNumbers.j0 k a1 (bt128.2 != bt130.2)) else (supercargolaw05_FieldNumbers.j0 k a1 true))))
theorem supercargolaw05_FieldNumbers.mono_l : ∀ k, (∀ y0 y1, LeO (supercargolaw05_FieldNumbers.j0 k y0 y1) (supercargolaw05_FieldNumbers.j0 (k + 1) y0 y1))
  | 0 => fun _ _ r h => by simp [supercargolaw05_FieldNumbers.j0] at h
  | k + 1 => by
    have ih0 := supercargolaw05_FieldNumbers.mono_l k
    · intro y0 y1
      unfold supercargolaw05_FieldNumbers.j0
      repeat' first
      | (with_reducible exact ih0 _ _)
      | (with_reducible exact supercargoref05_Digits.mono _ _)
      | (with_reducible exact supercargoref05_Number.mono _ _)
      | (with_reducible exact LeO.refl _)
      | (with_reducible exact LeO.none _)
      | (with_reducible refine LeO.ite ?_ ?_)
      | (with_reducible refine LeO.bind ?_ (fun _ => ?_))
      | exact ih0 _ _
      | exact supercargoref05_Digits.mono _ _
      | exact supercargoref05_Number.mono _ _
      | exact LeO.none _
      | refine LeO.ite ?_ ?_
      | refine LeO.bind ?_ (fun _ => ?_)
theorem supercargolaw05_FieldNumbers.mono : ∀ a0 a1 k, LeO (supercargolaw05_FieldNumbers.f k a0 a1) (supercargolaw05_FieldNumbers.f (k + 1) a0 a1) := by
  intro a0 a1 k
  have ih0 := supercargolaw05_FieldNumbers.mono_l k
  unfold supercargolaw05_FieldNumbers.f
  repeat' first
      | (with_reducible exact ih0 _ _)
      | (with_reducible exact supercargoref05_Digits.mono _ _)
      | (with_reducible exact supercargoref05_Number.mono _ _)
      | (with_reducible exact LeO.refl _)
      | (with_reducible exact LeO.none _)
      | (with_reducible refine LeO.ite ?_ ?_)
      | (with_reducible refine LeO.bind ?_ (fun _ => ?_))
      | exact ih0 _ _
      | exact supercargoref05_Digits.mono _ _
      | exact supercargoref05_Number.mono _ _
      | exact LeO.none _
      | refine LeO.ite ?_ ?_
      | refine LeO.bind ?_ (fun _ => ?_)
set_option maxHeartbeats 8000000 in
set_option maxRecDepth 100000 in
theorem supercargolaw05_FieldNumbers.calls (k : Nat) (a0 : ByteArray) (a1 : Int) (r : Bool) (w : World) (hG : Glob w) (h : supercargolaw05_FieldNumbers.f k a0 a1 = some r) :
    Calls Tryz.prog 3 #[.string a0, .int .i64 a1] w fun e w' => e = .returned (.bool r) ∧ Below w.heap.size w w' := by
  have HGL := Aside0.mk hG
  clear hG
  have HB := Aside0.mk (Below.refl w.heap.size w)
  have H : (if (a0.size : Int) > 100 then ((supercargolaw05_awake.f).bind fun t127 => (some t127)) else ((field_Number.f a0).bind fun bt128 => ((supercargoref05_Number.f k a0).bind fun bt130 => (if bt128.1 = bt130.1 then (supercargolaw05_FieldNumbers.j0 k a1 (bt128.2 != bt130.2)) else (supercargolaw05_FieldNumbers.j0 k a1 true))))) = some r := h
  clear h
  by_cases c3 : (a0.size : Int) > 100
  · rw [if_pos c3] at H
    have c3b0 : decide (100 < (a0.size : Int)) = true := decide_eq_true c3
    have c3b1 : decide (100 < a0.size) = true := decide_eq_true (by omega)
    clear c3
    replace H := Option.bind_eq_some_iff.mp H
    obtain ⟨t127, A40, H⟩ := H
    replace H : (some t127) = some r := H
    have A4 := Aside0.mk A40
    clear A40
    obtain rfl := Option.some.inj H
    go_enter Tryz.func3, Tryz.ntmps3
    go_wp2_with (first | ((with_reducible refine gate_callee (f := 4) rfl ?_); refine goesL_ (some 15) rfl rfl Tryz.func4 (by kernel_rfl) rfl #[] rfl (by (try simp only [List.map_toArray, List.map_cons, List.map_nil]); first | done | rfl | (simp only [List.length_drop, List.length_take]; rfl)) ?_; (with_reducible refine (supercargolaw05_awake.calls  t127 _ A4.out).mono ?_); rintro e w5 ⟨rfl, hb⟩; refine ⟨_, rfl, ?_⟩; have n0_ := Aside0.mk (below_step (by repeat (first | (with_reducible first | exact HB.out | apply below_alloc | apply pw_below_drewN | apply below_drew1) | exact HB.out)) hb); clear HB; have HB := n0_; clear n0_; (try clear hb); (try clear hb2); (try clear hk); (try clear hi)))
    go_ret
    exact ⟨by first | rfl | (simp [errW_none, errW_some] <;> rfl) | (simp [*, errW_none, errW_some] <;> rfl), by repeat (first | (with_reducible first | exact HB.out | apply below_alloc | apply pw_below_drewN | apply below_drew1) | exact HB.out)⟩
  · rw [if_neg c3] at H
    have c3b0 : decide (100 < (a0.size : Int)) = false := decide_eq_false c3
    have c3b1 : decide (100 < a0.size) = false := decide_eq_false (by omega)
    clear c3
    replace H := Option.bind_eq_some_iff.mp H
    obtain ⟨⟨t128, t129⟩, A60, H⟩ := H
    replace H : ((supercargoref05_Number.f k a0).bind fun bt130 => (if t128 = bt130.1 then (supercargolaw05_FieldNumbers.j0 k a1 (t129 != bt130.2)) else (supercargolaw05_FieldNumbers.j0 k a1 true))) = some r := H
    have A6 := Aside0.mk A60
    clear A60
    replace H := Option.bind_eq_some_iff.mp H
    obtain ⟨⟨t130, t131⟩, A70, H⟩ := H
    replace H : (if t128 = t130 then (supercargolaw05_FieldNumbers.j0 k a1 (t129 != t131)) else (supercargolaw05_FieldNumbers.j0 k a1 true)) = some r := H
    have A7 := Aside0.mk A70
    clear A70
    have HC8 := Aside0.mk H
    clear H
    go_enter Tryz.func3, Tryz.ntmps3
    go_upto_region 5 with (first | ((with_reducible refine gate_callee (f := 5) rfl ?_); refine goesL_ (some 18) rfl rfl Tryz.func5 (by kernel_rfl) rfl #[.string a0] rfl (by (try simp only [List.map_toArray, List.map_cons, List.map_nil]); first | done | rfl | (simp only [List.length_drop, List.length_take]; rfl)) ?_; (with_reducible refine (field_Number.calls a0 t128 t129 _ ?sideG A6.out).mono ?_); (case sideG => exact glob_below HGL.out (by repeat (first | (with_reducible first | exact HB.out | apply below_alloc | apply pw_below_drewN | apply below_drew1) | exact HB.out))); rintro e w9 ⟨rfl, hb⟩; refine ⟨_, rfl, ?_⟩; have n0_ := Aside0.mk (below_step (by repeat (first | (with_reducible first | exact HB.out | apply below_alloc | apply pw_below_drewN | apply below_drew1) | exact HB.out)) hb); clear HB; have HB := n0_; clear n0_; (try clear hb); (try clear hb2); (try clear hk); (try clear hi)) | ((with_reducible refine gate_callee (f := 6) rfl ?_); refine goesL_ (some 23) rfl rfl Tryz.func6 (by kernel_rfl) rfl #[.string a0] rfl (by (try simp only [List.map_toArray, List.map_cons, List.map_nil]); first | done | rfl | (simp only [List.length_drop, List.length_take]; rfl)) ?_; (with_reducible refine (supercargoref05_Number.calls k a0 t130 t131 _ A7.out).mono ?_); rintro e w10 ⟨rfl, hb⟩; refine ⟨_, rfl, ?_⟩; have n0_ := Aside0.mk (below_step (by repeat (first | (with_reducible first | exact HB.out | apply below_alloc | apply pw_below_drewN | apply below_drew1) | exact HB.out)) hb); clear HB; have HB := n0_; clear n0_; (try clear hb); (try clear hb2); (try clear hk); (try clear hi)))
    (try simp only [Act.put, List.setIfInBounds_toArray, List.set_cons_zero, List.set_cons_succ])
    go_cut [33] (fun v33 wc => ∃ (kq : Nat) (x33_7 : Bool), v33 = .bool x33_7 ∧ Aside0 (supercargolaw05_FieldNumbers.j0 kq a1 x33_7 = some r) ∧ Aside0 (kq ≤ k) ∧ Aside0 (Below w.heap.size w wc))
    case first =>
      have H := HC8.out
      clear HC8
      by_cases c11 : t128 = t130
      · rw [if_pos c11] at H
        have c11b0 : (t128 == t130) = true := beq_iff_eq.mpr c11
        have c11b1 : (t128 != t130) = false := bne_eq_false_iff_eq.mpr c11
        clear c11
        (first | rw [c11b0] | (simp only [i64_w, i32_w]; rw [c11b0]) | skip)
        have H' := Aside0.mk H
        clear H
        go_wp2
        go_meet
        case rel => exact ⟨_, ((t129 != t131)), (by first | rfl | (simp; done) | (simp [*]; done)), H', ⟨by first | omega | exact Nat.le_refl _⟩, ⟨by repeat (first | (with_reducible first | exact HB.out | apply below_alloc | apply pw_below_drewN | apply below_drew1) | exact HB.out)⟩⟩
      · rw [if_neg c11] at H
        have c11b0 : (t128 == t130) = false := beq_eq_false_iff_ne.mpr c11
        have c11b1 : (t128 != t130) = true := bne_iff_ne.mpr c11
        (first | rw [c11b0] | (simp only [i64_w, i32_w]; rw [c11b0]) | skip)
        have H' := Aside0.mk H
        clear H
        go_wp2
        go_meet
        case rel => exact ⟨_, (true), (by first | rfl | (simp; done) | (simp [*]; done)), H', ⟨by first | omega | exact Nat.le_refl _⟩, ⟨by repeat (first | (with_reducible first | exact HB.out | apply below_alloc | apply pw_below_drewN | apply below_drew1) | exact HB.out)⟩⟩
    case rest =>
      clear HC8
      try clear c1
      try clear p2
      try clear c3
      try clear c3b0
      try clear c3b1
      try clear c4
      try clear c5
      try clear c6
      try clear c11
      try clear c11b0
      try clear c11b1
      obtain ⟨kq, x33_7, rfl, HA, HJ7, HB⟩ := hcut
      cases kq with
      | zero => exact absurd HA.out (by simp [supercargolaw05_FieldNumbers.j0])
      | succ kj7 =>
        have H := HA.out
        clear HA
        simp only [supercargolaw05_FieldNumbers.j0] at H
        by_cases c12 : x33_7 = true
        · subst c12
          have H1 : (some false) = some r := by rw [if_pos rfl] at H; exact H
          clear H
          have H := H1
          clear H1
          obtain rfl := Option.some.inj H
          go_wp2
          go_ret
          exact ⟨by first | rfl | (simp [errW_none, errW_some] <;> rfl) | (simp [*, errW_none, errW_some] <;> rfl), by repeat (first | (with_reducible first | exact HB.out | apply below_alloc | apply pw_below_drewN | apply below_drew1) | exact HB.out)⟩
        · replace c12 := Bool.eq_false_iff.mpr c12
          subst c12
          have H1 : ((supercargoref05_Digits.f kj7 a1).bind fun t132 => ((field_Number.f t132).bind fun bt133 => (if a1 ≥ (-4611686018427387904) then (if (bt133.2 == (decide (a1 ≤ 4611686018427387904))) = true then (if a1 ≤ 4611686018427387904 then (if bt133.1 = a1 then ((supercargolaw05_awake.f).bind fun t135 => (some t135)) else (some false)) else ((supercargolaw05_awake.f).bind fun t136 => (some t136))) else (some false)) else (if (bt133.2 == false) = true then ((supercargolaw05_awake.f).bind fun t137 => (some t137)) else (some false))))) = some r := by rw [if_neg (show ¬ (false = true) by decide)] at H; exact H
          clear H
          have H := H1
          clear H1
          replace H := Option.bind_eq_some_iff.mp H
          obtain ⟨t132, A130, H⟩ := H
          replace H : ((field_Number.f t132).bind fun bt133 => (if a1 ≥ (-4611686018427387904) then (if (bt133.2 == (decide (a1 ≤ 4611686018427387904))) = true then (if a1 ≤ 4611686018427387904 then (if bt133.1 = a1 then ((supercargolaw05_awake.f).bind fun t135 => (some t135)) else (some false)) else ((supercargolaw05_awake.f).bind fun t136 => (some t136))) else (some false)) else (if (bt133.2 == false) = true then ((supercargolaw05_awake.f).bind fun t137 => (some t137)) else (some false)))) = some r := H
          have A13 := Aside0.mk A130
          clear A130
          replace H := Option.bind_eq_some_iff.mp H
          obtain ⟨⟨t133, t134⟩, A140, H⟩ := H
          replace H : (if a1 ≥ (-4611686018427387904) then (if (t134 == (decide (a1 ≤ 4611686018427387904))) = true then (if a1 ≤ 4611686018427387904 then (if t133 = a1 then ((supercargolaw05_awake.f).bind fun t135 => (some t135)) else (some false)) else ((supercargolaw05_awake.f).bind fun t136 => (some t136))) else (some false)) else (if (t134 == false) = true then ((supercargolaw05_awake.f).bind fun t137 => (some t137)) else (some false))) = some r := H
          have A14 := Aside0.mk A140
          clear A140
          by_cases c15 : a1 ≥ (-4611686018427387904)
          · rw [if_pos c15] at H
            have c15b0 : decide ((-4611686018427387904) ≤ a1) = true := decide_eq_true c15
            clear c15
            by_cases c16 : (t134 == (decide (a1 ≤ 4611686018427387904))) = true
            · rw [if_pos c16] at H
              have c16b0 : (t134 == (decide (a1 ≤ 4611686018427387904))) = true := c16
              (try (have c16b1 : decide (t134 = (decide (a1 ≤ 4611686018427387904))) = true := by simpa using c16))
              (try (have c16b2 : (t134 == (decide (a1 ≤ 4611686018427387904))) = true := by simpa using c16))
              clear c16
              by_cases c17 : a1 ≤ 4611686018427387904
              · rw [if_pos c17] at H
                have c17b0 : decide (a1 ≤ 4611686018427387904) = true := decide_eq_true c17
                clear c17
                have c98 : t134 = true := by have z := c16b0; rw [c17b0] at z; simpa using z
                by_cases c18 : t133 = a1
                · rw [if_pos c18] at H
                  have c18b0 : (t133 == a1) = true := beq_iff_eq.mpr c18
                  have c18b1 : (t133 != a1) = false := bne_eq_false_iff_eq.mpr c18
                  clear c18
                  replace H := Option.bind_eq_some_iff.mp H
                  obtain ⟨t135, A190, H⟩ := H
                  replace H : (some t135) = some r := H
                  have A19 := Aside0.mk A190
                  clear A190
                  obtain rfl := Option.some.inj H
                  go_wp2_with (first | ((with_reducible refine gate_callee (f := 7) rfl ?_); refine goesL_ (some 36) rfl rfl Tryz.func7 (by kernel_rfl) rfl #[.int .i64 a1] rfl (by (try simp only [List.map_toArray, List.map_cons, List.map_nil]); first | done | rfl | (simp only [List.length_drop, List.length_take]; rfl)) ?_; (with_reducible refine (supercargoref05_Digits.calls kj7 a1 t132 _ A13.out).mono ?_); rintro e w20 ⟨rfl, hb⟩; refine ⟨_, rfl, ?_⟩; have n0_ := Aside0.mk (below_step (by repeat (first | (with_reducible first | exact HB.out | apply below_alloc | apply pw_below_drewN | apply below_drew1) | exact HB.out)) hb); clear HB; have HB := n0_; clear n0_; (try clear hb); (try clear hb2); (try clear hk); (try clear hi)) | ((with_reducible refine gate_callee (f := 5) rfl ?_); refine goesL_ (some 37) rfl rfl Tryz.func5 (by kernel_rfl) rfl #[.string t132] rfl (by (try simp only [List.map_toArray, List.map_cons, List.map_nil]); first | done | rfl | (simp only [List.length_drop, List.length_take]; rfl)) ?_; (with_reducible refine (field_Number.calls t132 t133 t134 _ ?sideG A14.out).mono ?_); (case sideG => exact glob_below HGL.out (by repeat (first | (with_reducible first | exact HB.out | apply below_alloc | apply pw_below_drewN | apply below_drew1) | exact HB.out))); rintro e w21 ⟨rfl, hb⟩; refine ⟨_, rfl, ?_⟩; have n0_ := Aside0.mk (below_step (by repeat (first | (with_reducible first | exact HB.out | apply below_alloc | apply pw_below_drewN | apply below_drew1) | exact HB.out)) hb); clear HB; have HB := n0_; clear n0_; (try clear hb); (try clear hb2); (try clear hk); (try clear hi)) | (go_at_call 4; (with_reducible refine (supercargolaw05_awake.calls  t135 _ A19.out).mono ?_); rintro e w22 ⟨rfl, hb⟩; have n0_ := Aside0.mk (below_step (by repeat (first | (with_reducible first | exact HB.out | apply below_alloc | apply pw_below_drewN | apply below_drew1) | exact HB.out)) hb); clear HB; have HB := n0_; clear n0_; (try clear hb); (try clear hb2); (try clear hk); (try clear hi)))
                  go_ret
                  exact ⟨by first | rfl | (simp [errW_none, errW_some] <;> rfl) | (simp [*, errW_none, errW_some] <;> rfl), by repeat (first | (with_reducible first | exact HB.out | apply below_alloc | apply pw_below_drewN | apply below_drew1) | exact HB.out)⟩
                · rw [if_neg c18] at H
                  have c18b0 : (t133 == a1) = false := beq_eq_false_iff_ne.mpr c18
                  have c18b1 : (t133 != a1) = true := bne_iff_ne.mpr c18
                  obtain rfl := Option.some.inj H
                  go_wp2_with (first | ((with_reducible refine gate_callee (f := 7) rfl ?_); refine goesL_ (some 36) rfl rfl Tryz.func7 (by kernel_rfl) rfl #[.int .i64 a1] rfl (by (try simp only [List.map_toArray, List.map_cons, List.map_nil]); first | done | rfl | (simp only [List.length_drop, List.length_take]; rfl)) ?_; (with_reducible refine (supercargoref05_Digits.calls kj7 a1 t132 _ A13.out).mono ?_); rintro e w23 ⟨rfl, hb⟩; refine ⟨_, rfl, ?_⟩; have n0_ := Aside0.mk (below_step (by repeat (first | (with_reducible first | exact HB.out | apply below_alloc | apply pw_below_drewN | apply below_drew1) | exact HB.out)) hb); clear HB; have HB := n0_; clear n0_; (try clear hb); (try clear hb2); (try clear hk); (try clear hi)) | ((with_reducible refine gate_callee (f := 5) rfl ?_); refine goesL_ (some 37) rfl rfl Tryz.func5 (by kernel_rfl) rfl #[.string t132] rfl (by (try simp only [List.map_toArray, List.map_cons, List.map_nil]); first | done | rfl | (simp only [List.length_drop, List.length_take]; rfl)) ?_; (with_reducible refine (field_Number.calls t132 t133 t134 _ ?sideG A14.out).mono ?_); (case sideG => exact glob_below HGL.out (by repeat (first | (with_reducible first | exact HB.out | apply below_alloc | apply pw_below_drewN | apply below_drew1) | exact HB.out))); rintro e w24 ⟨rfl, hb⟩; refine ⟨_, rfl, ?_⟩; have n0_ := Aside0.mk (below_step (by repeat (first | (with_reducible first | exact HB.out | apply below_alloc | apply pw_below_drewN | apply below_drew1) | exact HB.out)) hb); clear HB; have HB := n0_; clear n0_; (try clear hb); (try clear hb2); (try clear hk); (try clear hi)))
                  go_ret
                  exact ⟨by first | rfl | (simp [errW_none, errW_some] <;> rfl) | (simp [*, errW_none, errW_some] <;> rfl), by repeat (first | (with_reducible first | exact HB.out | apply below_alloc | apply pw_below_drewN | apply below_drew1) | exact HB.out)⟩
              · rw [if_neg c17] at H
                have c17b0 : decide (a1 ≤ 4611686018427387904) = false := decide_eq_false c17
                clear c17
                have c98 : t134 = false := by have z := c16b0; rw [c17b0] at z; simpa using z
                replace H := Option.bind_eq_some_iff.mp H
                obtain ⟨t136, A250, H⟩ := H
                replace H : (some t136) = some r := H
                have A25 := Aside0.mk A250
                clear A250
                obtain rfl := Option.some.inj H
                go_wp2_with (first | ((with_reducible refine gate_callee (f := 7) rfl ?_); refine goesL_ (some 36) rfl rfl Tryz.func7 (by kernel_rfl) rfl #[.int .i64 a1] rfl (by (try simp only [List.map_toArray, List.map_cons, List.map_nil]); first | done | rfl | (simp only [List.length_drop, List.length_take]; rfl)) ?_; (with_reducible refine (supercargoref05_Digits.calls kj7 a1 t132 _ A13.out).mono ?_); rintro e w26 ⟨rfl, hb⟩; refine ⟨_, rfl, ?_⟩; have n0_ := Aside0.mk (below_step (by repeat (first | (with_reducible first | exact HB.out | apply below_alloc | apply pw_below_drewN | apply below_drew1) | exact HB.out)) hb); clear HB; have HB := n0_; clear n0_; (try clear hb); (try clear hb2); (try clear hk); (try clear hi)) | ((with_reducible refine gate_callee (f := 5) rfl ?_); refine goesL_ (some 37) rfl rfl Tryz.func5 (by kernel_rfl) rfl #[.string t132] rfl (by (try simp only [List.map_toArray, List.map_cons, List.map_nil]); first | done | rfl | (simp only [List.length_drop, List.length_take]; rfl)) ?_; (with_reducible refine (field_Number.calls t132 t133 t134 _ ?sideG A14.out).mono ?_); (case sideG => exact glob_below HGL.out (by repeat (first | (with_reducible first | exact HB.out | apply below_alloc | apply pw_below_drewN | apply below_drew1) | exact HB.out))); rintro e w27 ⟨rfl, hb⟩; refine ⟨_, rfl, ?_⟩; have n0_ := Aside0.mk (below_step (by repeat (first | (with_reducible first | exact HB.out | apply below_alloc | apply pw_below_drewN | apply below_drew1) | exact HB.out)) hb); clear HB; have HB := n0_; clear n0_; (try clear hb); (try clear hb2); (try clear hk); (try clear hi)) | (go_at_call 4; (with_reducible refine (supercargolaw05_awake.calls  t136 _ A25.out).mono ?_); rintro e w28 ⟨rfl, hb⟩; have n0_ := Aside0.mk (below_step (by repeat (first | (with_reducible first | exact HB.out | apply below_alloc | apply pw_below_drewN | apply below_drew1) | exact HB.out)) hb); clear HB; have HB := n0_; clear n0_; (try clear hb); (try clear hb2); (try clear hk); (try clear hi)))
                go_ret
                exact ⟨by first | rfl | (simp [errW_none, errW_some] <;> rfl) | (simp [*, errW_none, errW_some] <;> rfl), by repeat (first | (with_reducible first | exact HB.out | apply below_alloc | apply pw_below_drewN | apply below_drew1) | exact HB.out)⟩
            · rw [if_neg c16] at H
              have c16b0 : (t134 == (decide (a1 ≤ 4611686018427387904))) = false := by simpa using c16
              (try (have c16b1 : decide (t134 = (decide (a1 ≤ 4611686018427387904))) = false := by simpa using c16))
              (try (have c16b2 : (t134 == (decide (a1 ≤ 4611686018427387904))) = false := by simpa using c16))
              (try (have c16b3 : ¬ (t134 = (decide (a1 ≤ 4611686018427387904))) := by simpa using c16))
              clear c16
              obtain rfl := Option.some.inj H
              by_cases c99 : a1 ≤ 4611686018427387904
              · have c17b0 : decide (a1 ≤ 4611686018427387904) = true := decide_eq_true c99
                clear c99
                have c98 : t134 = false := by have z := c16b0; rw [c17b0] at z; cases t134 <;> simp_all
                go_wp2_with (first | ((with_reducible refine gate_callee (f := 7) rfl ?_); refine goesL_ (some 36) rfl rfl Tryz.func7 (by kernel_rfl) rfl #[.int .i64 a1] rfl (by (try simp only [List.map_toArray, List.map_cons, List.map_nil]); first | done | rfl | (simp only [List.length_drop, List.length_take]; rfl)) ?_; (with_reducible refine (supercargoref05_Digits.calls kj7 a1 t132 _ A13.out).mono ?_); rintro e w29 ⟨rfl, hb⟩; refine ⟨_, rfl, ?_⟩; have n0_ := Aside0.mk (below_step (by repeat (first | (with_reducible first | exact HB.out | apply below_alloc | apply pw_below_drewN | apply below_drew1) | exact HB.out)) hb); clear HB; have HB := n0_; clear n0_; (try clear hb); (try clear hb2); (try clear hk); (try clear hi)) | ((with_reducible refine gate_callee (f := 5) rfl ?_); refine goesL_ (some 37) rfl rfl Tryz.func5 (by kernel_rfl) rfl #[.string t132] rfl (by (try simp only [List.map_toArray, List.map_cons, List.map_nil]); first | done | rfl | (simp only [List.length_drop, List.length_take]; rfl)) ?_; (with_reducible refine (field_Number.calls t132 t133 t134 _ ?sideG A14.out).mono ?_); (case sideG => exact glob_below HGL.out (by repeat (first | (with_reducible first | exact HB.out | apply below_alloc | apply pw_below_drewN | apply below_drew1) | exact HB.out))); rintro e w30 ⟨rfl, hb⟩; refine ⟨_, rfl, ?_⟩; have n0_ := Aside0.mk (below_step (by repeat (first | (with_reducible first | exact HB.out | apply below_alloc | apply pw_below_drewN | apply below_drew1) | exact HB.out)) hb); clear HB; have HB := n0_; clear n0_; (try clear hb); (try clear hb2); (try clear hk); (try clear hi)))
                go_ret
                exact ⟨by first | rfl | (simp [errW_none, errW_some] <;> rfl) | (simp [*, errW_none, errW_some] <;> rfl), by repeat (first | (with_reducible first | exact HB.out | apply below_alloc | apply pw_below_drewN | apply below_drew1) | exact HB.out)⟩
              · have c17b0 : decide (a1 ≤ 4611686018427387904) = false := decide_eq_false c99
                clear c99
                have c98 : t134 = true := by have z := c16b0; rw [c17b0] at z; cases t134 <;> simp_all
                go_wp2_with (first | ((with_reducible refine gate_callee (f := 7) rfl ?_); refine goesL_ (some 36) rfl rfl Tryz.func7 (by kernel_rfl) rfl #[.int .i64 a1] rfl (by (try simp only [List.map_toArray, List.map_cons, List.map_nil]); first | done | rfl | (simp only [List.length_drop, List.length_take]; rfl)) ?_; (with_reducible refine (supercargoref05_Digits.calls kj7 a1 t132 _ A13.out).mono ?_); rintro e w29 ⟨rfl, hb⟩; refine ⟨_, rfl, ?_⟩; have n0_ := Aside0.mk (below_step (by repeat (first | (with_reducible first | exact HB.out | apply below_alloc | apply pw_below_drewN | apply below_drew1) | exact HB.out)) hb); clear HB; have HB := n0_; clear n0_; (try clear hb); (try clear hb2); (try clear hk); (try clear hi)) | ((with_reducible refine gate_callee (f := 5) rfl ?_); refine goesL_ (some 37) rfl rfl Tryz.func5 (by kernel_rfl) rfl #[.string t132] rfl (by (try simp only [List.map_toArray, List.map_cons, List.map_nil]); first | done | rfl | (simp only [List.length_drop, List.length_take]; rfl)) ?_; (with_reducible refine (field_Number.calls t132 t133 t134 _ ?sideG A14.out).mono ?_); (case sideG => exact glob_below HGL.out (by repeat (first | (with_reducible first | exact HB.out | apply below_alloc | apply pw_below_drewN | apply below_drew1) | exact HB.out))); rintro e w30 ⟨rfl, hb⟩; refine ⟨_, rfl, ?_⟩; have n0_ := Aside0.mk (below_step (by repeat (first | (with_reducible first | exact HB.out | apply below_alloc | apply pw_below_drewN | apply below_drew1) | exact HB.out)) hb); clear HB; have HB := n0_; clear n0_; (try clear hb); (try clear hb2); (try clear hk); (try clear hi)))
                go_ret
                exact ⟨by first | rfl | (simp [errW_none, errW_some] <;> rfl) | (simp [*, errW_none, errW_some] <;> rfl), by repeat (first | (with_reducible first | exact HB.out | apply below_alloc | apply pw_below_drewN | apply below_drew1) | exact HB.out)⟩
          · rw [if_neg c15] at H
            have c15b0 : decide ((-4611686018427387904) ≤ a1) = false := decide_eq_false c15
            clear c15
            by_cases c31 : (t134 == false) = true
            · rw [if_pos c31] at H
              have c31b0 : (t134 == false) = true := c31
              (try (have c31b1 : decide (t134 = false) = true := by simpa using c31))
              (try (have c31b2 : (t134 == false) = true := by simpa using c31))
              clear c31
              replace H := Option.bind_eq_some_iff.mp H
              obtain ⟨t137, A320, H⟩ := H
              replace H : (some t137) = some r := H
              have A32 := Aside0.mk A320
              clear A320
              obtain rfl := Option.some.inj H
              go_wp2_with (first | ((with_reducible refine gate_callee (f := 7) rfl ?_); refine goesL_ (some 36) rfl rfl Tryz.func7 (by kernel_rfl) rfl #[.int .i64 a1] rfl (by (try simp only [List.map_toArray, List.map_cons, List.map_nil]); first | done | rfl | (simp only [List.length_drop, List.length_take]; rfl)) ?_; (with_reducible refine (supercargoref05_Digits.calls kj7 a1 t132 _ A13.out).mono ?_); rintro e w33 ⟨rfl, hb⟩; refine ⟨_, rfl, ?_⟩; have n0_ := Aside0.mk (below_step (by repeat (first | (with_reducible first | exact HB.out | apply below_alloc | apply pw_below_drewN | apply below_drew1) | exact HB.out)) hb); clear HB; have HB := n0_; clear n0_; (try clear hb); (try clear hb2); (try clear hk); (try clear hi)) | ((with_reducible refine gate_callee (f := 5) rfl ?_); refine goesL_ (some 37) rfl rfl Tryz.func5 (by kernel_rfl) rfl #[.string t132] rfl (by (try simp only [List.map_toArray, List.map_cons, List.map_nil]); first | done | rfl | (simp only [List.length_drop, List.length_take]; rfl)) ?_; (with_reducible refine (field_Number.calls t132 t133 t134 _ ?sideG A14.out).mono ?_); (case sideG => exact glob_below HGL.out (by repeat (first | (with_reducible first | exact HB.out | apply below_alloc | apply pw_below_drewN | apply below_drew1) | exact HB.out))); rintro e w34 ⟨rfl, hb⟩; refine ⟨_, rfl, ?_⟩; have n0_ := Aside0.mk (below_step (by repeat (first | (with_reducible first | exact HB.out | apply below_alloc | apply pw_below_drewN | apply below_drew1) | exact HB.out)) hb); clear HB; have HB := n0_; clear n0_; (try clear hb); (try clear hb2); (try clear hk); (try clear hi)) | (go_at_call 4; (with_reducible refine (supercargolaw05_awake.calls  t137 _ A32.out).mono ?_); rintro e w35 ⟨rfl, hb⟩; have n0_ := Aside0.mk (below_step (by repeat (first | (with_reducible first | exact HB.out | apply below_alloc | apply pw_below_drewN | apply below_drew1) | exact HB.out)) hb); clear HB; have HB := n0_; clear n0_; (try clear hb); (try clear hb2); (try clear hk); (try clear hi)))
              go_ret
              exact ⟨by first | rfl | (simp [errW_none, errW_some] <;> rfl) | (simp [*, errW_none, errW_some] <;> rfl), by repeat (first | (with_reducible first | exact HB.out | apply below_alloc | apply pw_below_drewN | apply below_drew1) | exact HB.out)⟩
            · rw [if_neg c31] at H
              have c31b0 : (t134 == false) = false := by simpa using c31
              (try (have c31b1 : decide (t134 = false) = false := by simpa using c31))
              (try (have c31b2 : (t134 == false) = false := by simpa using c31))
              (try (have c31b3 : ¬ (t134 = false) := by simpa using c31))
              clear c31
              obtain rfl := Option.some.inj H
              go_wp2_with (first | ((with_reducible refine gate_callee (f := 7) rfl ?_); refine goesL_ (some 36) rfl rfl Tryz.func7 (by kernel_rfl) rfl #[.int .i64 a1] rfl (by (try simp only [List.map_toArray, List.map_cons, List.map_nil]); first | done | rfl | (simp only [List.length_drop, List.length_take]; rfl)) ?_; (with_reducible refine (supercargoref05_Digits.calls kj7 a1 t132 _ A13.out).mono ?_); rintro e w36 ⟨rfl, hb⟩; refine ⟨_, rfl, ?_⟩; have n0_ := Aside0.mk (below_step (by repeat (first | (with_reducible first | exact HB.out | apply below_alloc | apply pw_below_drewN | apply below_drew1) | exact HB.out)) hb); clear HB; have HB := n0_; clear n0_; (try clear hb); (try clear hb2); (try clear hk); (try clear hi)) | ((with_reducible refine gate_callee (f := 5) rfl ?_); refine goesL_ (some 37) rfl rfl Tryz.func5 (by kernel_rfl) rfl #[.string t132] rfl (by (try simp only [List.map_toArray, List.map_cons, List.map_nil]); first | done | rfl | (simp only [List.length_drop, List.length_take]; rfl)) ?_; (with_reducible refine (field_Number.calls t132 t133 t134 _ ?sideG A14.out).mono ?_); (case sideG => exact glob_below HGL.out (by repeat (first | (with_reducible first | exact HB.out | apply below_alloc | apply pw_below_drewN | apply below_drew1) | exact HB.out))); rintro e w37 ⟨rfl, hb⟩; refine ⟨_, rfl, ?_⟩; have n0_ := Aside0.mk (below_step (by repeat (first | (with_reducible first | exact HB.out | apply below_alloc | apply pw_below_drewN | apply below_drew1) | exact HB.out)) hb); clear HB; have HB := n0_; clear n0_; (try clear hb); (try clear hb2); (try clear hk); (try clear hi)))
              go_ret
              exact ⟨by first | rfl | (simp [errW_none, errW_some] <;> rfl) | (simp [*, errW_none, errW_some] <;> rfl), by repeat (first | (with_reducible first | exact HB.out | apply below_alloc | apply pw_below_drewN | apply below_drew1) | exact HB.out)⟩

/-- THE ONE PURE STATEMENT of supercargolaw05_FieldNumbers: yours. -/
def supercargolaw05_FieldNumbers.Pure : Prop := ∀ (a0 : ByteArray) (a1 : Int), a0.size ≤ 140737488351232 → (Lit.int .i64 a1).wf = true → ∃ k, supercargolaw05_FieldNumbers.f k a0 a1 = some true
theorem supercargolaw05_FieldNumbers.walk (P : supercargolaw05_FieldNumbers.Pure) (a0 : ByteArray) (a1 : Int) (w : World) (hG : Glob w) (w0 : a0.size ≤ 140737488351232) (w1 : (Lit.int .i64 a1).wf = true) :
    Calls Tryz.prog 3 #[.string a0, .int .i64 a1] w fun e w' => e = .returned (.bool true) ∧ Below w.heap.size w w' := by
  obtain ⟨k, h⟩ := P a0 a1 w0 w1
  refine (supercargolaw05_FieldNumbers.calls k a0 a1 true w hG h).mono ?_
  rintro e w' ⟨rfl, hd⟩
  exact ⟨rfl, hd⟩

end Go.Proofs.YtpkcbbjflcfdeaaGreatDoor.P
