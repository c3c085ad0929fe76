-- WRITTEN BY wip/gprint.py of this seat's repository, over the kit's printer, with given contracts.
import Derived.Test.YtkblmomfiimkiaaGreatDoorPx0
namespace Go.Proofs.YtkblmomfiimkiaaGreatDoor.P
open Go.RowKit Go.Proofs.YtkblmomfiimkiaaGreatDoorW.PrintWords Go.Proofs.YtkblmomfiimkiaaGreatDoorW.PrintLast Go.Proofs.YtkblmomfiimkiaaGreatDoorW.PrintMore
attribute [local go_sem] max2_int min2_int max_two min_two max_three min_three max_four min_four   -- for this text's walks alone
set_option linter.unusedVariables false
set_option linter.unusedSimpArgs false

/-! ### money_digits: function 117 -/
def money_digits.j0 : Nat → ByteArray → Bool → Option (Int)
  | 0, _, _ => none
  | k + 1, x3, x4 => if x4 = true then (some 0) else (if x3.toList = ([66, 72, 68] : List UInt8) then (some 3) else (if x3.toList = ([75, 87, 68] : List UInt8) then (some 3) else (if x3.toList = ([84, 78, 68] : List UInt8) then (some 3) else (some 2))))
def money_digits.f (k : Nat) (a0 : ByteArray) : Option (Int) := if a0.toList = ([74, 80, 89] : List UInt8) then (money_digits.j0 k a0 (a0.toList == ([74, 80, 89] : List UInt8))) else (money_digits.j0 k a0 (a0.toList == ([75, 82, 87] : List UInt8)))
theorem money_digits.mono_l : ∀ k, (∀ y0 y1, LeO (money_digits.j0 k y0 y1) (money_digits.j0 (k + 1) y0 y1))
  | 0 => fun _ _ r h => by simp [money_digits.j0] at h
  | k + 1 => by
    have ih0 := money_digits.mono_l k
    · intro y0 y1
      unfold money_digits.j0
      repeat' first
      | (with_reducible exact ih0 _ _)
      | (with_reducible exact LeO.refl _)
      | (with_reducible exact LeO.none _)
      | (with_reducible refine LeO.ite ?_ ?_)
      | (with_reducible refine LeO.bind ?_ (fun _ => ?_))
      | exact ih0 _ _
      | exact LeO.none _
      | refine LeO.ite ?_ ?_
      | refine LeO.bind ?_ (fun _ => ?_)
theorem money_digits.mono : ∀ a0 k, LeO (money_digits.f k a0) (money_digits.f (k + 1) a0) := by
  intro a0 k
  have ih0 := money_digits.mono_l k
  unfold money_digits.f
  repeat' first
      | (with_reducible exact ih0 _ _)
      | (with_reducible exact LeO.refl _)
      | (with_reducible exact LeO.none _)
      | (with_reducible refine LeO.ite ?_ ?_)
      | (with_reducible refine LeO.bind ?_ (fun _ => ?_))
      | exact ih0 _ _
      | exact LeO.none _
      | refine LeO.ite ?_ ?_
      | refine LeO.bind ?_ (fun _ => ?_)
set_option maxHeartbeats 8000000 in
set_option maxRecDepth 100000 in
theorem money_digits.calls (k : Nat) (a0 : ByteArray) (r : Int) (w : World) (h : money_digits.f k a0 = some r) :
    Calls Tryz.prog 117 #[.string a0] w fun e w' => e = .returned (.int .i64 r) ∧ Drawn0 w w' := by
  have H : (if a0.toList = ([74, 80, 89] : List UInt8) then (money_digits.j0 k a0 (a0.toList == ([74, 80, 89] : List UInt8))) else (money_digits.j0 k a0 (a0.toList == ([75, 82, 87] : List UInt8)))) = some r := h
  clear h
  have HC2 := Aside0.mk H
  clear H
  go_enter Tryz.func117, Tryz.ntmps117
  go_upto_if 4 with (fail)
  go_cut [4] (fun v4 wc => ∃ (kq : Nat) (x4_1 : Bool), v4 = .bool x4_1 ∧ Aside0 (money_digits.j0 kq a0 x4_1 = some r) ∧ Aside0 (kq ≤ k) ∧ Drawn0 w wc)
  case first =>
    have H := HC2.out
    clear HC2
    by_cases c3 : a0.toList = ([74, 80, 89] : List UInt8)
    · rw [if_pos c3] at H
      have c3b0 : (a0.toList == ([74, 80, 89] : List UInt8)) = true := beq_iff_eq.mpr c3
      have c3b1 : (a0.toList != ([74, 80, 89] : List UInt8)) = false := bne_eq_false_iff_eq.mpr c3
      clear c3
      (first | rw [c3b0] | (simp only [i64_w, i32_w]; rw [c3b0]) | skip)
      have H' := Aside0.mk H
      clear H
      go_wp2
      go_meet
      case rel => exact ⟨_, ((a0.toList == ([74, 80, 89] : List UInt8))), (by first | rfl | (simp; done) | (simp [*]; done)), H', ⟨by first | omega | exact Nat.le_refl _⟩, by repeat (first | exact Drawn0.refl _ | apply Drawn0.step)⟩
    · rw [if_neg c3] at H
      have c3b0 : (a0.toList == ([74, 80, 89] : List UInt8)) = false := beq_eq_false_iff_ne.mpr c3
      have c3b1 : (a0.toList != ([74, 80, 89] : List UInt8)) = true := bne_iff_ne.mpr c3
      (first | rw [c3b0] | (simp only [i64_w, i32_w]; rw [c3b0]) | skip)
      have H' := Aside0.mk H
      clear H
      go_wp2
      go_meet
      case rel => exact ⟨_, ((a0.toList == ([75, 82, 87] : List UInt8))), (by first | rfl | (simp; done) | (simp [*]; done)), H', ⟨by first | omega | exact Nat.le_refl _⟩, by repeat (first | exact Drawn0.refl _ | apply Drawn0.step)⟩
  case rest =>
    clear HC2
    try clear c1
    try clear p2
    try clear c3
    try clear c3b0
    try clear c3b1
    obtain ⟨kq, x4_1, rfl, HA, HJ1, ⟨mc1, rfl⟩⟩ := hcut
    cases kq with
    | zero => exact absurd HA.out (by simp [money_digits.j0])
    | succ kj1 =>
      have H := HA.out
      clear HA
      simp only [money_digits.j0] at H
      by_cases c4 : x4_1 = true
      · subst c4
        have H1 : (some 0) = some r := by rw [if_pos rfl] at H; exact H
        clear H
        have H := H1
        clear H1
        obtain rfl := Option.some.inj H
        go_wp2
        go_ret
        exact ⟨by first | rfl | (simp; done) | (simp [*]; done), by repeat (first | exact Drawn0.refl _ | apply Drawn0.step)⟩
      · replace c4 := Bool.eq_false_iff.mpr c4
        subst c4
        have H1 : (if a0.toList = ([66, 72, 68] : List UInt8) then (some 3) else (if a0.toList = ([75, 87, 68] : List UInt8) then (some 3) else (if a0.toList = ([84, 78, 68] : List UInt8) then (some 3) else (some 2)))) = some r := by rw [if_neg (show ¬ (false = true) by decide)] at H; exact H
        clear H
        have H := H1
        clear H1
        by_cases c5 : a0.toList = ([66, 72, 68] : List UInt8)
        · rw [if_pos c5] at H
          have c5b0 : (a0.toList == ([66, 72, 68] : List UInt8)) = true := beq_iff_eq.mpr c5
          have c5b1 : (a0.toList != ([66, 72, 68] : List UInt8)) = false := bne_eq_false_iff_eq.mpr c5
          clear c5
          obtain rfl := Option.some.inj H
          go_wp2
          go_ret
          exact ⟨by first | rfl | (simp; done) | (simp [*]; done), by repeat (first | exact Drawn0.refl _ | apply Drawn0.step)⟩
        · rw [if_neg c5] at H
          have c5b0 : (a0.toList == ([66, 72, 68] : List UInt8)) = false := beq_eq_false_iff_ne.mpr c5
          have c5b1 : (a0.toList != ([66, 72, 68] : List UInt8)) = true := bne_iff_ne.mpr c5
          by_cases c6 : a0.toList = ([75, 87, 68] : List UInt8)
          · rw [if_pos c6] at H
            have c6b0 : (a0.toList == ([75, 87, 68] : List UInt8)) = true := beq_iff_eq.mpr c6
            have c6b1 : (a0.toList != ([75, 87, 68] : List UInt8)) = false := bne_eq_false_iff_eq.mpr c6
            clear c6
            obtain rfl := Option.some.inj H
            go_wp2
            go_ret
            exact ⟨by first | rfl | (simp; done) | (simp [*]; done), by repeat (first | exact Drawn0.refl _ | apply Drawn0.step)⟩
          · rw [if_neg c6] at H
            have c6b0 : (a0.toList == ([75, 87, 68] : List UInt8)) = false := beq_eq_false_iff_ne.mpr c6
            have c6b1 : (a0.toList != ([75, 87, 68] : List UInt8)) = true := bne_iff_ne.mpr c6
            by_cases c7 : a0.toList = ([84, 78, 68] : List UInt8)
            · rw [if_pos c7] at H
              have c7b0 : (a0.toList == ([84, 78, 68] : List UInt8)) = true := beq_iff_eq.mpr c7
              have c7b1 : (a0.toList != ([84, 78, 68] : List UInt8)) = false := bne_eq_false_iff_eq.mpr c7
              clear c7
              obtain rfl := Option.some.inj H
              go_wp2
              go_ret
              exact ⟨by first | rfl | (simp; done) | (simp [*]; done), by repeat (first | exact Drawn0.refl _ | apply Drawn0.step)⟩
            · rw [if_neg c7] at H
              have c7b0 : (a0.toList == ([84, 78, 68] : List UInt8)) = false := beq_eq_false_iff_ne.mpr c7
              have c7b1 : (a0.toList != ([84, 78, 68] : List UInt8)) = true := bne_iff_ne.mpr c7
              obtain rfl := Option.some.inj H
              go_wp2
              go_ret
              exact ⟨by first | rfl | (simp; done) | (simp [*]; done), by repeat (first | exact Drawn0.refl _ | apply Drawn0.step)⟩

end Go.Proofs.YtkblmomfiimkiaaGreatDoor.P
