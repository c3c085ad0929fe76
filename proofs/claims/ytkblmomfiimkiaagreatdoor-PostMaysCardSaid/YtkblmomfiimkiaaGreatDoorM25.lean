/- What the claim's theorem leans on. Conditions: none of its own. (Written by prune.py out of the texts Short Px23 Px1, without what the claim doesn't lean on.) -/
import Derived.Test.YtkblmomfiimkiaaGreatDoorM2
import Derived.Test.YtkblmomfiimkiaaGreatDoorM4
import Derived.Test.YtkblmomfiimkiaaGreatDoorM24
section
namespace Go.Proofs.YtkblmomfiimkiaaGreatDoor.P
open Go.RowKit Go.Proofs.YtkblmomfiimkiaaGreatDoorW.PrintWords Go.Proofs.YtkblmomfiimkiaaGreatDoorW.PrintLast Go.Proofs.YtkblmomfiimkiaaGreatDoorW.PrintMore
theorem short_l2 (a0 : ByteArray) (a1 : ByteArray) (a2 : Int) (a3 : Int) (a4 : Int) (a5 : ByteArray) (a6 : ByteArray) (a7 : ByteArray) (a8 : Int) (a9 : Int) (a10 : ByteArray) (a11 : Int) (al12 : List S38) (al13 : List ByteArray) (hs : al13.length ≤ 4611686018427387904) : ∀ (d i : Nat) (x3 : Int), i + d = al13.length →
  ∃ k r, supercargolaw09_short.l2 k x3 al13 (al13.length : Int) (i : Int) a0 a1 a2 a3 a4 a5 a6 a7 a8 a9 a10 a11 al12 al13 = some r ∧ (r = true → al12.length ≤ 12 ∧ al13.length ≤ 60) := by
 intro d
 induction d with
 | zero =>
  intro i x3 h1
  by_cases h9 : x3 ≤ 9000
  ·
   by_cases h12 : (al12.length : Int) ≤ 12
   ·
    refine ⟨1, decide ((al13.length : Int) ≤ 60), ?_, fun h => ⟨by omega, by have := of_decide_eq_true h; omega⟩⟩
    simp only [supercargolaw09_short.l2]
    rw [if_neg (by omega), if_pos h9, if_pos h12]
   ·
    refine ⟨1, false, ?_, fun h => by cases h⟩
    simp only [supercargolaw09_short.l2]
    rw [if_neg (by omega), if_pos h9, if_neg h12]
  ·
   refine ⟨1, false, ?_, fun h => by cases h⟩
   simp only [supercargolaw09_short.l2]
   rw [if_neg (by omega), if_neg h9]
 | succ d ih =>
  intro i x3 h1
  obtain ⟨k, r, hk, hr⟩ := ih (i + 1) (wrap64 (x3 + ((rdOf ByteArray.empty al13 (i : Int)).size : Int))) (by omega)
  refine ⟨k + 1, r, ?_, hr⟩
  simp only [supercargolaw09_short.l2]
  rw [if_pos (by omega), if_pos (by omega), if_pos (by omega), wr_nat i (by omega), hk]
theorem short_l1 (a0 : ByteArray) (a1 : ByteArray) (a2 : Int) (a3 : Int) (a4 : Int) (a5 : ByteArray) (a6 : ByteArray) (a7 : ByteArray) (a8 : Int) (a9 : Int) (a10 : ByteArray) (a11 : Int) (al12 : List S38) (al13 : List ByteArray) (x30 : List S38) (x31 x32 : Int) (Q : Prop) (y0 : Int) (y1 y2 : ByteArray) (fl : List S43) (hs : fl.length ≤ 4611686018427387904)
  (hn : ∀ x3, ∃ k r, supercargolaw09_short.l0 k x3 x30 x31 (wrap64 (x32 + 1)) a0 a1 a2 a3 a4 a5 a6 a7 a8 a9 a10 a11 al12 al13 = some r ∧ (r = true → Q)) : ∀ (d i : Nat) (x3 : Int), i + d = fl.length →
  ∃ k r, supercargolaw09_short.l1 k x3 x30 x31 x32 fl (fl.length : Int) (i : Int) a0 a1 a2 a3 a4 a5 a6 a7 a8 a9 a10 a11 al12 al13 y0 y1 y2 fl = some r ∧ (r = true → Q ∧ fl.length ≤ 80) := by
 intro d
 induction d with
 | zero =>
  intro i x3 h1
  by_cases h9 : x3 > 9000
  ·
   refine ⟨1, false, ?_, fun h => by cases h⟩
   simp only [supercargolaw09_short.l1]
   rw [if_neg (by omega), if_pos h9]
  ·
   by_cases h80 : (fl.length : Int) > 80
   ·
    refine ⟨1, false, ?_, fun h => by cases h⟩
    simp only [supercargolaw09_short.l1]
    rw [if_neg (by omega), if_neg h9, if_pos h80]
   ·
    obtain ⟨k, r, hk, hr⟩ := hn x3
    refine ⟨k + 1, r, ?_, fun h => ⟨hr h, by omega⟩⟩
    simp only [supercargolaw09_short.l1]
    rw [if_neg (by omega), if_neg h9, if_neg h80, hk]
 | succ d ih =>
  intro i x3 h1
  obtain ⟨k, r, hk, hr⟩ := ih (i + 1) (wrap64 (x3 + (wrap64 ((((rd_T43 fl (i : Int)).f0).size : Int) + (((rd_T43 fl (i : Int)).f1).size : Int))))) (by omega)
  refine ⟨k + 1, r, ?_, hr⟩
  simp only [supercargolaw09_short.l1]
  rw [if_pos (by omega), if_pos (by omega), if_pos (by omega), wr_nat i (by omega), hk]
theorem short_l0 (a0 : ByteArray) (a1 : ByteArray) (a2 : Int) (a3 : Int) (a4 : Int) (a5 : ByteArray) (a6 : ByteArray) (a7 : ByteArray) (a8 : Int) (a9 : Int) (a10 : ByteArray) (a11 : Int) (al12 : List S38) (al13 : List ByteArray) (hs : al12.length ≤ 4611686018427387904) (hs2 : al13.length ≤ 4611686018427387904) (hs3 : ∀ x ∈ al12, x.f3.length ≤ 4611686018427387904) : ∀ (d i : Nat) (x3 : Int), i + d = al12.length →
  ∃ k r, supercargolaw09_short.l0 k x3 al12 (al12.length : Int) (i : Int) a0 a1 a2 a3 a4 a5 a6 a7 a8 a9 a10 a11 al12 al13 = some r ∧ (r = true → (al12.length ≤ 12 ∧ al13.length ≤ 60) ∧ ∀ x ∈ al12.drop i, x.f3.length ≤ 80) := by
 intro d
 induction d with
 | zero =>
  intro i x3 h1
  obtain ⟨k, r, hk, hr⟩ := short_l2 a0 a1 a2 a3 a4 a5 a6 a7 a8 a9 a10 a11 al12 al13 hs2 al13.length 0 x3 (by omega)
  refine ⟨k + 1, r, ?_, fun h => ⟨hr h, fun x hx => by rw [List.drop_eq_nil_of_le (by omega)] at hx; cases hx⟩⟩
  simp only [supercargolaw09_short.l0]
  rw [if_neg (by omega)]
  exact hk
 | succ d ih =>
  intro i x3 h1
  have hi : i < al12.length := by omega
  have hn : ∀ x3, ∃ k r, supercargolaw09_short.l0 k x3 al12 (al12.length : Int) (wrap64 ((i : Int) + 1)) a0 a1 a2 a3 a4 a5 a6 a7 a8 a9 a10 a11 al12 al13 = some r ∧ (r = true → (al12.length ≤ 12 ∧ al13.length ≤ 60) ∧ ∀ x ∈ al12.drop (i + 1), x.f3.length ≤ 80) := by
   intro x3
   rw [wr_nat i (by omega)]
   exact ih (i + 1) x3 (by omega)
  obtain ⟨k, r, hk, hr⟩ := short_l1 a0 a1 a2 a3 a4 a5 a6 a7 a8 a9 a10 a11 al12 al13 al12 (al12.length : Int) (i : Int) _ (al12[i]).f0 (al12[i]).f1 (al12[i]).f2 (al12[i]).f3 (hs3 _ (List.getElem_mem hi)) hn (al12[i]).f3.length 0 (wrap64 (x3 + (wrap64 ((((al12[i]).f1).size : Int) + (((al12[i]).f2).size : Int))))) (by omega)
  refine ⟨k + 1, r, ?_, fun h => ⟨(hr h).1.1, fun x hx => ?_⟩⟩
  ·
   simp only [supercargolaw09_short.l0]
   rw [if_pos (by omega), if_pos (by omega), if_pos (by omega), rdD_nat al12 i hi]
   exact hk
  ·
   rw [List.drop_eq_getElem_cons hi] at hx
   rcases List.mem_cons.1 hx with e | e
   ·
    rw [e]; exact (hr h).2
   ·
    exact (hr h).1.2 x e
theorem short_f (a0 : ByteArray) (a1 : ByteArray) (a2 : Int) (a3 : Int) (a4 : Int) (a5 : ByteArray) (a6 : ByteArray) (a7 : ByteArray) (a8 : Int) (a9 : Int) (a10 : ByteArray) (a11 : Int) (al12 : List S38) (al13 : List ByteArray) (hs : al12.length ≤ 4611686018427387904) (hs2 : al13.length ≤ 4611686018427387904) (hs3 : ∀ x ∈ al12, x.f3.length ≤ 4611686018427387904) :
  ∃ k r, supercargolaw09_short.f k a0 a1 a2 a3 a4 a5 a6 a7 a8 a9 a10 a11 al12 al13 = some r ∧ (r = true → (al12.length ≤ 12 ∧ al13.length ≤ 60) ∧ ∀ x ∈ al12, x.f3.length ≤ 80) := by
 unfold supercargolaw09_short.f
 obtain ⟨k, r, hk, hr⟩ := short_l0 a0 a1 a2 a3 a4 a5 a6 a7 a8 a9 a10 a11 al12 al13 hs hs2 hs3 al12.length 0 (wrap64 ((wrap64 ((wrap64 ((wrap64 ((a0.size : Int) + (a1.size : Int))) + (a5.size : Int))) + (a7.size : Int))) + (a6.size : Int))) (by omega)
 exact ⟨k, r, hk, fun h => ⟨(hr h).1, fun x hx => (hr h).2 x (by rw [List.drop_zero]; exact hx)⟩⟩
end Go.Proofs.YtkblmomfiimkiaaGreatDoor.P
end

section
namespace Go.Proofs.YtkblmomfiimkiaaGreatDoor.P
open Go.RowKit Go.Proofs.YtkblmomfiimkiaaGreatDoorW.PrintWords Go.Proofs.YtkblmomfiimkiaaGreatDoorW.PrintLast Go.Proofs.YtkblmomfiimkiaaGreatDoorW.PrintMore
attribute [local go_sem] max2_int min2_int max_two min_two max_three min_three max_four min_four   -- for this text's walks alone
set_option linter.unusedVariables false
set_option linter.unusedSimpArgs false
attribute [local go_sem high] eqA43
def supercargoref05_Same.l0 : Nat → List (S43) → List (S43) → Int → Option (Bool)
 | 0, _, _, _ => none
 | k + 1, x0, x1, x5 => if x5 < (x0.length : Int) then (if 0 ≤ x5 then (if x5 < (x1.length : Int) then (if (!((((rd_T43 x0 x5).f0).toList) == (((rd_T43 x1 x5).f0).toList)) || (!((((rd_T43 x0 x5).f1).toList) == (((rd_T43 x1 x5).f1).toList)))) = true then (some false) else (supercargoref05_Same.l0 k x0 x1 (wrap64 (x5 + 1)))) else (none)) else (none)) else (some true)
def supercargoref05_Same.f (k : Nat) (l0 : List (S43)) (l1 : List (S43)) : Option (Bool) := if (l0.length : Int) = (l1.length : Int) then (supercargoref05_Same.l0 k l0 l1 0) else (some false)
theorem supercargoref05_Same.mono_l : ∀ k, (∀ y0 y1 y2, LeO (supercargoref05_Same.l0 k y0 y1 y2) (supercargoref05_Same.l0 (k + 1) y0 y1 y2))
 | 0 => fun _ _ _ r h => by simp [supercargoref05_Same.l0] at h
 | k + 1 => by
  have ih0 := supercargoref05_Same.mono_l k
  ·
   intro y0 y1 y2
   unfold supercargoref05_Same.l0
   repeat' first
   | (with_reducible exact ih0 _ _ _)
   | (with_reducible exact LeO.refl _)
   | (with_reducible exact LeO.none _)
   | (with_reducible refine LeO.ite ?_ ?_)
   | (with_reducible refine LeO.bind ?_ (fun _ => ?_))
   | exact ih0 _ _ _
   | exact LeO.none _
   | refine LeO.ite ?_ ?_
   | refine LeO.bind ?_ (fun _ => ?_)
theorem supercargoref05_Same.mono : ∀ a0 a1 k, LeO (supercargoref05_Same.f k a0 a1) (supercargoref05_Same.f (k + 1) a0 a1) := by
 intro a0 a1 k
 have ih0 := supercargoref05_Same.mono_l k
 unfold supercargoref05_Same.f
 repeat' first
   | (with_reducible exact ih0 _ _ _)
   | (with_reducible exact LeO.refl _)
   | (with_reducible exact LeO.none _)
   | (with_reducible refine LeO.ite ?_ ?_)
   | (with_reducible refine LeO.bind ?_ (fun _ => ?_))
   | exact ih0 _ _ _
   | exact LeO.none _
   | refine LeO.ite ?_ ?_
   | refine LeO.bind ?_ (fun _ => ?_)
set_option maxHeartbeats 8000000 in
set_option maxRecDepth 100000 in
theorem supercargoref05_Same.calls (k : Nat) (A0 : Option Addr) (c0 : Nat) (l0 : List (S43)) (A1 : Option Addr) (c1 : Nat) (l1 : List (S43)) (r : Bool) (w : World) (hr0 : Kd.C k43 w A0 l0.length l0) (hc0 : l0.length ≤ c0) (hr1 : Kd.C k43 w A1 l1.length l1) (hc1 : l1.length ≤ c1) (h : supercargoref05_Same.f k l0 l1 = some r) :
  Calls Tryz.prog 18 #[.slice A0 l0.length c0, .slice A1 l1.length c1] w fun e w' => e = .returned (.bool r) ∧ Drawn0 w w' := by
 have hu43 := Tryz.underlying43
 have HR0 := Aside0.mk hr0
 have HC0 := Aside0.mk hc0
 clear hr0 hc0
 have HR1 := Aside0.mk hr1
 have HC1 := Aside0.mk hc1
 clear hr1 hc1
 have H : (if (l0.length : Int) = (l1.length : Int) then (supercargoref05_Same.l0 k l0 l1 0) else (some false)) = some r := h
 clear h
 by_cases c3 : (l0.length : Int) = (l1.length : Int)
 ·
  rw [if_pos c3] at H
  have c3b0 : ((l0.length : Int) == (l1.length : Int)) = true := beq_iff_eq.mpr c3
  have c3b1 : ((l0.length : Int) != (l1.length : Int)) = false := bne_eq_false_iff_eq.mpr c3
  have c3b2 : (l0.length == l1.length) = true := by first | simpa using c3 | (simp at c3 ⊢; omega)
  clear c3
  have H' := Aside0.mk H
  clear H
  go_enter Tryz.func18, Tryz.ntmps18
  go_wp2
  repeat (go_quiet (fail); try go_wp2)
  go_loopg [5] k (fun kq v5 w' => ∃ (x5_1 : Int), v5 = .int .i64 x5_1 ∧ Aside0 (supercargoref05_Same.l0 kq l0 l1 x5_1 = some r) ∧ Aside0 (kq ≤ k) ∧ Drawn0 w w')
  case atStart => exact ⟨(0), (by first | rfl | (simp; done) | (simp [*]; done)), H', ⟨Nat.le_refl _⟩, by repeat (first | exact Drawn0.refl _ | apply Drawn0.step)⟩
  case round =>
   clear H'
   try clear c1
   try clear p2
   try clear c3
   try clear c3b0
   try clear c3b1
   try clear c3b2
   obtain ⟨x5_1, rfl, HA, HK1, ⟨m1, rfl⟩⟩ := hrel
   cases gk with
   | zero => exact absurd HA.out (by simp [supercargoref05_Same.l0])
   | succ k1 =>
    have H := HA.out
    clear HA
    simp only [supercargoref05_Same.l0] at H
    by_cases c4 : x5_1 < (l0.length : Int)
    ·
     rw [if_pos c4] at H
     have c4b0 : decide (x5_1 < (l0.length : Int)) = true := decide_eq_true c4
     clear c4
     by_cases c5 : 0 ≤ x5_1
     ·
      rw [if_pos c5] at H
      have c5b0 : decide (0 ≤ x5_1) = true := decide_eq_true c5
      clear c5
      by_cases c6 : x5_1 < (l1.length : Int)
      ·
       rw [if_pos c6] at H
       have c6b0 : decide (x5_1 < (l1.length : Int)) = true := decide_eq_true c6
       clear c6
       by_cases c7 : (!((((rd_T43 l0 x5_1).f0).toList) == (((rd_T43 l1 x5_1).f0).toList)) || (!((((rd_T43 l0 x5_1).f1).toList) == (((rd_T43 l1 x5_1).f1).toList)))) = true
       ·
        rw [if_pos c7] at H
        have c7b0 : (!((((rd_T43 l0 x5_1).f0).toList) == (((rd_T43 l1 x5_1).f0).toList)) || (!((((rd_T43 l0 x5_1).f1).toList) == (((rd_T43 l1 x5_1).f1).toList)))) = true := c7
        clear c7
        obtain rfl := Option.some.inj H
        have p194 : 0 ≤ (x5_1 : Int) := of_decide_eq_true (by first | (with_reducible assumption) | assumption)
        have q194 : x5_1 < (l0.length : Int) := of_decide_eq_true (by first | (with_reducible assumption) | assumption)
        obtain ⟨ad194, e194, hx194_0, hx194_1⟩ := at_T43 HR0.out x5_1 p194 q194
        cases e194
        replace p194 := eq_true p194
        replace q194 := eq_true q194
        have p195 : 0 ≤ (x5_1 : Int) := of_decide_eq_true (by first | (with_reducible assumption) | assumption)
        have q195 : x5_1 < (l1.length : Int) := of_decide_eq_true (by first | (with_reducible assumption) | assumption)
        obtain ⟨ad195, e195, hx195_0, hx195_1⟩ := at_T43 HR1.out x5_1 p195 q195
        cases e195
        replace p195 := eq_true p195
        replace q195 := eq_true q195
        go_wp2
        repeat (go_quiet (fail); try go_wp2)
        go_ret
        exact ⟨by first | rfl | (simp; done) | (simp [*]; done), by repeat (first | exact Drawn0.refl _ | apply Drawn0.step)⟩
       ·
        rw [if_neg c7] at H
        have c7b0 : (!((((rd_T43 l0 x5_1).f0).toList) == (((rd_T43 l1 x5_1).f0).toList)) || (!((((rd_T43 l0 x5_1).f1).toList) == (((rd_T43 l1 x5_1).f1).toList)))) = false := by simpa using c7
        clear c7
        have H' := Aside0.mk H
        clear H
        have p194 : 0 ≤ (x5_1 : Int) := of_decide_eq_true (by first | (with_reducible assumption) | assumption)
        have q194 : x5_1 < (l0.length : Int) := of_decide_eq_true (by first | (with_reducible assumption) | assumption)
        obtain ⟨ad194, e194, hx194_0, hx194_1⟩ := at_T43 HR0.out x5_1 p194 q194
        cases e194
        replace p194 := eq_true p194
        replace q194 := eq_true q194
        have p195 : 0 ≤ (x5_1 : Int) := of_decide_eq_true (by first | (with_reducible assumption) | assumption)
        have q195 : x5_1 < (l1.length : Int) := of_decide_eq_true (by first | (with_reducible assumption) | assumption)
        obtain ⟨ad195, e195, hx195_0, hx195_1⟩ := at_T43 HR1.out x5_1 p195 q195
        cases e195
        replace p195 := eq_true p195
        replace q195 := eq_true q195
        go_wp2
        repeat (go_quiet (fail); try go_wp2)
        go_roundg k1
        case measure => have := HK1.out; omega
        case rel => exact ⟨(wrap64 (x5_1 + 1)), (by first | rfl | (simp; done) | (simp [*]; done)), H', ⟨by have := HK1.out; omega⟩, by repeat (first | exact Drawn0.refl _ | apply Drawn0.step)⟩
      ·
       rw [if_neg c6] at H
       exact absurd H (by simp)
     ·
      rw [if_neg c5] at H
      exact absurd H (by simp)
    ·
     rw [if_neg c4] at H
     have c4b0 : decide (x5_1 < (l0.length : Int)) = false := decide_eq_false c4
     clear c4
     obtain rfl := Option.some.inj H
     go_wp2
     repeat (go_quiet (fail); try go_wp2)
     go_ret
     exact ⟨by first | rfl | (simp; done) | (simp [*]; done), by repeat (first | exact Drawn0.refl _ | apply Drawn0.step)⟩
 ·
  rw [if_neg c3] at H
  have c3b0 : ((l0.length : Int) == (l1.length : Int)) = false := beq_eq_false_iff_ne.mpr c3
  have c3b1 : ((l0.length : Int) != (l1.length : Int)) = true := bne_iff_ne.mpr c3
  have c3b2 : (l0.length == l1.length) = false := by first | simpa using c3 | (simp at c3 ⊢; omega)
  obtain rfl := Option.some.inj H
  go_enter Tryz.func18, Tryz.ntmps18
  go_wp2
  repeat (go_quiet (fail); try go_wp2)
  go_ret
  exact ⟨by first | rfl | (simp; done) | (simp [*]; done), by repeat (first | exact Drawn0.refl _ | apply Drawn0.step)⟩
end Go.Proofs.YtkblmomfiimkiaaGreatDoor.P
end

section
namespace Go.Proofs.YtkblmomfiimkiaaGreatDoor.P
open Go.RowKit Go.Proofs.YtkblmomfiimkiaaGreatDoorW.PrintWords Go.Proofs.YtkblmomfiimkiaaGreatDoorW.PrintLast Go.Proofs.YtkblmomfiimkiaaGreatDoorW.PrintMore
attribute [local go_sem] max2_int min2_int max_two min_two max_three min_three max_four min_four   -- for this text's walks alone
set_option linter.unusedVariables false
set_option linter.unusedSimpArgs false
theorem eqA30 (d : Nat) (w : World) (x0 y0 : ByteArray) (x1 y1 : Int) :
  (Op.equalIn (d + 2) 30 (.agg #[.string x0, .int .i64 x1]) (.agg #[.string y0, .int .i64 y1])).run Tryz.prog w = .ok (x0.toList == y0.toList && (x1 == y1)) w := by
 refine eqA_of Tryz.underlying30 (by kernel_rfl) ?_
 refine eqf_cons (by rfl) (by go_simp; rfl) (by go_simp; rfl) (by go_simp) ?_
 exact eqf_last (by rfl) (by go_simp; rfl) (by go_simp; rfl) (by go_simp)
end Go.Proofs.YtkblmomfiimkiaaGreatDoor.P
end
