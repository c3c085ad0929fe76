/- What the claim's theorem leans on. Conditions: none of its own. (Written by prune.py out of the texts SamesW6, without what the claim doesn't lean on.) -/
import Derived.Test.YtkblmomfiimkiaaGreatDoorS16
section
namespace Go.Proofs.YtkblmomfiimkiaaGreatDoor.P
open Go.RowKit Go.Proofs.YtkblmomfiimkiaaGreatDoorW.PrintWords Go.Proofs.YtkblmomfiimkiaaGreatDoorW.PrintLast Go.Proofs.YtkblmomfiimkiaaGreatDoorW.PrintMore
set_option linter.unusedSimpArgs false
set_option linter.unusedVariables false
attribute [local go_sem high] eqMoney
attribute [local go_sem] xa0 xb0 xa1 xb1 xa2 xb2 xa3 xb3 xa4 xb4 xa5 xb5 xa6 xb6 xa7 xb7 xa8 xb8 xa9 xb9 xa10 xb10 xa11 xb11 xa12 xb12 xa13 xb13
set_option maxRecDepth 100000 in
set_option maxHeartbeats 3000000 in
theorem sames_c6 (x : S33) (A : Option Addr) (c : Nat) (B : Option Addr) (d : Nat) (y : S33) (A' : Option Addr) (c' : Nat) (B' : Option Addr) (d' : Nat) (ra rb e : Bool) (n : Int) (hn0 : 0 ≤ n) (hc : n % 7 = 6) (w : World) (h : SamesH x A c B d y A' c' B' d' ra rb e w) :
    Calls Tryz.prog 4 #[.agg (letC x A c B d), .agg (letC y A' c' B' d'), .int .u8 n] w fun e w' => e = .returned (.bool true) ∧ Below w.heap.size w w' := by
  have HSA := Lib.hid h.sa
  have HSB := Lib.hid h.sb
  have HAW := Lib.hid h.aw
  have HX := Lib.hid h.hx
  have H6 := Lib.hid h.s6
  have H := Lib.hid h
  clear h
  have HBX0 := Lib.hid (boxes_new w (letC x A c B d) (letC y A' c' B' d'))
  go_enter Tryz.func4, Tryz.ntmps4
  go_upto_region 1 with (fail)
  generalize ((w.alloc (.cells (letC x A c B d) 33)).alloc (.cells (letC y A' c' B' d') 33)) = W0 at HBX0 ⊢
  obtain ⟨p0, hp0⟩ : ∃ p : SBox x A c B d y A' c' B' d' w, W0 = p.W := ⟨⟨W0, HBX0.out⟩, rfl⟩
  subst hp0
  go_cut [15] (fun v15 wc => v15 = .bool (!ra || !rb) ∧ ∃ p : SBox x A c B d y A' c' B' d' w, wc = p.W)
  case first =>
   as_aux_lemma =>
    cases ra with
    | false =>
      go_wp2_with (first | (go_at_call 13; (with_reducible refine (HSA.out _).mono ?_); rintro e w' ⟨rfl, q, rfl⟩))
      all_goals (go_meet; case rel => exact ⟨rfl, _, rfl⟩)
    | true =>
      go_wp2_with (first | (go_at_call 13; (first | (with_reducible refine (HSA.out _).mono ?_) | (with_reducible refine (HSB.out _).mono ?_)); rintro e w' ⟨rfl, q, rfl⟩))
      all_goals (go_meet; case rel => exact ⟨rfl, _, rfl⟩)
  case rest =>
    obtain ⟨rfl, p1, rfl⟩ := hcut
    cases hq : (!ra || !rb) with
    | true =>
      go_wp2_with (first | (go_at_call 9; (with_reducible refine (HAW.out _).mono ?_); rintro e w' ⟨rfl, q, rfl⟩))
      go_ret
      exact ⟨rfl, q.h.2.2⟩
    | false =>
      have HSM := Lib.hid (H.out.sm hq)
      have HSR := Lib.hid (H.out.sr hq)
      have HSS := Lib.hid (H.out.ss hq)
      have HZ := Lib.hid (H.out.hz hq)
      clear hq H
      have HP1 := Lib.hid p1.h
      go_upto_region 3 with (fail)
      go_cut [29] (fun v29 wc => v29 = .bool false ∧ ∃ p : SBox x A c B d y A' c' B' d' w, wc = p.W)
      case first =>
        have inst : Nonempty (SBox x A c B d y A' c' B' d' w) := ⟨p1⟩
        cases e
        all_goals
         as_aux_lemma =>
          refine wp_region_class (C := fun w' => ∃ p : SBox x A c B d y A' c' B' d' w, w' = p.W) (by kernel_rfl) (by kernel_rfl) ⟨⟨p1.W.drew, boxes_below HP1.out (pw_below_drewN (Below.refl _ p1.W) 1)⟩, rfl⟩ ?_
          repeat (first | go_big_quiet_skip | (go_big_quiet_want; go_big_quiet_op; first | go_big_quiet_on | go_big_quiet_call ((first | with_reducible exact HSM.out _ | with_reducible exact HSR.out _ | with_reducible exact HSS.out _))))
          refine wpQuiet_nil ?_
          rintro w' ⟨p2, rfl⟩
          go_wp2_with fail
          go_meet
          case rel => exact ⟨rfl, _, rfl⟩
      case rest =>
        obtain ⟨rfl, p2, rfl⟩ := hcut
        clear HSA HSB HSM HSR HSS
        go_upto_region 8 with (fail)
        generalize n % 7 = m at hc ⊢
        subst hc
        as_aux_lemma =>
          go_upto_region 20 with (fail)
          have hgc : (p2.W.alloc (.cells #[.string x.f0, .string x.f1, .int .i64 x.f2, .int .i64 (bits .xor .i64 x.f3 1), .int .i64 x.f4, .string x.f5, .string x.f6, .string x.f7, .int .i64 x.f8, .int .i64 x.f9, .string x.f10.f0, .int .i64 x.f10.f1, .slice A x.f11.length c, .slice B x.f12.length d] 33)).heap[p2.W.heap.size]? = some (.cells #[.string x.f0, .string x.f1, .int .i64 x.f2, .int .i64 (bits .xor .i64 x.f3 1), .int .i64 x.f4, .string x.f5, .string x.f6, .string x.f7, .int .i64 x.f8, .int .i64 x.f9, .string x.f10.f0, .int .i64 x.f10.f1, .slice A x.f11.length c, .slice B x.f12.length d] 33 (0, 0)) := by show (p2.W.heap.push _)[p2.W.heap.size]? = _; rw [Array.getElem?_push_size]
          obtain ⟨p3, hp3⟩ := boxW_below p2 ((Below.refl _ p2.W).alloc (Nat.le_refl _) (.cells #[.string x.f0, .string x.f1, .int .i64 x.f2, .int .i64 (bits .xor .i64 x.f3 1), .int .i64 x.f4, .string x.f5, .string x.f6, .string x.f7, .int .i64 x.f8, .int .i64 x.f9, .string x.f10.f0, .int .i64 x.f10.f1, .slice A x.f11.length c, .slice B x.f12.length d] 33))
          rw [hp3] at hgc ⊢
          generalize p2.W.heap.size = gc at hgc ⊢
          have c0 : p3.W.cell? ⟨gc, 0, none⟩ = some (.string x.f0) := (blk_cell hgc 0).trans rfl
          have c1 : p3.W.cell? ⟨gc, 1, none⟩ = some (.string x.f1) := (blk_cell hgc 1).trans rfl
          have c2 : p3.W.cell? ⟨gc, 2, none⟩ = some (.int .i64 x.f2) := (blk_cell hgc 2).trans rfl
          have c3 : p3.W.cell? ⟨gc, 3, none⟩ = some (.int .i64 (bits .xor .i64 x.f3 1)) := (blk_cell hgc 3).trans rfl
          have c4 : p3.W.cell? ⟨gc, 4, none⟩ = some (.int .i64 x.f4) := (blk_cell hgc 4).trans rfl
          have c5 : p3.W.cell? ⟨gc, 5, none⟩ = some (.string x.f5) := (blk_cell hgc 5).trans rfl
          have c6 : p3.W.cell? ⟨gc, 6, none⟩ = some (.string x.f6) := (blk_cell hgc 6).trans rfl
          have c7 : p3.W.cell? ⟨gc, 7, none⟩ = some (.string x.f7) := (blk_cell hgc 7).trans rfl
          have c8 : p3.W.cell? ⟨gc, 8, none⟩ = some (.int .i64 x.f8) := (blk_cell hgc 8).trans rfl
          have c9 : p3.W.cell? ⟨gc, 9, none⟩ = some (.int .i64 x.f9) := (blk_cell hgc 9).trans rfl
          have c10 : p3.W.cell? ⟨gc, 10, none⟩ = some (.string x.f10.f0) := (blk_cell hgc 10).trans rfl
          have c11 : p3.W.cell? ⟨gc, 11, none⟩ = some (.int .i64 x.f10.f1) := (blk_cell hgc 11).trans rfl
          have c12 : p3.W.cell? ⟨gc, 12, none⟩ = some (.slice A x.f11.length c) := (blk_cell hgc 12).trans rfl
          have c13 : p3.W.cell? ⟨gc, 13, none⟩ = some (.slice B x.f12.length d) := (blk_cell hgc 13).trans rfl
          have hne : eqB x ({ x with f3 := bits .xor .i64 x.f3 1 } : S33) = false := eqB_ne (fun e => xor_ne x.f3 (congrArg (fun q : S33 => q.f3) e).symm)
          have hl := HX.out.below p3.h.2.2
          have hcl : Calls Tryz.prog 14 #[.agg #[.string x.f0, .string x.f1, .int .i64 x.f2, .int .i64 x.f3, .int .i64 x.f4, .string x.f5, .string x.f6, .string x.f7, .int .i64 x.f8, .int .i64 x.f9, .string x.f10.f0, .int .i64 x.f10.f1, .slice A x.f11.length c, .slice B x.f12.length d], .agg #[.string x.f0, .string x.f1, .int .i64 x.f2, .int .i64 (bits .xor .i64 x.f3 1), .int .i64 x.f4, .string x.f5, .string x.f6, .string x.f7, .int .i64 x.f8, .int .i64 x.f9, .string x.f10.f0, .int .i64 x.f10.f1, .slice A x.f11.length c, .slice B x.f12.length d]] p3.W fun e w' => e = .returned (.bool false) ∧ Below p3.W.heap.size p3.W w' := by
            rw [← hne]
            exact same_calls x A c B d ({ x with f3 := bits .xor .i64 x.f3 1 }) A c B d p3.W hl ⟨hl.rA, hl.lA, hl.rB, hl.lB⟩ ⟨by have := HZ.out.1; omega, by have := HZ.out.1; show x.f11.length ≤ _; omega, by have := HZ.out.2.1; omega, by have := HZ.out.2.1; show x.f12.length ≤ _; omega, fun q hq => by have := HZ.out.2.2 q hq; omega⟩
          have HCL := Lib.hid hcl
          clear hcl hne hp3 hl
          go_wp2_with (first | (go_at_call 14; (with_reducible refine HCL.out.mono ?_); rintro e w' ⟨rfl, hb1⟩; obtain ⟨q, rfl⟩ := boxW_below p3 hb1) | (go_at_call 9; (with_reducible refine (HAW.out _).mono ?_); rintro e w' ⟨rfl, q, rfl⟩))
          go_ret
          exact ⟨rfl, BoxW.below _⟩
end Go.Proofs.YtkblmomfiimkiaaGreatDoor.P
end
