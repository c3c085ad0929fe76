/- What the claim's theorem leans on. Conditions: none of its own. (Written by prune.py out of the texts SamesW4, without what the claim doesn't lean on.) -/
import Derived.Test.YtkblmomfiimkiaaGreatDoorS16
section
namespace Go.Proofs.YtkblmomfiimkiaaGreatDoor.P
open Go.RowKit Go.Proofs.YtkblmomfiimkiaaGreatDoorW.PrintWords Go.Proofs.YtkblmomfiimkiaaGreatDoorW.PrintLast Go.Proofs.YtkblmomfiimkiaaGreatDoorW.PrintMore
set_option linter.unusedSimpArgs false
set_option linter.unusedVariables false
attribute [local go_sem high] eqMoney
attribute [local go_sem] xa0 xb0 xa1 xb1 xa2 xb2 xa3 xb3 xa4 xb4 xa5 xb5 xa6 xb6 xa7 xb7 xa8 xb8 xa9 xb9 xa10 xb10 xa11 xb11 xa12 xb12 xa13 xb13
set_option maxRecDepth 100000 in
set_option maxHeartbeats 3000000 in
theorem sames_c4 (x : S33) (A : Option Addr) (c : Nat) (B : Option Addr) (d : Nat) (y : S33) (A' : Option Addr) (c' : Nat) (B' : Option Addr) (d' : Nat) (ra rb e : Bool) (n : Int) (hn0 : 0 ≤ n) (hc : n % 7 = 4) (w : World) (h : SamesH x A c B d y A' c' B' d' ra rb e w) :
    Calls Tryz.prog 4 #[.agg (letC x A c B d), .agg (letC y A' c' B' d'), .int .u8 n] w fun e w' => e = .returned (.bool true) ∧ Below w.heap.size w w' := by
  have HSA := Lib.hid h.sa
  have HSB := Lib.hid h.sb
  have HAW := Lib.hid h.aw
  have HX := Lib.hid h.hx
  have H6 := Lib.hid h.s6
  have H := Lib.hid h
  clear h
  have HBX0 := Lib.hid (boxes_new w (letC x A c B d) (letC y A' c' B' d'))
  go_enter Tryz.func4, Tryz.ntmps4
  go_upto_region 1 with (fail)
  generalize ((w.alloc (.cells (letC x A c B d) 33)).alloc (.cells (letC y A' c' B' d') 33)) = W0 at HBX0 ⊢
  obtain ⟨p0, hp0⟩ : ∃ p : SBox x A c B d y A' c' B' d' w, W0 = p.W := ⟨⟨W0, HBX0.out⟩, rfl⟩
  subst hp0
  go_cut [15] (fun v15 wc => v15 = .bool (!ra || !rb) ∧ ∃ p : SBox x A c B d y A' c' B' d' w, wc = p.W)
  case first =>
   as_aux_lemma =>
    cases ra with
    | false =>
      go_wp2_with (first | (go_at_call 13; (with_reducible refine (HSA.out _).mono ?_); rintro e w' ⟨rfl, q, rfl⟩))
      all_goals (go_meet; case rel => exact ⟨rfl, _, rfl⟩)
    | true =>
      go_wp2_with (first | (go_at_call 13; (first | (with_reducible refine (HSA.out _).mono ?_) | (with_reducible refine (HSB.out _).mono ?_)); rintro e w' ⟨rfl, q, rfl⟩))
      all_goals (go_meet; case rel => exact ⟨rfl, _, rfl⟩)
  case rest =>
    obtain ⟨rfl, p1, rfl⟩ := hcut
    cases hq : (!ra || !rb) with
    | true =>
      go_wp2_with (first | (go_at_call 9; (with_reducible refine (HAW.out _).mono ?_); rintro e w' ⟨rfl, q, rfl⟩))
      go_ret
      exact ⟨rfl, q.h.2.2⟩
    | false =>
      have HSM := Lib.hid (H.out.sm hq)
      have HSR := Lib.hid (H.out.sr hq)
      have HSS := Lib.hid (H.out.ss hq)
      have HZ := Lib.hid (H.out.hz hq)
      clear hq H
      have HP1 := Lib.hid p1.h
      go_upto_region 3 with (fail)
      go_cut [29] (fun v29 wc => v29 = .bool false ∧ ∃ p : SBox x A c B d y A' c' B' d' w, wc = p.W)
      case first =>
        have inst : Nonempty (SBox x A c B d y A' c' B' d' w) := ⟨p1⟩
        cases e
        all_goals
         as_aux_lemma =>
          refine wp_region_class (C := fun w' => ∃ p : SBox x A c B d y A' c' B' d' w, w' = p.W) (by kernel_rfl) (by kernel_rfl) ⟨⟨p1.W.drew, boxes_below HP1.out (pw_below_drewN (Below.refl _ p1.W) 1)⟩, rfl⟩ ?_
          repeat (first | go_big_quiet_skip | (go_big_quiet_want; go_big_quiet_op; first | go_big_quiet_on | go_big_quiet_call ((first | with_reducible exact HSM.out _ | with_reducible exact HSR.out _ | with_reducible exact HSS.out _))))
          refine wpQuiet_nil ?_
          rintro w' ⟨p2, rfl⟩
          go_wp2_with fail
          go_meet
          case rel => exact ⟨rfl, _, rfl⟩
      case rest =>
        obtain ⟨rfl, p2, rfl⟩ := hcut
        clear HSA HSB HSM HSR HSS
        go_upto_region 8 with (fail)
        generalize n % 7 = m at hc ⊢
        subst hc
        as_aux_lemma =>
          have hgc : (p2.W.alloc (.cells #[.string x.f0, .string x.f1, .int .i64 x.f2, .int .i64 x.f3, .int .i64 x.f4, .string x.f5, .string x.f6, .string x.f7, .int .i64 x.f8, .int .i64 x.f9, .string x.f10.f0, .int .i64 x.f10.f1, .slice A x.f11.length c, .slice B x.f12.length d] 33)).heap[p2.W.heap.size]? = some (.cells #[.string x.f0, .string x.f1, .int .i64 x.f2, .int .i64 x.f3, .int .i64 x.f4, .string x.f5, .string x.f6, .string x.f7, .int .i64 x.f8, .int .i64 x.f9, .string x.f10.f0, .int .i64 x.f10.f1, .slice A x.f11.length c, .slice B x.f12.length d] 33 (0, 0)) := by show (p2.W.heap.push _)[p2.W.heap.size]? = _; rw [Array.getElem?_push_size]
          have hgw := blk_lt p2.h.2.1
          obtain ⟨p3, hp3⟩ := boxW_below p2 ((Below.refl _ p2.W).alloc (Nat.le_refl _) (.cells #[.string x.f0, .string x.f1, .int .i64 x.f2, .int .i64 x.f3, .int .i64 x.f4, .string x.f5, .string x.f6, .string x.f7, .int .i64 x.f8, .int .i64 x.f9, .string x.f10.f0, .int .i64 x.f10.f1, .slice A x.f11.length c, .slice B x.f12.length d] 33))
          rw [hp3] at hgc ⊢
          generalize p2.W.heap.size = gc at hgc hgw ⊢
          clear hp3
          have HGC := Lib.hid hgc
          clear hgc
          go_upto_region 20 with (first | ((with_reducible refine gate_dst (N := 65) rfl ?_); refine Kd.R_lit (kIn k38 w) _ 38 ?hg (N := 65) ?hd (xs := ([] : List S38)) (inner := []) (ok := fun _ => True) (okp := fun _ => True) ?hr ?hp (fun _ hk => hk) trivial (Below.refl _ _) (Nat.le_refl _) (by simp) ?_; (case hd => rfl); (case hg => rfl); (case hr => first | (go_simp; done) | (go_simp; rfl)); (case hp => exact (Reps.none _ _)); intro v65 w5 ho5 hb5 hg_ hnew_; clear hg_ hnew_; have HO5 := Lib.hid ho5; have HB5 := Lib.hid hb5; clear ho5; obtain ⟨q5, hq5⟩ := boxW_below p3 hb5; clear hb5; subst hq5) | ((with_reducible refine gate_builtin (b := .append) (xs := #[.tmp 65, .tmp 67]) rfl ?_); at_builtin; refine Kd.R_append_rows (kIn k38 w) (w0 := p3.W) p3.W.heap.size rfl (.tmp 65) (.tmp 67) 31 38 (.agg #[.int .i64 0, .string (⟨#[]⟩ : ByteArray), .string (⟨#[]⟩ : ByteArray), .slice none 0 0]) 64 rfl Tryz.underlying31 info38 rfl (show 0 < 4 from by decide) (by omega) v65 [] x.f11 _ _ _ (fun _ => True) (fun _ => False) rfl rfl ?aO ?aR (fun _ _ h => h) (fun _ h => h.elim) ?aF ?aB ?aS ?aL ?_; (case aR => exact kIn_of HX.out.rA (BoxW.below _)); (case aB => exact HB5.out); (case aF => exact fun _ _ => trivial); (case aO => exact HO5.out); (case aS => exact HB5.out.size); (case aL => have := HZ.out.1; have := HZ.out.2.1; simp; omega); intro v68 w7 ho7 hb7 hg_ hat_; clear hg_ hat_; have HO7 := Lib.hid ho7; have HB7 := Lib.hid hb7; clear ho7; obtain ⟨q7, hq7⟩ := boxW_below p3 hb7; clear hb7; subst hq7) | ((with_reducible refine gate_builtin (b := .append) (xs := #[.tmp 68, .tmp 70]) rfl ?_); at_builtin; refine Kd.R_append (kIn k38 w) (w0 := p3.W) p3.W.heap.size rfl (.tmp 68) (.tmp 70) 31 38 (.agg #[.int .i64 0, .string (⟨#[]⟩ : ByteArray), .string (⟨#[]⟩ : ByteArray), .slice none 0 0]) 64 rfl Tryz.underlying31 info38 rfl (show 0 < 4 from by decide) (by omega) v68 ([] ++ x.f11) z38 [.int .i64 0, .string (⟨#[]⟩ : ByteArray), .string (⟨#[]⟩ : ByteArray), .slice none 0 0] (fun _ => True) (fun _ => False) rfl rfl ?aP (fun _ hk => hk.elim) ?aF ?aO ?aB ?aS ?aL ?_; (case aP => exact kIn_zero w); (case aB => exact HB7.out); (case aF => exact fun _ _ => trivial); (case aO => exact HO7.out); (case aS => exact HB7.out.size); (case aL => have := HZ.out.1; have := HZ.out.2.1; simp; omega); intro v71 w8 ho8 hb8 hg_ hat_; clear hg_ hat_; have HO8 := Lib.hid ho8; have HB8 := Lib.hid hb8; clear ho8; obtain ⟨q8, hq8⟩ := boxW_below p3 hb8; subst hq8; obtain ⟨A71, c71, hv71⟩ := Kd.R_slice HO8.out; subst hv71; have c12 : q8.W.cell? ⟨gc, 12, none⟩ = some (.slice A x.f11.length c) := (blk_cell ((hb8.block gc (blk_lt HGC.out)).trans HGC.out) 12).trans rfl; have f12 : q8.W.frozen? ⟨gc, 12, none⟩ = false := blk_frozen ((hb8.block gc (blk_lt HGC.out)).trans HGC.out) 12; clear hb8))
          clear c12 f12
          have hlen : (x.f11 ++ [z38]).length = x.f11.length + 1 := by simp
          have ho8 := HO8.out
          rw [List.nil_append, hlen] at ho8
          have hgc8 := (HB8.out.block gc (blk_lt HGC.out)).trans HGC.out
          have hro := Kd.R_set ho8 hgc8 (fun q hq => by have hq2 : q = 38 := (by simpa [kIn] using hq); rw [hq2]; decide) 12 (.slice A71 (x.f11.length + 1) c71)
          have hgc9 : (q8.W.setCell ⟨gc, 12, none⟩ (.slice A71 (x.f11.length + 1) c71)).heap[gc]? = some (.cells #[.string x.f0, .string x.f1, .int .i64 x.f2, .int .i64 x.f3, .int .i64 x.f4, .string x.f5, .string x.f6, .string x.f7, .int .i64 x.f8, .int .i64 x.f9, .string x.f10.f0, .int .i64 x.f10.f1, .slice A71 (x.f11.length + 1) c71, .slice B x.f12.length d] 33 (0, 0)) := blk_put hgc8 12 (.slice A71 (x.f11.length + 1) c71) rfl
          obtain ⟨p9, hp9⟩ : ∃ p9 : SBox x A c B d y A' c' B' d' w, q8.W.setCell ⟨gc, 12, none⟩ (.slice A71 (x.f11.length + 1) c71) = p9.W := ⟨⟨_, blk_far q8.h.1 (by show w.heap.size ≠ gc; omega) _, blk_far q8.h.2.1 (by show w.heap.size + 1 ≠ gc; omega) _, below_set q8.h.2.2 (by omega)⟩, rfl⟩
          rw [hp9] at hro hgc9 ⊢
          have c0 : p9.W.cell? ⟨gc, 0, none⟩ = some (.string x.f0) := (blk_cell hgc9 0).trans rfl
          have c1 : p9.W.cell? ⟨gc, 1, none⟩ = some (.string x.f1) := (blk_cell hgc9 1).trans rfl
          have c2 : p9.W.cell? ⟨gc, 2, none⟩ = some (.int .i64 x.f2) := (blk_cell hgc9 2).trans rfl
          have c3 : p9.W.cell? ⟨gc, 3, none⟩ = some (.int .i64 x.f3) := (blk_cell hgc9 3).trans rfl
          have c4 : p9.W.cell? ⟨gc, 4, none⟩ = some (.int .i64 x.f4) := (blk_cell hgc9 4).trans rfl
          have c5 : p9.W.cell? ⟨gc, 5, none⟩ = some (.string x.f5) := (blk_cell hgc9 5).trans rfl
          have c6 : p9.W.cell? ⟨gc, 6, none⟩ = some (.string x.f6) := (blk_cell hgc9 6).trans rfl
          have c7 : p9.W.cell? ⟨gc, 7, none⟩ = some (.string x.f7) := (blk_cell hgc9 7).trans rfl
          have c8 : p9.W.cell? ⟨gc, 8, none⟩ = some (.int .i64 x.f8) := (blk_cell hgc9 8).trans rfl
          have c9 : p9.W.cell? ⟨gc, 9, none⟩ = some (.int .i64 x.f9) := (blk_cell hgc9 9).trans rfl
          have c10 : p9.W.cell? ⟨gc, 10, none⟩ = some (.string x.f10.f0) := (blk_cell hgc9 10).trans rfl
          have c11 : p9.W.cell? ⟨gc, 11, none⟩ = some (.int .i64 x.f10.f1) := (blk_cell hgc9 11).trans rfl
          have c12 : p9.W.cell? ⟨gc, 12, none⟩ = some (.slice A71 (x.f11.length + 1) c71) := (blk_cell hgc9 12).trans rfl
          have c13 : p9.W.cell? ⟨gc, 13, none⟩ = some (.slice B x.f12.length d) := (blk_cell hgc9 13).trans rfl
          obtain ⟨hl9, hc9, hr9⟩ := Kd.R_reads' hro
          have hr9b := kIn_to hr9 (BoxW.below p9)
          have hne : eqB x ({ x with f11 := (x.f11 ++ [z38]) } : S33) = false := eqB_ne (fun e => absurd (congrArg (fun q : S33 => q.f11.length) e) (by show x.f11.length ≠ (x.f11 ++ [z38]).length; rw [hlen]; omega))
          have z1 := HZ.out.1
          have z2 := HZ.out.2.1
          have hl := HX.out.below p9.h.2.2
          have hcl : Calls Tryz.prog 14 #[.agg #[.string x.f0, .string x.f1, .int .i64 x.f2, .int .i64 x.f3, .int .i64 x.f4, .string x.f5, .string x.f6, .string x.f7, .int .i64 x.f8, .int .i64 x.f9, .string x.f10.f0, .int .i64 x.f10.f1, .slice A x.f11.length c, .slice B x.f12.length d], .agg #[.string x.f0, .string x.f1, .int .i64 x.f2, .int .i64 x.f3, .int .i64 x.f4, .string x.f5, .string x.f6, .string x.f7, .int .i64 x.f8, .int .i64 x.f9, .string x.f10.f0, .int .i64 x.f10.f1, .slice A71 (x.f11.length + 1) c71, .slice B x.f12.length d]] p9.W fun e w' => e = .returned (.bool false) ∧ Below p9.W.heap.size p9.W w' := by
            rw [← hne, ← hlen]
            exact same_calls x A c B d ({ x with f11 := (x.f11 ++ [z38]) }) A71 c71 B d p9.W hl ⟨hr9b, by show (x.f11 ++ [z38]).length ≤ _; rw [hlen]; exact hc9, hl.rB, hl.lB⟩ ⟨by omega, by first | (show x.f11.length ≤ _; omega) | (show (x.f11 ++ [z38]).length ≤ _; rw [hlen]; omega), by omega, by first | (show x.f12.length ≤ _; omega) | (show (x.f11 ++ [z38]).length ≤ _; rw [hlen]; omega), fun q hq => by have := HZ.out.2.2 q hq; omega⟩
          have HCL := Lib.hid hcl
          clear hcl hne hp9 hro hgc9 hr9 hr9b hl9 ho8 hgc8 hl
          go_wp2_with (first | (go_at_call 14; (with_reducible refine HCL.out.mono ?_); rintro e w' ⟨rfl, hb1⟩; obtain ⟨q, rfl⟩ := boxW_below p9 hb1) | (go_at_call 9; (with_reducible refine (HAW.out _).mono ?_); rintro e w' ⟨rfl, q, rfl⟩))
          go_ret
          exact ⟨rfl, BoxW.below _⟩
end Go.Proofs.YtkblmomfiimkiaaGreatDoor.P
end
