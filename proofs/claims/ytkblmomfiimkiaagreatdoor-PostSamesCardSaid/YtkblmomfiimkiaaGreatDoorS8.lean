/- What the claim's theorem leans on. Conditions: none of its own. (Written by prune.py out of the texts Px15 AnyB EqArr Let, without what the claim doesn't lean on.) -/
import Derived.Laws.StructEq
import Derived.Laws.Tables
import Derived.Laws.Cover2
import Derived.Test.YtkblmomfiimkiaaGreatDoorS2
import Derived.Test.YtkblmomfiimkiaaGreatDoorS7
section
namespace Go.Proofs.YtkblmomfiimkiaaGreatDoor.P
open Go.RowKit Go.Proofs.YtkblmomfiimkiaaGreatDoorW.PrintWords Go.Proofs.YtkblmomfiimkiaaGreatDoorW.PrintLast Go.Proofs.YtkblmomfiimkiaaGreatDoorW.PrintMore
attribute [local go_sem] max2_int min2_int max_two min_two max_three min_three max_four min_four   -- for this text's walks alone
set_option linter.unusedVariables false
set_option linter.unusedSimpArgs false
def post_paper.f (k : Nat) (a0_0 : Int) (a0_1 : ByteArray) (a0_2 : ByteArray) (l0_3 : List (S43)) : Option (Bool) := (field_Doc.f k a0_0 a0_1 a0_2 l0_3).bind fun bt140 => (if bt140.2 = 0 then (some (decide ((bt140.1.size : Int) ≤ 4096))) else (some false))
theorem post_paper.mono : ∀ a0 a1 a2 a3 k, LeO (post_paper.f k a0 a1 a2 a3) (post_paper.f (k + 1) a0 a1 a2 a3) := by
 intro a0 a1 a2 a3 k
 unfold post_paper.f
 repeat' first
   | (with_reducible exact field_Doc.mono _ _ _ _ _)
   | (with_reducible exact LeO.refl _)
   | (with_reducible exact LeO.none _)
   | (with_reducible refine LeO.ite ?_ ?_)
   | (with_reducible refine LeO.bind ?_ (fun _ => ?_))
   | exact field_Doc.mono _ _ _ _ _
   | exact LeO.none _
   | refine LeO.ite ?_ ?_
   | refine LeO.bind ?_ (fun _ => ?_)
set_option maxHeartbeats 8000000 in
set_option maxRecDepth 100000 in
theorem post_paper.calls (k : Nat) (a0_0 : Int) (a0_1 : ByteArray) (a0_2 : ByteArray) (A0_3 : Option Addr) (c0_3 : Nat) (l0_3 : List (S43)) (r : Bool) (w : World) (hr0_3 : Kd.C k43 w A0_3 l0_3.length l0_3) (hc0_3 : l0_3.length ≤ c0_3) (h : post_paper.f k a0_0 a0_1 a0_2 l0_3 = some r) :
  Calls Tryz.prog 40 #[.agg #[.int .i64 a0_0, .string a0_1, .string a0_2, .slice A0_3 l0_3.length c0_3]] w fun e w' => e = .returned (.bool r) ∧ Below w.heap.size w w' := by
 have hu38 := Tryz.underlying38
 have HR0_3 := Aside0.mk hr0_3
 have HC0_3 := Aside0.mk hc0_3
 clear hr0_3 hc0_3
 have HB := Aside0.mk (Below.refl w.heap.size w)
 have H : ((field_Doc.f k a0_0 a0_1 a0_2 l0_3).bind fun bt140 => (if bt140.2 = 0 then (some (decide ((bt140.1.size : Int) ≤ 4096))) else (some false))) = some r := h
 clear h
 replace H := Option.bind_eq_some_iff.mp H
 obtain ⟨⟨t140, t141⟩, A20, H⟩ := H
 replace H : (if t141 = 0 then (some (decide ((t140.size : Int) ≤ 4096))) else (some false)) = some r := H
 have A2 := Aside0.mk A20
 clear A20
 by_cases c3 : t141 = 0
 ·
  rw [if_pos c3] at H
  have c3b0 : (t141 == 0) = true := beq_iff_eq.mpr c3
  have c3b1 : (t141 != 0) = false := bne_eq_false_iff_eq.mpr c3
  clear c3
  obtain rfl := Option.some.inj H
  go_enter Tryz.func40, Tryz.ntmps40
  go_wp2_with (first | ((with_reducible refine gate_dst (N := 1) rfl ?_); (try (refine gate_guard (by rfl) ?_; dsimp only)); refine box_event ?hg (N := 1) ?hd (cs := #[.int .i64 a0_0, .string a0_1, .string a0_2, .slice A0_3 l0_3.length c0_3]) (t := 38) ?hr ?_; (case hd => rfl); (case hg => rfl); (case hr => first | (go_simp; done) | (go_simp; rfl)); intro gb139 hg w4 hbox hb; have n0_ := Aside0.mk (below_step (by repeat (first | (with_reducible first | exact HB.out | apply below_alloc | apply pw_below_drewN | apply below_drew1) | exact HB.out)) hb); have n1_ := Aside0.mk (hbox); have n2_ := Aside0.mk ((by rw [hg]; exact (below_size (by repeat (first | (with_reducible first | exact HB.out | apply below_alloc | apply pw_below_drewN | apply below_drew1) | exact HB.out))) : w.heap.size ≤ gb139)); have n3_ := Aside0.mk ((by rw [hg]; exact (below_size (by repeat (first | (with_reducible first | exact HB.out | apply below_alloc | apply pw_below_drewN | apply below_drew1) | exact HB.out))) : w.heap.size ≤ gb139)); clear HB; have HB := n0_; have BK139 := n1_; have GW139 := n2_; have GE139 := n3_; clear n0_ n1_ n2_ n3_; clear hb hbox hg; have hcz5_0 : w4.cell? ⟨gb139, 0, none⟩ = some (.int .i64 a0_0) := (blk_cell BK139.out 0).trans rfl; have hcz5_1 : w4.cell? ⟨gb139, 1, none⟩ = some (.string a0_1) := (blk_cell BK139.out 1).trans rfl; have hcz5_2 : w4.cell? ⟨gb139, 2, none⟩ = some (.string a0_2) := (blk_cell BK139.out 2).trans rfl; have hcz5_3 : w4.cell? ⟨gb139, 3, none⟩ = some (.slice A0_3 l0_3.length c0_3) := (blk_cell BK139.out 3).trans rfl; have hfz5_0 := blk_frozen BK139.out 0; have hfz5_1 := blk_frozen BK139.out 1; have hfz5_2 := blk_frozen BK139.out 2; have hfz5_3 := blk_frozen BK139.out 3) | ((with_reducible refine gate_callee (f := 68) rfl ?_); refine goesL_ (some 7) rfl rfl Tryz.func68 (by kernel_rfl) rfl #[.agg #[.int .i64 a0_0, .string a0_1, .string a0_2, .slice A0_3 l0_3.length c0_3]] rfl (by (try simp only [List.map_toArray, List.map_cons, List.map_nil]); first | done | rfl | (simp only [List.length_drop, List.length_take]; rfl)) ?_; (with_reducible refine (field_Doc.calls k a0_0 a0_1 a0_2 _ _ l0_3 t140 t141 _ ?side1 ?side2 A2.out).mono ?_); (case side1 => repeat (first | exact (Kd.C_below HR0_3.out HB.out) | (with_reducible refine Kd.C_alloc ?_ _) | (with_reducible refine Kd.C_drewN ?_ _) | (with_reducible refine Kd.C_drew ?_))); (case side2 => exact HC0_3.out); rintro e w6 ⟨rfl, hb⟩; refine ⟨_, rfl, ?_⟩; have n0_ := Aside0.mk (blk_below (g := gb139) (o := .cells #[.int .i64 a0_0, .string a0_1, .string a0_2, .slice A0_3 l0_3.length c0_3] 38 (0, 0)) (by (with_reducible repeat (first | refine blk_drewN ?_ _ | refine blk_drew ?_ | refine blk_alloc ?_ _)); exact BK139.out) hb); have n1_ := Aside0.mk (below_step (by repeat (first | (with_reducible first | exact HB.out | apply below_alloc | apply pw_below_drewN | apply below_drew1 | refine below_set ?_ GE139.out) | exact HB.out)) hb); clear BK139; clear HB; have BK139 := n0_; have HB := n1_; clear n0_ n1_; (try clear hb); (try clear hb2); (try clear hk); (try clear hi)))
  go_ret
  exact ⟨by first | rfl | (simp [errW_none, errW_some] <;> rfl) | (simp [*, errW_none, errW_some] <;> rfl), by repeat (first | (with_reducible first | exact HB.out | apply below_alloc | apply pw_below_drewN | apply below_drew1 | refine below_set ?_ GE139.out) | exact HB.out)⟩
 ·
  rw [if_neg c3] at H
  have c3b0 : (t141 == 0) = false := beq_eq_false_iff_ne.mpr c3
  have c3b1 : (t141 != 0) = true := bne_iff_ne.mpr c3
  obtain rfl := Option.some.inj H
  go_enter Tryz.func40, Tryz.ntmps40
  go_wp2_with (first | ((with_reducible refine gate_dst (N := 1) rfl ?_); (try (refine gate_guard (by rfl) ?_; dsimp only)); refine box_event ?hg (N := 1) ?hd (cs := #[.int .i64 a0_0, .string a0_1, .string a0_2, .slice A0_3 l0_3.length c0_3]) (t := 38) ?hr ?_; (case hd => rfl); (case hg => rfl); (case hr => first | (go_simp; done) | (go_simp; rfl)); intro gb139 hg w7 hbox hb; have n0_ := Aside0.mk (below_step (by repeat (first | (with_reducible first | exact HB.out | apply below_alloc | apply pw_below_drewN | apply below_drew1) | exact HB.out)) hb); have n1_ := Aside0.mk (hbox); have n2_ := Aside0.mk ((by rw [hg]; exact (below_size (by repeat (first | (with_reducible first | exact HB.out | apply below_alloc | apply pw_below_drewN | apply below_drew1) | exact HB.out))) : w.heap.size ≤ gb139)); have n3_ := Aside0.mk ((by rw [hg]; exact (below_size (by repeat (first | (with_reducible first | exact HB.out | apply below_alloc | apply pw_below_drewN | apply below_drew1) | exact HB.out))) : w.heap.size ≤ gb139)); clear HB; have HB := n0_; have BK139 := n1_; have GW139 := n2_; have GE139 := n3_; clear n0_ n1_ n2_ n3_; clear hb hbox hg; have hcz8_0 : w7.cell? ⟨gb139, 0, none⟩ = some (.int .i64 a0_0) := (blk_cell BK139.out 0).trans rfl; have hcz8_1 : w7.cell? ⟨gb139, 1, none⟩ = some (.string a0_1) := (blk_cell BK139.out 1).trans rfl; have hcz8_2 : w7.cell? ⟨gb139, 2, none⟩ = some (.string a0_2) := (blk_cell BK139.out 2).trans rfl; have hcz8_3 : w7.cell? ⟨gb139, 3, none⟩ = some (.slice A0_3 l0_3.length c0_3) := (blk_cell BK139.out 3).trans rfl; have hfz8_0 := blk_frozen BK139.out 0; have hfz8_1 := blk_frozen BK139.out 1; have hfz8_2 := blk_frozen BK139.out 2; have hfz8_3 := blk_frozen BK139.out 3) | ((with_reducible refine gate_callee (f := 68) rfl ?_); refine goesL_ (some 7) rfl rfl Tryz.func68 (by kernel_rfl) rfl #[.agg #[.int .i64 a0_0, .string a0_1, .string a0_2, .slice A0_3 l0_3.length c0_3]] rfl (by (try simp only [List.map_toArray, List.map_cons, List.map_nil]); first | done | rfl | (simp only [List.length_drop, List.length_take]; rfl)) ?_; (with_reducible refine (field_Doc.calls k a0_0 a0_1 a0_2 _ _ l0_3 t140 t141 _ ?side1 ?side2 A2.out).mono ?_); (case side1 => repeat (first | exact (Kd.C_below HR0_3.out HB.out) | (with_reducible refine Kd.C_alloc ?_ _) | (with_reducible refine Kd.C_drewN ?_ _) | (with_reducible refine Kd.C_drew ?_))); (case side2 => exact HC0_3.out); rintro e w9 ⟨rfl, hb⟩; refine ⟨_, rfl, ?_⟩; have n0_ := Aside0.mk (blk_below (g := gb139) (o := .cells #[.int .i64 a0_0, .string a0_1, .string a0_2, .slice A0_3 l0_3.length c0_3] 38 (0, 0)) (by (with_reducible repeat (first | refine blk_drewN ?_ _ | refine blk_drew ?_ | refine blk_alloc ?_ _)); exact BK139.out) hb); have n1_ := Aside0.mk (below_step (by repeat (first | (with_reducible first | exact HB.out | apply below_alloc | apply pw_below_drewN | apply below_drew1 | refine below_set ?_ GE139.out) | exact HB.out)) hb); clear BK139; clear HB; have BK139 := n0_; have HB := n1_; clear n0_ n1_; (try clear hb); (try clear hb2); (try clear hk); (try clear hi)))
  go_ret
  exact ⟨by first | rfl | (simp [errW_none, errW_some] <;> rfl) | (simp [*, errW_none, errW_some] <;> rfl), by repeat (first | (with_reducible first | exact HB.out | apply below_alloc | apply pw_below_drewN | apply below_drew1 | refine below_set ?_ GE139.out) | exact HB.out)⟩
end Go.Proofs.YtkblmomfiimkiaaGreatDoor.P
end

section
namespace Go.Proofs.YtkblmomfiimkiaaGreatDoor.P
open Go.RowKit Go.Proofs.YtkblmomfiimkiaaGreatDoorW.PrintWords Go.Proofs.YtkblmomfiimkiaaGreatDoorW.PrintLast Go.Proofs.YtkblmomfiimkiaaGreatDoorW.PrintMore
open Go.Proofs.YtkblmomfiimkiaaGreatDoor.Fp
def paperB (x : S38) : Bool := (post_paper.f 1 x.f0 x.f1 x.f2 x.f3).getD false
def PaperTold (x : S38) : Prop := post_paper.f 1 x.f0 x.f1 x.f2 x.f3 = some (paperB x)
theorem oddPaper_calls (x : S38) (A : Option Addr) (c : Nat) (w : World) (hr : Kd.C k43 w A x.f3.length x.f3) (hc : x.f3.length ≤ c) (hp : PaperTold x) :
  Calls Tryz.prog 39 #[.agg #[.int .i64 x.f0, .string x.f1, .string x.f2, .slice A x.f3.length c]] w fun e w' => e = .returned (.bool (!paperB x)) ∧ Below w.heap.size w w' := by
 have hcall := fun W (hW : Below w.heap.size w W) => post_paper.calls 1 x.f0 x.f1 x.f2 A c x.f3 (paperB x) W (Kd.C_below hr hW) hc hp
 have HC := Lib.hid hcall
 clear hcall hp hr
 go_enter Tryz.func39, Tryz.ntmps39
 go_wp2_with fail
 refine (HC.out _ ((Below.refl _ w).alloc (Nat.le_refl _) _)).mono ?_
 rintro e w1 ⟨rfl, hb⟩
 have HB := Lib.hid (below_step ((Below.refl _ w).alloc (Nat.le_refl _) (.cells #[.int .i64 x.f0, .string x.f1, .string x.f2, .slice A x.f3.length c] 38)) hb)
 clear hb
 go_wp2_with fail
 go_ret
 exact ⟨rfl, HB.out⟩
theorem noneName_calls (x : ByteArray) (w : World) :
  Calls Tryz.prog 41 #[.string x] w fun e w' => e = .returned (.bool (!nameB x.data.toList)) ∧ Below w.heap.size w w' := by
 have hcall := post_name.calls x (nameB x.data.toList) w rfl
 have HC := Lib.hid hcall
 clear hcall
 go_enter Tryz.func41, Tryz.ntmps41
 go_wp2_with fail
 refine HC.out.mono ?_
 rintro e w1 ⟨rfl, hb⟩
 have HB := Lib.hid hb
 clear hb
 go_wp2_with fail
 go_ret
 exact ⟨rfl, HB.out⟩
theorem any_hit {α : Type} (p : α → Bool) {l : List α} {i : Nat} (h : i < l.length) (hp : p l[i] = true) : l.any p = true := List.any_eq_true.2 ⟨_, List.getElem_mem h, hp⟩
theorem any_step {α : Type} (p : α → Bool) {l : List α} {i : Nat} (h : i < l.length) (h0 : (l.take i).any p = false) (hp : p l[i] = false) : (l.take (i + 1)).any p = false := by
 rw [List.take_succ_eq_append_getElem h, List.any_append, h0]; simp [hp]
set_option maxRecDepth 100000 in
set_option maxHeartbeats 4000000 in
theorem indexDocs (A : Option Addr) (c : Nat) (l : List S38) (w : World) (hr : Kd.C k38 w A l.length l) (hz : l.length ≤ 4398046511104) (hf : ∀ x ∈ l, PaperTold x) :
  Calls Tryz.prog 69 #[.slice A l.length c, .func (.func 39) #[] #[]] w fun e w' => (∃ i : Int, e = .returned (.int .i64 i) ∧ decide (0 ≤ i) = l.any fun x => !paperB x) ∧ Below w.heap.size w w' := by
 have HR := Lib.hid hr
 have HF := Lib.hid hf
 clear hr hf
 have eg := enters_of (P := Tryz.prog) Tryz.func39 (by kernel_rfl) rfl
 go_enter Tryz.func69, Tryz.ntmps69
 go_wp2_with fail
 go_loopg [8] l.length (fun g v8 wr => ∃ i : Nat, i ≤ l.length ∧ l.length - i ≤ g ∧ v8 = .int .i64 i ∧ Hid (Below w.heap.size w wr) ∧ Hid (((l.take i).any fun x => !paperB x) = false))
 case atStart => exact ⟨0, Nat.zero_le _, by omega, rfl, Lib.hid (Below.refl _ _), Lib.hid rfl⟩
 case round =>
  rename Nat => G
  obtain ⟨i, hi, hg, rfl, HB, HE⟩ := hrel
  by_cases hlt : i < l.length
  ·
   obtain ⟨ad0, B0, b0, hA0, p0, p1, p2, p3, p4, p5⟩ := at_T38 HR.out (i : Int) (by omega) (by omega)
   rw [Int.toNat_natCast] at p0 p1 p2 p3
   rw [rdD_nat l i hlt] at p0 p1 p2 p3 p4 p5
   obtain ⟨x, hx⟩ : ∃ x, l[i] = x := ⟨_, rfl⟩
   have hxm := HF.out x (by rw [← hx]; exact List.getElem_mem hlt)
   rw [hx] at p0 p1 p2 p3 p4 p5
   replace p0 := pw_cell_below HB.out p0
   replace p1 := pw_cell_below HB.out p1
   replace p2 := pw_cell_below HB.out p2
   replace p3 := pw_cell_below HB.out p3
   have hc := oddPaper_calls x B0 b0 wr (Kd.C_below p5 HB.out) p4 hxm
   have HX := Lib.hid hx
   subst hA0
   clear hx p4 p5 hxm
   cases hq : paperB x with
   | true =>
    rw [hq] at hc
    have HC := Lib.hid hc
    have HQ := Lib.hid hq
    clear hc hq
    go_wp2_with fail
    refine HC.out.mono ?_
    rintro e w3 ⟨rfl, hb3⟩
    have HB3 := Lib.hid (below_step HB.out hb3)
    clear hb3
    go_wp2_with fail
    go_roundg (l.length - (i + 1))
    case measure => omega
    case rel => exact ⟨i + 1, by omega, by omega, by go_num, HB3, Lib.hid (any_step _ hlt HE.out (by show (!paperB l[i]) = false; rw [HX.out, HQ.out]; rfl))⟩
   | false =>
    rw [hq] at hc
    have HC := Lib.hid hc
    have HN := Lib.hid (any_hit (fun x => !paperB x) hlt (by show (!paperB l[i]) = true; rw [HX.out, hq]; rfl))
    clear hc hq
    go_wp2_with fail
    refine HC.out.mono ?_
    rintro e w3 ⟨rfl, hb3⟩
    have HB3 := Lib.hid (below_step HB.out hb3)
    clear hb3
    go_wp2_with fail
    go_ret
    exact ⟨⟨_, rfl, by rw [HN.out]; exact decide_eq_true (by omega)⟩, HB3.out⟩
  ·
   obtain rfl : i = l.length := by omega
   have h1 := HE.out
   rw [List.take_length] at h1
   have H1 := Lib.hid h1
   clear h1 HE
   go_wp2_with fail
   go_ret
   exact ⟨⟨_, rfl, by rw [H1.out]; rfl⟩, HB.out⟩
theorem containsDocs (A : Option Addr) (c : Nat) (l : List S38) (w : World) (hr : Kd.C k38 w A l.length l) (hz : l.length ≤ 4398046511104) (hf : ∀ x ∈ l, PaperTold x) :
  Calls Tryz.prog 42 #[.slice A l.length c, .func (.func 39) #[] #[]] w fun e w' => e = .returned (.bool (l.any fun x => !paperB x)) ∧ Below w.heap.size w w' := by
 have HC := Lib.hid (indexDocs A c l w hr hz hf)
 clear hr hf
 go_enter Tryz.func42, Tryz.ntmps42
 go_wp2_with fail
 refine HC.out.mono ?_
 rintro e w1 ⟨⟨i, rfl, hi⟩, hb⟩
 have HB := Lib.hid hb
 have HI := Lib.hid hi
 clear hb hi
 go_wp2_with fail
 go_ret
 exact ⟨by rw [← HI.out]; rfl, HB.out⟩
set_option maxRecDepth 100000 in
set_option maxHeartbeats 4000000 in
theorem indexTexts (A : Option Addr) (c : Nat) (l : List ByteArray) (w : World) (hr : Kd.C Kd.string w A l.length l) (hz : l.length ≤ 4398046511104) :
  Calls Tryz.prog 70 #[.slice A l.length c, .func (.func 41) #[] #[]] w fun e w' => (∃ i : Int, e = .returned (.int .i64 i) ∧ decide (0 ≤ i) = l.any fun x => !nameB x.data.toList) ∧ Below w.heap.size w w' := by
 have HR := Lib.hid hr
 clear hr
 have eg := enters_of (P := Tryz.prog) Tryz.func41 (by kernel_rfl) rfl
 go_enter Tryz.func70, Tryz.ntmps70
 go_wp2_with fail
 go_loopg [8] l.length (fun g v8 wr => ∃ i : Nat, i ≤ l.length ∧ l.length - i ≤ g ∧ v8 = .int .i64 i ∧ Hid (Below w.heap.size w wr) ∧ Hid (((l.take i).any fun x => !nameB x.data.toList) = false))
 case atStart => exact ⟨0, Nat.zero_le _, by omega, rfl, Lib.hid (Below.refl _ _), Lib.hid rfl⟩
 case round =>
  rename Nat => G
  obtain ⟨i, hi, hg, rfl, HB, HE⟩ := hrel
  by_cases hlt : i < l.length
  ·
   obtain ⟨ad0, hA0, p0⟩ := Kd.at_string HR.out (i : Int) (by omega) (by omega)
   rw [Int.toNat_natCast, rdOf_nat l i hlt] at p0
   obtain ⟨x, hx⟩ : ∃ x, l[i] = x := ⟨_, rfl⟩
   rw [hx] at p0
   replace p0 := pw_cell_below HB.out p0
   have hc := noneName_calls x wr
   have HX := Lib.hid hx
   subst hA0
   clear hx
   cases hq : nameB x.data.toList with
   | true =>
    rw [hq] at hc
    have HC := Lib.hid hc
    have HQ := Lib.hid hq
    clear hc hq
    go_wp2_with fail
    refine HC.out.mono ?_
    rintro e w3 ⟨rfl, hb3⟩
    have HB3 := Lib.hid (below_step HB.out hb3)
    clear hb3
    go_wp2_with fail
    go_roundg (l.length - (i + 1))
    case measure => omega
    case rel => exact ⟨i + 1, by omega, by omega, by go_num, HB3, Lib.hid (any_step _ hlt HE.out (by show (!nameB (l[i]).data.toList) = false; rw [HX.out, HQ.out]; rfl))⟩
   | false =>
    rw [hq] at hc
    have HC := Lib.hid hc
    have HN := Lib.hid (any_hit (fun x => !nameB x.data.toList) hlt (by show (!nameB (l[i]).data.toList) = true; rw [HX.out, hq]; rfl))
    clear hc hq
    go_wp2_with fail
    refine HC.out.mono ?_
    rintro e w3 ⟨rfl, hb3⟩
    have HB3 := Lib.hid (below_step HB.out hb3)
    clear hb3
    go_wp2_with fail
    go_ret
    exact ⟨⟨_, rfl, by rw [HN.out]; exact decide_eq_true (by omega)⟩, HB3.out⟩
  ·
   obtain rfl : i = l.length := by omega
   have h1 := HE.out
   rw [List.take_length] at h1
   have H1 := Lib.hid h1
   clear h1 HE
   go_wp2_with fail
   go_ret
   exact ⟨⟨_, rfl, by rw [H1.out]; rfl⟩, HB.out⟩
theorem containsTexts (A : Option Addr) (c : Nat) (l : List ByteArray) (w : World) (hr : Kd.C Kd.string w A l.length l) (hz : l.length ≤ 4398046511104) :
  Calls Tryz.prog 43 #[.slice A l.length c, .func (.func 41) #[] #[]] w fun e w' => e = .returned (.bool (l.any fun x => !nameB x.data.toList)) ∧ Below w.heap.size w w' := by
 have HC := Lib.hid (indexTexts A c l w hr hz)
 clear hr
 go_enter Tryz.func43, Tryz.ntmps43
 go_wp2_with fail
 refine HC.out.mono ?_
 rintro e w1 ⟨⟨i, rfl, hi⟩, hb⟩
 have HB := Lib.hid hb
 have HI := Lib.hid hi
 clear hb hi
 go_wp2_with fail
 go_ret
 exact ⟨by rw [← HI.out]; rfl, HB.out⟩
end Go.Proofs.YtkblmomfiimkiaaGreatDoor.P
end

section
namespace Go.Proofs.YtkblmomfiimkiaaGreatDoor.P
open Go.RowKit Go.Proofs.YtkblmomfiimkiaaGreatDoorW.PrintWords Go.Proofs.YtkblmomfiimkiaaGreatDoorW.PrintLast Go.Proofs.YtkblmomfiimkiaaGreatDoorW.PrintMore
set_option maxHeartbeats 1000000 in
theorem eqTexts5 (d : Nat) (w : World) (x0 x1 x2 x3 x4 y0 y1 y2 y3 y4 : ByteArray) :
  (Op.equalIn (d + 2) 61 (.agg #[.string x0, .string x1, .string x2, .string x3, .string x4]) (.agg #[.string y0, .string y1, .string y2, .string y3, .string y4])).run Tryz.prog w =
   .ok (x0.toList == y0.toList && (x1.toList == y1.toList && (x2.toList == y2.toList && (x3.toList == y3.toList && x4.toList == y4.toList)))) w := by
 have u3 := Tryz.underlying9
 have a3 := Tryz.isAgg9
 have z3 := Tryz.sizeOf9
 rw [Op.equalIn]
 simp only [Sem.run_bind, run_underlying Tryz.underlying61, Result.andThen_ok]
 simp only [Std.Legacy.Range.forIn_eq_forIn_range', Std.Legacy.Range.size, Nat.sub_zero, Nat.add_sub_cancel, Nat.div_one, List.range'_succ, List.range'_zero, List.forIn_cons, List.forIn_nil]
 go_simp
 by_cases h0 : x0.toList = y0.toList <;> by_cases h1 : x1.toList = y1.toList <;> by_cases h2 : x2.toList = y2.toList <;> by_cases h3 : x3.toList = y3.toList <;> by_cases h4 : x4.toList = y4.toList <;> simp [h0, h1, h2, h3, h4]
set_option maxHeartbeats 1000000 in
theorem eqInts5 (d : Nat) (w : World) (x0 x1 x2 x3 x4 y0 y1 y2 y3 y4 : Int) :
  (Op.equalIn (d + 2) 63 (.agg #[.int .i64 x0, .int .i64 x1, .int .i64 x2, .int .i64 x3, .int .i64 x4]) (.agg #[.int .i64 y0, .int .i64 y1, .int .i64 y2, .int .i64 y3, .int .i64 y4])).run Tryz.prog w =
   .ok (x0 == y0 && (x1 == y1 && (x2 == y2 && (x3 == y3 && x4 == y4)))) w := by
 have u3 := Tryz.underlying3
 have a3 := Tryz.isAgg3
 have z3 := Tryz.sizeOf3
 rw [Op.equalIn]
 simp only [Sem.run_bind, run_underlying Tryz.underlying63, Result.andThen_ok]
 simp only [Std.Legacy.Range.forIn_eq_forIn_range', Std.Legacy.Range.size, Nat.sub_zero, Nat.add_sub_cancel, Nat.div_one, List.range'_succ, List.range'_zero, List.forIn_cons, List.forIn_nil]
 go_simp
 by_cases h0 : x0 = y0 <;> by_cases h1 : x1 = y1 <;> by_cases h2 : x2 = y2 <;> by_cases h3 : x3 = y3 <;> by_cases h4 : x4 = y4 <;> simp [h0, h1, h2, h3, h4]
end Go.Proofs.YtkblmomfiimkiaaGreatDoor.P
end

section
namespace Go.Proofs.YtkblmomfiimkiaaGreatDoor.P
open Go.RowKit Go.Proofs.YtkblmomfiimkiaaGreatDoorW.PrintWords Go.Proofs.YtkblmomfiimkiaaGreatDoorW.PrintLast Go.Proofs.YtkblmomfiimkiaaGreatDoorW.PrintMore
def letC (x : S33) (A : Option Addr) (c : Nat) (B : Option Addr) (d : Nat) : Array Value :=
 #[.string x.f0, .string x.f1, .int .i64 x.f2, .int .i64 x.f3, .int .i64 x.f4, .string x.f5, .string x.f6, .string x.f7, .int .i64 x.f8, .int .i64 x.f9, .string x.f10.f0, .int .i64 x.f10.f1, .slice A x.f11.length c, .slice B x.f12.length d]
structure CBox (g : Nat) (C : Array Value) (w : World) where
 W : World
 h : W.heap[g]? = some (.cells C 33 (0, 0)) ∧ Below w.heap.size w W
theorem CBox.below {g : Nat} {C : Array Value} {w : World} (p : CBox g C w) : Below w.heap.size w p.W := p.h.2
theorem cbox_below {g : Nat} {C : Array Value} {w : World} (p : CBox g C w) {w' : World} (hb : Below p.W.heap.size p.W w') : ∃ q : CBox g C w, w' = q.W := ⟨⟨w', (hb.block g (blk_lt p.h.1)).trans p.h.1, below_step p.h.2 hb⟩, rfl⟩
theorem cbox_drawn {g : Nat} {C : Array Value} {w : World} (p : CBox g C w) {w' : World} (hb : Drawn0 p.W w') : ∃ q : CBox g C w, w' = q.W := cbox_below p (by obtain ⟨n, hn⟩ := hb; rw [hn]; exact pw_below_drewN (Below.refl _ _) n)
theorem cbox_new (w : World) (C : Array Value) : ∃ p : CBox w.heap.size C w, w.alloc (.cells C 33) = p.W :=
 ⟨⟨_, by show (w.heap.push _)[w.heap.size]? = _; rw [Array.getElem?_push_size], (Below.refl _ w).alloc (Nat.le_refl _) _⟩, rfl⟩
section
variable {g : Nat} {x : S33} {A : Option Addr} {c : Nat} {B : Option Addr} {d : Nat} {w : World} (p : CBox g (letC x A c B d) w)
theorem lb0 : p.W.cell? ⟨g, 0, none⟩ = some (.string x.f0) := (blk_cell p.h.1 0).trans rfl
theorem lb1 : p.W.cell? ⟨g, 1, none⟩ = some (.string x.f1) := (blk_cell p.h.1 1).trans rfl
theorem lb2 : p.W.cell? ⟨g, 2, none⟩ = some (.int .i64 x.f2) := (blk_cell p.h.1 2).trans rfl
theorem lb3 : p.W.cell? ⟨g, 3, none⟩ = some (.int .i64 x.f3) := (blk_cell p.h.1 3).trans rfl
theorem lb4 : p.W.cell? ⟨g, 4, none⟩ = some (.int .i64 x.f4) := (blk_cell p.h.1 4).trans rfl
theorem lb5 : p.W.cell? ⟨g, 5, none⟩ = some (.string x.f5) := (blk_cell p.h.1 5).trans rfl
theorem lb6 : p.W.cell? ⟨g, 6, none⟩ = some (.string x.f6) := (blk_cell p.h.1 6).trans rfl
theorem lb7 : p.W.cell? ⟨g, 7, none⟩ = some (.string x.f7) := (blk_cell p.h.1 7).trans rfl
theorem lb8 : p.W.cell? ⟨g, 8, none⟩ = some (.int .i64 x.f8) := (blk_cell p.h.1 8).trans rfl
theorem lb9 : p.W.cell? ⟨g, 9, none⟩ = some (.int .i64 x.f9) := (blk_cell p.h.1 9).trans rfl
theorem lb10 : p.W.cell? ⟨g, 10, none⟩ = some (.string x.f10.f0) := (blk_cell p.h.1 10).trans rfl
theorem lb11 : p.W.cell? ⟨g, 11, none⟩ = some (.int .i64 x.f10.f1) := (blk_cell p.h.1 11).trans rfl
theorem lb12 : p.W.cell? ⟨g, 12, none⟩ = some (.slice A x.f11.length c) := (blk_cell p.h.1 12).trans rfl
theorem lb13 : p.W.cell? ⟨g, 13, none⟩ = some (.slice B x.f12.length d) := (blk_cell p.h.1 13).trans rfl
end
structure LetR (w : World) (x : S33) (A : Option Addr) (c : Nat) (B : Option Addr) (d : Nat) : Prop where
 rA : Kd.C k38 w A x.f11.length x.f11
 lA : x.f11.length ≤ c
 rB : Kd.C Kd.string w B x.f12.length x.f12
 lB : x.f12.length ≤ d
theorem LetR.below {w w' : World} {x : S33} {A : Option Addr} {c : Nat} {B : Option Addr} {d : Nat} (h : LetR w x A c B d) (hb : Below w.heap.size w w') : LetR w' x A c B d := ⟨Kd.C_below h.rA hb, h.lA, Kd.C_below h.rB hb, h.lB⟩
end Go.Proofs.YtkblmomfiimkiaaGreatDoor.P
end
