/- slices.ContainsFunc of papers that may not go with a letter, of texts that are no names, as post.May asks it. Conditions: lists' lengths below 2^42. -/
import Derived.Test.YtkblmomfiimkiaaGreatDoorEqDocs
import Derived.Test.YtkblmomfiimkiaaGreatDoorNameB
import Derived.Test.YtkblmomfiimkiaaGreatDoorPx15
namespace Go.Proofs.YtkblmomfiimkiaaGreatDoor.P
open Go.RowKit Go.Proofs.YtkblmomfiimkiaaGreatDoorW.PrintWords Go.Proofs.YtkblmomfiimkiaaGreatDoorW.PrintLast Go.Proofs.YtkblmomfiimkiaaGreatDoorW.PrintMore
open Go.Proofs.YtkblmomfiimkiaaGreatDoor.Fp

/-- may a paper go with a letter -/
def paperB (x : S38) : Bool := (post_paper.f 1 x.f0 x.f1 x.f2 x.f3).getD false
def PaperTold (x : S38) : Prop := post_paper.f 1 x.f0 x.f1 x.f2 x.f3 = some (paperB x)

theorem oddPaper_calls (x : S38) (A : Option Addr) (c : Nat) (w : World) (hr : Kd.C k43 w A x.f3.length x.f3) (hc : x.f3.length ≤ c) (hp : PaperTold x) :
    Calls Tryz.prog 39 #[.agg #[.int .i64 x.f0, .string x.f1, .string x.f2, .slice A x.f3.length c]] w fun e w' => e = .returned (.bool (!paperB x)) ∧ Below w.heap.size w w' := by
  have hcall := fun W (hW : Below w.heap.size w W) => post_paper.calls 1 x.f0 x.f1 x.f2 A c x.f3 (paperB x) W (Kd.C_below hr hW) hc hp
  have HC := Lib.hid hcall
  clear hcall hp hr
  go_enter Tryz.func39, Tryz.ntmps39
  go_wp2_with fail
  refine (HC.out _ ((Below.refl _ w).alloc (Nat.le_refl _) _)).mono ?_
  rintro e w1 ⟨rfl, hb⟩
  have HB := Lib.hid (below_step ((Below.refl _ w).alloc (Nat.le_refl _) (.cells #[.int .i64 x.f0, .string x.f1, .string x.f2, .slice A x.f3.length c] 38)) hb)
  clear hb
  go_wp2_with fail
  go_ret
  exact ⟨rfl, HB.out⟩
theorem noneName_calls (x : ByteArray) (w : World) :
    Calls Tryz.prog 41 #[.string x] w fun e w' => e = .returned (.bool (!nameB x.data.toList)) ∧ Below w.heap.size w w' := by
  have hcall := post_name.calls x (nameB x.data.toList) w rfl
  have HC := Lib.hid hcall
  clear hcall
  go_enter Tryz.func41, Tryz.ntmps41
  go_wp2_with fail
  refine HC.out.mono ?_
  rintro e w1 ⟨rfl, hb⟩
  have HB := Lib.hid hb
  clear hb
  go_wp2_with fail
  go_ret
  exact ⟨rfl, HB.out⟩

theorem any_hit {α : Type} (p : α → Bool) {l : List α} {i : Nat} (h : i < l.length) (hp : p l[i] = true) : l.any p = true := List.any_eq_true.2 ⟨_, List.getElem_mem h, hp⟩
theorem any_step {α : Type} (p : α → Bool) {l : List α} {i : Nat} (h : i < l.length) (h0 : (l.take i).any p = false) (hp : p l[i] = false) : (l.take (i + 1)).any p = false := by
  rw [List.take_succ_eq_append_getElem h, List.any_append, h0]; simp [hp]

set_option maxRecDepth 100000 in
set_option maxHeartbeats 4000000 in
theorem indexDocs (A : Option Addr) (c : Nat) (l : List S38) (w : World) (hr : Kd.C k38 w A l.length l) (hz : l.length ≤ 4398046511104) (hf : ∀ x ∈ l, PaperTold x) :
    Calls Tryz.prog 69 #[.slice A l.length c, .func (.func 39) #[] #[]] w fun e w' => (∃ i : Int, e = .returned (.int .i64 i) ∧ decide (0 ≤ i) = l.any fun x => !paperB x) ∧ Below w.heap.size w w' := by
  have HR := Lib.hid hr
  have HF := Lib.hid hf
  clear hr hf
  have eg := enters_of (P := Tryz.prog) Tryz.func39 (by kernel_rfl) rfl
  go_enter Tryz.func69, Tryz.ntmps69
  go_wp2_with fail
  go_loopg [8] l.length (fun g v8 wr => ∃ i : Nat, i ≤ l.length ∧ l.length - i ≤ g ∧ v8 = .int .i64 i ∧ Hid (Below w.heap.size w wr) ∧ Hid (((l.take i).any fun x => !paperB x) = false))
  case atStart => exact ⟨0, Nat.zero_le _, by omega, rfl, Lib.hid (Below.refl _ _), Lib.hid rfl⟩
  case round =>
    rename Nat => G
    obtain ⟨i, hi, hg, rfl, HB, HE⟩ := hrel
    by_cases hlt : i < l.length
    · obtain ⟨ad0, B0, b0, hA0, p0, p1, p2, p3, p4, p5⟩ := at_T38 HR.out (i : Int) (by omega) (by omega)
      rw [Int.toNat_natCast] at p0 p1 p2 p3
      rw [rdD_nat l i hlt] at p0 p1 p2 p3 p4 p5
      obtain ⟨x, hx⟩ : ∃ x, l[i] = x := ⟨_, rfl⟩
      have hxm := HF.out x (by rw [← hx]; exact List.getElem_mem hlt)
      rw [hx] at p0 p1 p2 p3 p4 p5
      replace p0 := pw_cell_below HB.out p0
      replace p1 := pw_cell_below HB.out p1
      replace p2 := pw_cell_below HB.out p2
      replace p3 := pw_cell_below HB.out p3
      have hc := oddPaper_calls x B0 b0 wr (Kd.C_below p5 HB.out) p4 hxm
      have HX := Lib.hid hx
      subst hA0
      clear hx p4 p5 hxm
      cases hq : paperB x with
      | true =>
        rw [hq] at hc
        have HC := Lib.hid hc
        have HQ := Lib.hid hq
        clear hc hq
        go_wp2_with fail
        refine HC.out.mono ?_
        rintro e w3 ⟨rfl, hb3⟩
        have HB3 := Lib.hid (below_step HB.out hb3)
        clear hb3
        go_wp2_with fail
        go_roundg (l.length - (i + 1))
        case measure => omega
        case rel => exact ⟨i + 1, by omega, by omega, by go_num, HB3, Lib.hid (any_step _ hlt HE.out (by show (!paperB l[i]) = false; rw [HX.out, HQ.out]; rfl))⟩
      | false =>
        rw [hq] at hc
        have HC := Lib.hid hc
        have HN := Lib.hid (any_hit (fun x => !paperB x) hlt (by show (!paperB l[i]) = true; rw [HX.out, hq]; rfl))
        clear hc hq
        go_wp2_with fail
        refine HC.out.mono ?_
        rintro e w3 ⟨rfl, hb3⟩
        have HB3 := Lib.hid (below_step HB.out hb3)
        clear hb3
        go_wp2_with fail
        go_ret
        exact ⟨⟨_, rfl, by rw [HN.out]; exact decide_eq_true (by omega)⟩, HB3.out⟩
    · obtain rfl : i = l.length := by omega
      have h1 := HE.out
      rw [List.take_length] at h1
      have H1 := Lib.hid h1
      clear h1 HE
      go_wp2_with fail
      go_ret
      exact ⟨⟨_, rfl, by rw [H1.out]; rfl⟩, HB.out⟩
theorem containsDocs (A : Option Addr) (c : Nat) (l : List S38) (w : World) (hr : Kd.C k38 w A l.length l) (hz : l.length ≤ 4398046511104) (hf : ∀ x ∈ l, PaperTold x) :
    Calls Tryz.prog 42 #[.slice A l.length c, .func (.func 39) #[] #[]] w fun e w' => e = .returned (.bool (l.any fun x => !paperB x)) ∧ Below w.heap.size w w' := by
  have HC := Lib.hid (indexDocs A c l w hr hz hf)
  clear hr hf
  go_enter Tryz.func42, Tryz.ntmps42
  go_wp2_with fail
  refine HC.out.mono ?_
  rintro e w1 ⟨⟨i, rfl, hi⟩, hb⟩
  have HB := Lib.hid hb
  have HI := Lib.hid hi
  clear hb hi
  go_wp2_with fail
  go_ret
  exact ⟨by rw [← HI.out]; rfl, HB.out⟩

set_option maxRecDepth 100000 in
set_option maxHeartbeats 4000000 in
theorem indexTexts (A : Option Addr) (c : Nat) (l : List ByteArray) (w : World) (hr : Kd.C Kd.string w A l.length l) (hz : l.length ≤ 4398046511104) :
    Calls Tryz.prog 70 #[.slice A l.length c, .func (.func 41) #[] #[]] w fun e w' => (∃ i : Int, e = .returned (.int .i64 i) ∧ decide (0 ≤ i) = l.any fun x => !nameB x.data.toList) ∧ Below w.heap.size w w' := by
  have HR := Lib.hid hr
  clear hr
  have eg := enters_of (P := Tryz.prog) Tryz.func41 (by kernel_rfl) rfl
  go_enter Tryz.func70, Tryz.ntmps70
  go_wp2_with fail
  go_loopg [8] l.length (fun g v8 wr => ∃ i : Nat, i ≤ l.length ∧ l.length - i ≤ g ∧ v8 = .int .i64 i ∧ Hid (Below w.heap.size w wr) ∧ Hid (((l.take i).any fun x => !nameB x.data.toList) = false))
  case atStart => exact ⟨0, Nat.zero_le _, by omega, rfl, Lib.hid (Below.refl _ _), Lib.hid rfl⟩
  case round =>
    rename Nat => G
    obtain ⟨i, hi, hg, rfl, HB, HE⟩ := hrel
    by_cases hlt : i < l.length
    · obtain ⟨ad0, hA0, p0⟩ := Kd.at_string HR.out (i : Int) (by omega) (by omega)
      rw [Int.toNat_natCast, rdOf_nat l i hlt] at p0
      obtain ⟨x, hx⟩ : ∃ x, l[i] = x := ⟨_, rfl⟩
      rw [hx] at p0
      replace p0 := pw_cell_below HB.out p0
      have hc := noneName_calls x wr
      have HX := Lib.hid hx
      subst hA0
      clear hx
      cases hq : nameB x.data.toList with
      | true =>
        rw [hq] at hc
        have HC := Lib.hid hc
        have HQ := Lib.hid hq
        clear hc hq
        go_wp2_with fail
        refine HC.out.mono ?_
        rintro e w3 ⟨rfl, hb3⟩
        have HB3 := Lib.hid (below_step HB.out hb3)
        clear hb3
        go_wp2_with fail
        go_roundg (l.length - (i + 1))
        case measure => omega
        case rel => exact ⟨i + 1, by omega, by omega, by go_num, HB3, Lib.hid (any_step _ hlt HE.out (by show (!nameB (l[i]).data.toList) = false; rw [HX.out, HQ.out]; rfl))⟩
      | false =>
        rw [hq] at hc
        have HC := Lib.hid hc
        have HN := Lib.hid (any_hit (fun x => !nameB x.data.toList) hlt (by show (!nameB (l[i]).data.toList) = true; rw [HX.out, hq]; rfl))
        clear hc hq
        go_wp2_with fail
        refine HC.out.mono ?_
        rintro e w3 ⟨rfl, hb3⟩
        have HB3 := Lib.hid (below_step HB.out hb3)
        clear hb3
        go_wp2_with fail
        go_ret
        exact ⟨⟨_, rfl, by rw [HN.out]; exact decide_eq_true (by omega)⟩, HB3.out⟩
    · obtain rfl : i = l.length := by omega
      have h1 := HE.out
      rw [List.take_length] at h1
      have H1 := Lib.hid h1
      clear h1 HE
      go_wp2_with fail
      go_ret
      exact ⟨⟨_, rfl, by rw [H1.out]; rfl⟩, HB.out⟩
theorem containsTexts (A : Option Addr) (c : Nat) (l : List ByteArray) (w : World) (hr : Kd.C Kd.string w A l.length l) (hz : l.length ≤ 4398046511104) :
    Calls Tryz.prog 43 #[.slice A l.length c, .func (.func 41) #[] #[]] w fun e w' => e = .returned (.bool (l.any fun x => !nameB x.data.toList)) ∧ Below w.heap.size w w' := by
  have HC := Lib.hid (indexTexts A c l w hr hz)
  clear hr
  go_enter Tryz.func43, Tryz.ntmps43
  go_wp2_with fail
  refine HC.out.mono ?_
  rintro e w1 ⟨⟨i, rfl, hi⟩, hb⟩
  have HB := Lib.hid hb
  have HI := Lib.hid hi
  clear hb hi
  go_wp2_with fail
  go_ret
  exact ⟨by rw [← HI.out]; rfl, HB.out⟩
end Go.Proofs.YtkblmomfiimkiaaGreatDoor.P
