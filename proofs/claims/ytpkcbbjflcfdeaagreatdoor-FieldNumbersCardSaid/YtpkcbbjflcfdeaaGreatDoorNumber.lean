/- field.Number: the number that a text spells, if its digits are just the text. Conditions: the library's table of powers and its two error variables stand as laid; the text has at most 2^48 bytes. -/
import Derived.Test.YtpkcbbjflcfdeaaGreatDoorPx0
import Derived.Test.YtpkcbbjflcfdeaaGreatDoorShelfN
import Derived.WalkKit
import Derived.WalkMore
import Derived.Lib.Hide
import Derived.Lib.ParseIntBTie
import Derived.Lib.UnsafeStr
namespace Go.Proofs.YtpkcbbjflcfdeaaGreatDoor.P
open Go.RowKit Go.Proofs.YtpkcbbjflcfdeaaGreatDoorW.PrintWords Go.Proofs.YtpkcbbjflcfdeaaGreatDoorW.PrintLast Go.Proofs.YtpkcbbjflcfdeaaGreatDoorW.PrintMore

/-- an error variable's cell -/
def ErrCell (W : World) (g : Nat) : Prop := ∃ ev, W.cell? ⟨g, 0, none⟩ = some ev ∧ (ev = .nilIface ∨ ∃ te pe, ev = .iface te pe)
/-- what the library's variables hold -/
structure Glob (W : World) : Prop where
  tab : Lib.TabIs Tryz.prog W "internal/strconv.uint64pow10" .u64 Lib.pow10Tab
  syn : ErrCell W 0
  rng : ErrCell W 1

theorem errCell_below {W W1 : World} {g : Nat} (h : ErrCell W g) (hb : Below W.heap.size W W1) : ErrCell W1 g := by
  obtain ⟨ev, h1, h2⟩ := h
  exact ⟨ev, pw_cell_below hb h1, h2⟩
theorem tab_below {w w' : World} {zs : List Int} (h : Lib.TabIs Tryz.prog w "internal/strconv.uint64pow10" .u64 zs) (hb : Below w.heap.size w w') : Lib.TabIs Tryz.prog w' "internal/strconv.uint64pow10" .u64 zs := by
  have hgn : Tryz.prog.globalNamed "internal/strconv.uint64pow10" = some 2 := by kernel_rfl
  unfold Lib.TabIs World.var? at h ⊢
  rw [hgn] at h ⊢
  simp only [Option.bind_some] at h ⊢
  have hlt : 2 < w.heap.size := by
    rcases Nat.lt_or_ge 2 w.heap.size with h' | h'
    · exact h'
    · rw [Array.getElem?_eq_none h'] at h; cases h
  rw [hb.block 2 hlt]
  exact h
theorem glob_below {W W1 : World} (h : Glob W) (hb : Below W.heap.size W W1) : Glob W1 := ⟨tab_below h.tab hb, errCell_below h.syn hb, errCell_below h.rng hb⟩

/-- what the text's reading comes to -/
def numP (s : List UInt8) : Int × Bool :=
  match Lib.parseIntB 64 s with
  | .ok n => if n < -4611686018427387904 ∨ 4611686018427387904 < n then (0, false) else if Lib.itoa n = s then (n, true) else (0, false)
  | _ => (0, false)
def field_Number.f (a0 : ByteArray) : Option (Int × Bool) := if a0.size ≤ 281474976710656 then some (numP a0.data.toList) else none

set_option maxRecDepth 100000 in
set_option maxHeartbeats 2000000 in
theorem field_Number.calls (a0 : ByteArray) (r1 : Int) (r2 : Bool) (w : World) (hG : Glob w) (h : field_Number.f a0 = some (r1, r2)) :
    Calls Tryz.prog 5 #[.string a0] w fun e w' => e = .returned (.tuple #[.int .i64 r1, .bool r2]) ∧ Below w.heap.size w w' := by
  unfold field_Number.f at h
  by_cases hs : a0.size ≤ 281474976710656
  · rw [if_pos hs] at h
    have h0 := Option.some.inj h
    have HG := Lib.hid hG
    clear hG h
    cases hp : Lib.parseIntB 64 a0.data.toList with
    | ok n =>
      have HP := Lib.hid (Sh.strconv_ParseInt_10_at64_ok a0 (by omega) n hp w)
      have hbd := Lib.parseIntB_bounds hp
      have hb1 : (-9223372036854775808 : Int) ≤ n := by have := hbd.1; simpa using this
      have hb2 : n ≤ 9223372036854775807 := by have := hbd.2; simp at this; omega
      have hnum : numP a0.data.toList = if n < -4611686018427387904 ∨ 4611686018427387904 < n then (0, false) else if Lib.itoa n = a0.data.toList then (n, true) else (0, false) := by
        unfold numP; rw [hp]
      rw [hnum] at h0
      have HN := Lib.hid h0
      clear hnum hbd h0
      have hfin : ∀ W, Below w.heap.size w W → Hid (Calls Tryz.prog 11 #[.int .i64 n, .int .i64 10] W fun e w' => e = .returned (.string ⟨(Lib.itoa n).toArray⟩) ∧ Below W.heap.size W w') := by
        intro W hW
        refine Lib.hid ((Sh.strconv_FormatInt_10 n hb1 hb2 W (glob_below HG.out hW).tab).mono ?_)
        rintro e w' ⟨rfl, k, os, rfl⟩
        exact ⟨rfl, rfl, rfl, rfl, by show W.heap.size ≤ (W.heap ++ os).size; rw [Array.size_append]; omega, fun _ hj => Sort.heap_grow_old (W.drewN k) os hj⟩
      have HF := Lib.hid hfin
      clear hfin hp
      go_enter Tryz.func5, Tryz.ntmps5
      go_wp2_with fail
      refine HP.out.mono ?_
      rintro e w1 ⟨rfl, hw⟩
      have hb : Below w.heap.size w w1 := by
        rcases hw with rfl | ⟨t, rfl⟩
        · exact Below.refl _ _
        · exact Lib.bytesWorld_below _ _ _
      have HB := Lib.hid hb
      clear hw hb
      by_cases c1 : n < -4611686018427387904
      · go_wp2_with fail
        go_ret2
        have e := HN.out
        rw [if_pos (Or.inl c1)] at e
        cases e
        exact ⟨rfl, HB.out⟩
      · by_cases c2 : 4611686018427387904 < n
        · go_wp2_with fail
          go_ret2
          have e := HN.out
          rw [if_pos (Or.inr c2)] at e
          cases e
          exact ⟨rfl, HB.out⟩
        · have HF1 := HF.out w1 HB.out
          have hq : (Lib.itoa n == a0.toList) = decide (Lib.itoa n = a0.data.toList) := by
            rw [Lib.toList_data]
            by_cases c : Lib.itoa n = a0.data.toList
            · rw [decide_eq_true c, beq_iff_eq]; exact c
            · rw [decide_eq_false c, beq_eq_false_iff_ne]; exact c
          obtain ⟨t, ht⟩ : ∃ t, decide (Lib.itoa n = a0.data.toList) = t := ⟨_, rfl⟩
          rw [ht] at hq
          go_wp2_with fail
          refine HF1.out.mono ?_
          rintro e w2 ⟨rfl, hb2⟩
          have HB2 := Lib.hid (HB.out.trans (hb2.mono HB.out.size))
          clear hb2
          have HT := Lib.hid ht
          clear ht
          cases t
          · go_wp2_with fail
            go_ret2
            have e := HN.out
            rw [if_neg (by omega), if_neg (of_decide_eq_false HT.out)] at e
            cases e
            exact ⟨rfl, HB2.out⟩
          · go_wp2_with fail
            go_ret2
            have e := HN.out
            rw [if_neg (by omega), if_pos (of_decide_eq_true HT.out)] at e
            cases e
            exact ⟨rfl, HB2.out⟩
    | «syntax» =>
      have hnum : numP a0.data.toList = (0, false) := by unfold numP; rw [hp]
      rw [hnum] at h0
      obtain ⟨ev, hv, hev⟩ := HG.out.syn
      have HP := Lib.hid (Sh.strconv_ParseInt_10_at64_syntax a0 hs hp ev w hv hev)
      have HN := Lib.hid h0
      clear hnum h0 hp hv hev
      go_enter Tryz.func5, Tryz.ntmps5
      go_wp2_with fail
      refine HP.out.mono ?_
      rintro e w1 ⟨N, rfl, h1, h2, hb⟩
      have HB := Lib.hid hb
      clear h1 h2 hb
      go_wp2_with fail
      go_ret2
      have e := HN.out
      cases e
      exact ⟨rfl, HB.out⟩
    | range =>
      have hnum : numP a0.data.toList = (0, false) := by unfold numP; rw [hp]
      rw [hnum] at h0
      obtain ⟨ev, hv, hev⟩ := HG.out.rng
      have HP := Lib.hid (Sh.strconv_ParseInt_10_at64_range a0 hs hp ev w hv hev)
      have HN := Lib.hid h0
      clear hnum h0 hp hv hev
      go_enter Tryz.func5, Tryz.ntmps5
      go_wp2_with fail
      refine HP.out.mono ?_
      rintro e w1 ⟨N, rfl, h1, h2, hb⟩
      have HB := Lib.hid hb
      clear h1 h2 hb
      go_wp2_with fail
      go_ret2
      have e := HN.out
      cases e
      exact ⟨rfl, HB.out⟩
  · rw [if_neg hs] at h; cases h
end Go.Proofs.YtpkcbbjflcfdeaaGreatDoor.P
