/- slices.EqualFunc of two rows of papers by field.Same; post.Same: whether two letters are one. Conditions: lists' lengths below 2^42. -/
import Derived.Test.YtkblmomfiimkiaaGreatDoorEqB
import Derived.Test.YtkblmomfiimkiaaGreatDoorEqMoney
import Derived.Test.YtkblmomfiimkiaaGreatDoorShelf
import Derived.Shelf.GgClosure.Gives
import Derived.WalkKit
import Derived.WalkMore
import Derived.Lib.Hide
import Derived.Deep.LoopGhost
import Derived.Deep.RegionHeld3
import Derived.Deep.DrawnRows
namespace Go.Proofs.YtkblmomfiimkiaaGreatDoor.P
open Go.RowKit Go.Proofs.YtkblmomfiimkiaaGreatDoorW.PrintWords Go.Proofs.YtkblmomfiimkiaaGreatDoorW.PrintLast Go.Proofs.YtkblmomfiimkiaaGreatDoorW.PrintMore

theorem rdD_nat (l : List S38) (i : Nat) (h : i < l.length) : rd_T38 l (i : Int) = l[i] := by
  unfold rd_T38
  simp [List.getD, List.getElem?_eq_getElem h]
theorem eqB_take {α : Type} {a b : List α} (i : Nat) (h : i < a.length) (h' : i < b.length) (he : eqB (a.take i) (b.take i) = true) (hx : eqB a[i] b[i] = true) : eqB (a.take (i + 1)) (b.take (i + 1)) = true := by
  rw [eqB_true] at he hx ⊢
  rw [List.take_succ_eq_append_getElem h, List.take_succ_eq_append_getElem h', he, hx]
theorem eqB_not {α : Type} {a b : List α} (i : Nat) (h : i < a.length) (h' : i < b.length) (hx : eqB a[i] b[i] = false) : eqB a b = false := by
  rw [eqB_false] at hx ⊢
  intro e
  apply hx
  subst e
  rfl

set_option maxRecDepth 100000 in
set_option maxHeartbeats 4000000 in
theorem equalDocs (A0 : Option Addr) (c0 : Nat) (l0 : List S38) (A1 : Option Addr) (c1 : Nat) (l1 : List S38) (w : World) (hr0 : Kd.C k38 w A0 l0.length l0) (hr1 : Kd.C k38 w A1 l1.length l1)
    (hz0 : l0.length ≤ 4398046511104) (hf : ∀ x ∈ l0, x.f3.length ≤ 4398046511104) :
    Calls Tryz.prog 32 #[.slice A0 l0.length c0, .slice A1 l1.length c1, .func (.func 33) #[] #[]] w fun e w' => e = .returned (.bool (eqB l0 l1)) ∧ Below w.heap.size w w' := by
  have HR0 := Lib.hid hr0
  have HR1 := Lib.hid hr1
  have HF := Lib.hid hf
  clear hr0 hr1 hf
  by_cases hl : l0.length = l1.length
  · have HL := Lib.hid hl
    have hlb : ((l0.length : Int) != (l1.length : Int)) = false := by rw [bne_eq_false_iff_eq]; omega
    have eg := enters_of (P := Tryz.prog) Tryz.func33 (by kernel_rfl) rfl
    clear hl
    go_enter Tryz.func32, Tryz.ntmps32
    go_wp2_with fail
    go_loopg [17] l0.length (fun g v17 wr => ∃ i : Nat, i ≤ l0.length ∧ l0.length - i ≤ g ∧ v17 = .int .i64 i ∧ Hid (Below w.heap.size w wr) ∧ Hid (eqB (l0.take i) (l1.take i) = true))
    case atStart => exact ⟨0, Nat.zero_le _, by omega, rfl, Lib.hid (Below.refl _ _), Lib.hid (eqB_of rfl)⟩
    case round =>
      rename Nat => G
      obtain ⟨i, hi, hg, rfl, HB, HE⟩ := hrel
      by_cases hlt : i < l0.length
      · have hlt1 : i < l1.length := by rw [← HL.out]; exact hlt
        obtain ⟨ad0, B0, b0, hA0, p0, p1, p2, p3, p4, p5⟩ := at_T38 HR0.out (i : Int) (by omega) (by omega)
        obtain ⟨ad1, B1, b1, hA1, q0, q1, q2, q3, q4, q5⟩ := at_T38 HR1.out (i : Int) (by omega) (by omega)
        rw [Int.toNat_natCast] at p0 p1 p2 p3 q0 q1 q2 q3
        rw [rdD_nat l0 i hlt] at p0 p1 p2 p3 p4 p5
        rw [rdD_nat l1 i hlt1] at q0 q1 q2 q3 q4 q5
        obtain ⟨x, hx⟩ : ∃ x, l0[i] = x := ⟨_, rfl⟩
        obtain ⟨y, hy⟩ : ∃ y, l1[i] = y := ⟨_, rfl⟩
        have hxm : x.f3.length ≤ 4398046511104 := HF.out x (by rw [← hx]; exact List.getElem_mem hlt)
        rw [hx] at p0 p1 p2 p3 p4 p5
        rw [hy] at q0 q1 q2 q3 q4 q5
        replace p0 := pw_cell_below HB.out p0
        replace p1 := pw_cell_below HB.out p1
        replace p2 := pw_cell_below HB.out p2
        replace p3 := pw_cell_below HB.out p3
        replace q0 := pw_cell_below HB.out q0
        replace q1 := pw_cell_below HB.out q1
        replace q2 := pw_cell_below HB.out q2
        replace q3 := pw_cell_below HB.out q3
        have n0 := World.new_ne wr _ q0
        have n1 := World.new_ne wr _ q1
        have n2 := World.new_ne wr _ q2
        have n3 := World.new_ne wr _ q3
        have HX := Lib.hid hx
        have HY := Lib.hid hy
        have P4 := Lib.hid p4
        have P5 := Lib.hid p5
        have Q4 := Lib.hid q4
        have Q5 := Lib.hid q5
        have HXM := Lib.hid hxm
        subst hA0 hA1
        clear hx hy p4 p5 q4 q5 hxm
        go_upto_region 6 with (fail)
        have hb1 : Below wr.heap.size wr (wr.alloc (.cells #[.int .i64 x.f0, .string x.f1, .string x.f2, .slice B0 x.f3.length b0] 38)) := (Below.refl _ wr).alloc (Nat.le_refl _) _
        have hk1 : (wr.alloc (.cells #[.int .i64 x.f0, .string x.f1, .string x.f2, .slice B0 x.f3.length b0] 38)).heap[wr.heap.size]? = some (.cells #[.int .i64 x.f0, .string x.f1, .string x.f2, .slice B0 x.f3.length b0] 38 (0, 0)) := by show (wr.heap.push _)[wr.heap.size]? = _; rw [Array.getElem?_push_size]
        generalize (wr.alloc (.cells #[.int .i64 x.f0, .string x.f1, .string x.f2, .slice B0 x.f3.length b0] 38)) = w1 at hb1 hk1 ⊢
        replace q0 := pw_cell_below hb1 q0
        replace q1 := pw_cell_below hb1 q1
        replace q2 := pw_cell_below hb1 q2
        replace q3 := pw_cell_below hb1 q3
        have HB1 := Lib.hid (below_step HB.out hb1)
        have HK1 := Lib.hid hk1
        clear hb1 hk1 p0 p1 p2 p3 n0 n1 n2 n3
        go_upto_region 7 with (fail)
        have hb2 : Below w1.heap.size w1 (w1.alloc (.cells #[.int .i64 y.f0, .string y.f1, .string y.f2, .slice B1 y.f3.length b1] 38)) := (Below.refl _ w1).alloc (Nat.le_refl _) _
        have hk2 : (w1.alloc (.cells #[.int .i64 y.f0, .string y.f1, .string y.f2, .slice B1 y.f3.length b1] 38)).heap[w1.heap.size]? = some (.cells #[.int .i64 y.f0, .string y.f1, .string y.f2, .slice B1 y.f3.length b1] 38 (0, 0)) := by show (w1.heap.push _)[w1.heap.size]? = _; rw [Array.getElem?_push_size]
        have hk3 := (hb2.block wr.heap.size (blk_lt HK1.out)).trans HK1.out
        generalize (w1.alloc (.cells #[.int .i64 y.f0, .string y.f1, .string y.f2, .slice B1 y.f3.length b1] 38)) = w2 at hb2 hk2 hk3 ⊢
        have HB2 := Lib.hid (below_step HB1.out hb2)
        have m0 := (blk_cell hk3 0).trans rfl
        have m1 := (blk_cell hk3 1).trans rfl
        have m2 := (blk_cell hk3 2).trans rfl
        have m3 := (blk_cell hk3 3).trans rfl
        have s0 := (blk_cell hk2 0).trans rfl
        have s1 := (blk_cell hk2 1).trans rfl
        have s2 := (blk_cell hk2 2).trans rfl
        have s3 := (blk_cell hk2 3).trans rfl
        clear hb2 hk2 hk3 q0 q1 q2 q3
        have hc := field_Same.calls (x.f3.length + 1) x.f0 x.f1 x.f2 B0 b0 x.f3 y.f0 y.f1 y.f2 B1 b1 y.f3 (eqB x y) w2 (Kd.C_below P5.out HB2.out) P4.out (Kd.C_below Q5.out HB2.out) Q4.out (same_f x y (Nat.le_trans HXM.out (by omega)) _ (Nat.lt_succ_self _))
        cases hq : eqB x y with
        | true =>
          rw [hq] at hc
          have HC := Lib.hid hc
          have HQ := Lib.hid hq
          clear hc hq
          go_wp2_with fail
          refine HC.out.mono ?_
          rintro e w3 ⟨rfl, hb3⟩
          have HB3 := Lib.hid (below_step HB2.out hb3)
          clear hb3
          go_wp2_with fail
          go_roundg (l0.length - (i + 1))
          case measure => omega
          case rel => exact ⟨i + 1, by omega, by omega, by go_num, HB3, Lib.hid (eqB_take i hlt hlt1 HE.out (by rw [HX.out, HY.out]; exact HQ.out))⟩
        | false =>
          rw [hq] at hc
          have HC := Lib.hid hc
          have HN := Lib.hid (eqB_not i hlt hlt1 (by rw [HX.out, HY.out]; exact hq))
          clear hc hq
          go_wp2_with fail
          refine HC.out.mono ?_
          rintro e w3 ⟨rfl, hb3⟩
          have HB3 := Lib.hid (below_step HB2.out hb3)
          clear hb3
          go_wp2_with fail
          go_ret
          exact ⟨by rw [HN.out]; rfl, HB3.out⟩
      · obtain rfl : i = l0.length := by omega
        have h1 := HE.out
        rw [List.take_length] at h1
        have h2 : l1.take l0.length = l1 := by rw [HL.out, List.take_length]
        rw [h2] at h1
        have H1 := Lib.hid h1
        clear h1 h2 HE
        go_wp2_with fail
        go_ret
        exact ⟨by rw [H1.out]; rfl, HB.out⟩
  · have hl' : ¬ (l0.length : Int) = (l1.length : Int) := by omega
    have hlb : ((l0.length : Int) != (l1.length : Int)) = true := bne_iff_ne.2 hl'
    have HN := Lib.hid (eqB_ne (a := l0) (b := l1) (fun e => hl (by rw [e])))
    clear hl
    go_enter Tryz.func32, Tryz.ntmps32
    go_wp2_with fail
    go_ret
    exact ⟨by rw [HN.out]; rfl, Below.refl _ _⟩
end Go.Proofs.YtkblmomfiimkiaaGreatDoor.P
