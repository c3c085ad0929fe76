/- field.Read at a good paper's text: the paper. Conditions: the text reads as a record whose first three fields are a paper's heads, the kind is one (else nothing is told), and it has fewer than 4,294,967,281 bytes. -/
import Derived.Test.YtpkcbbjflcfdeaaGreatParse
import Derived.Deep.RegionHeld3
namespace Go.Proofs.YtpkcbbjflcfdeaaGreat.P
open Go.RowKit Go.Proofs.YtpkcbbjflcfdeaaGreatW.PrintWords Go.Proofs.YtpkcbbjflcfdeaaGreatW.PrintLast Go.Proofs.YtpkcbbjflcfdeaaGreatW.PrintMore
open Go.Proofs.YtpkcbbjflcfdeaaGreat.Fp

def firstAt {α : Type} (p : α → Bool) : List α → Int → Int
  | [], _ => -1
  | x :: r, i => if p x = true then i else firstAt p r (i + 1)
theorem first_nil {α : Type} (p : α → Bool) (l : List α) (i : Nat) (h : ¬ i < l.length) : firstAt p (l.drop i) i = -1 := by
  rw [List.drop_eq_nil_of_le (by omega)]; rfl
theorem first_hit {α : Type} (p : α → Bool) (l : List α) (i : Nat) (h : i < l.length) (hp : p l[i] = true) : firstAt p (l.drop i) i = i := by
  rw [List.drop_eq_getElem_cons h]; simp [firstAt, hp]
theorem first_miss {α : Type} (p : α → Bool) (l : List α) (i : Nat) (h : i < l.length) (hp : p l[i] = false) : firstAt p (l.drop i) i = firstAt p (l.drop (i + 1)) ((i + 1 : Nat) : Int) := by
  rw [List.drop_eq_getElem_cons h]; simp [firstAt, hp]
theorem rd_at (l : List S39) (i : Nat) (h : i < l.length) : rd_T39 l (i : Int) = l[i] := by
  unfold rd_T39
  simp [List.getD, List.getElem?_eq_getElem h]
def kindsL : List ByteArray := [⟨#[105, 110, 118, 111, 105, 99, 101]⟩, ⟨#[112, 97, 99, 107, 105, 110, 103]⟩, ⟨#[108, 97, 100, 105, 110, 103]⟩, ⟨#[105, 110, 115, 117, 114, 97, 110, 99, 101]⟩, ⟨#[111, 114, 105, 103, 105, 110]⟩, ⟨#[100, 114, 97, 102, 116]⟩]
def sameB (v s : ByteArray) : Bool := v.toList == s.toList
def kindAt (v : ByteArray) : Int := firstAt (sameB v) kindsL 0

theorem index_kinds (b : Nat) (v : ByteArray) (w : World) (hk : ∀ (i : Nat) (h : i < kindsL.length), w.cell? ⟨b, i, none⟩ = some (.string (kindsL[i]))) :
    Calls Tryz.prog 20 #[.slice (some ⟨b, 0, none⟩) 6 6, .string v] w fun e w' => e = .returned (.int .i64 (kindAt v)) ∧ w' = w := by
  have HK := Lib.hid hk
  clear hk
  go_enter Tryz.func20, Tryz.ntmps20
  go_wp2_with fail
  go_loopg [8] 7 (fun g v8 W => ∃ i : Nat, i + g = 7 ∧ i ≤ kindsL.length ∧ v8 = .int .i64 i ∧ kindAt v = firstAt (sameB v) (kindsL.drop i) i ∧ W = w)
  case atStart => exact ⟨0, by omega, Nat.zero_le _, rfl, rfl, rfl⟩
  case round =>
    obtain ⟨i, hig, hi, rfl, hpl, rfl⟩ := hrel
    have HIG := Lib.hid hig
    have HPL := Lib.hid hpl
    have h6 : kindsL.length = 6 := rfl
    clear hig hpl
    by_cases hlt : i < kindsL.length
    · have hc := HK.out i hlt
      have hi6 : (i : Int) < 6 := by omega
      obtain ⟨t, ht⟩ : ∃ t, (v.toList == (kindsL[i]).toList) = t := ⟨_, rfl⟩
      have HT := Lib.hid (show sameB v (kindsL[i]) = t from ht)
      cases t
      · go_wp2_with fail
        go_roundg (gk - 1)
        case measure => have := HIG.out; omega
        case rel => exact ⟨i + 1, by have := HIG.out; omega, by omega, rfl, by rw [HPL.out]; exact first_miss _ _ _ hlt HT.out, rfl⟩
      · go_wp2_with fail
        go_ret
        exact ⟨by rw [HPL.out, first_hit _ _ _ hlt HT.out]; rfl, rfl⟩
    · have hi6 : ¬ (i : Int) < 6 := by omega
      go_wp2_with fail
      go_ret
      exact ⟨by rw [HPL.out, first_nil _ _ _ hlt]; rfl, rfl⟩
theorem contains_kinds (b : Nat) (v : ByteArray) (w : World) (hk : ∀ (i : Nat) (h : i < kindsL.length), w.cell? ⟨b, i, none⟩ = some (.string (kindsL[i]))) (hv : 0 ≤ kindAt v) :
    Calls Tryz.prog 19 #[.slice (some ⟨b, 0, none⟩) 6 6, .string v] w fun e w' => e = .returned (.bool true) ∧ w' = w := by
  have HI := Lib.hid (index_kinds b v w hk)
  clear hk
  go_enter Tryz.func19, Tryz.ntmps19
  go_wp2_with fail
  refine HI.out.mono ?_
  rintro e w1 ⟨rfl, h1⟩
  subst h1
  go_wp2_with fail
  go_ret
  exact ⟨rfl, rfl⟩
def kindsC : Array Value := #[.string ⟨#[105, 110, 118, 111, 105, 99, 101]⟩, .string ⟨#[112, 97, 99, 107, 105, 110, 103]⟩, .string ⟨#[108, 97, 100, 105, 110, 103]⟩, .string ⟨#[105, 110, 115, 117, 114, 97, 110, 99, 101]⟩, .string ⟨#[111, 114, 105, 103, 105, 110]⟩, .string ⟨#[100, 114, 97, 102, 116]⟩]
theorem kinds_made (w : World) : Calls Tryz.prog 16 #[] w fun e w' => e = .returned (.slice (some ⟨w.heap.size, 0, none⟩) 6 6) ∧ w' = w.alloc (.cells kindsC 9) := by
  go_enter Tryz.func16, Tryz.ntmps16
  go_wp2_with fail
  go_ret
  exact ⟨rfl, rfl⟩
theorem kinds_drew (w : World) : Calls Tryz.prog 16 #[] w.drew fun e w' => e = .returned (.slice (some ⟨w.heap.size, 0, none⟩) 6 6) ∧ w' = (w.alloc (.cells kindsC 9)).drew := kinds_made w.drew
theorem kinds_cells (w W : World) (hb : Below (w.heap.size + 1) (w.alloc (.cells kindsC 9)) W) (i : Nat) (h : i < kindsL.length) : W.cell? ⟨w.heap.size, i, none⟩ = some (.string (kindsL[i])) := by
  have h6 : kindsL.length = 6 := rfl
  rw [hb.cell (p := ⟨w.heap.size, i, none⟩) (by simp)]
  match i, h with
  | 0, _ => simp [kindsC, kindsL]
  | 1, _ => simp [kindsC, kindsL]
  | 2, _ => simp [kindsC, kindsL]
  | 3, _ => simp [kindsC, kindsL]
  | 4, _ => simp [kindsC, kindsL]
  | 5, _ => simp [kindsC, kindsL]

theorem heads_0 (a b c : ByteArray) (W : World) : (Instr.index 46 (.agg #[.string a, .string b, .string c]) (.int .i64 0)).run Tryz.prog W = .ok (.string a) W := by
  simp [Instr.index, asIntOf, run_underlying Tryz.underlying46, part, Tryz.sizeOf9, Tryz.isAgg9]
theorem heads_1 (a b c : ByteArray) (W : World) : (Instr.index 46 (.agg #[.string a, .string b, .string c]) (.int .i64 1)).run Tryz.prog W = .ok (.string b) W := by
  simp [Instr.index, asIntOf, run_underlying Tryz.underlying46, part, Tryz.sizeOf9, Tryz.isAgg9]
theorem heads_2 (a b c : ByteArray) (W : World) : (Instr.index 46 (.agg #[.string a, .string b, .string c]) (.int .i64 2)).run Tryz.prog W = .ok (.string c) W := by
  simp [Instr.index, asIntOf, run_underlying Tryz.underlying46, part, Tryz.sizeOf9, Tryz.isAgg9]
theorem far_four {W : World} {n g i : Nat} {a b c d v : Value} (hn : n ≠ g) (h : W.cell? ⟨g, i, none⟩ = some v) : ((((W.setCell ⟨n, 0, none⟩ a).setCell ⟨n, 1, none⟩ b).setCell ⟨n, 2, none⟩ c).setCell ⟨n, 3, none⟩ d).drew.cell? ⟨g, i, none⟩ = some v := by
  show ((((W.setCell ⟨n, 0, none⟩ a).setCell ⟨n, 1, none⟩ b).setCell ⟨n, 2, none⟩ c).setCell ⟨n, 3, none⟩ d).cell? ⟨g, i, none⟩ = some v
  rw [World.cell?_setCell_far _ _ _ _ hn, World.cell?_setCell_far _ _ _ _ hn, World.cell?_setCell_far _ _ _ _ hn, World.cell?_setCell_far _ _ _ _ hn, h]
theorem slice_three (A0 : Option Addr) (n c : Nat) (W : World) : (Instr.slice 22 (.slice A0 (n + 1 + 1 + 1) c) (some (.int .i64 3)) none none).run Tryz.prog W = .ok (.slice (if c = 3 then A0 else A0.map (·.add (3 * 2))) n (c - 3)) W := by
  have h3 : (3 : Int) ≤ (n : Int) + 1 + 1 + 1 := by omega
  simp [Instr.slice, Instr.sliceBounds, Instr.sliceBound, asIntOf, run_underlying Tryz.underlying22, Tryz.sizeOf39, h3]
def goodRead (l : List S39) : Option (Int × ByteArray × ByteArray × List S39 × Int × Int) :=
  match l with
  | p0 :: p1 :: p2 :: rest => if p0.f0 = ⟨#[112, 97, 112, 101, 114]⟩ ∧ p1.f0 = ⟨#[110, 117, 109, 98, 101, 114]⟩ ∧ p2.f0 = ⟨#[105, 115, 115, 117, 101, 114]⟩ ∧ 0 ≤ kindAt p0.f1 then some (kindAt p0.f1, p1.f1, p2.f1, rest, 0, 0) else none
  | _ => none
def field_Read.f (a0 : ByteArray) : Option (Int × ByteArray × ByteArray × List S39 × Int × Int) :=
  (field_Parse.f a0).bind fun x => if x.2.1 = 0 ∧ x.2.2 = 0 then goodRead x.1 else none

theorem three_cells {W : World} {g : Nat} {p0 p1 p2 : S39} {rest : List S39} (h : Kd.C k39 W (some ⟨g, 0, none⟩) (p0 :: p1 :: p2 :: rest).length (p0 :: p1 :: p2 :: rest)) :
    W.cell? ⟨g, 0, none⟩ = some (.string p0.f0) ∧ W.cell? ⟨g, 1, none⟩ = some (.string p0.f1) ∧ W.cell? ⟨g, 2, none⟩ = some (.string p1.f0) ∧ W.cell? ⟨g, 3, none⟩ = some (.string p1.f1) ∧ W.cell? ⟨g, 4, none⟩ = some (.string p2.f0) ∧ W.cell? ⟨g, 5, none⟩ = some (.string p2.f1) := by
  obtain ⟨_, e0, a0, b0⟩ := at_T39 h 0 (by omega) (by simp; omega)
  obtain ⟨_, e1, a1, b1⟩ := at_T39 h 1 (by omega) (by simp; omega)
  obtain ⟨_, e2, a2, b2⟩ := at_T39 h 2 (by omega) (by simp; omega)
  obtain rfl := Option.some.inj e0
  obtain rfl := Option.some.inj e1
  obtain rfl := Option.some.inj e2
  exact ⟨a0, b0, a1, b1, a2, b2⟩

set_option maxRecDepth 100000 in
set_option maxHeartbeats 8000000 in
theorem field_Read.calls (a0 : ByteArray) (r1 : Int) (r2 r3 : ByteArray) (r4 : List S39) (r5 r6 : Int) (w : World) (h : field_Read.f a0 = some (r1, r2, r3, r4, r5, r6)) :
    Calls Tryz.prog 10 #[.string a0] w fun e w' => ∃ v0_ : Value, e = .returned (.tuple #[.agg #[.int .i64 r1, .string r2, .string r3, v0_], .int .i64 r5, .int .i64 r6]) ∧ Kd.Q k39 39 w' w.heap.size (fun _ => True) v0_ r4 ∧ Below w.heap.size w w' := by
  unfold field_Read.f at h
  cases hp : field_Parse.f a0 with
  | none => rw [hp] at h; cases h
  | some x =>
    rw [hp, Option.bind_some] at h
    obtain ⟨l, n, c⟩ := x
    by_cases hnc : n = 0 ∧ c = 0
    · rw [if_pos hnc] at h
      obtain ⟨rfl, rfl⟩ := hnc
      rcases l with _ | ⟨p0, _ | ⟨p1, _ | ⟨p2, rest⟩⟩⟩
      · simp [goodRead] at h
      · simp [goodRead] at h
      · simp [goodRead] at h
      · unfold goodRead at h
        dsimp only at h
        split at h
        · rename_i hh
          obtain ⟨e0, e1, e2, hk⟩ := hh
          simp only [Option.some.injEq, Prod.mk.injEq] at h
          obtain ⟨rfl, rfl, rfl, rfl, rfl, rfl⟩ := h
          have HP := fun W => Lib.hid (field_Parse.calls a0 (p0 :: p1 :: p2 :: rest) 0 0 W hp)
          have HE0 := Lib.hid e0
          have HE1 := Lib.hid e1
          have HE2 := Lib.hid e2
          clear hp e0 e1 e2
          have hx0 := heads_0 ⟨#[112, 97, 112, 101, 114]⟩ ⟨#[110, 117, 109, 98, 101, 114]⟩ ⟨#[105, 115, 115, 117, 101, 114]⟩
          have hx1 := heads_1 ⟨#[112, 97, 112, 101, 114]⟩ ⟨#[110, 117, 109, 98, 101, 114]⟩ ⟨#[105, 115, 115, 117, 101, 114]⟩
          have hx2 := heads_2 ⟨#[112, 97, 112, 101, 114]⟩ ⟨#[110, 117, 109, 98, 101, 114]⟩ ⟨#[105, 115, 115, 117, 101, 114]⟩
          go_enter Tryz.func10, Tryz.ntmps10
          go_wp2_with fail
          refine (HP _).out.mono ?_
          rintro e w1 ⟨v0, rfl, hr, hb⟩
          obtain ⟨g, cap, rfl, hg1, hg2, hg3⟩ := Kd.R_form hr (by simp)
          obtain ⟨c00, c01, c10, c11, c20, c21⟩ := three_cells (Kd.R_reads' hr).2.2
          have c01w := c01
          have c11w := c11
          have c21w := c21
          rw [HE0.out] at c00
          rw [HE1.out] at c10
          rw [HE2.out] at c20
          have HR := Lib.hid hr
          have HB := Lib.hid hb
          have HG1 := Lib.hid hg1
          clear hr hb hg1 hg3
          go_wp2_with fail
          refine wp_loop_rounds 4 ?_
          rw [rounds_succ]
          go_wp2_with fail
          have hgn : g ≠ w1.heap.size := by omega
          have hq0 : (0 : Int) < (rest.length : Int) + 1 + 1 + 1 := by omega
          have hd0 : decide ((rest.length : Int) + 1 + 1 + 1 ≤ 0) = false := decide_eq_false (by omega)
          have hgn2 : ¬ g = w1.heap.size := by omega
          have KA := Lib.hid (kinds_drew w1)
          have KB := Lib.hid (contains_kinds w1.heap.size p0.f1 (w1.alloc (.cells kindsC 9)).drew (kinds_cells w1 _ (Below.refl _ _).drew) hk)
          go_region_held3 (fun w' => w'.cell? ⟨g, 0, none⟩ = some (.string ⟨#[112, 97, 112, 101, 114]⟩) ∧ w'.cell? ⟨g, 1, none⟩ = some (.string p0.f1)) (go_keep)
            (first
              | (go_at_call 16; refine KA.out.mono ?_; rintro e w2 ⟨rfl, hw⟩; subst hw)
              | (go_at_call 19; refine KB.out.mono ?_; rintro e w2 ⟨rfl, hw⟩; subst hw))
          have hb2 : Below w1.heap.size w1 (w1.alloc (.cells kindsC 9)).drew := ((Below.refl _ w1).alloc (Nat.le_refl _) _).drew
          generalize (w1.alloc (.cells kindsC 9)).drew = w2 at hb2 ⊢
          replace c00 := (hb2.cell (p := ⟨g, 0, none⟩) hg2).trans c00
          replace c01 := (hb2.cell (p := ⟨g, 1, none⟩) hg2).trans c01
          replace c10 := (hb2.cell (p := ⟨g, 2, none⟩) hg2).trans c10
          replace c11 := (hb2.cell (p := ⟨g, 3, none⟩) hg2).trans c11
          replace c20 := (hb2.cell (p := ⟨g, 4, none⟩) hg2).trans c20
          replace c21 := (hb2.cell (p := ⟨g, 5, none⟩) hg2).trans c21
          have HB2 := Lib.hid hb2
          clear hb2 KA KB
          go_wp2_with fail
          rw [rounds_succ]
          have hq1 : (1 : Int) < (rest.length : Int) + 1 + 1 + 1 := by omega
          have hq2 : (2 : Int) < (rest.length : Int) + 1 + 1 + 1 := by omega
          go_wp2_with fail
          have hd1 : decide ((rest.length : Int) + 1 + 1 + 1 ≤ 1) = false := decide_eq_false (by omega)
          have hd2 : decide ((rest.length : Int) + 1 + 1 + 1 ≤ 2) = false := decide_eq_false (by omega)
          clear HP hx0 c00 c01 HE0 HE1 HE2
          go_quiet (fail)
          revert nq
          intro nq1
          go_wp2_with fail
          rw [rounds_succ]
          go_wp2_with fail
          go_quiet (fail)
          go_wp2_with fail
          rw [rounds_succ]
          go_wp2_with fail
          have hb3 : Below w1.heap.size w1 (w2.drewN (nq1 + nq)) := pw_below_drewN HB2.out _
          have hzero : (w.alloc (.cells #[.int .i64 0, .string ⟨#[]⟩, .string ⟨#[]⟩, .slice none 0 0] 24)).heap[w.heap.size]? = some (.cells #[.int .i64 0, .string ⟨#[]⟩, .string ⟨#[]⟩, .slice none 0 0] 24 (0, 0)) := by show (w.heap.push _)[w.heap.size]? = _; rw [Array.getElem?_push_size]
          have hblk := (hb3.block w.heap.size (by have := HB.out.size; simp at this; omega)).trans ((HB.out.block w.heap.size (by show w.heap.size < (w.heap.push _).size; rw [Array.size_push]; omega)).trans hzero)
          generalize w2.drewN (nq1 + nq) = w3 at hb3 hblk ⊢
          replace c01 := (hb3.cell (p := ⟨g, 1, none⟩) hg2).trans (c01w)
          replace c11 := (hb3.cell (p := ⟨g, 3, none⟩) hg2).trans (c11w)
          replace c21 := (hb3.cell (p := ⟨g, 5, none⟩) hg2).trans (c21w)
          have hs3 := hb3.size
          have hblk4 : (w3.alloc (.cells kindsC 9)).heap[w.heap.size]? = some (.cells #[.int .i64 0, .string ⟨#[]⟩, .string ⟨#[]⟩, .slice none 0 0] 24 (0, 0)) := (((Below.refl _ w3).alloc (Nat.le_refl _) _).block w.heap.size (blk_lt hblk)).trans hblk
          have r0 := (blk_cell hblk4 0).trans (show #[Value.int .i64 0, .string ⟨#[]⟩, .string ⟨#[]⟩, .slice none 0 0][0]? = some (.int .i64 0) from rfl)
          have r1 := (blk_cell hblk4 1).trans (show #[Value.int .i64 0, .string ⟨#[]⟩, .string ⟨#[]⟩, .slice none 0 0][1]? = some (.string ⟨#[]⟩) from rfl)
          have r2 := (blk_cell hblk4 2).trans (show #[Value.int .i64 0, .string ⟨#[]⟩, .string ⟨#[]⟩, .slice none 0 0][2]? = some (.string ⟨#[]⟩) from rfl)
          have r3 := (blk_cell hblk4 3).trans (show #[Value.int .i64 0, .string ⟨#[]⟩, .string ⟨#[]⟩, .slice none 0 0][3]? = some (.slice none 0 0) from rfl)
          have f0 := blk_frozen hblk4 0
          have f1 := blk_frozen hblk4 1
          have f2 := blk_frozen hblk4 2
          have f3 := blk_frozen hblk4 3
          have HBLK := Lib.hid hblk4
          have hgw2 : ¬ g = w.heap.size := by have := HG1.out; simp at this; omega
          have hw32 : ¬ w.heap.size = w3.heap.size := by have := HB.out.size; simp at this; omega
          have hgn3 : g ≠ w3.heap.size := by omega
          have hgw : g ≠ w.heap.size := by have := HG1.out; simp at this; omega
          have hw3 : w.heap.size ≠ w3.heap.size := by have := HB.out.size; simp at this; omega
          have HB3 := Lib.hid hb3
          have hng : w.heap.size ≠ g := fun h => hgw h.symm
          have g3 : g < w3.heap.size := Nat.lt_of_lt_of_le hg2 hs3
          have A1 := Lib.hid ((((Below.refl _ w3).alloc (Nat.le_refl _) (.cells kindsC 9)).cell (p := ⟨g, 1, none⟩) g3).trans c01)
          have A2 := Lib.hid ((((Below.refl _ w3).alloc (Nat.le_refl _) (.cells kindsC 9)).cell (p := ⟨g, 3, none⟩) g3).trans c11)
          have A3 := Lib.hid ((((Below.refl _ w3).alloc (Nat.le_refl _) (.cells kindsC 9)).cell (p := ⟨g, 5, none⟩) g3).trans c21)
          have KA := Lib.hid (kinds_drew w3)
          have KB := Lib.hid (index_kinds w3.heap.size p0.f1 (w3.alloc (.cells kindsC 9)).drew (kinds_cells w3 _ (Below.refl _ _).drew))
          have hsl := slice_three (some ⟨g, 0, none⟩) rest.length cap
          generalize hSA : (if cap = 3 then (some ⟨g, 0, none⟩ : Option Addr) else (some (⟨g, 0, none⟩ : Addr)).map (·.add (3 * 2))) = SA at hsl
          have HSA := Lib.hid hSA
          clear hb3 hs3 hx1 hx2 c10 c20 hSA hblk hblk4 hzero c01w c11w c21w
          go_region_held3 (fun w' => w'.cell? ⟨g, 1, none⟩ = some (.string p0.f1) ∧ w'.cell? ⟨g, 3, none⟩ = some (.string p1.f1) ∧ w'.cell? ⟨g, 5, none⟩ = some (.string p2.f1)) (first | go_keep | exact ⟨far_four hng A1.out, far_four hng A2.out, far_four hng A3.out⟩)
            (first
              | (go_at_call 16; refine KA.out.mono ?_; rintro e w4 ⟨rfl, hw⟩; subst hw)
              | (go_at_call 20; refine KB.out.mono ?_; rintro e w4 ⟨rfl, hw⟩; subst hw))
          have q1 : Kd.Q k39 39 w1 (w.heap.size + 1) (fun k => k ≠ w.heap.size) (.slice SA rest.length (cap - 3)) rest := by
            have q0 := Kd.Q_drop (Kd.Q_of_R HR.out) (k := 3) (by simp)
            have q0' : Kd.Q k39 39 w1 (w.alloc (.cells #[.int .i64 0, .string ⟨#[]⟩, .string ⟨#[]⟩, .slice none 0 0] 24)).heap.size (fun _ => True) (.slice (if cap = 3 then (some ⟨g, 0, none⟩ : Option Addr) else (some (⟨g, 0, none⟩ : Addr)).map (·.add (3 * 2))) rest.length (cap - 3)) rest := q0
            rw [HSA.out] at q0'
            have sz : (w.alloc (.cells #[.int .i64 0, .string ⟨#[]⟩, .string ⟨#[]⟩, .slice none 0 0] 24)).heap.size = w.heap.size + 1 := Array.size_push ..
            rw [sz] at q0'
            exact Kd.Q_mono (Kd.Q_bound q0') (fun k hk => by have := hk.2.1; omega)
          have q2 := Kd.Q_alloc (Kd.Q_below q1 HB3.out) (.cells kindsC 9)
          have hw1 : Below w.heap.size w w1 := (((Below.refl _ w).alloc (Nat.le_refl _) _).trans (HB.out.mono (by show w.heap.size ≤ (w.heap.push _).size; rw [Array.size_push]; omega)))
          have hw4 : Below w.heap.size w (w3.alloc (.cells kindsC 9)) := (hw1.trans (HB3.out.mono hw1.size)).alloc (Nat.le_trans hw1.size HB3.out.size) _
          have q3 := fun a b c d => Kd.Q_mono (ok' := fun _ => True) (Kd.Q_lower (Kd.Q_drew (Kd.Q_far (Kd.Q_far (Kd.Q_far (Kd.Q_far q2 (p := ⟨w.heap.size, 0, none⟩) (fun _ h => h) a) (p := ⟨w.heap.size, 1, none⟩) (fun _ h => h) b) (p := ⟨w.heap.size, 2, none⟩) (fun _ h => h) c) (p := ⟨w.heap.size, 3, none⟩) (fun _ h => h) d)) (Nat.le_succ w.heap.size)) (fun _ _ => trivial)
          have hw5 := fun a b c d => ((((hw4.setCell (p := ⟨w.heap.size, 0, none⟩) (Nat.le_refl _) a).setCell (p := ⟨w.heap.size, 1, none⟩) (Nat.le_refl _) b).setCell (p := ⟨w.heap.size, 2, none⟩) (Nat.le_refl _) c).setCell (p := ⟨w.heap.size, 3, none⟩) (Nat.le_refl _) d).drew
          have hb5 := fun a b c d => blk_set (blk_set (blk_set (blk_set HBLK.out 0 a) 1 b) 2 c) 3 d
          have Q3 := Lib.hid (q3 (.int .i64 (kindAt p0.f1)) (.string p1.f1) (.string p2.f1) (.slice SA rest.length (cap - 3)))
          have W5 := Lib.hid (hw5 (.int .i64 (kindAt p0.f1)) (.string p1.f1) (.string p2.f1) (.slice SA rest.length (cap - 3)))
          have B5 := Lib.hid (hb5 (.int .i64 (kindAt p0.f1)) (.string p1.f1) (.string p2.f1) (.slice SA rest.length (cap - 3)))
          clear q1 q2 q3 hw1 hw4 hw5 hb5 r0 r1 r2 r3 f0 f1 f2 f3 c01 c11 c21
          generalize hw5 : ((((w3.alloc (.cells kindsC 9)).setCell ⟨w.heap.size, 0, none⟩ (.int .i64 (kindAt p0.f1))).setCell ⟨w.heap.size, 1, none⟩ (.string p1.f1)).setCell ⟨w.heap.size, 2, none⟩ (.string p2.f1)).setCell ⟨w.heap.size, 3, none⟩ (.slice SA rest.length (cap - 3)) = w5 at Q3 W5 B5 ⊢
          have c0 := (blk_cell B5.out 0).trans (by rfl : _ = some (.int .i64 (kindAt p0.f1)))
          have c1 := (blk_cell B5.out 1).trans (by rfl : _ = some (.string p1.f1))
          have c2 := (blk_cell B5.out 2).trans (by rfl : _ = some (.string p2.f1))
          have c3 := (blk_cell B5.out 3).trans (by rfl : _ = some (.slice SA rest.length (cap - 3)))
          go_wp2_with fail
          refine bodyPost_ret (v := .tuple #[.agg #[.int .i64 (kindAt p0.f1), .string p1.f1, .string p2.f1, .slice SA rest.length (cap - 3)], .int .i64 0, .int .i64 0]) ?_ rfl ⟨_, rfl, Q3.out, W5.out⟩
          simp [results, Tryz.results10, go_sem, c0, c1, c2, c3]
        · cases h
    · rw [if_neg hnc] at h; cases h

end Go.Proofs.YtpkcbbjflcfdeaaGreat.P
