/- What the claim's theorem leans on. Conditions: none of its own. (Written by prune.py out of the texts Bsr, without what the claim doesn't lean on.) -/
import Derived.Deep.QuietTactic
import Derived.BigQuiet
import Derived.Deep.DeepCutAuto
import Derived.Deep.LoopGhost
import Derived.Deep.RegionLaw
import Derived.Deep.OwnRows
import Derived.Laws.CopyOwn
import Derived.Lib.SlBytesRow
import Derived.IntWalk
import Derived.Outline
import Derived.Test.YtkblmomfiimkiaaGreatDoorS2
import Derived.Test.YtkblmomfiimkiaaGreatDoorS3
section
namespace Go.Proofs.YtkblmomfiimkiaaGreatDoor.P
open Go.RowKit Go.Proofs.YtkblmomfiimkiaaGreatDoor.Fp
def spc (l : List UInt8) : Nat := l.countP (fun c => c == 10 || c == 92)
theorem escC_length (c : UInt8) : (escC c).length = 1 + if (c == 10 || c == 92) = true then 1 else 0 := by
 unfold escC
 by_cases h1 : c = 92
 ·
  subst h1; rfl
 ·
  by_cases h2 : c = 10
  ·
   subst h2; rfl
  ·
   simp [h1, h2]
theorem esc_cons (c : UInt8) (l : List UInt8) : esc (c :: l) = escC c ++ esc l := rfl
theorem esc_append (l m : List UInt8) : esc (l ++ m) = esc l ++ esc m := by simp [esc]
theorem esc_length (l : List UInt8) : (esc l).length = l.length + spc l := by
 induction l with
 | nil => rfl
 | cons c l ih =>
  rw [esc_cons, List.length_append, escC_length, ih]
  unfold spc
  rw [List.countP_cons, List.length_cons]
  omega
theorem count_spc (l : List UInt8) : l.count 10 + l.count 92 = spc l := by
 induction l with
 | nil => rfl
 | cons c l ih =>
  unfold spc at ih ⊢
  rw [List.count_cons, List.count_cons, List.countP_cons]
  by_cases h1 : c = 10
  ·
   subst h1; simp; omega
  ·
   by_cases h2 : c = 92
   ·
    subst h2; simp; omega
   ·
    simp [h1, h2]; omega
theorem spc_le (l : List UInt8) : spc l ≤ l.length := List.countP_le_length
theorem esc_none (l : List UInt8) (h : spc l = 0) : esc l = l := by
 induction l with
 | nil => rfl
 | cons c l ih =>
  unfold spc at h ih
  rw [List.countP_cons] at h
  rw [esc_cons, ih (by omega)]
  have hc : ¬ (c == 10 || c == 92) = true := by
   intro hc; rw [if_pos hc] at h; omega
  unfold escC
  simp at hc
  rw [if_neg hc.2, if_neg hc.1]
  rfl
theorem spc_take_succ (s : ByteArray) (i : Nat) (h : i < s.size) : spc (s.data.toList.take (i + 1)) = spc (s.data.toList.take i) + if (s[i] == 10 || s[i] == 92) = true then 1 else 0 := by
 have e : s.data.toList.take (i + 1) = s.data.toList.take i ++ [s[i]] := by
  rw [List.take_succ_eq_append_getElem (by simpa using h)]; rfl
 rw [e]
 unfold spc
 rw [List.countP_append, List.countP_cons, List.countP_nil]
 omega
theorem esc_take_succ (s : ByteArray) (i : Nat) (h : i < s.size) : esc (s.data.toList.take (i + 1)) = esc (s.data.toList.take i) ++ escC s[i] := by
 have e : s.data.toList.take (i + 1) = s.data.toList.take i ++ [s[i]] := by
  rw [List.take_succ_eq_append_getElem (by simpa using h)]; rfl
 rw [e, esc_append]
 simp [esc]
theorem ret_i {a b : Int} (h : a = b) : Value.int .i64 a = .int .i64 b := by rw [h]
theorem ne_nat {c : Nat} {b : Bool} (h : ((c : Int) != 0) = b) : (b = true → 0 < c) ∧ (b = false → c = 0) := by
 subst h
 constructor
 ·
  intro h; have : ¬ (c : Int) = 0 := by simpa using h
  omega
 ·
  intro h; have : (c : Int) = 0 := by simpa using h
  omega
structure BufIs (s : ByteArray) (N g u : Nat) (w : World) (i j : Nat) (W : World) : Prop where
 len : j = (esc (s.data.toList.take i)).length
 below : Below g w W
 row : ∃ cur : List Value, W.heap[g]? = some (.cells cur.toArray u (0, 0)) ∧ cur.length = s.size + N ∧ cur.take j = (esc (s.data.toList.take i)).map fun b => Value.int .u8 b.toNat
theorem set_splice {W : World} {g u j : Nat} {cur : List Value} (h : W.heap[g]? = some (.cells cur.toArray u (0, 0))) {v : Value} (hj : j < cur.length) :
  (W.setCell ⟨g, j, none⟩ v).heap[g]? = some (.cells (splice cur j [v]).toArray u (0, 0)) := by
 have e : splice cur j [v] = cur.set j v := by
  unfold splice
  rw [List.set_eq_take_append_cons_drop, if_pos hj]
  simp
 rw [e]
 simp [World.setCell, Array.getElem?_modify, h]
theorem below_setCell {g : Nat} {w W : World} (h : Below g w W) {a : Addr} (hg : g ≤ a.block) (v : Value) : Below g w (W.setCell a v) := h.setCell hg v
theorem below_drew' {B : Nat} {w W : World} (h : Below B w W) : Below B w W.drew := ⟨h.os, h.tape, h.output, h.size, h.block⟩
theorem buf_step {s : ByteArray} {N g u : Nat} {w W' : World} {i j : Nat} (hi : i < s.size) (hj : j = (esc (s.data.toList.take i)).length) {cur cs : List Value} (hl : cur.length = s.size + N)
  (ht : cur.take j = (esc (s.data.toList.take i)).map fun b => Value.int .u8 b.toNat) (hcs : cs = (escC s[i]).map fun b => Value.int .u8 b.toNat) (hfit : j + cs.length ≤ cur.length)
  (hg : W'.heap[g]? = some (.cells (splice cur j cs).toArray u (0, 0))) (hb : Below g w W') : BufIs s N g u w (i + 1) (j + cs.length) W' := by
 refine ⟨?_, hb, splice cur j cs, hg, by rw [length_splice _ _ _ hfit, hl], ?_⟩
 ·
  rw [esc_take_succ s i hi, List.length_append, ← hj, hcs, List.length_map]
 ·
  rw [esc_take_succ s i hi, List.map_append, ← ht, ← hcs]
  unfold splice
  have e : (cur.take j).length = j := by rw [List.length_take]; omega
  rw [List.take_append, e, Nat.add_sub_cancel_left, List.take_of_length_le (by omega), List.take_append_of_le_length (Nat.le_refl _), List.take_length]
theorem esc_fit (s : ByteArray) (i : Nat) (hi : i < s.size) : (esc (s.data.toList.take i)).length + (escC s[i]).length ≤ s.size + spc s.data.toList := by
 have e := esc_take_succ s i hi
 have h1 : (esc s.data.toList).length = s.size + spc s.data.toList := by rw [esc_length]; simp
 have h2 : esc s.data.toList = esc (s.data.toList.take (i + 1)) ++ esc (s.data.toList.drop (i + 1)) := by rw [← esc_append, List.take_append_drop]
 rw [h2, List.length_append, e, List.length_append] at h1
 omega
set_option maxRecDepth 100000 in
set_option maxHeartbeats 4000000 in
theorem bsr_calls (lo B : Nat) (s : ByteArray) (w : World) (hB : IsBsr lo B w) (hs : s.size ≤ 1048576) :
  Calls Tryz.prog 225 #[.pointer (some ⟨B, 0, none⟩), .string s] w fun e w' => e = .returned (.string ⟨(esc s.data.toList).toArray⟩) ∧ Below w.heap.size w w' := by
 obtain ⟨x, y, t, cx, cy, ⟨b0, b1⟩, ⟨x0, x1⟩, ⟨y0, y1⟩, ⟨t0, t1⟩, hr, hl, ⟨hx0, hx1⟩, ⟨hy0, hy1⟩, ht0, ht1⟩ := hB
 have r10 : w.cell? ⟨B, 10, none⟩ = some (.slice (some ⟨x, 0, none⟩) 2 cx) := hr 10 (by omega)
 have r92 : w.cell? ⟨B, 92, none⟩ = some (.slice (some ⟨y, 0, none⟩) 2 cy) := hr 92 (by omega)
 have HR := Lib.hid hr
 have hsp := spc_le s.data.toList
 have hlen : s.data.toList.length = s.size := by simp
 have hcs := count_spc s.data.toList
 clear hr
 have b10 : ∀ h, ((⟨#[10]⟩ : ByteArray)[0]'h).toNat = 10 := fun _ => rfl
 have b92 : ∀ h, ((⟨#[92]⟩ : ByteArray)[0]'h).toNat = 92 := fun _ => rfl
 have HL := Lib.hid hlen
 have HC := Lib.hid hcs
 rw [hlen] at hsp
 clear hlen hcs
 obtain ⟨c10, hc10⟩ : ∃ c : Nat, Lib.countByte s.data.toList 10 = c := ⟨_, rfl⟩
 obtain ⟨c92, hc92⟩ : ∃ c : Nat, Lib.countByte s.data.toList 92 = c := ⟨_, rfl⟩
 have C10 := Lib.hid hc10
 have C92 := Lib.hid hc92
 obtain ⟨N, hN⟩ : ∃ N : Nat, N = spc s.data.toList := ⟨_, rfl⟩
 have HN := Lib.hid hN
 rw [← hN] at hsp
 have hsum : c10 + c92 ≤ s.size := by have := HC.out; unfold Lib.countByte at hc10 hc92; omega
 have hNc : N = c10 + c92 := by have := HC.out; unfold Lib.countByte at hc10 hc92; omega
 have HNC := Lib.hid hNc
 clear hN hc10 hc92 hNc
 go_enter Tryz.func225, Tryz.ntmps225
 go_upto_if 26 with (fail)
 go_cut [5, 6] (fun v5 v6 wx => ∃ k, wx = w.drewN k ∧ v5 = .int .i64 ((s.size + N : Nat) : Int) ∧ v6 = .bool (decide (0 < N)))
 case first =>
  by_cases h16 : 16 ≤ s.size
  ·
   go_wp2_with fail
   refine wp_loop_rounds 3 ?_
   rw [rounds_succ]
   go_wp2_with (go_at_call 121; refine (Sh.strings_Count_one s 10 _).mono ?_; rintro e wq ⟨rfl, hw⟩; subst wq; rw [C10.out])
   ·
    go_quiet (fail)
    go_wp2_with fail
    rw [rounds_succ]
    go_wp2_with (go_at_call 121; refine (Sh.strings_Count_one s 92 _).mono ?_; rintro e wq ⟨rfl, hw⟩; subst wq; rw [C92.out])
    ·
     go_quiet (fail)
     go_wp2_with fail
     rw [rounds_succ]
     go_wp2_with fail
     go_meet
     have q := HNC.out
     have pc10 := (ne_nat (show ((c10 : Int) != 0) = true by assumption)).1 rfl
     have pc92 := (ne_nat (show ((c92 : Int) != 0) = true by assumption)).1 rfl
     exact ⟨_, rfl, ret_i (by omega), congrArg Value.bool (decide_eq_true (by omega)).symm⟩
    ·
     rw [rounds_succ]
     go_wp2_with fail
     go_meet
     have q := HNC.out
     have pc10 := (ne_nat (show ((c10 : Int) != 0) = true by assumption)).1 rfl
     have pc92 := (ne_nat (show ((c92 : Int) != 0) = false by assumption)).2 rfl
     exact ⟨_, rfl, ret_i (by omega), congrArg Value.bool (decide_eq_true (by omega)).symm⟩
   ·
    rw [rounds_succ]
    go_wp2_with (go_at_call 121; refine (Sh.strings_Count_one s 92 _).mono ?_; rintro e wq ⟨rfl, hw⟩; subst wq; rw [C92.out])
    ·
     go_quiet (fail)
     go_wp2_with fail
     rw [rounds_succ]
     go_wp2_with fail
     go_meet
     have q := HNC.out
     have pc10 := (ne_nat (show ((c10 : Int) != 0) = false by assumption)).2 rfl
     have pc92 := (ne_nat (show ((c92 : Int) != 0) = true by assumption)).1 rfl
     exact ⟨_, rfl, ret_i (by omega), congrArg Value.bool (decide_eq_true (by omega)).symm⟩
    ·
     rw [rounds_succ]
     go_wp2_with fail
     go_meet
     have q := HNC.out
     have pc10 := (ne_nat (show ((c10 : Int) != 0) = false by assumption)).2 rfl
     have pc92 := (ne_nat (show ((c92 : Int) != 0) = false by assumption)).2 rfl
     exact ⟨0, rfl, ret_i (by omega), congrArg Value.bool (decide_eq_false (by omega)).symm⟩
  ·
   go_wp2_with fail
   go_loop [5, 6, 10, 11] (fun v5 v6 v10 v11 => ∃ i : Nat, i ≤ s.size ∧ v10 = .int .i64 i ∧ v5 = .int .i64 ((s.size + spc (s.data.toList.take i) : Nat) : Int) ∧ v6 = .bool (decide (0 < spc (s.data.toList.take i)))) (fun _ _ v10 _ => s.size - (intOf v10).toNat)
   case atStart => exact ⟨0, Nat.zero_le _, rfl, rfl, rfl⟩
   case round =>
    obtain ⟨i, hi, rfl, rfl, rfl⟩ := hrel
    have hle : spc (s.data.toList.take i) ≤ s.size := Nat.le_trans (spc_le _) (by rw [List.length_take]; simp; omega)
    by_cases hlt : i < s.size
    ·
     have hsu := spc_take_succ s i hlt
     have HSU := Lib.hid hsu
     clear hsu
     by_cases h10 : s[i] = 10
     ·
      have e10 : s[i].toNat = 10 := by rw [h10]; rfl
      have H10 := Lib.hid h10
      clear h10
      go_wp2_with fail
      go_round
      case rel => exact ⟨i + 1, by omega, by go_num, ret_i (by rw [HSU.out, H10.out]; simp; omega), congrArg Value.bool (decide_eq_true (by rw [HSU.out, H10.out]; simp)).symm⟩
      case measure => simp [intOf]; omega
     ·
      by_cases h92 : s[i] = 92
      ·
       have e92 : s[i].toNat = 92 := by rw [h92]; rfl
       have H92 := Lib.hid h92
       clear h92 h10
       go_wp2_with fail
       go_round
       case rel => exact ⟨i + 1, by omega, by go_num, ret_i (by rw [HSU.out, H92.out]; simp; omega), congrArg Value.bool (decide_eq_true (by rw [HSU.out, H92.out]; simp)).symm⟩
       case measure => simp [intOf]; omega
      ·
       have hz : w.cell? ⟨B, s[i].toNat, none⟩ = some (.slice none 0 0) := by
        rw [HR.out s[i].toNat (UInt8.toNat_lt _)]
        unfold repAt
        have n10 : ¬ s[i].toNat = 10 := by intro h; apply h10; apply UInt8.toNat_inj.1; exact h
        have n92 : ¬ s[i].toNat = 92 := by intro h; apply h92; apply UInt8.toNat_inj.1; exact h
        rw [if_neg n10, if_neg n92]
       have l256 := UInt8.toNat_lt s[i]
       have m256 : s[i].toNat < 256 := l256
       have h0 : (s[i] == 10 || s[i] == 92) = false := by simp [h10, h92]
       have H0 := Lib.hid h0
       clear h0 h10 h92
       go_wp2_with fail
       go_round
       case rel => exact ⟨i + 1, by omega, by go_num, ret_i (by rw [HSU.out, H0.out]; simp), congrArg Value.bool (by rw [HSU.out, H0.out]; simp)⟩
       case measure => simp [intOf]; omega
    ·
     go_wp2_with fail
     go_meet
     obtain rfl : i = s.size := by omega
     have e : s.data.toList.take s.size = s.data.toList := List.take_of_length_le (by rw [HL.out]; exact Nat.le_refl _)
     rw [e, ← HN.out]
     exact ⟨0, rfl, ret_i (by omega), rfl⟩
 case rest =>
  obtain ⟨k, rfl, rfl, rfl⟩ := hcut
  by_cases h0 : 0 < N
  ·
   have hmk := run_make_row' (P := Tryz.prog) 110 5 (.int .u8 0) 1 Tryz.underlying110 (by kernel_rfl) rfl .i64 .i64 (s.size + N) (by omega) (by omega)
   have e1 : ((s.size + N : Nat) : Int) = (s.size : Int) + (N : Int) := by omega
   have hd : decide (0 < N) = true := decide_eq_true h0
   rw [e1] at hmk ⊢
   rw [hd]
   clear hd
   clear e1
   go_wp2_with fail
   obtain ⟨g, hg⟩ : ∃ g : Nat, g = w.heap.size := ⟨_, rfl⟩
   have W0 : BufIs s N g 5 w 0 0 ((w.drewN k).alloc (.cells (madeCells #[.int .u8 0] (s.size + N)) 5)) := by
    subst hg
    refine ⟨rfl, ?_, (madeCells #[.int .u8 0] (s.size + N)).toList, ?_, ?_, rfl⟩
    ·
     exact ((⟨rfl, rfl, rfl, Nat.le_refl _, fun _ _ => rfl⟩ : Below w.heap.size w (w.drewN k))).alloc (Nat.le_refl _) _
    ·
     rw [Array.toArray_toList]; exact heap_alloc_last (w.drewN k) _
    ·
     rw [Array.length_toList, size_madeCells]
   have hBg : B < g := by omega
   have hxg : x < g := by omega
   have hyg : y < g := by omega
   clear hmk
   rw [← hg]
   have HG := Lib.hid hg
   have HW0 := Lib.hid W0
   clear W0 hg
   generalize ((w.drewN k).alloc (.cells (madeCells #[.int .u8 0] (s.size + N)) 5)) = Wb at *
   go_loopw [13, 14, 15] (fun v13 v14 _ W => ∃ i j : Nat, i ≤ s.size ∧ v14 = .int .i64 i ∧ v13 = .int .i64 j ∧ BufIs s N g 5 w i j W) (fun _ v14 _ _ => s.size - (intOf v14).toNat)
   case atStart => exact ⟨0, 0, Nat.zero_le _, rfl, rfl, HW0.out⟩
   case round =>
    obtain ⟨i, j, hi, rfl, rfl, hbuf⟩ := hrel
    obtain ⟨hj, hbl, cur, hcur, hcl, hct⟩ := hbuf
    by_cases hlt : i < s.size
    ·
     have hfit := esc_fit s i hlt
     rw [← hj, ← HN.out] at hfit
     have cell : ∀ b o, b < g → wr.cell? ⟨b, o, none⟩ = w.cell? ⟨b, o, none⟩ := fun b o h => hbl.cell (p := ⟨b, o, none⟩) h
     have HJ := Lib.hid hj
     have HCT := Lib.hid hct
     have HCL := Lib.hid hcl
     have HCUR := Lib.hid hcur
     have HBL := Lib.hid hbl
     clear hj hct hcl hcur hbl
     by_cases h10 : s[i] = 10
     ·
      have e10 : s[i].toNat = 10 := by rw [h10]; rfl
      have q1 : wr.cell? ⟨B, 10, none⟩ = some (.slice (some ⟨x, 0, none⟩) 2 cx) := (cell _ _ hBg).trans r10
      have q2 : wr.cell? ⟨x, 0, none⟩ = some (.int .u8 92) := (cell _ _ hxg).trans hx0
      have q3 : wr.cell? ⟨x, 1, none⟩ = some (.int .u8 110) := (cell _ _ hxg).trans hx1
      have hcs : [Value.int .u8 92, Value.int .u8 110] = (escC s[i]).map fun b => Value.int .u8 b.toNat := by rw [h10]; rfl
      have HCS := Lib.hid hcs
      have hj2 : j + 2 ≤ s.size + N := by rw [h10] at hfit; exact hfit
      have Q2 := Lib.hid q2
      have Q3 := Lib.hid q3
      have Q1 := Lib.hid q1
      clear hcs h10 cell hfit q2 q3 hl hx0 hx1 hy0 hy1 ht0 ht1 r10 r92
      have n1 : ¬ (s.size + N = j) := by omega
      have n2 : (j : Int) ≤ (s.size : Int) + (N : Int) := by omega
      have hsrc : ∀ (q : Nat) v, [Value.int .u8 92, Value.int .u8 110][q]? = some v → wr.drew.cell? ((⟨x, 0, none⟩ : Addr).add q) = some v := by
       intro q v hv
       rcases q with _ | _ | q
       ·
        simp at hv; subst hv; exact Q2.out
       ·
        simp at hv; subst hv; exact Q3.out
       ·
        simp at hv
      have HSRC := Lib.hid hsrc
      clear hsrc
      go_wp2_with fail
      go_region_law (refine step_copy_splice rfl (.tmp 105) (.tmp 111) 110 110 rfl 5 Tryz.underlying110 (by kernel_rfl) (some ⟨g, j, none⟩) (some ⟨x, 0, none⟩) (s.size + N - j) (s.size + N - j) 2 cx rfl rfl g j cur 5 HCUR.out [Value.int .u8 92, Value.int .u8 110] (Nat.min_eq_left (show 2 ≤ s.size + N - j by omega)).symm (fun _ => ⟨rfl, _, rfl, HSRC.out⟩) (by rw [HCL.out]; exact hj2) (by intro v hv; simp at hv; rcases hv with rfl | rfl <;> rfl) g w (below_drew' HBL.out) (Nat.le_refl _) ?_; intro w4 hg4 hb4)
      all_goals
       have HG4 := hg4
       have HB4 := Lib.hid hb4
       clear hb4 hg4
       go_wp2_with fail
       go_roundw
       case rel => exact ⟨i + 1, j + 2, by omega, by go_num, by go_num, buf_step hlt HJ.out HCL.out HCT.out HCS.out (by rw [HCL.out]; exact hj2) HG4.out HB4.out⟩
       case measure => simp [intOf]; omega
     ·
      by_cases h92 : s[i] = 92
      ·
       have e92 : s[i].toNat = 92 := by rw [h92]; rfl
       have q1 : wr.cell? ⟨B, 92, none⟩ = some (.slice (some ⟨y, 0, none⟩) 2 cy) := (cell _ _ hBg).trans r92
       have q2 : wr.cell? ⟨y, 0, none⟩ = some (.int .u8 92) := (cell _ _ hyg).trans hy0
       have q3 : wr.cell? ⟨y, 1, none⟩ = some (.int .u8 92) := (cell _ _ hyg).trans hy1
       have hcs : [Value.int .u8 92, Value.int .u8 92] = (escC s[i]).map fun b => Value.int .u8 b.toNat := by rw [h92]; rfl
       have HCS := Lib.hid hcs
       have hj2 : j + 2 ≤ s.size + N := by rw [h92] at hfit; exact hfit
       have Q2 := Lib.hid q2
       have Q3 := Lib.hid q3
       have Q1 := Lib.hid q1
       clear hcs h92 h10 cell hfit q2 q3 hl hx0 hx1 hy0 hy1 ht0 ht1 r10 r92
       have n1 : ¬ (s.size + N = j) := by omega
       have n2 : (j : Int) ≤ (s.size : Int) + (N : Int) := by omega
       have hsrc : ∀ (q : Nat) v, [Value.int .u8 92, Value.int .u8 92][q]? = some v → wr.drew.cell? ((⟨y, 0, none⟩ : Addr).add q) = some v := by
        intro q v hv
        rcases q with _ | _ | q
        ·
         simp at hv; subst hv; exact Q2.out
        ·
         simp at hv; subst hv; exact Q3.out
        ·
         simp at hv
       have HSRC := Lib.hid hsrc
       clear hsrc
       go_wp2_with fail
       go_region_law (refine step_copy_splice rfl (.tmp 105) (.tmp 111) 110 110 rfl 5 Tryz.underlying110 (by kernel_rfl) (some ⟨g, j, none⟩) (some ⟨y, 0, none⟩) (s.size + N - j) (s.size + N - j) 2 cy rfl rfl g j cur 5 HCUR.out [Value.int .u8 92, Value.int .u8 92] (Nat.min_eq_left (show 2 ≤ s.size + N - j by omega)).symm (fun _ => ⟨rfl, _, rfl, HSRC.out⟩) (by rw [HCL.out]; exact hj2) (by intro v hv; simp at hv; rcases hv with rfl | rfl <;> rfl) g w (below_drew' HBL.out) (Nat.le_refl _) ?_; intro w4 hg4 hb4)
       all_goals
        have HG4 := hg4
        have HB4 := Lib.hid hb4
        clear hb4 hg4
        go_wp2_with fail
        go_roundw
        case rel => exact ⟨i + 1, j + 2, by omega, by go_num, by go_num, buf_step hlt HJ.out HCL.out HCT.out HCS.out (by rw [HCL.out]; exact hj2) HG4.out HB4.out⟩
        case measure => simp [intOf]; omega
      ·
       have hz : wr.cell? ⟨B, s[i].toNat, none⟩ = some (.slice none 0 0) := by
        rw [cell _ _ hBg, HR.out s[i].toNat (UInt8.toNat_lt _)]
        unfold repAt
        have n10 : ¬ s[i].toNat = 10 := by intro h; apply h10; apply UInt8.toNat_inj.1; exact h
        have n92 : ¬ s[i].toNat = 92 := by intro h; apply h92; apply UInt8.toNat_inj.1; exact h
        rw [if_neg n10, if_neg n92]
       have l256 := UInt8.toNat_lt s[i]
       have m256 : s[i].toNat < 256 := l256
       have hcs : [Value.int .u8 s[i].toNat] = (escC s[i]).map fun b => Value.int .u8 b.toNat := by unfold escC; rw [if_neg h92, if_neg h10]; rfl
       have hj2 : j + 1 ≤ s.size + N := by
        have e : (escC s[i]).length = 1 := by rw [← List.length_map (f := fun b : UInt8 => Value.int .u8 b.toNat), ← hcs]; rfl
        omega
       have HCS := Lib.hid hcs
       have hw1 : (wr.cell? ⟨g, j, none⟩).isSome = true := by simp [World.cell?, HCUR.out, HCL.out]; omega
       obtain ⟨v1, hv1⟩ := Option.isSome_iff_exists.1 hw1
       have hf1 : wr.frozen? ⟨g, j, none⟩ = false := by simp [World.frozen?, HCUR.out]
       have n2 : (j : Int) < (s.size : Int) + (N : Int) := by omega
       have HSP := Lib.hid (set_splice HCUR.out (v := .int .u8 s[i].toNat) (show j < cur.length by rw [HCL.out]; omega))
       have HB4 := Lib.hid (below_setCell HBL.out (a := ⟨g, j, none⟩) (Nat.le_refl g) (.int .u8 s[i].toNat))
       clear hcs h92 h10 cell hfit hw1 hl hx0 hx1 hy0 hy1 ht0 ht1 r10 r92
       go_wp2_with fail
       go_roundw
       case rel => exact ⟨i + 1, j + 1, by omega, by go_num, by go_num, buf_step hlt HJ.out HCL.out HCT.out HCS.out (by rw [HCL.out]; exact hj2) HSP.out HB4.out⟩
       case measure => simp [intOf]; omega
    ·
     obtain rfl : i = s.size := by omega
     have e : s.data.toList.take s.size = s.data.toList := List.take_of_length_le (by rw [HL.out]; exact Nat.le_refl _)
     rw [e] at hj hct
     have hlen : (esc s.data.toList).length = s.size + N := by rw [esc_length, HL.out, ← HN.out]
     have hfull : cur = (esc s.data.toList).map fun b => Value.int .u8 b.toNat := by rw [← hct, List.take_of_length_le (by omega)]
     have hcv : (convert 110 9 (.slice (some ⟨g, 0, none⟩) (s.size + N) (s.size + N))).run Tryz.prog wr = .ok (.string ⟨(esc s.data.toList).toArray⟩) wr := by
      have h := run_convert_bytes_back (P := Tryz.prog) wr 110 9 5 ⟨g, 0, none⟩ (s.size + N) (esc s.data.toList) Tryz.underlying110 Tryz.underlying5 Tryz.underlying9 (fun q hq => by
       have e0 : (⟨g, 0, none⟩ : Addr).add q = ⟨g, q, none⟩ := by unfold Addr.add; split <;> simp_all
       rw [e0]
       simp only [World.cell?, hcur, hfull]
       simp [hq])
      rw [hlen] at h
      exact h
     have HF := Lib.hid hbl
     clear hfull hlen hcur hcl hct hj hbl e hlt
     go_wp2_with fail
     go_ret
     exact ⟨rfl, HG.out ▸ HF.out⟩
  ·
   obtain rfl : N = 0 := by omega
   go_wp2_with fail
   go_ret
   refine ⟨?_, ?_⟩
   ·
    have e : (⟨(esc s.data.toList).toArray⟩ : ByteArray) = s := by
     rw [esc_none _ HN.out.symm]
    rw [e]
    rfl
   ·
    exact ⟨rfl, rfl, rfl, Nat.le_refl _, fun _ _ => rfl⟩
end Go.Proofs.YtkblmomfiimkiaaGreatDoor.P
end
