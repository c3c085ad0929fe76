/- What the claim's theorem leans on. Conditions: none of its own. (Written by prune.py out of the texts Fld9, without what the claim doesn't lean on.) -/
import Derived.Test.YtkblmomfiimkiaaGreatDoorM17
import Derived.Test.YtkblmomfiimkiaaGreatDoorM20
import Derived.Test.YtkblmomfiimkiaaGreatDoorM21
import Derived.Test.YtkblmomfiimkiaaGreatDoorM22
section
namespace Go.Proofs.YtkblmomfiimkiaaGreatDoor.P
open Go.RowKit Go.Proofs.YtkblmomfiimkiaaGreatDoorW.PrintWords Go.Proofs.YtkblmomfiimkiaaGreatDoorW.PrintLast Go.Proofs.YtkblmomfiimkiaaGreatDoorW.PrintMore
set_option linter.unusedSimpArgs false
set_option linter.unusedVariables false
open Go.Proofs.YtkblmomfiimkiaaGreatDoor.Fp
open Go.Lib (itoa decDigits)
structure MayF (x : S33) : Prop where
 n0 : nameB x.f0.data.toList = true
 n1 : nameB x.f1.data.toList = true
 ne : x.f0 ≠ x.f1
 i2 : 0 ≤ x.f2 ∧ x.f2 ≤ 1048576
 i3 : 0 ≤ x.f3 ∧ x.f3 ≤ 28
 i4 : 0 ≤ x.f4 ∧ x.f4 ≤ 1048576
 i8 : -1 ≤ x.f8 ∧ x.f8 ≤ 2
 i9 : 0 ≤ x.f9 ∧ x.f9 ≤ 1048576
 s6 : x.f6.size ≤ 4096
 t5 : x.f5.toList.isEmpty = true ∨ nameB x.f5.data.toList = true
 t7 : x.f7.toList.isEmpty = true ∨ nameB x.f7.data.toList = true
 sum : (x.f10.f0 = ⟨#[]⟩ ∧ x.f10.f1 = 0) ∨ moneyMay x.f10.f0.data.toList x.f10.f1 = true
 l11 : x.f11.length ≤ 8
 l12 : x.f12.length ≤ 32
 docs : ∀ y ∈ x.f11, pv y = true ∧ tv y = true
 boxes : ∀ s ∈ x.f12, nameB s.data.toList = true
theorem empty_iff (s : ByteArray) : s.toList.isEmpty = true ↔ s = ⟨#[]⟩ := by
 rw [List.isEmpty_iff]
 exact ⟨fun h => bytes_eq.1 (h.trans (by rw [Lib.toList_data])), fun h => by rw [h, Lib.toList_data]⟩
theorem mayF_of (x : S33) (hf : ∀ y ∈ x.f11, y.f3.length ≤ 1000) (h : mayP x = true) : MayF x := by
 unfold mayP mayLB kindB numbersB textsB sumB btwB at h
 simp only [Bool.and_eq_true, Bool.or_eq_true, decide_eq_true_eq, Bool.not_eq_true', beq_iff_eq, List.any_eq_false] at h
 obtain ⟨⟨h3, _⟩, ⟨h2, h4, h8, h9⟩, ⟨g0, g1, gne, g5, g7, g6⟩, hs, hl11, hl12, hd, hb⟩ := h
 refine ⟨g0, g1, fun e => ?_, h2, h3, h4, h8, h9, by omega, g5, g7, ?_, by omega, by omega, fun y hy => ?_, fun s hs2 => ?_⟩
 ·
  rw [e] at gne
  simp at gne
 ·
  rcases hs with ⟨a, b⟩ | a
  ·
   exact Or.inl ⟨(empty_iff _).1 a, b⟩
  ·
   exact Or.inr a
 ·
  have := hd y hy
  rw [paperB_eq y (hf y hy)] at this
  simpa using this
 ·
  simpa using hb s hs2
theorem MayF.recW {x : S33} (h : MayF x) : RecW x := by
 have h2 := h.i2
 have h4 := h.i4
 have h8 := h.i8
 have h9 := h.i9
 have l1 := h.l11
 have l2 := h.l12
 exact ⟨⟨by omega, by omega⟩, ⟨by omega, by omega⟩, ⟨by omega, by omega⟩, ⟨by omega, by omega⟩, by omega, by omega, fun y hy => (h.docs y hy).1⟩
theorem text9_all : ∀ l : List S38, (∀ y ∈ l, pv y = true) → ∃ K, ∀ k, K ≤ k → ∀ y ∈ l, supercargoref05_Text.f k (docL y) = some (docT y, 0)
 | [], _ => ⟨0, fun _ _ _ h => by cases h⟩
 | y :: r, h => by
  obtain ⟨K1, h1⟩ := text9_f y (h y List.mem_cons_self)
  obtain ⟨K2, h2⟩ := text9_all r fun z hz => h z (List.mem_cons_of_mem _ hz)
  refine ⟨K1 + K2, fun k hk z hz => ?_⟩
  rcases List.mem_cons.1 hz with e | e
  ·
   rw [e]; exact h1 k (by omega)
  ·
   exact h2 k (by omega) z e
theorem number9_f (s : ByteArray) (n : Int) (hn : i64s n) (k : Nat) (hk : 20 ≤ k) : supercargoref09_number.f k s n = some (s, bs (itoa n)) := by
 unfold supercargoref09_number.f
 rw [Digits_at n hn.1 hn.2 k (by omega)]; rfl
theorem fld9_l1 (l : List ByteArray) (hl : l.length ≤ 4294967296) (a0 a1 : ByteArray) (a2 a3 a4 : Int) (a5 a6 a7 : ByteArray) (a8 a9 : Int) (a10 : ByteArray) (a11 : Int) (b : List S38) : ∀ (d i k : Nat) (acc : List S43), i + d = l.length → acc.length + d ≤ 34359738368 → d < k →
  supercargoref09_Fields.l1 k acc (i : Int) a0 a1 a2 a3 a4 a5 a6 a7 a8 a9 a10 a11 b l = some (acc ++ (l.drop i).map boxF) := by
 intro d
 induction d with
 | zero =>
  intro i k acc h1 _ h2
  obtain ⟨k, rfl⟩ : ∃ m, k = m + 1 := ⟨k - 1, by omega⟩
  rw [supercargoref09_Fields.l1]
  rw [if_neg (by omega), List.drop_eq_nil_of_le (by omega), List.map_nil, List.append_nil]
 | succ d ih =>
  intro i k acc h1 h3 h2
  obtain ⟨k, rfl⟩ : ∃ m, k = m + 1 := ⟨k - 1, by omega⟩
  have hi : i < l.length := by omega
  rw [supercargoref09_Fields.l1]
  rw [if_pos (by omega), if_pos (by omega), if_pos (by omega), rdOf_nat l i hi, wr_nat i (by omega), ih (i + 1) k _ (by omega) (by rw [List.length_append, List.length_singleton]; omega) (by omega), List.drop_eq_getElem_cons hi, List.map_cons, List.append_assoc]
  rfl
theorem fld9_l0 (x : S33) (hx : RecW x) (K : Nat) (hK : ∀ k, K ≤ k → ∀ y ∈ x.f11, supercargoref05_Text.f k (docL y) = some (docT y, 0)) : ∀ (d i k : Nat) (acc : List S43), i + d = x.f11.length → acc.length + d + x.f12.length ≤ 34359738368 → K + d + x.f12.length + 2 < k →
  supercargoref09_Fields.l0 k acc (i : Int) x.f0 x.f1 x.f2 x.f3 x.f4 x.f5 x.f6 x.f7 x.f8 x.f9 x.f10.f0 x.f10.f1 x.f11 x.f12 = some (acc ++ ((x.f11.drop i).map docF ++ x.f12.map boxF)) := by
 have hl := hx.l11
 have hl2 := hx.l12
 intro d
 induction d with
 | zero =>
  intro i k acc h1 h3 h2
  obtain ⟨k, rfl⟩ : ∃ m, k = m + 1 := ⟨k - 1, by omega⟩
  have h := fld9_l1 x.f12 hl2 x.f0 x.f1 x.f2 x.f3 x.f4 x.f5 x.f6 x.f7 x.f8 x.f9 x.f10.f0 x.f10.f1 x.f11 x.f12.length 0 k acc (by omega) (by omega) (by omega)
  rw [List.drop_zero, show ((0 : Nat) : Int) = 0 from rfl] at h
  rw [supercargoref09_Fields.l0]
  rw [if_neg (by omega), List.drop_eq_nil_of_le (by omega), List.map_nil, List.nil_append, h]
 | succ d ih =>
  intro i k acc h1 h3 h2
  obtain ⟨k, rfl⟩ : ∃ m, k = m + 1 := ⟨k - 1, by omega⟩
  have hi : i < x.f11.length := by omega
  have hm := List.getElem_mem hi
  have hp := hx.docs _ hm
  have hf := (pv_parts hp).2.2.2.1
  rw [supercargoref09_Fields.l0]
  rw [if_pos (by omega), if_pos (by omega), rdD_nat x.f11 i hi, record9_f _ (by omega), Option.bind_some, hK k (by omega) _ hm, Option.bind_some, if_pos (by omega), wr_nat i (by omega), ih (i + 1) k _ (by omega) (by rw [List.length_append, List.length_singleton]; omega) (by omega), List.drop_eq_getElem_cons hi, List.map_cons, List.append_assoc]
  rfl
theorem fields9_f (x : S33) (hx : Told x) : ∃ K, ∀ k, K ≤ k → supercargoref09_Fields.f k x.f0 x.f1 x.f2 x.f3 x.f4 x.f5 x.f6 x.f7 x.f8 x.f9 x.f10.f0 x.f10.f1 x.f11 x.f12 = some (if mayP x = true then recP x else []) := by
 have hM : supercargoref09_May.f x.f0 x.f1 x.f2 x.f3 x.f4 x.f5 x.f6 x.f7 x.f8 x.f9 x.f10.f0 x.f10.f1 x.f11 x.f12 = some (mayP x) := by unfold supercargoref09_May.f; exact if_pos hx
 by_cases hm : mayP x = true
 ·
  have hF := mayF_of x (fun y hy => (hx.docs y hy).1) hm
  have hR := hF.recW
  have l1 := hF.l11
  have l2 := hF.l12
  have h3 := hF.i3
  obtain ⟨K, hK⟩ := text9_all x.f11 hR.docs
  refine ⟨K + 1000, fun k hk => ?_⟩
  have fin : ∀ (s : ByteArray), s = bs (moneyT x.f10.f0.data.toList x.f10.f1) → supercargoref09_Fields.j0 k s x.f0 x.f1 x.f2 x.f3 x.f4 x.f5 x.f6 x.f7 x.f8 x.f9 x.f10.f0 x.f10.f1 x.f11 x.f12 = some (recP x) := by
   intro s hs
   obtain ⟨k, rfl⟩ : ∃ m, k = m + 1 := ⟨k - 1, by omega⟩
   have hk3 : rdOf ByteArray.empty namesB x.f3 = nameK x.f3 := by unfold nameK rdOf; rw [if_pos ⟨h3.1, h3.2⟩]
   have h := fld9_l0 x hR K hK x.f11.length 0 k (headP x) (by omega) (by unfold headP; simp only [List.length_cons, List.length_nil]; omega) (by omega)
   rw [List.drop_zero, show ((0 : Nat) : Int) = 0 from rfl] at h
   rw [supercargoref09_Fields.j0]
   rw [number9_f _ _ hR.n2 k (by omega), Option.bind_some, Names_f, Option.bind_some, if_pos h3.1, if_pos (by rw [names_len]; omega), number9_f _ _ hR.n4 k (by omega), Option.bind_some, number9_f _ _ hR.n8 k (by omega), Option.bind_some, number9_f _ _ hR.n9 k (by omega), Option.bind_some, hk3, hs]
   exact h
  unfold supercargoref09_Fields.f
  rw [hM, Option.bind_some, if_pos hm, none_f, Option.bind_some, if_pos hm]
  by_cases hn : noneV x.f10.f0 x.f10.f1 = true
  ·
   rw [if_pos hn]
   refine fin _ ?_
   have : x.f10.f0 = ⟨#[]⟩ := (empty_iff _).1 (by unfold noneV at hn; rw [Bool.and_eq_true] at hn; exact hn.1)
   rw [this]
   rfl
  ·
   rw [if_neg hn]
   have hmm : moneyMay x.f10.f0.data.toList x.f10.f1 = true := by
    rcases hF.sum with ⟨a, b⟩ | a
    ·
     exfalso; apply hn; unfold noneV; rw [a, b]; simp [Lib.toList_data]
    ·
     exact a
   rw [text01_f _ _ hmm k (by omega), Option.bind_some]
   exact fin _ rfl
 ·
  refine ⟨0, fun k _ => ?_⟩
  unfold supercargoref09_Fields.f
  rw [hM, Option.bind_some, if_neg hm, if_neg hm]
end Go.Proofs.YtkblmomfiimkiaaGreatDoor.P
end
