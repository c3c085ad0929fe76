/- What the claim's theorem leans on. Conditions: none of its own. (Written by prune.py out of the texts PSame, without what the claim doesn't lean on.) -/
import Derived.Test.YtkblmomfiimkiaaGreatDoorS9
import Derived.Test.YtkblmomfiimkiaaGreatDoorS25
import Derived.Test.YtkblmomfiimkiaaGreatDoorS26
section
namespace Go.Proofs.YtkblmomfiimkiaaGreatDoor.P
open Go.RowKit Go.Proofs.YtkblmomfiimkiaaGreatDoorW.PrintWords Go.Proofs.YtkblmomfiimkiaaGreatDoorW.PrintLast Go.Proofs.YtkblmomfiimkiaaGreatDoorW.PrintMore
theorem refSame_l0 (a b : List S43) (hl : a.length = b.length) (hs : a.length ≤ 4611686018427387904) : ∀ (d i k : Nat), i + d = a.length → d < k →
  supercargoref05_Same.l0 k a b (i : Int) = some (eqB (a.drop i) (b.drop i)) := by
 intro d
 induction d with
 | zero =>
  intro i k h1 h2
  obtain ⟨k, rfl⟩ : ∃ m, k = m + 1 := ⟨k - 1, by omega⟩
  simp only [supercargoref05_Same.l0]
  rw [if_neg (by omega), List.drop_eq_nil_of_le (by omega), List.drop_eq_nil_of_le (by omega), eqB_of rfl]
 | succ d ih =>
  intro i k h1 h2
  obtain ⟨k, rfl⟩ : ∃ m, k = m + 1 := ⟨k - 1, by omega⟩
  have ha : i < a.length := by omega
  have hb : i < b.length := by omega
  simp only [supercargoref05_Same.l0]
  rw [if_pos (by omega), if_pos (by omega), if_pos (by omega), rdT_nat a i ha, rdT_nat b i hb, field_ext, wr_nat i (by omega), ih (i + 1) k (by omega) (by omega), List.drop_eq_getElem_cons ha, List.drop_eq_getElem_cons hb, eqB_cons]
  cases eqB a[i] b[i] <;> rfl
theorem refSame_f (a b : List S43) (hs : a.length ≤ 4611686018427387904) (k : Nat) (hk : a.length < k) : supercargoref05_Same.f k a b = some (eqB a b) := by
 unfold supercargoref05_Same.f
 by_cases h : a.length = b.length
 ·
  rw [if_pos (by omega)]
  have := refSame_l0 a b h hs a.length 0 k (by omega) hk
  rw [List.drop_zero, List.drop_zero] at this
  exact this
 ·
  rw [if_neg (by omega), eqB_ne (fun e => h (by rw [e]))]
theorem alike_f (a b : S38) (hs : a.f3.length ≤ 4611686018427387904) (k : Nat) (hk : a.f3.length < k) : supercargoref05_Alike.f k a.f0 a.f1 a.f2 a.f3 b.f0 b.f1 b.f2 b.f3 = some (eqB a b) := by
 unfold supercargoref05_Alike.f
 obtain ⟨a0, a1, a2, a3⟩ := a
 obtain ⟨b0, b1, b2, b3⟩ := b
 dsimp only at hs hk ⊢
 by_cases h0 : a0 = b0
 ·
  rw [if_pos h0]
  by_cases h1 : a1 = b1
  ·
   rw [if_pos (bytes_eq.2 h1)]
   by_cases h2 : a2 = b2
   ·
    rw [if_pos (bytes_eq.2 h2), refSame_f a3 b3 hs k hk, Option.bind_some]
    by_cases h3 : a3 = b3
    ·
     rw [eqB_of h3, eqB_of (by rw [h0, h1, h2, h3])]
    ·
     rw [eqB_ne h3, eqB_ne (fun e => h3 (by injection e))]
   ·
    rw [if_neg (fun e => h2 (bytes_eq.1 e)), eqB_ne (fun e => h2 (by injection e))]
  ·
   rw [if_neg (fun e => h1 (bytes_eq.1 e)), eqB_ne (fun e => h1 (by injection e))]
 ·
  rw [if_neg h0, eqB_ne (fun e => h0 (by injection e))]
theorem refL_l1 (a0 : ByteArray) (a1 : ByteArray) (a2 : Int) (a3 : Int) (a4 : Int) (a5 : ByteArray) (a6 : ByteArray) (a7 : ByteArray) (a8 : Int) (a9 : Int) (a10 : ByteArray) (a11 : Int) (al12 : List S38) (al13 : List ByteArray) (b0 : ByteArray) (b1 : ByteArray) (b2 : Int) (b3 : Int) (b4 : Int) (b5 : ByteArray) (b6 : ByteArray) (b7 : ByteArray) (b8 : Int) (b9 : Int) (b10 : ByteArray) (b11 : Int) (bl12 : List S38) (bl13 : List ByteArray) (hl : al13.length = bl13.length) (hs : al13.length ≤ 4611686018427387904) : ∀ (d i k : Nat), i + d = al13.length → d < k →
  supercargoref09_Same.l1 k (i : Int) a0 a1 a2 a3 a4 a5 a6 a7 a8 a9 a10 a11 al12 al13 b0 b1 b2 b3 b4 b5 b6 b7 b8 b9 b10 b11 bl12 bl13 = some (eqB (al13.drop i) (bl13.drop i)) := by
 intro d
 induction d with
 | zero =>
  intro i k h1 h2
  obtain ⟨k, rfl⟩ : ∃ m, k = m + 1 := ⟨k - 1, by omega⟩
  simp only [supercargoref09_Same.l1]
  rw [if_neg (by omega), List.drop_eq_nil_of_le (by omega), List.drop_eq_nil_of_le (by omega), eqB_of rfl]
 | succ d ih =>
  intro i k h1 h2
  obtain ⟨k, rfl⟩ : ∃ m, k = m + 1 := ⟨k - 1, by omega⟩
  have ha : i < al13.length := by omega
  have hb : i < bl13.length := by omega
  simp only [supercargoref09_Same.l1]
  rw [if_pos (by omega), if_pos (by omega), if_pos (by omega), rdOf_nat al13 i ha, rdOf_nat bl13 i hb, wr_nat i (by omega), List.drop_eq_getElem_cons ha, List.drop_eq_getElem_cons hb, eqB_cons]
  by_cases hx : al13[i] = bl13[i]
  ·
   rw [if_pos (bytes_eq.2 hx), ih (i + 1) k (by omega) (by omega), eqB_of hx, Bool.true_and]
  ·
   rw [if_neg (fun e => hx (bytes_eq.1 e)), eqB_ne hx, Bool.false_and]
theorem refL_l0 (a0 : ByteArray) (a1 : ByteArray) (a2 : Int) (a3 : Int) (a4 : Int) (a5 : ByteArray) (a6 : ByteArray) (a7 : ByteArray) (a8 : Int) (a9 : Int) (a10 : ByteArray) (a11 : Int) (al12 : List S38) (al13 : List ByteArray) (b0 : ByteArray) (b1 : ByteArray) (b2 : Int) (b3 : Int) (b4 : Int) (b5 : ByteArray) (b6 : ByteArray) (b7 : ByteArray) (b8 : Int) (b9 : Int) (b10 : ByteArray) (b11 : Int) (bl12 : List S38) (bl13 : List ByteArray) (M : Nat) (hl : al12.length = bl12.length) (hs : al12.length ≤ 4611686018427387904) (hl2 : al13.length = bl13.length) (hs2 : al13.length ≤ 4611686018427387904) (hM : ∀ x ∈ al12, x.f3.length ≤ M) (hM2 : M ≤ 4611686018427387904) : ∀ (d i k : Nat), i + d = al12.length → d + M + al13.length + 2 < k →
  supercargoref09_Same.l0 k (i : Int) a0 a1 a2 a3 a4 a5 a6 a7 a8 a9 a10 a11 al12 al13 b0 b1 b2 b3 b4 b5 b6 b7 b8 b9 b10 b11 bl12 bl13 = some (eqB (al12.drop i) (bl12.drop i) && eqB al13 bl13) := by
 intro d
 induction d with
 | zero =>
  intro i k h1 h2
  obtain ⟨k, rfl⟩ : ∃ m, k = m + 1 := ⟨k - 1, by omega⟩
  simp only [supercargoref09_Same.l0]
  have hz := refL_l1 a0 a1 a2 a3 a4 a5 a6 a7 a8 a9 a10 a11 al12 al13 b0 b1 b2 b3 b4 b5 b6 b7 b8 b9 b10 b11 bl12 bl13 hl2 hs2 al13.length 0 k (by omega) (by omega)
  rw [List.drop_zero, List.drop_zero] at hz
  rw [if_neg (by omega), List.drop_eq_nil_of_le (by omega), List.drop_eq_nil_of_le (by omega), eqB_of rfl, Bool.true_and]
  exact hz
 | succ d ih =>
  intro i k h1 h2
  obtain ⟨k, rfl⟩ : ∃ m, k = m + 1 := ⟨k - 1, by omega⟩
  have ha : i < al12.length := by omega
  have hb : i < bl12.length := by omega
  have hm := hM _ (List.getElem_mem ha)
  simp only [supercargoref09_Same.l0]
  rw [if_pos (by omega), if_pos (by omega), if_pos (by omega), rdD_nat al12 i ha, rdD_nat bl12 i hb, alike_f al12[i] bl12[i] (by omega) k (by omega), Option.bind_some, wr_nat i (by omega), List.drop_eq_getElem_cons ha, List.drop_eq_getElem_cons hb, eqB_cons]
  by_cases hx : al12[i] = bl12[i]
  ·
   rw [eqB_of hx, if_pos rfl, ih (i + 1) k (by omega) (by omega), Bool.true_and]
  ·
   rw [eqB_ne hx, if_neg (by simp), Bool.false_and, Bool.false_and]
theorem refL_f (a0 : ByteArray) (a1 : ByteArray) (a2 : Int) (a3 : Int) (a4 : Int) (a5 : ByteArray) (a6 : ByteArray) (a7 : ByteArray) (a8 : Int) (a9 : Int) (a10 : ByteArray) (a11 : Int) (al12 : List S38) (al13 : List ByteArray) (b0 : ByteArray) (b1 : ByteArray) (b2 : Int) (b3 : Int) (b4 : Int) (b5 : ByteArray) (b6 : ByteArray) (b7 : ByteArray) (b8 : Int) (b9 : Int) (b10 : ByteArray) (b11 : Int) (bl12 : List S38) (bl13 : List ByteArray) (M : Nat) (hs : al12.length ≤ 4611686018427387904) (hs2 : al13.length ≤ 4611686018427387904) (hM : ∀ x ∈ al12, x.f3.length ≤ M) (hM2 : M ≤ 4611686018427387904) (k : Nat) (hk : al12.length + M + al13.length + 3 < k) :
  supercargoref09_Same.f k a0 a1 a2 a3 a4 a5 a6 a7 a8 a9 a10 a11 al12 al13 b0 b1 b2 b3 b4 b5 b6 b7 b8 b9 b10 b11 bl12 bl13 = some (eqB (⟨a0, a1, a2, a3, a4, a5, a6, a7, a8, a9, ⟨a10, a11⟩, al12, al13⟩ : S33) (⟨b0, b1, b2, b3, b4, b5, b6, b7, b8, b9, ⟨b10, b11⟩, bl12, bl13⟩ : S33)) := by
 obtain ⟨k, rfl⟩ : ∃ m, k = m + 1 := ⟨k - 1, by omega⟩
 have hno : (⟨a0, a1, a2, a3, a4, a5, a6, a7, a8, a9, ⟨a10, a11⟩, al12, al13⟩ : S33) ≠ (⟨b0, b1, b2, b3, b4, b5, b6, b7, b8, b9, ⟨b10, b11⟩, bl12, bl13⟩ : S33) → supercargoref09_Same.j0 (k + 1) true a0 a1 a2 a3 a4 a5 a6 a7 a8 a9 a10 a11 al12 al13 b0 b1 b2 b3 b4 b5 b6 b7 b8 b9 b10 b11 bl12 bl13 = some (eqB (⟨a0, a1, a2, a3, a4, a5, a6, a7, a8, a9, ⟨a10, a11⟩, al12, al13⟩ : S33) (⟨b0, b1, b2, b3, b4, b5, b6, b7, b8, b9, ⟨b10, b11⟩, bl12, bl13⟩ : S33)) := by
  intro hne
  simp only [supercargoref09_Same.j0]
  rw [if_pos trivial, eqB_ne hne]
 unfold supercargoref09_Same.f
 by_cases h0 : a0.toList = b0.toList
 rotate_left
 ·
  rw [if_neg h0]; exact hno (fun e => h0 (congrArg (fun x : S33 => x.f0.toList) e))
 rw [if_pos h0]
 by_cases h1 : a1.toList = b1.toList
 rotate_left
 ·
  rw [if_neg h1]; exact hno (fun e => h1 (congrArg (fun x : S33 => x.f1.toList) e))
 rw [if_pos h1]
 by_cases h2 : a2 = b2
 rotate_left
 ·
  rw [if_neg h2]; exact hno (fun e => h2 (congrArg (fun x : S33 => x.f2) e))
 rw [if_pos h2]
 by_cases h3 : a3 = b3
 rotate_left
 ·
  rw [if_neg h3]; exact hno (fun e => h3 (congrArg (fun x : S33 => x.f3) e))
 rw [if_pos h3]
 by_cases h4 : a4 = b4
 rotate_left
 ·
  rw [if_neg h4]; exact hno (fun e => h4 (congrArg (fun x : S33 => x.f4) e))
 rw [if_pos h4]
 by_cases h5 : a5.toList = b5.toList
 rotate_left
 ·
  rw [if_neg h5]; exact hno (fun e => h5 (congrArg (fun x : S33 => x.f5.toList) e))
 rw [if_pos h5]
 by_cases h6 : a6.toList = b6.toList
 rotate_left
 ·
  rw [if_neg h6]; exact hno (fun e => h6 (congrArg (fun x : S33 => x.f6.toList) e))
 rw [if_pos h6]
 by_cases h7 : a7.toList = b7.toList
 rotate_left
 ·
  rw [if_neg h7]; exact hno (fun e => h7 (congrArg (fun x : S33 => x.f7.toList) e))
 rw [if_pos h7]
 by_cases h8 : a8 = b8
 rotate_left
 ·
  rw [if_neg h8]; exact hno (fun e => h8 (congrArg (fun x : S33 => x.f8) e))
 rw [if_pos h8]
 by_cases h9 : a9 = b9
 rotate_left
 ·
  rw [if_neg h9]; exact hno (fun e => h9 (congrArg (fun x : S33 => x.f9) e))
 rw [if_pos h9]
 by_cases hm : (!(a10.toList == b10.toList) || (!(a11 == b11))) = true
 ·
  rw [if_pos hm]
  refine hno (fun e => ?_)
  have e0 : a10 = b10 := congrArg (fun x : S33 => x.f10.f0) e
  have e1 : a11 = b11 := congrArg (fun x : S33 => x.f10.f1) e
  rw [e0, e1] at hm
  simp at hm
 ·
  rw [if_neg hm]
  by_cases hl : (al12.length : Int) = (bl12.length : Int)
  ·
   rw [if_pos hl]
   by_cases hl2 : (al13.length : Int) = (bl13.length : Int)
   ·
    have hq : ((al13.length : Int) != (bl13.length : Int)) = false := by rw [hl2]; simp
    rw [hq]
    simp only [supercargoref09_Same.j0]
    rw [if_neg (by simp)]
    have hz := refL_l0 a0 a1 a2 a3 a4 a5 a6 a7 a8 a9 a10 a11 al12 al13 b0 b1 b2 b3 b4 b5 b6 b7 b8 b9 b10 b11 bl12 bl13 M (by omega) hs (by omega) hs2 hM hM2 al12.length 0 k (by omega) (by omega)
    rw [List.drop_zero, List.drop_zero] at hz
    refine hz.trans ?_
    simp only [Bool.or_eq_true, Bool.not_eq_true', not_or, Bool.not_eq_false, beq_iff_eq] at hm
    obtain ⟨f0, f1⟩ := hm
    rw [bytes_eq] at h0 h1 h5 h6 h7 f0
    subst h0 h1 h2 h3 h4 h5 h6 h7 h8 h9 f0 f1
    rw [letter_eq]
    simp
   ·
    have hq : ((al13.length : Int) != (bl13.length : Int)) = true := bne_iff_ne.2 hl2
    rw [hq]
    exact hno (fun e => hl2 (congrArg (fun x : S33 => (x.f12.length : Int)) e))
  ·
   rw [if_neg hl]
   exact hno (fun e => hl (congrArg (fun x : S33 => (x.f11.length : Int)) e))
end Go.Proofs.YtkblmomfiimkiaaGreatDoor.P
end
