/- Two rows of fields, two rows of texts, two papers are told one just if they are. Conditions: lists' lengths below 2^62. -/
import Derived.Test.YtkblmomfiimkiaaGreatDoorPx8
import Derived.Test.YtkblmomfiimkiaaGreatDoorPx9
import Derived.Lib.Strings
namespace Go.Proofs.YtkblmomfiimkiaaGreatDoor.P
open Go.RowKit Go.Proofs.YtkblmomfiimkiaaGreatDoorW.PrintWords Go.Proofs.YtkblmomfiimkiaaGreatDoorW.PrintLast Go.Proofs.YtkblmomfiimkiaaGreatDoorW.PrintMore

/-- are they one -/
noncomputable def eqB {α : Type} (a b : α) : Bool := @decide (a = b) (Classical.propDecidable _)
theorem eqB_true {α : Type} {a b : α} : eqB a b = true ↔ a = b := by unfold eqB; simp
theorem eqB_of {α : Type} {a b : α} (h : a = b) : eqB a b = true := eqB_true.2 h
theorem eqB_ne {α : Type} {a b : α} (h : a ≠ b) : eqB a b = false := by
  cases e : eqB a b
  · rfl
  · exact absurd (eqB_true.1 e) h
theorem eqB_false {α : Type} {a b : α} : eqB a b = false ↔ a ≠ b := ⟨fun h e => Bool.noConfusion ((eqB_of e).symm.trans h), eqB_ne⟩
theorem bytes_eq {a b : ByteArray} : a.toList = b.toList ↔ a = b := by
  rw [Lib.toList_data, Lib.toList_data]
  constructor
  · intro h
    apply ByteArray.ext
    exact Array.ext' h
  · intro h; rw [h]
theorem bytes_beq {a b : ByteArray} : (a.toList == b.toList) = eqB a b := by
  by_cases h : a = b
  · rw [eqB_of h, h]; simp
  · rw [eqB_ne h, beq_eq_false_iff_ne]; exact fun e => h (bytes_eq.1 e)
theorem rdT_nat (l : List S43) (i : Nat) (h : i < l.length) : rd_T43 l (i : Int) = l[i] := by
  unfold rd_T43
  simp [List.getD, List.getElem?_eq_getElem h]
theorem rdOf_nat (l : List ByteArray) (i : Nat) (h : i < l.length) : rdOf ByteArray.empty l (i : Int) = l[i] := by
  unfold rdOf
  simp [List.getD, List.getElem?_eq_getElem h]
theorem wr_nat (i : Nat) (h : i < 9223372036854775807) : wrap64 ((i : Int) + 1) = ((i + 1 : Nat) : Int) := by unfold wrap64; omega
theorem field_ext (x y : S43) : (!(x.f0.toList == y.f0.toList) || (!(x.f1.toList == y.f1.toList))) = !eqB x y := by
  rw [bytes_beq, bytes_beq]
  cases x; cases y
  rename_i a b c d
  by_cases h1 : a = c
  · by_cases h2 : b = d
    · rw [eqB_of h1, eqB_of h2, eqB_of (by rw [h1, h2])]; rfl
    · rw [eqB_of h1, eqB_ne h2, eqB_ne (fun e => h2 (by injection e))]; rfl
  · have e3 : eqB (⟨a, b⟩ : S43) ⟨c, d⟩ = false := eqB_ne (fun e => h1 (by injection e))
    rw [eqB_ne h1, e3]; rfl
theorem eqB_cons {α : Type} (x y : α) (a b : List α) : eqB (x :: a) (y :: b) = (eqB x y && eqB a b) := by
  by_cases h1 : x = y
  · by_cases h2 : a = b
    · rw [eqB_of h1, eqB_of h2, eqB_of (by rw [h1, h2])]; rfl
    · rw [eqB_of h1, eqB_ne h2, eqB_ne (fun e => h2 (by injection e))]; rfl
  · have e3 : eqB (x :: a) (y :: b) = false := eqB_ne (fun e => h1 (by injection e))
    rw [eqB_ne h1, e3]; rfl
theorem eqF_l0 (a b : List S43) (hl : a.length = b.length) (hs : a.length ≤ 4611686018427387904) : ∀ (d i k : Nat), i + d = a.length → d < k →
    api_Field.l0 k a b (a.length : Int) (i : Int) = some (eqB (a.drop i) (b.drop i)) := by
  intro d
  induction d with
  | zero =>
    intro i k h1 h2
    obtain ⟨k, rfl⟩ : ∃ m, k = m + 1 := ⟨k - 1, by omega⟩
    simp only [api_Field.l0]
    rw [if_neg (by omega), List.drop_eq_nil_of_le (by omega), List.drop_eq_nil_of_le (by omega), eqB_of rfl]
  | succ d ih =>
    intro i k h1 h2
    obtain ⟨k, rfl⟩ : ∃ m, k = m + 1 := ⟨k - 1, by omega⟩
    have ha : i < a.length := by omega
    have hb : i < b.length := by omega
    simp only [api_Field.l0]
    rw [if_pos (by omega), if_pos (by omega), if_pos (by omega), if_pos (by omega), rdT_nat a i ha, rdT_nat b i hb, field_ext, wr_nat i (by omega), ih (i + 1) k (by omega) (by omega), List.drop_eq_getElem_cons ha, List.drop_eq_getElem_cons hb, eqB_cons]
    cases eqB a[i] b[i] <;> rfl
theorem eqF_f (a b : List S43) (hs : a.length ≤ 4611686018427387904) (k : Nat) (hk : a.length < k) : api_Field.f k a b = some (eqB a b) := by
  unfold api_Field.f
  by_cases h : a.length = b.length
  · rw [if_pos (by omega)]
    have := eqF_l0 a b h hs a.length 0 k (by omega) hk
    rw [List.drop_zero, List.drop_zero] at this
    exact this
  · rw [if_neg (by omega), eqB_ne (fun e => h (by rw [e]))]
theorem eqS_l0 (a b : List ByteArray) (hl : a.length = b.length) (hs : a.length ≤ 4611686018427387904) : ∀ (d i k : Nat), i + d = a.length → d < k →
    slices_Equal_string_string.l0 k a b (a.length : Int) (i : Int) = some (eqB (a.drop i) (b.drop i)) := by
  intro d
  induction d with
  | zero =>
    intro i k h1 h2
    obtain ⟨k, rfl⟩ : ∃ m, k = m + 1 := ⟨k - 1, by omega⟩
    simp only [slices_Equal_string_string.l0]
    rw [if_neg (by omega), List.drop_eq_nil_of_le (by omega), List.drop_eq_nil_of_le (by omega), eqB_of rfl]
  | succ d ih =>
    intro i k h1 h2
    obtain ⟨k, rfl⟩ : ∃ m, k = m + 1 := ⟨k - 1, by omega⟩
    have ha : i < a.length := by omega
    have hb : i < b.length := by omega
    simp only [slices_Equal_string_string.l0]
    rw [if_pos (by omega), if_pos (by omega), if_pos (by omega), if_pos (by omega), rdOf_nat a i ha, rdOf_nat b i hb, wr_nat i (by omega), ih (i + 1) k (by omega) (by omega), List.drop_eq_getElem_cons ha, List.drop_eq_getElem_cons hb, eqB_cons]
    by_cases h : a[i] = b[i]
    · rw [if_pos (bytes_eq.2 h), eqB_of h]; rfl
    · rw [if_neg (fun e => h (bytes_eq.1 e)), eqB_ne h]; rfl
theorem eqS_f (a b : List ByteArray) (hs : a.length ≤ 4611686018427387904) (k : Nat) (hk : a.length < k) : slices_Equal_string_string.f k a b = some (eqB a b) := by
  unfold slices_Equal_string_string.f
  by_cases h : a.length = b.length
  · rw [if_pos (by omega)]
    have := eqS_l0 a b h hs a.length 0 k (by omega) hk
    rw [List.drop_zero, List.drop_zero] at this
    exact this
  · rw [if_neg (by omega), eqB_ne (fun e => h (by rw [e]))]
theorem same_f (a b : S38) (hs : a.f3.length ≤ 4611686018427387904) (k : Nat) (hk : a.f3.length < k) : field_Same.f k a.f0 a.f1 a.f2 a.f3 b.f0 b.f1 b.f2 b.f3 = some (eqB a b) := by
  unfold field_Same.f
  obtain ⟨a0, a1, a2, a3⟩ := a
  obtain ⟨b0, b1, b2, b3⟩ := b
  dsimp only at hs hk ⊢
  by_cases h0 : a0 = b0
  · rw [if_pos h0]
    by_cases h1 : a1 = b1
    · rw [if_pos (bytes_eq.2 h1)]
      by_cases h2 : a2 = b2
      · rw [if_pos (bytes_eq.2 h2), eqF_f a3 b3 hs k hk, Option.bind_some]
        by_cases h3 : a3 = b3
        · rw [eqB_of h3, eqB_of (by rw [h0, h1, h2, h3])]
        · rw [eqB_ne h3, eqB_ne (fun e => h3 (by injection e))]
      · rw [if_neg (fun e => h2 (bytes_eq.1 e)), eqB_ne (fun e => h2 (by injection e))]
    · rw [if_neg (fun e => h1 (bytes_eq.1 e)), eqB_ne (fun e => h1 (by injection e))]
  · rw [if_neg h0, eqB_ne (fun e => h0 (by injection e))]
end Go.Proofs.YtkblmomfiimkiaaGreatDoor.P
