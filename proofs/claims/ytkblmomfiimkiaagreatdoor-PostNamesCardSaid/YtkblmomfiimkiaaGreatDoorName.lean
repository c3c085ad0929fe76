/- field.name: it returns whether its argument is a name, as the plain text nameB says; nothing that was there changes. Conditions: none. -/
import Derived.Test.YtkblmomfiimkiaaGreatDoorPx0
import Derived.Test.YtkblmomfiimkiaaGreatDoorPlain
import Derived.Test.YtkblmomfiimkiaaGreatDoorShelf
import Derived.WalkSpells
import Derived.Laws.RangeString
import Derived.Outline
import Derived.Lib.Hide
namespace Go.Proofs.YtkblmomfiimkiaaGreatDoor.P
open Go.RowKit Go.Proofs.YtkblmomfiimkiaaGreatDoorW.PrintWords Go.Proofs.YtkblmomfiimkiaaGreatDoorW.PrintLast Go.Proofs.YtkblmomfiimkiaaGreatDoorW.PrintMore
open Go.Proofs.YtkblmomfiimkiaaGreatDoor.Fp

def field_name.f (a0 : ByteArray) : Option Bool := some (nameB a0.data.toList)

/-- the closure's answer at a rune -/
def oddR (r : Nat) : Bool := (decide (r < 97) || decide (122 < r)) && (decide (r < 48) || decide (57 < r)) && !decide (r = 45)

theorem decode_high (s : ByteArray) (pos : Nat) (_h : pos < s.size) (ha : 128 ≤ (s.get! pos).toNat) : 128 ≤ (Utf8.decode s pos).1 := by
  unfold Utf8.decode
  have hr : 128 ≤ Utf8.runeError := by decide
  simp only [Nat.add_zero]
  rw [if_neg (by omega)]
  repeat' split
  all_goals first | exact hr | (simp only [Bool.and_eq_true, decide_eq_true_eq, ge_iff_le] at *; omega) | (dsimp only at *; omega)

theorem oddR_high (r : Nat) (h : 128 ≤ r) : oddR r = true := by
  unfold oddR
  have h1 : decide (122 < r) = true := decide_eq_true (by omega)
  have h2 : decide (57 < r) = true := decide_eq_true (by omega)
  have h3 : decide (r = 45) = false := decide_eq_false (by omega)
  rw [h1, h2, h3]; simp

theorem oddR_low (c : UInt8) : oddR c.toNat = !okB c := by
  unfold oddR okB
  rw [Bool.eq_iff_iff]
  simp

theorem all_drop (s : ByteArray) (pos : Nat) (h : pos < s.size) : (s.data.toList.drop pos).all okB = (okB (s[pos]'h) && (s.data.toList.drop (pos + 1)).all okB) := by
  rw [List.drop_eq_getElem_cons (by simpa using h), List.all_cons]
  rfl

theorem idx_names (s : ByteArray) : ∀ (f pos : Nat), pos ≤ s.size → s.size - pos ≤ f → decide (0 ≤ Lib.idxFuncFrom oddR true s f pos) = !((s.data.toList.drop pos).all okB)
  | 0, pos, hp, hf => by
    have : (s.data.toList.drop pos) = [] := List.drop_eq_nil_of_le (by simp; omega)
    rw [this]; simp [Lib.idxFuncFrom]
  | f + 1, pos, hp, hf => by
    unfold Lib.idxFuncFrom
    split
    · rename_i hlt
      rw [all_drop s pos hlt]
      have hg : s.get! pos = s[pos]'hlt := by
        have hlt' : pos < s.data.size := hlt
        simp [ByteArray.get!, getElem!_def, Array.getElem?_eq_getElem hlt']
        rfl
      by_cases ha : (s[pos]'hlt).toNat < 128
      · rw [decode_ascii s pos hlt ha, oddR_low]
        by_cases hk : okB (s[pos]'hlt) = true
        · rw [hk]
          simp only [Bool.not_true, Bool.false_eq_true, if_false, Bool.true_and]
          exact idx_names s f (pos + 1) (by omega) (by omega)
        · have hk' : okB (s[pos]'hlt) = false := by simpa using hk
          rw [hk']
          simp
      · have h1 := decode_high s pos hlt (by rw [hg]; omega)
        have hk : okB (s[pos]'hlt) = false := by
          have := oddR_low (s[pos]'hlt)
          rw [oddR_high _ (by omega)] at this
          simpa using this.symm
        rw [oddR_high _ h1, hk]
        simp
    · have : (s.data.toList.drop pos) = [] := List.drop_eq_nil_of_le (by simp; omega)
      rw [this]; simp

theorem contains_odd (s : ByteArray) : decide (0 ≤ Lib.idxFunc oddR true s) = !(s.data.toList.all okB) := by
  exact idx_names s s.size 0 (by omega) (by omega)

/-- the closure: 'odd' -/
theorem odd_pays (w : World) : PredAt Tryz.prog 113 #[] encR oddR w := fun W r _ => by
  unfold FnGives
  have z1 : (r : Int) < 97 ↔ r < 97 := by omega
  have z2 : (122 : Int) < (r : Int) ↔ 122 < r := by omega
  have z3 : (r : Int) < 48 ↔ r < 48 := by omega
  have z4 : (57 : Int) < (r : Int) ↔ 57 < r := by omega
  have z5 : (r : Int) = 45 ↔ r = 45 := by omega
  by_cases h1 : r < 97 <;> by_cases h2 : 122 < r <;> by_cases h3 : r < 48 <;> by_cases h4 : 57 < r <;> by_cases h5 : r = 45
  all_goals first
    | (exfalso; omega)
    | (go_enter Tryz.func113, Tryz.ntmps113
       go_wp2
       all_goals first | (exfalso; omega) | (go_ret; exact ⟨by simp [oddR, h1, h2, h3, h4, h5, z5], 0, rfl⟩))

set_option maxHeartbeats 1000000 in
theorem field_name.calls (a0 : ByteArray) (r : Bool) (w : World) (h : field_name.f a0 = some r) :
    Calls Tryz.prog 95 #[.string a0] w fun e w' => e = .returned (.bool r) ∧ Below w.heap.size w w' := by
  unfold field_name.f at h
  obtain rfl := Option.some.inj h
  clear h
  have hC := fun W => Sh.strings_ContainsFunc 113 #[] (enters_of Tryz.func113 (by kernel_rfl) rfl) oddR a0 W (odd_pays W)
  have hn : nameB a0.data.toList = (!a0.data.toList.isEmpty && decide (a0.size ≤ 16) && a0.data.toList.all okB) := by unfold nameB; rw [Array.length_toList]; rfl
  have HN := Lib.hid hn
  clear hn
  have ht : a0.toList = a0.data.toList := Lib.toList_data a0
  by_cases h0 : a0.toList = []
  · have H0 := Lib.hid (ht.symm.trans h0)
    clear ht
    go_enter Tryz.func95, Tryz.ntmps95
    go_wp2_with fail
    all_goals first
      | (exfalso; contradiction)
      | (go_ret; exact ⟨by rw [HN.out, H0.out]; rfl, Below.refl _ _⟩)
  · have H0 : Hid (a0.data.toList.isEmpty = false) := Lib.hid (by rw [← ht]; simpa using h0)
    clear ht
    by_cases h1 : a0.size ≤ 16
    · have H1 := Lib.hid (decide_eq_true h1)
      go_enter Tryz.func95, Tryz.ntmps95
      go_wp2_with (go_at_call 65; refine (hC _).mono ?_; rintro e w' ⟨rfl, hb⟩)
      all_goals first
        | (exfalso; contradiction)
        | (exfalso; omega)
        | (go_ret; exact ⟨by rw [HN.out, H0.out, H1.out, contains_odd]; simp [h0], hb⟩)
    · have H1 := Lib.hid (decide_eq_false h1)
      go_enter Tryz.func95, Tryz.ntmps95
      go_wp2_with fail
      all_goals first
        | (exfalso; contradiction)
        | (exfalso; omega)
        | (go_ret; exact ⟨by rw [HN.out, H0.out, H1.out]; simp, Below.refl _ _⟩)
end Go.Proofs.YtkblmomfiimkiaaGreatDoor.P
