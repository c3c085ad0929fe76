/- post.name, money.currency: whether a text is a name, a currency's; nothing that was there changes. Conditions: none. -/
import Derived.Test.YtkblmomfiimkiaaGreatDoorName
import Derived.Test.YtkblmomfiimkiaaGreatDoorDec
namespace Go.Proofs.YtkblmomfiimkiaaGreatDoor.P
open Go.RowKit Go.Proofs.YtkblmomfiimkiaaGreatDoorW.PrintWords Go.Proofs.YtkblmomfiimkiaaGreatDoorW.PrintLast Go.Proofs.YtkblmomfiimkiaaGreatDoorW.PrintMore
open Go.Proofs.YtkblmomfiimkiaaGreatDoor.Fp

def post_name.f (a0 : ByteArray) : Option Bool := some (nameB a0.data.toList)
theorem odd_paysB (w : World) : PredAt Tryz.prog 64 #[] encR oddR w := fun W r _ => by
  unfold FnGives
  have z1 : (r : Int) < 97 ↔ r < 97 := by omega
  have z2 : (122 : Int) < (r : Int) ↔ 122 < r := by omega
  have z3 : (r : Int) < 48 ↔ r < 48 := by omega
  have z4 : (57 : Int) < (r : Int) ↔ 57 < r := by omega
  have z5 : (r : Int) = 45 ↔ r = 45 := by omega
  by_cases h1 : r < 97 <;> by_cases h2 : 122 < r <;> by_cases h3 : r < 48 <;> by_cases h4 : 57 < r <;> by_cases h5 : r = 45
  all_goals first
    | (exfalso; omega)
    | (go_enter Tryz.func64, Tryz.ntmps64
       go_wp2
       all_goals first | (exfalso; omega) | (go_ret; exact ⟨by simp [oddR, h1, h2, h3, h4, h5, z5], 0, rfl⟩))
set_option maxHeartbeats 1000000 in
theorem post_name.calls (a0 : ByteArray) (r : Bool) (w : World) (h : post_name.f a0 = some r) :
    Calls Tryz.prog 37 #[.string a0] w fun e w' => e = .returned (.bool r) ∧ Below w.heap.size w w' := by
  unfold post_name.f at h
  obtain rfl := Option.some.inj h
  clear h
  have hC := fun W => Sh.strings_ContainsFunc 64 #[] (enters_of Tryz.func64 (by kernel_rfl) rfl) oddR a0 W (odd_paysB W)
  have hn : nameB a0.data.toList = (!a0.data.toList.isEmpty && decide (a0.size ≤ 16) && a0.data.toList.all okB) := by unfold nameB; rw [Array.length_toList]; rfl
  have HN := Lib.hid hn
  clear hn
  have ht : a0.toList = a0.data.toList := Lib.toList_data a0
  by_cases h0 : a0.toList = []
  · have H0 := Lib.hid (ht.symm.trans h0)
    clear ht
    go_enter Tryz.func37, Tryz.ntmps37
    go_wp2_with fail
    all_goals first
      | (exfalso; contradiction)
      | (go_ret; exact ⟨by rw [HN.out, H0.out]; rfl, Below.refl _ _⟩)
  · have H0 : Hid (a0.data.toList.isEmpty = false) := Lib.hid (by rw [← ht]; simpa using h0)
    clear ht
    by_cases h1 : a0.size ≤ 16
    · have H1 := Lib.hid (decide_eq_true h1)
      go_enter Tryz.func37, Tryz.ntmps37
      go_wp2_with (go_at_call 65; refine (hC _).mono ?_; rintro e w' ⟨rfl, hb⟩)
      all_goals first
        | (exfalso; contradiction)
        | (exfalso; omega)
        | (go_ret; exact ⟨by rw [HN.out, H0.out, H1.out, contains_odd]; simp [h0], hb⟩)
    · have H1 := Lib.hid (decide_eq_false h1)
      go_enter Tryz.func37, Tryz.ntmps37
      go_wp2_with fail
      all_goals first
        | (exfalso; contradiction)
        | (exfalso; omega)
        | (go_ret; exact ⟨by rw [HN.out, H0.out, H1.out]; simp, Below.refl _ _⟩)

/-! currency -/
def capR (r : Nat) : Bool := decide (r < 65) || decide (90 < r)
theorem capR_high (r : Nat) (h : 128 ≤ r) : capR r = true := by unfold capR; rw [decide_eq_true (show 90 < r by omega)]; simp
theorem capR_low (c : UInt8) : capR c.toNat = !capB c := by
  unfold capR capB
  rw [Bool.eq_iff_iff]
  simp
theorem cap_drop (s : ByteArray) (pos : Nat) (h : pos < s.size) : (s.data.toList.drop pos).all capB = (capB (s[pos]'h) && (s.data.toList.drop (pos + 1)).all capB) := by
  rw [List.drop_eq_getElem_cons (by simpa using h), List.all_cons]
  rfl
theorem idx_caps (s : ByteArray) : ∀ (f pos : Nat), pos ≤ s.size → s.size - pos ≤ f → decide (0 ≤ Lib.idxFuncFrom capR true s f pos) = !((s.data.toList.drop pos).all capB)
  | 0, pos, hp, hf => by
    have : (s.data.toList.drop pos) = [] := List.drop_eq_nil_of_le (by simp; omega)
    rw [this]; simp [Lib.idxFuncFrom]
  | f + 1, pos, hp, hf => by
    unfold Lib.idxFuncFrom
    split
    · rename_i hlt
      rw [cap_drop s pos hlt]
      have hg : s.get! pos = s[pos]'hlt := by
        have hlt' : pos < s.data.size := hlt
        simp [ByteArray.get!, getElem!_def, Array.getElem?_eq_getElem hlt']
        rfl
      by_cases ha : (s[pos]'hlt).toNat < 128
      · rw [decode_ascii s pos hlt ha, capR_low]
        by_cases hk : capB (s[pos]'hlt) = true
        · rw [hk]
          simp only [Bool.not_true, Bool.false_eq_true, if_false, Bool.true_and]
          exact idx_caps s f (pos + 1) (by omega) (by omega)
        · have hk' : capB (s[pos]'hlt) = false := by simpa using hk
          rw [hk']
          simp
      · have h1 := decode_high s pos hlt (by rw [hg]; omega)
        have hk : capB (s[pos]'hlt) = false := by
          have := capR_low (s[pos]'hlt)
          rw [capR_high _ (by omega)] at this
          simpa using this.symm
        rw [capR_high _ h1, hk]
        simp
    · have : (s.data.toList.drop pos) = [] := List.drop_eq_nil_of_le (by simp; omega)
      rw [this]; simp
theorem contains_cap (s : ByteArray) : decide (0 ≤ Lib.idxFunc capR true s) = !(s.data.toList.all capB) := idx_caps s s.size 0 (by omega) (by omega)
theorem cap_pays (w : World) : PredAt Tryz.prog 101 #[] encR capR w := fun W r _ => by
  unfold FnGives
  have z1 : (r : Int) < 65 ↔ r < 65 := by omega
  have z2 : (90 : Int) < (r : Int) ↔ 90 < r := by omega
  by_cases h1 : r < 65 <;> by_cases h2 : 90 < r
  all_goals first
    | (exfalso; omega)
    | (go_enter Tryz.func101, Tryz.ntmps101
       go_wp2
       all_goals first | (exfalso; omega) | (go_ret; exact ⟨by simp [capR, h1, h2], 0, rfl⟩))
def money_currency.f (a0 : ByteArray) : Option Bool := some (curB a0.data.toList)
set_option maxHeartbeats 1000000 in
theorem money_currency.calls (a0 : ByteArray) (r : Bool) (w : World) (h : money_currency.f a0 = some r) :
    Calls Tryz.prog 66 #[.string a0] w fun e w' => e = .returned (.bool r) ∧ Below w.heap.size w w' := by
  unfold money_currency.f at h
  obtain rfl := Option.some.inj h
  clear h
  have hC := fun W => Sh.strings_ContainsFunc 101 #[] (enters_of Tryz.func101 (by kernel_rfl) rfl) capR a0 W (cap_pays W)
  have hn : curB a0.data.toList = (decide (a0.size = 3) && a0.data.toList.all capB) := by unfold curB; rw [Array.length_toList]; rfl
  have HN := Lib.hid hn
  clear hn
  by_cases h1 : a0.size = 3
  · have H1 := Lib.hid h1
    have h1' : (a0.size : Int) = 3 := by omega
    have hb1 : (((a0.size : Nat) : Int) == 3) = true := by simp [h1]
    clear h1 
    go_enter Tryz.func66, Tryz.ntmps66
    go_wp2_with (go_at_call 65; refine (hC _).mono ?_; rintro e w' ⟨rfl, hb⟩)
    all_goals first
      | (exfalso; contradiction)
      | (exfalso; omega)
      | (go_ret; exact ⟨by rw [HN.out, contains_cap, H1.out]; simp, hb⟩)
  · have h1' : ¬ (a0.size : Int) = 3 := by omega
    have hb1 : (((a0.size : Nat) : Int) == 3) = false := by simpa using h1'
    go_enter Tryz.func66, Tryz.ntmps66
    go_wp2_with fail
    all_goals first
      | (exfalso; contradiction)
      | (exfalso; omega)
      | (go_ret; exact ⟨by rw [HN.out]; simp [h1], Below.refl _ _⟩)
end Go.Proofs.YtkblmomfiimkiaaGreatDoor.P
