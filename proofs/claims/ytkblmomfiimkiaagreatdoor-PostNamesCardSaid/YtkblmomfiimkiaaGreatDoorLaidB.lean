/- What the library's variables hold, as two statements of its own packages lay them (the powers of ten, the white signs), and the contracts that read them: post.names, strconv.Itoa, strconv.FormatInt, strings.Repeat. Conditions: the variables hold that. -/
import Derived.Test.YtkblmomfiimkiaaGreatDoorPx0
import Derived.Test.YtkblmomfiimkiaaGreatDoorShelfN
import Derived.Test.YtkblmomfiimkiaaGreatDoorDec
import Derived.WalkKit
import Derived.Lib.Hide
import Derived.Lib.LaidTab
import Derived.Lib.LaidU8
namespace Go.Proofs.YtkblmomfiimkiaaGreatDoor.P
open Go.RowKit Go.Proofs.YtkblmomfiimkiaaGreatDoorW.PrintWords Go.Proofs.YtkblmomfiimkiaaGreatDoorW.PrintLast Go.Proofs.YtkblmomfiimkiaaGreatDoorW.PrintMore

structure Glob (W : World) : Prop where
  tab : Lib.TabIs Tryz.prog W "internal/strconv.uint64pow10" .u64 Lib.pow10Tab
  spc : Lib.TabIs Tryz.prog W "strings.asciiSpace" .u8 Lib.asciiSpaceTab

theorem tab_below {w w' : World} {name : String} {k : IntKind} {zs : List Int} {g : Nat} (hgn : Tryz.prog.globalNamed name = some g) (h : Lib.TabIs Tryz.prog w name k zs) (hb : Below w.heap.size w w') : Lib.TabIs Tryz.prog w' name k zs := by
  unfold Lib.TabIs World.var? at h ⊢
  rw [hgn] at h ⊢
  simp only [Option.bind_some] at h ⊢
  have hlt : g < w.heap.size := by
    rcases Nat.lt_or_ge g w.heap.size with h' | h'
    · exact h'
    · rw [Array.getElem?_eq_none h'] at h; cases h
  rw [hb.block g hlt]
  exact h
theorem glob_below {W W1 : World} (h : Glob W) (hb : Below W.heap.size W W1) : Glob W1 := ⟨tab_below (g := 3) (by kernel_rfl) h.tab hb, tab_below (g := 0) (by kernel_rfl) h.spc hb⟩
theorem below_grow {w : World} (k : Nat) (os : Array Obj) : Below w.heap.size w (Sort.grow (w.drewN k) os) :=
  ⟨rfl, rfl, rfl, by show w.heap.size ≤ (w.heap ++ os).size; rw [Array.size_append]; omega, fun _ hj => Sort.heap_grow_old (w.drewN k) os hj⟩

/-- the kinds' names -/
def namesB : List ByteArray := [(⟨#[111, 114, 100, 101, 114]⟩ : ByteArray), (⟨#[97, 112, 112, 108, 121]⟩ : ByteArray), (⟨#[105, 115, 115, 117, 101, 100]⟩ : ByteArray), (⟨#[100, 101, 99, 108, 105, 110, 101, 100]⟩ : ByteArray), (⟨#[115, 104, 105, 112]⟩ : ByteArray), (⟨#[108, 97, 100, 105, 110, 103]⟩ : ByteArray), (⟨#[99, 111, 118, 101, 114]⟩ : ByteArray), (⟨#[99, 111, 118, 101, 114, 101, 100]⟩ : ByteArray), (⟨#[101, 110, 100, 111, 114, 115, 101]⟩ : ByteArray), (⟨#[101, 110, 100, 111, 114, 115, 101, 100]⟩ : ByteArray), (⟨#[112, 114, 101, 115, 101, 110, 116]⟩ : ByteArray), (⟨#[114, 101, 102, 117, 115, 101, 100]⟩ : ByteArray), (⟨#[97, 99, 99, 101, 112, 116, 101, 100]⟩ : ByteArray), (⟨#[112, 97, 105, 100]⟩ : ByteArray), (⟨#[112, 97, 112, 101, 114, 115]⟩ : ByteArray), (⟨#[100, 101, 99, 108, 97, 114, 101]⟩ : ByteArray), (⟨#[100, 117, 116, 121]⟩ : ByteArray), (⟨#[116, 114, 97, 110, 115, 102, 101, 114]⟩ : ByteArray), (⟨#[99, 114, 101, 100, 105, 116, 101, 100]⟩ : ByteArray), (⟨#[114, 101, 108, 101, 97, 115, 101]⟩ : ByteArray), (⟨#[115, 117, 114, 114, 101, 110, 100, 101, 114]⟩ : ByteArray), (⟨#[100, 101, 108, 105, 118, 101, 114, 101, 100]⟩ : ByteArray), (⟨#[111, 98, 106, 101, 99, 116, 101, 100]⟩ : ByteArray), (⟨#[108, 111, 115, 116]⟩ : ByteArray), (⟨#[114, 101, 112, 108, 97, 99, 101]⟩ : ByteArray), (⟨#[114, 101, 112, 108, 97, 99, 101, 100]⟩ : ByteArray), (⟨#[108, 97, 110, 100, 101, 100]⟩ : ByteArray), (⟨#[114, 101, 109, 105, 116]⟩ : ByteArray), (⟨#[97, 99, 107]⟩ : ByteArray)]
def namesText : List UInt8 := [111, 114, 100, 101, 114, 32, 97, 112, 112, 108, 121, 32, 105, 115, 115, 117, 101, 100, 32, 100, 101, 99, 108, 105, 110, 101, 100, 32, 115, 104, 105, 112, 32, 108, 97, 100, 105, 110, 103, 32, 99, 111, 118, 101, 114, 32, 99, 111, 118, 101, 114, 101, 100, 32, 101, 110, 100, 111, 114, 115, 101, 32, 101, 110, 100, 111, 114, 115, 101, 100, 32, 112, 114, 101, 115, 101, 110, 116, 32, 114, 101, 102, 117, 115, 101, 100, 32, 97, 99, 99, 101, 112, 116, 101, 100, 32, 112, 97, 105, 100, 32, 112, 97, 112, 101, 114, 115, 32, 100, 101, 99, 108, 97, 114, 101, 32, 100, 117, 116, 121, 32, 116, 114, 97, 110, 115, 102, 101, 114, 32, 99, 114, 101, 100, 105, 116, 101, 100, 32, 114, 101, 108, 101, 97, 115, 101, 32, 115, 117, 114, 114, 101, 110, 100, 101, 114, 32, 100, 101, 108, 105, 118, 101, 114, 101, 100, 32, 111, 98, 106, 101, 99, 116, 101, 100, 32, 108, 111, 115, 116, 32, 114, 101, 112, 108, 97, 99, 101, 32, 114, 101, 112, 108, 97, 99, 101, 100, 32, 108, 97, 110, 100, 101, 100, 32, 114, 101, 109, 105, 116, 32, 97, 99, 107]
theorem names_fields : Lib.fields namesText = namesB.map (·.data.toList) := by kernel_rfl
theorem names_ascii : namesText.all (fun b => decide (b.toNat < 128)) = true := by kernel_rfl
theorem names_length : namesText.length = 214 := by kernel_rfl
def post_names.f : Option (List ByteArray) := some namesB

theorem fields_names (s : ByteArray) (hs : s.data.toList = namesText) (w : World) (hG : Glob w) :
    Calls Tryz.prog 63 #[.string s] w fun e w' => e = .returned (.slice (some ⟨w.heap.size, 0, none⟩) 29 29) ∧ w' = w.alloc (.cells (namesB.map Value.string).toArray 9) := by
  have hz : s.size = 214 := by rw [← names_length, ← hs]; simp
  refine (Sh.strings_Fields s w (by omega) (fun j b hb => ?_) hG.spc).mono fun e w' ⟨he, hw⟩ => ?_
  · rw [hs] at hb
    exact of_decide_eq_true (List.all_eq_true.1 names_ascii b (List.mem_of_getElem? hb))
  · rw [hs, names_fields] at he hw
    refine ⟨he, ?_⟩
    rw [hw]
    rfl
theorem post_names.calls (r : List ByteArray) (w : World) (hG : Glob w) (h : post_names.f = some r) :
    Calls Tryz.prog 28 #[] w fun e w' => ∃ v0_ : Value, e = .returned (v0_) ∧ Kd.R Kd.string 9 w' w.heap.size (fun _ => True) v0_ r ∧ Below w.heap.size w w' := by
  obtain rfl := Option.some.inj h
  clear h
  have HG := Lib.hid hG
  clear hG
  go_enter Tryz.func28, Tryz.ntmps28
  go_wp2_with fail
  refine (fields_names _ (by kernel_rfl) _ HG.out).mono ?_
  rintro e w' ⟨rfl, rfl⟩
  go_wp2_with fail
  go_ret
  refine ⟨_, rfl, ?_, (Below.refl _ _).alloc (Nat.le_refl _) _⟩
  have h2 := World.ownsRow_lit (base := w.heap.size) (e := 9) (size := 1) w (namesB.map Value.string).toArray 29 (Nat.le_refl _) (by unfold maxLen; omega) (by kernel_rfl)
  exact Kd.R_of_own (enc := Value.string) (h1 := fun _ => rfl) (by exact h2) (fun _ _ => trivial)

def strconv_Itoa.f (a0 : Int) : Option ByteArray := if -9223372036854775808 ≤ a0 ∧ a0 ≤ 9223372036854775807 then some ⟨(Lib.itoa a0).toArray⟩ else none
theorem strconv_Itoa.calls (a0 : Int) (r : ByteArray) (w : World) (hG : Glob w) (h : strconv_Itoa.f a0 = some r) :
    Calls Tryz.prog 73 #[.int .i64 a0] w fun e w' => e = .returned (.string r) ∧ Below w.heap.size w w' := by
  unfold strconv_Itoa.f at h
  by_cases hb : -9223372036854775808 ≤ a0 ∧ a0 ≤ 9223372036854775807
  · rw [if_pos hb] at h
    obtain rfl := Option.some.inj h
    refine (Sh.strconv_Itoa a0 hb.1 hb.2 w hG.tab).mono fun e w' ⟨he, k, os, hw⟩ => ⟨he, ?_⟩
    rw [hw]; exact below_grow k os
  · rw [if_neg hb] at h; cases h
def strconv_FormatInt.f (a0 a1 : Int) : Option ByteArray := if a1 = 10 ∧ -9223372036854775808 ≤ a0 ∧ a0 ≤ 9223372036854775807 then some ⟨(Lib.itoa a0).toArray⟩ else none
theorem strconv_FormatInt.calls (a0 a1 : Int) (r : ByteArray) (w : World) (hG : Glob w) (h : strconv_FormatInt.f a0 a1 = some r) :
    Calls Tryz.prog 106 #[.int .i64 a0, .int .i64 a1] w fun e w' => e = .returned (.string r) ∧ Below w.heap.size w w' := by
  unfold strconv_FormatInt.f at h
  by_cases hb : a1 = 10 ∧ -9223372036854775808 ≤ a0 ∧ a0 ≤ 9223372036854775807
  · rw [if_pos hb] at h
    obtain rfl := Option.some.inj h
    obtain ⟨rfl, h0, h1⟩ := hb
    refine (Sh.strconv_FormatInt_10 a0 h0 h1 w hG.tab).mono fun e w' ⟨he, k, os, hw⟩ => ⟨he, ?_⟩
    rw [hw]; exact below_grow k os
  · rw [if_neg hb] at h; cases h
def strings_Repeat.f (a0 : ByteArray) (a1 : Int) : Option ByteArray := if 0 ≤ a1 ∧ a1 ≤ 9223372036854775807 ∧ a0.size * a1.toNat ≤ 140737488355328 then some ⟨(Lib.repeatL a0.data.toList a1.toNat).toArray⟩ else none
theorem strings_Repeat.calls (a0 : ByteArray) (a1 : Int) (r : ByteArray) (w : World) (h : strings_Repeat.f a0 a1 = some r) :
    Calls Tryz.prog 118 #[.string a0, .int .i64 a1] w fun e w' => e = .returned (.string r) ∧ Below w.heap.size w w' := by
  unfold strings_Repeat.f at h
  by_cases hb : 0 ≤ a1 ∧ a1 ≤ 9223372036854775807 ∧ a0.size * a1.toNat ≤ 140737488355328
  · rw [if_pos hb] at h
    obtain rfl := Option.some.inj h
    obtain ⟨c, rfl⟩ := Int.eq_ofNat_of_zero_le hb.1
    exact Sh.strings_Repeat a0 c w (by omega) hb.2.2
  · rw [if_neg hb] at h; cases h
end Go.Proofs.YtkblmomfiimkiaaGreatDoor.P
