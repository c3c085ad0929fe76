/- field.place: where the first field of a name stands, or -1. Conditions: none but that the fields lie as an argument's do. -/
import Derived.Test.YtpkcbbjflcfdeaaPx0
import Derived.Test.YtpkcbbjflcfdeaaPlain
import Derived.WalkKit
import Derived.WalkMore
import Derived.Deep.LoopGhost
import Derived.Lib.Hide
import Derived.Scope
namespace Go.Proofs.Ytpkcbbjflcfdeaa.P
open Go.RowKit Go.Proofs.YtpkcbbjflcfdeaaW.PrintWords Go.Proofs.YtpkcbbjflcfdeaaW.PrintLast Go.Proofs.YtpkcbbjflcfdeaaW.PrintMore
open Go.Proofs.Ytpkcbbjflcfdeaa.Fp

def firstAt {α : Type} (p : α → Bool) : List α → Int → Int
  | [], _ => -1
  | x :: r, i => if p x = true then i else firstAt p r (i + 1)
def namedF (s : ByteArray) (x : S42) : Bool := x.f0.toList == s.toList
def placeOf (l : List S42) (s : ByteArray) : Int := firstAt (namedF s) l 0
def field_place.f (l0 : List S42) (a1 : ByteArray) : Option Int := some (placeOf l0 a1)

theorem place_pred (n v s : ByteArray) (b : Nat) (w : World) (hc : w.cell? ⟨b, 0, none⟩ = some (.string s)) :
    Calls Try.prog 39 #[.agg #[.string n, .string v], .pointer (some ⟨b, 0, none⟩)] w fun e w' => e = .returned (.bool (n.toList == s.toList)) ∧ Below w.heap.size w w' := by
  have hbl : b < w.heap.size := World.block_lt_of_cell? w _ hc
  have hne : b ≠ w.heap.size := by omega
  go_enter Try.func39, Try.ntmps39
  go_wp2_with fail
  go_ret
  exact ⟨rfl, (Below.refl _ _).alloc (Nat.le_refl _) _⟩

theorem first_nil {α : Type} (p : α → Bool) (l : List α) (i : Nat) (h : ¬ i < l.length) : firstAt p (l.drop i) i = -1 := by
  rw [List.drop_eq_nil_of_le (by omega)]; rfl
theorem first_hit {α : Type} (p : α → Bool) (l : List α) (i : Nat) (h : i < l.length) (hp : p l[i] = true) : firstAt p (l.drop i) i = i := by
  rw [List.drop_eq_getElem_cons h]; simp [firstAt, hp]
theorem first_miss {α : Type} (p : α → Bool) (l : List α) (i : Nat) (h : i < l.length) (hp : p l[i] = false) : firstAt p (l.drop i) i = firstAt p (l.drop (i + 1)) ((i + 1 : Nat) : Int) := by
  rw [List.drop_eq_getElem_cons h]; simp [firstAt, hp]

theorem rd_at (l : List S42) (i : Nat) (h : i < l.length) : rd_T42 l (i : Int) = l[i] := by
  unfold rd_T42
  simp [List.getD, List.getElem?_eq_getElem h]
theorem index_fields (A0 : Option Addr) (c0 : Nat) (l0 : List S42) (s : ByteArray) (b : Nat) (w : World) (hr0 : Kd.C k42 w A0 l0.length l0) (hc : w.cell? ⟨b, 0, none⟩ = some (.string s)) :
    Calls Try.prog 38 #[.slice A0 l0.length c0, .func (.func 39) #[] #[.pointer (some ⟨b, 0, none⟩)]] w fun e w' => e = .returned (.int .i64 (placeOf l0 s)) ∧ Below w.heap.size w w' := by
  have HR := Lib.hid hr0
  have HC := Lib.hid hc
  have hmax := hr0.2.1
  clear hr0 hc
  go_enter Try.func38, Try.ntmps38
  go_wp2_with fail
  go_loopg [8] (l0.length + 1) (fun g v8 W => ∃ i : Nat, i + g = l0.length + 1 ∧ i ≤ l0.length ∧ v8 = .int .i64 i ∧ placeOf l0 s = firstAt (namedF s) (l0.drop i) i ∧ Below w.heap.size w W)
  case atStart => exact ⟨0, by omega, Nat.zero_le _, rfl, rfl, Below.refl _ _⟩
  case round =>
    obtain ⟨i, hig, hi, rfl, hpl, hb⟩ := hrel
    have HIG := Lib.hid hig
    have HPL := Lib.hid hpl
    have HB := Lib.hid hb
    clear hig hpl hb
    by_cases hlt : i < l0.length
    · obtain ⟨ad, hA, h0, h1⟩ := at_T42 (Kd.C_below HR.out HB.out) (i : Int) (by omega) (by omega)
      subst hA
      simp only [Int.toNat_natCast] at h0 h1
      rw [rd_at l0 i hlt] at h0 h1
      have H0 := Lib.hid h0
      have H1 := Lib.hid h1
      have hcl := place_pred (l0[i]).f0 (l0[i]).f1 s b wr (pw_cell_below HB.out HC.out)
      have HCL := Lib.hid hcl
      clear hcl
      go_wp2_with fail
      refine HCL.out.mono ?_
      rintro e w1 ⟨rfl, hb1⟩
      have hbw : Below w.heap.size w w1 := HB.out.trans (hb1.mono HB.out.size)
      have HBW := Lib.hid hbw
      clear hb1 hbw
      obtain ⟨t, ht⟩ : ∃ t, ((l0[i]).f0.toList == s.toList) = t := ⟨_, rfl⟩
      rw [ht]
      have HT := Lib.hid (show namedF s (l0[i]) = t from ht)
      clear ht
      cases t
      · go_wp2_with fail
        go_roundg (gk - 1)
        case measure => have := HIG.out; omega
        case rel => exact ⟨i + 1, by have := HIG.out; omega, hlt, rfl, by rw [HPL.out]; exact first_miss _ _ _ hlt HT.out, HBW.out⟩
      · go_wp2_with fail
        go_ret
        exact ⟨by rw [HPL.out, first_hit _ _ _ hlt HT.out]; rfl, HBW.out⟩
    · go_wp2_with fail
      go_ret
      exact ⟨by rw [HPL.out, first_nil _ _ _ hlt]; rfl, HB.out⟩

theorem field_place.calls (A0 : Option Addr) (c0 : Nat) (l0 : List S42) (a1 : ByteArray) (r : Int) (w : World) (hr0 : Kd.C k42 w A0 l0.length l0) (_hc0 : l0.length ≤ c0) (h : field_place.f l0 a1 = some r) :
    Calls Try.prog 29 #[.slice A0 l0.length c0, .string a1] w fun e w' => e = .returned (.int .i64 r) ∧ Below w.heap.size w w' := by
  unfold field_place.f at h
  obtain rfl := Option.some.inj h
  clear h
  have HX := Lib.hid (index_fields A0 c0 l0 a1 w.heap.size (w.alloc (.cells #[.string a1] 9)) (Kd.C_alloc hr0 _) (by simp))
  clear hr0
  go_enter Try.func29, Try.ntmps29
  go_wp2_with fail
  refine HX.out.mono ?_
  rintro e w1 ⟨rfl, hb1⟩
  have HB := Lib.hid hb1
  clear hb1
  go_wp2_with fail
  go_ret
  exact ⟨rfl, ((Below.refl _ _).alloc (Nat.le_refl _) _).trans (HB.out.mono (by simp))⟩
end Go.Proofs.Ytpkcbbjflcfdeaa.P
