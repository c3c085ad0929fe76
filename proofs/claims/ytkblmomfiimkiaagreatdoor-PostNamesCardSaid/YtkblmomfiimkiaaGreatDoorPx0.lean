-- WRITTEN BY wip/gprint.py of this seat's repository, over the kit's printer, with given contracts.
import Derived.Test.YtkblmomfiimkiaaGreatDoorProg
import Derived.Below
import Derived.Deep.Draws
import Derived.Deep.AppendLies
import Derived.Maps.AppendAt
import Derived.OwnWalk
import Derived.Laws.BytesArg
import Derived.Laws.MakeOwn
import Derived.Laws.OwnMore
import Derived.Deep.OwnRows
import Derived.Tactics
import Derived.Lib.ConvBytes
import Derived.Laws.Slices
import Derived.WalkKit
import Derived.KernelRfl
import Derived.RowKit3
import Derived.Deep.LoopGhost
import Derived.Deep.QuietTactic
import Derived.BigQuiet
import Derived.WideLaws
import Derived.Deep.DeepCutAuto
import Derived.Deep.CutBlock
import Derived.Deep.RegionHeld3
import Derived.Laws.Rows
import Derived.Lib.AppendStr
import Derived.ArgAppend
import Derived.Laws.IdiomCopy
import Derived.OrdersHeld
import Derived.Laws.BitsLemmas
import Derived.RowKit
import Derived.Test.YtkblmomfiimkiaaGreatDoorWWords
import Derived.Test.YtkblmomfiimkiaaGreatDoorWLast
import Derived.Test.YtkblmomfiimkiaaGreatDoorWTab
import Derived.Test.YtkblmomfiimkiaaGreatDoorWFour
import Derived.Test.YtkblmomfiimkiaaGreatDoorWQPut
import Derived.Test.YtkblmomfiimkiaaGreatDoorWApart
import Derived.Test.YtkblmomfiimkiaaGreatDoorWArr
import Derived.Test.YtkblmomfiimkiaaGreatDoorWZeros
import Derived.Test.YtkblmomfiimkiaaGreatDoorWFoot
import Derived.Test.YtkblmomfiimkiaaGreatDoorWKept
import Derived.Test.YtkblmomfiimkiaaGreatDoorWShare
import Derived.Test.YtkblmomfiimkiaaGreatDoorWN
import Derived.Test.YtkblmomfiimkiaaGreatDoorWFootNe
import Derived.Test.YtkblmomfiimkiaaGreatDoorWAt
import Derived.Test.YtkblmomfiimkiaaGreatDoorWEqStruct
import Derived.Test.YtkblmomfiimkiaaGreatDoorWRepsOne
import Derived.Test.YtkblmomfiimkiaaGreatDoorWInv
import Derived.Test.YtkblmomfiimkiaaGreatDoorWInvWords
import Derived.Test.YtkblmomfiimkiaaGreatDoorWGuard
import Derived.Test.YtkblmomfiimkiaaGreatDoorWNEv
import Derived.Test.YtkblmomfiimkiaaGreatDoorWMore
namespace Go.Proofs.YtkblmomfiimkiaaGreatDoor.P
open Go.RowKit Go.Proofs.YtkblmomfiimkiaaGreatDoorW.PrintWords Go.Proofs.YtkblmomfiimkiaaGreatDoorW.PrintLast Go.Proofs.YtkblmomfiimkiaaGreatDoorW.PrintMore
attribute [local go_sem] max2_int min2_int max_two min_two max_three min_three max_four min_four   -- for this text's walks alone
set_option linter.unusedVariables false
set_option linter.unusedSimpArgs false



def errW : Option Int → Value
  | none => .nilIface
  | some c => .iface 0 (.int .i64 c)
theorem errW_none : errW none = .nilIface := rfl
theorem errW_some (c : Int) : errW (some c) = .iface 0 (.int .i64 c) := rfl

theorem info5 : (Tryz.prog.info? 5).map (fun i => (i.zero, i.size, i.bytes)) = some (some (.int .u8 0), 1, 1) := by kernel_rfl
theorem info9 : (Tryz.prog.info? 9).map (fun i => (i.zero, i.size, i.bytes)) = some (some (.string ⟨#[]⟩), 1, 16) := by kernel_rfl
theorem info38 : (Tryz.prog.info? 38).map (fun i => (i.zero, i.size, i.bytes)) = some (some (.agg #[(.int .i64 0), (.string ⟨#[]⟩), (.string ⟨#[]⟩), (.slice none 0 0)]), 4, 64) := by kernel_rfl
theorem info43 : (Tryz.prog.info? 43).map (fun i => (i.zero, i.size, i.bytes)) = some (some (.agg #[(.string ⟨#[]⟩), (.string ⟨#[]⟩)]), 2, 32) := by kernel_rfl
-- the values' own types
def rd_L1 (xs : List (List ByteArray)) (i : Int) : (List ByteArray) := xs.getD i.toNat ([] : List ByteArray)
theorem at_L1 {w : World} {A : Option Addr} {n : Nat} {xs : List (List ByteArray)} (h : Kd.C (Kd.slice 9 Kd.string) w A n xs) (i : Int) (h0 : 0 ≤ i) (h1 : i < n) : ∃ ad A0 c0, A = some ad ∧ w.cell? (ad.add i.toNat) = some (.slice A0 (rd_L1 xs i).length c0) ∧ (rd_L1 xs i).length ≤ c0 ∧ Kd.string.C w A0 (rd_L1 xs i).length (rd_L1 xs i) := by
  obtain ⟨ad, c, e, _, hK, hc0⟩ := Kd.C_get h ([] : List ByteArray) i h0 h1
  have hc : ∀ j u, c[j]? = some u → w.cell? (ad.add (i.toNat * 1 + j)) = some u := hc0
  obtain ⟨A0, c0, rfl, l0, g0⟩ := hK
  exact ⟨ad, A0, c0, e, by have hq := hc 0 _ rfl; rwa [Nat.mul_one, Nat.add_zero] at hq, l0, g0⟩

/-! #### struct type 43 -/
structure S43 where
  f0 : ByteArray
  f1 : ByteArray
def z43 : S43 := ⟨(⟨#[]⟩ : ByteArray), (⟨#[]⟩ : ByteArray)⟩
def k43 : Kd S43 := Kd.iso (Kd.pair Kd.string Kd.string) (fun x : S43 => (x.f0, x.f1))
theorem k43_open {w : World} {x : S43} {cs : List Value} (h : k43.K w x cs) : cs = [.string x.f0, .string x.f1] := by
  obtain ⟨_, _, rfl, rfl, rfl⟩ := h
  exact rfl
theorem k43_openM {w : World} {base : Nat} {ok : Nat → Prop} {x : S43} {cs : List Value} (h : k43.M w base ok x cs) : cs = [.string x.f0, .string x.f1] := by
  obtain ⟨_, _, rfl, rfl, rfl⟩ := h
  exact rfl
theorem k43_mk (w : World) (x : S43)  : k43.K w x [.string x.f0, .string x.f1] := ⟨[.string x.f0], [.string x.f1], rfl, rfl, rfl⟩
theorem k43_mkM (w : World) (base : Nat) (ok : Nat → Prop) (x : S43)  : k43.M w base ok x [.string x.f0, .string x.f1] := ⟨[.string x.f0], [.string x.f1], rfl, rfl, rfl⟩
theorem k43_mkF (W : World) (ok : Nat → Prop) (x : S43) : Kd.FK k43 W ok x [.string x.f0, .string x.f1] := fun W2 _ => k43_mk W2 x
def rd_T43 (xs : List S43) (i : Int) : S43 := xs.getD i.toNat z43
theorem at_T43 {w : World} {A : Option Addr} {n : Nat} {xs : List S43} (h : Kd.C k43 w A n xs) (i : Int) (h0 : 0 ≤ i) (h1 : i < n) : ∃ ad , A = some ad ∧ w.cell? (ad.add (i.toNat * 2)) = some (.string (rd_T43 xs i).f0) ∧ w.cell? ⟨(ad.add (i.toNat * 2)).block, (ad.add (i.toNat * 2)).off + 1, none⟩ = some (.string (rd_T43 xs i).f1) := by
  obtain ⟨ad, c, e, _, hK, hc0⟩ := Kd.C_get h z43 i h0 h1
  have hc : ∀ j u, c[j]? = some u → w.cell? (ad.add (i.toNat * 2 + j)) = some u := hc0
  obtain rfl := k43_open hK
  exact ⟨ad, e, hc 0 _ rfl, by rw [← add_field _ _ 1 (by omega)]; exact hc 1 _ rfl⟩

/-! #### struct type 30 -/
structure S30 where
  f0 : ByteArray
  f1 : Int
def z30 : S30 := ⟨(⟨#[]⟩ : ByteArray), (0 : Int)⟩
def k30 : Kd S30 := Kd.iso (Kd.pair Kd.string (Kd.int .i64)) (fun x : S30 => (x.f0, x.f1))
theorem k30_open {w : World} {x : S30} {cs : List Value} (h : k30.K w x cs) : cs = [.string x.f0, .int .i64 x.f1] := by
  obtain ⟨_, _, rfl, rfl, rfl⟩ := h
  exact rfl
theorem k30_openM {w : World} {base : Nat} {ok : Nat → Prop} {x : S30} {cs : List Value} (h : k30.M w base ok x cs) : cs = [.string x.f0, .int .i64 x.f1] := by
  obtain ⟨_, _, rfl, rfl, rfl⟩ := h
  exact rfl
theorem k30_mk (w : World) (x : S30)  : k30.K w x [.string x.f0, .int .i64 x.f1] := ⟨[.string x.f0], [.int .i64 x.f1], rfl, rfl, rfl⟩
theorem k30_mkM (w : World) (base : Nat) (ok : Nat → Prop) (x : S30)  : k30.M w base ok x [.string x.f0, .int .i64 x.f1] := ⟨[.string x.f0], [.int .i64 x.f1], rfl, rfl, rfl⟩
theorem k30_mkF (W : World) (ok : Nat → Prop) (x : S30) : Kd.FK k30 W ok x [.string x.f0, .int .i64 x.f1] := fun W2 _ => k30_mk W2 x
def rd_T30 (xs : List S30) (i : Int) : S30 := xs.getD i.toNat z30
theorem at_T30 {w : World} {A : Option Addr} {n : Nat} {xs : List S30} (h : Kd.C k30 w A n xs) (i : Int) (h0 : 0 ≤ i) (h1 : i < n) : ∃ ad , A = some ad ∧ w.cell? (ad.add (i.toNat * 2)) = some (.string (rd_T30 xs i).f0) ∧ w.cell? ⟨(ad.add (i.toNat * 2)).block, (ad.add (i.toNat * 2)).off + 1, none⟩ = some (.int .i64 (rd_T30 xs i).f1) := by
  obtain ⟨ad, c, e, _, hK, hc0⟩ := Kd.C_get h z30 i h0 h1
  have hc : ∀ j u, c[j]? = some u → w.cell? (ad.add (i.toNat * 2 + j)) = some u := hc0
  obtain rfl := k30_open hK
  exact ⟨ad, e, hc 0 _ rfl, by rw [← add_field _ _ 1 (by omega)]; exact hc 1 _ rfl⟩

def rd_L5 (xs : List (List S43)) (i : Int) : (List S43) := xs.getD i.toNat ([] : List S43)
theorem at_L5 {w : World} {A : Option Addr} {n : Nat} {xs : List (List S43)} (h : Kd.C (Kd.slice 43 k43) w A n xs) (i : Int) (h0 : 0 ≤ i) (h1 : i < n) : ∃ ad A0 c0, A = some ad ∧ w.cell? (ad.add i.toNat) = some (.slice A0 (rd_L5 xs i).length c0) ∧ (rd_L5 xs i).length ≤ c0 ∧ k43.C w A0 (rd_L5 xs i).length (rd_L5 xs i) := by
  obtain ⟨ad, c, e, _, hK, hc0⟩ := Kd.C_get h ([] : List S43) i h0 h1
  have hc : ∀ j u, c[j]? = some u → w.cell? (ad.add (i.toNat * 1 + j)) = some u := hc0
  obtain ⟨A0, c0, rfl, l0, g0⟩ := hK
  exact ⟨ad, A0, c0, e, by have hq := hc 0 _ rfl; rwa [Nat.mul_one, Nat.add_zero] at hq, l0, g0⟩

/-! #### struct type 38 -/
structure S38 where
  f0 : Int
  f1 : ByteArray
  f2 : ByteArray
  f3 : (List S43)
def z38 : S38 := ⟨(0 : Int), (⟨#[]⟩ : ByteArray), (⟨#[]⟩ : ByteArray), ([] : List S43)⟩
def k38 : Kd S38 := Kd.iso (Kd.pair (Kd.int .i64) (Kd.pair Kd.string (Kd.pair Kd.string (Kd.slice 43 k43)))) (fun x : S38 => (x.f0, x.f1, x.f2, x.f3))
theorem k38_open {w : World} {x : S38} {cs : List Value} (h : k38.K w x cs) : ∃ A3 c3, cs = [.int .i64 x.f0, .string x.f1, .string x.f2, .slice A3 x.f3.length c3] ∧ x.f3.length ≤ c3 ∧ k43.C w A3 x.f3.length x.f3 := by
  obtain ⟨_, _, rfl, rfl, ⟨_, _, rfl, rfl, ⟨_, _, rfl, rfl, ⟨A3, c3, rfl, l3, g3⟩⟩⟩⟩ := h
  exact ⟨A3, c3, rfl, l3, g3⟩
theorem k38_openM {w : World} {base : Nat} {ok : Nat → Prop} {x : S38} {cs : List Value} (h : k38.M w base ok x cs) : ∃ v3, cs = [.int .i64 x.f0, .string x.f1, .string x.f2, v3] ∧ k43.R 43 w base ok v3 x.f3 := by
  obtain ⟨_, _, rfl, rfl, ⟨_, _, rfl, rfl, ⟨_, _, rfl, rfl, ⟨v3, rfl, g3⟩⟩⟩⟩ := h
  exact ⟨v3, rfl, g3⟩
theorem k38_mk (w : World) (x : S38) {A3 : Option Addr} {c3 : Nat} (l3 : x.f3.length ≤ c3) (g3 : k43.C w A3 x.f3.length x.f3) : k38.K w x [.int .i64 x.f0, .string x.f1, .string x.f2, .slice A3 x.f3.length c3] := ⟨[.int .i64 x.f0], [.string x.f1, .string x.f2, .slice A3 x.f3.length c3], rfl, rfl, ⟨[.string x.f1], [.string x.f2, .slice A3 x.f3.length c3], rfl, rfl, ⟨[.string x.f2], [.slice A3 x.f3.length c3], rfl, rfl, ⟨A3, c3, rfl, l3, g3⟩⟩⟩⟩
theorem k38_mkM (w : World) (base : Nat) (ok : Nat → Prop) (x : S38) {v3 : Value} (g3 : k43.R 43 w base ok v3 x.f3) : k38.M w base ok x [.int .i64 x.f0, .string x.f1, .string x.f2, v3] := ⟨[.int .i64 x.f0], [.string x.f1, .string x.f2, v3], rfl, rfl, ⟨[.string x.f1], [.string x.f2, v3], rfl, rfl, ⟨[.string x.f2], [v3], rfl, rfl, ⟨v3, rfl, g3⟩⟩⟩⟩
theorem k38_openF {W : World} {ok : Nat → Prop} {x : S38} {cs : List Value} (h : Kd.FK k38 W ok x cs) : ∃ A3 c3, cs = [.int .i64 x.f0, .string x.f1, .string x.f2, .slice A3 x.f3.length c3] ∧ x.f3.length ≤ c3 ∧ Kd.F k43 W ok A3 x.f3.length x.f3 := by
  obtain ⟨A3, c3, rfl, l3, _⟩ := k38_open (Kd.FK_now h)
  exact ⟨A3, c3, rfl, l3, (fun W' hW => by obtain ⟨A3_, c3_, he, l3_, g3_⟩ := k38_open (h W' hW); injection (Option.some.inj (show some (Value.slice A3 x.f3.length c3) = some (Value.slice A3_ x.f3.length c3_) from congrArg (fun l => l[3]?) he)) with ha_ _ _; rw [ha_]; exact g3_)⟩
theorem k38_mkF (W : World) (ok : Nat → Prop) (x : S38) {A3 : Option Addr} {c3 : Nat} (l3 : x.f3.length ≤ c3) (g3 : Kd.F k43 W ok A3 x.f3.length x.f3) : Kd.FK k38 W ok x [.int .i64 x.f0, .string x.f1, .string x.f2, .slice A3 x.f3.length c3] := fun W2 hW => k38_mk W2 x l3 (g3 W2 hW)
def rd_T38 (xs : List S38) (i : Int) : S38 := xs.getD i.toNat z38
theorem at_T38 {w : World} {A : Option Addr} {n : Nat} {xs : List S38} (h : Kd.C k38 w A n xs) (i : Int) (h0 : 0 ≤ i) (h1 : i < n) : ∃ ad A3 c3, A = some ad ∧ w.cell? (ad.add (i.toNat * 4)) = some (.int .i64 (rd_T38 xs i).f0) ∧ w.cell? ⟨(ad.add (i.toNat * 4)).block, (ad.add (i.toNat * 4)).off + 1, none⟩ = some (.string (rd_T38 xs i).f1) ∧ w.cell? ⟨(ad.add (i.toNat * 4)).block, (ad.add (i.toNat * 4)).off + 2, none⟩ = some (.string (rd_T38 xs i).f2) ∧ w.cell? ⟨(ad.add (i.toNat * 4)).block, (ad.add (i.toNat * 4)).off + 3, none⟩ = some (.slice A3 (rd_T38 xs i).f3.length c3) ∧ (rd_T38 xs i).f3.length ≤ c3 ∧ k43.C w A3 (rd_T38 xs i).f3.length (rd_T38 xs i).f3 := by
  obtain ⟨ad, c, e, _, hK, hc0⟩ := Kd.C_get h z38 i h0 h1
  have hc : ∀ j u, c[j]? = some u → w.cell? (ad.add (i.toNat * 4 + j)) = some u := hc0
  obtain ⟨A3, c3, rfl, l3, g3⟩ := k38_open hK
  exact ⟨ad, A3, c3, e, hc 0 _ rfl, by rw [← add_field _ _ 1 (by omega)]; exact hc 1 _ rfl, by rw [← add_field _ _ 2 (by omega)]; exact hc 2 _ rfl, by rw [← add_field _ _ 3 (by omega)]; exact hc 3 _ rfl, l3, g3⟩

def rd_L7 (xs : List (List S38)) (i : Int) : (List S38) := xs.getD i.toNat ([] : List S38)
theorem at_L7 {w : World} {A : Option Addr} {n : Nat} {xs : List (List S38)} (h : Kd.C (Kd.slice 38 k38) w A n xs) (i : Int) (h0 : 0 ≤ i) (h1 : i < n) : ∃ ad A0 c0, A = some ad ∧ w.cell? (ad.add i.toNat) = some (.slice A0 (rd_L7 xs i).length c0) ∧ (rd_L7 xs i).length ≤ c0 ∧ k38.C w A0 (rd_L7 xs i).length (rd_L7 xs i) := by
  obtain ⟨ad, c, e, _, hK, hc0⟩ := Kd.C_get h ([] : List S38) i h0 h1
  have hc : ∀ j u, c[j]? = some u → w.cell? (ad.add (i.toNat * 1 + j)) = some u := hc0
  obtain ⟨A0, c0, rfl, l0, g0⟩ := hK
  exact ⟨ad, A0, c0, e, by have hq := hc 0 _ rfl; rwa [Nat.mul_one, Nat.add_zero] at hq, l0, g0⟩

/-! #### struct type 33 -/
structure S33 where
  f0 : ByteArray
  f1 : ByteArray
  f2 : Int
  f3 : Int
  f4 : Int
  f5 : ByteArray
  f6 : ByteArray
  f7 : ByteArray
  f8 : Int
  f9 : Int
  f10 : S30
  f11 : (List S38)
  f12 : (List ByteArray)
def z33 : S33 := ⟨(⟨#[]⟩ : ByteArray), (⟨#[]⟩ : ByteArray), (0 : Int), (0 : Int), (0 : Int), (⟨#[]⟩ : ByteArray), (⟨#[]⟩ : ByteArray), (⟨#[]⟩ : ByteArray), (0 : Int), (0 : Int), z30, ([] : List S38), ([] : List ByteArray)⟩
def k33 : Kd S33 := Kd.iso (Kd.pair Kd.string (Kd.pair Kd.string (Kd.pair (Kd.int .i64) (Kd.pair (Kd.int .i64) (Kd.pair (Kd.int .i64) (Kd.pair Kd.string (Kd.pair Kd.string (Kd.pair Kd.string (Kd.pair (Kd.int .i64) (Kd.pair (Kd.int .i64) (Kd.pair k30 (Kd.pair (Kd.slice 38 k38) (Kd.slice 9 Kd.string))))))))))))) (fun x : S33 => (x.f0, x.f1, x.f2, x.f3, x.f4, x.f5, x.f6, x.f7, x.f8, x.f9, x.f10, x.f11, x.f12))
theorem k33_open {w : World} {x : S33} {cs : List Value} (h : k33.K w x cs) : ∃ A12 c12 A13 c13, cs = [.string x.f0, .string x.f1, .int .i64 x.f2, .int .i64 x.f3, .int .i64 x.f4, .string x.f5, .string x.f6, .string x.f7, .int .i64 x.f8, .int .i64 x.f9, .string x.f10.f0, .int .i64 x.f10.f1, .slice A12 x.f11.length c12, .slice A13 x.f12.length c13] ∧ x.f11.length ≤ c12 ∧ k38.C w A12 x.f11.length x.f11 ∧ x.f12.length ≤ c13 ∧ Kd.string.C w A13 x.f12.length x.f12 := by
  obtain ⟨_, _, rfl, rfl, ⟨_, _, rfl, rfl, ⟨_, _, rfl, rfl, ⟨_, _, rfl, rfl, ⟨_, _, rfl, rfl, ⟨_, _, rfl, rfl, ⟨_, _, rfl, rfl, ⟨_, _, rfl, rfl, ⟨_, _, rfl, rfl, ⟨_, _, rfl, rfl, ⟨_, _, rfl, s10, ⟨_, _, rfl, ⟨A12, c12, rfl, l12, g12⟩, ⟨A13, c13, rfl, l13, g13⟩⟩⟩⟩⟩⟩⟩⟩⟩⟩⟩⟩⟩ := h
  obtain rfl := k30_open s10
  exact ⟨A12, c12, A13, c13, rfl, l12, g12, l13, g13⟩
theorem k33_openM {w : World} {base : Nat} {ok : Nat → Prop} {x : S33} {cs : List Value} (h : k33.M w base ok x cs) : ∃ v12 v13, cs = [.string x.f0, .string x.f1, .int .i64 x.f2, .int .i64 x.f3, .int .i64 x.f4, .string x.f5, .string x.f6, .string x.f7, .int .i64 x.f8, .int .i64 x.f9, .string x.f10.f0, .int .i64 x.f10.f1, v12, v13] ∧ k38.R 38 w base ok v12 x.f11 ∧ Kd.string.R 9 w base ok v13 x.f12 := by
  obtain ⟨_, _, rfl, rfl, ⟨_, _, rfl, rfl, ⟨_, _, rfl, rfl, ⟨_, _, rfl, rfl, ⟨_, _, rfl, rfl, ⟨_, _, rfl, rfl, ⟨_, _, rfl, rfl, ⟨_, _, rfl, rfl, ⟨_, _, rfl, rfl, ⟨_, _, rfl, rfl, ⟨_, _, rfl, s10, ⟨_, _, rfl, ⟨v12, rfl, g12⟩, ⟨v13, rfl, g13⟩⟩⟩⟩⟩⟩⟩⟩⟩⟩⟩⟩⟩ := h
  obtain rfl := k30_openM s10
  exact ⟨v12, v13, rfl, g12, g13⟩
theorem k33_mk (w : World) (x : S33) {A12 : Option Addr} {c12 : Nat} (l12 : x.f11.length ≤ c12) (g12 : k38.C w A12 x.f11.length x.f11) {A13 : Option Addr} {c13 : Nat} (l13 : x.f12.length ≤ c13) (g13 : Kd.string.C w A13 x.f12.length x.f12) : k33.K w x [.string x.f0, .string x.f1, .int .i64 x.f2, .int .i64 x.f3, .int .i64 x.f4, .string x.f5, .string x.f6, .string x.f7, .int .i64 x.f8, .int .i64 x.f9, .string x.f10.f0, .int .i64 x.f10.f1, .slice A12 x.f11.length c12, .slice A13 x.f12.length c13] := ⟨[.string x.f0], [.string x.f1, .int .i64 x.f2, .int .i64 x.f3, .int .i64 x.f4, .string x.f5, .string x.f6, .string x.f7, .int .i64 x.f8, .int .i64 x.f9, .string x.f10.f0, .int .i64 x.f10.f1, .slice A12 x.f11.length c12, .slice A13 x.f12.length c13], rfl, rfl, ⟨[.string x.f1], [.int .i64 x.f2, .int .i64 x.f3, .int .i64 x.f4, .string x.f5, .string x.f6, .string x.f7, .int .i64 x.f8, .int .i64 x.f9, .string x.f10.f0, .int .i64 x.f10.f1, .slice A12 x.f11.length c12, .slice A13 x.f12.length c13], rfl, rfl, ⟨[.int .i64 x.f2], [.int .i64 x.f3, .int .i64 x.f4, .string x.f5, .string x.f6, .string x.f7, .int .i64 x.f8, .int .i64 x.f9, .string x.f10.f0, .int .i64 x.f10.f1, .slice A12 x.f11.length c12, .slice A13 x.f12.length c13], rfl, rfl, ⟨[.int .i64 x.f3], [.int .i64 x.f4, .string x.f5, .string x.f6, .string x.f7, .int .i64 x.f8, .int .i64 x.f9, .string x.f10.f0, .int .i64 x.f10.f1, .slice A12 x.f11.length c12, .slice A13 x.f12.length c13], rfl, rfl, ⟨[.int .i64 x.f4], [.string x.f5, .string x.f6, .string x.f7, .int .i64 x.f8, .int .i64 x.f9, .string x.f10.f0, .int .i64 x.f10.f1, .slice A12 x.f11.length c12, .slice A13 x.f12.length c13], rfl, rfl, ⟨[.string x.f5], [.string x.f6, .string x.f7, .int .i64 x.f8, .int .i64 x.f9, .string x.f10.f0, .int .i64 x.f10.f1, .slice A12 x.f11.length c12, .slice A13 x.f12.length c13], rfl, rfl, ⟨[.string x.f6], [.string x.f7, .int .i64 x.f8, .int .i64 x.f9, .string x.f10.f0, .int .i64 x.f10.f1, .slice A12 x.f11.length c12, .slice A13 x.f12.length c13], rfl, rfl, ⟨[.string x.f7], [.int .i64 x.f8, .int .i64 x.f9, .string x.f10.f0, .int .i64 x.f10.f1, .slice A12 x.f11.length c12, .slice A13 x.f12.length c13], rfl, rfl, ⟨[.int .i64 x.f8], [.int .i64 x.f9, .string x.f10.f0, .int .i64 x.f10.f1, .slice A12 x.f11.length c12, .slice A13 x.f12.length c13], rfl, rfl, ⟨[.int .i64 x.f9], [.string x.f10.f0, .int .i64 x.f10.f1, .slice A12 x.f11.length c12, .slice A13 x.f12.length c13], rfl, rfl, ⟨[.string x.f10.f0, .int .i64 x.f10.f1], [.slice A12 x.f11.length c12, .slice A13 x.f12.length c13], rfl, (k30_mk w x.f10 ), ⟨[.slice A12 x.f11.length c12], [.slice A13 x.f12.length c13], rfl, ⟨A12, c12, rfl, l12, g12⟩, ⟨A13, c13, rfl, l13, g13⟩⟩⟩⟩⟩⟩⟩⟩⟩⟩⟩⟩⟩
theorem k33_mkM (w : World) (base : Nat) (ok : Nat → Prop) (x : S33) {v12 : Value} (g12 : k38.R 38 w base ok v12 x.f11) {v13 : Value} (g13 : Kd.string.R 9 w base ok v13 x.f12) : k33.M w base ok x [.string x.f0, .string x.f1, .int .i64 x.f2, .int .i64 x.f3, .int .i64 x.f4, .string x.f5, .string x.f6, .string x.f7, .int .i64 x.f8, .int .i64 x.f9, .string x.f10.f0, .int .i64 x.f10.f1, v12, v13] := ⟨[.string x.f0], [.string x.f1, .int .i64 x.f2, .int .i64 x.f3, .int .i64 x.f4, .string x.f5, .string x.f6, .string x.f7, .int .i64 x.f8, .int .i64 x.f9, .string x.f10.f0, .int .i64 x.f10.f1, v12, v13], rfl, rfl, ⟨[.string x.f1], [.int .i64 x.f2, .int .i64 x.f3, .int .i64 x.f4, .string x.f5, .string x.f6, .string x.f7, .int .i64 x.f8, .int .i64 x.f9, .string x.f10.f0, .int .i64 x.f10.f1, v12, v13], rfl, rfl, ⟨[.int .i64 x.f2], [.int .i64 x.f3, .int .i64 x.f4, .string x.f5, .string x.f6, .string x.f7, .int .i64 x.f8, .int .i64 x.f9, .string x.f10.f0, .int .i64 x.f10.f1, v12, v13], rfl, rfl, ⟨[.int .i64 x.f3], [.int .i64 x.f4, .string x.f5, .string x.f6, .string x.f7, .int .i64 x.f8, .int .i64 x.f9, .string x.f10.f0, .int .i64 x.f10.f1, v12, v13], rfl, rfl, ⟨[.int .i64 x.f4], [.string x.f5, .string x.f6, .string x.f7, .int .i64 x.f8, .int .i64 x.f9, .string x.f10.f0, .int .i64 x.f10.f1, v12, v13], rfl, rfl, ⟨[.string x.f5], [.string x.f6, .string x.f7, .int .i64 x.f8, .int .i64 x.f9, .string x.f10.f0, .int .i64 x.f10.f1, v12, v13], rfl, rfl, ⟨[.string x.f6], [.string x.f7, .int .i64 x.f8, .int .i64 x.f9, .string x.f10.f0, .int .i64 x.f10.f1, v12, v13], rfl, rfl, ⟨[.string x.f7], [.int .i64 x.f8, .int .i64 x.f9, .string x.f10.f0, .int .i64 x.f10.f1, v12, v13], rfl, rfl, ⟨[.int .i64 x.f8], [.int .i64 x.f9, .string x.f10.f0, .int .i64 x.f10.f1, v12, v13], rfl, rfl, ⟨[.int .i64 x.f9], [.string x.f10.f0, .int .i64 x.f10.f1, v12, v13], rfl, rfl, ⟨[.string x.f10.f0, .int .i64 x.f10.f1], [v12, v13], rfl, (k30_mkM w base ok x.f10 ), ⟨[v12], [v13], rfl, ⟨v12, rfl, g12⟩, ⟨v13, rfl, g13⟩⟩⟩⟩⟩⟩⟩⟩⟩⟩⟩⟩⟩
theorem k33_openF {W : World} {ok : Nat → Prop} {x : S33} {cs : List Value} (h : Kd.FK k33 W ok x cs) : ∃ A12 c12 A13 c13, cs = [.string x.f0, .string x.f1, .int .i64 x.f2, .int .i64 x.f3, .int .i64 x.f4, .string x.f5, .string x.f6, .string x.f7, .int .i64 x.f8, .int .i64 x.f9, .string x.f10.f0, .int .i64 x.f10.f1, .slice A12 x.f11.length c12, .slice A13 x.f12.length c13] ∧ x.f11.length ≤ c12 ∧ Kd.F k38 W ok A12 x.f11.length x.f11 ∧ x.f12.length ≤ c13 ∧ Kd.F Kd.string W ok A13 x.f12.length x.f12 := by
  obtain ⟨A12, c12, A13, c13, rfl, l12, _, l13, _⟩ := k33_open (Kd.FK_now h)
  exact ⟨A12, c12, A13, c13, rfl, l12, (fun W' hW => by obtain ⟨A12_, c12_, A13_, c13_, he, l12_, g12_, l13_, g13_⟩ := k33_open (h W' hW); injection (Option.some.inj (show some (Value.slice A12 x.f11.length c12) = some (Value.slice A12_ x.f11.length c12_) from congrArg (fun l => l[12]?) he)) with ha_ _ _; rw [ha_]; exact g12_), l13, (fun W' hW => by obtain ⟨A12_, c12_, A13_, c13_, he, l12_, g12_, l13_, g13_⟩ := k33_open (h W' hW); injection (Option.some.inj (show some (Value.slice A13 x.f12.length c13) = some (Value.slice A13_ x.f12.length c13_) from congrArg (fun l => l[13]?) he)) with ha_ _ _; rw [ha_]; exact g13_)⟩
theorem k33_mkF (W : World) (ok : Nat → Prop) (x : S33) {A12 : Option Addr} {c12 : Nat} (l12 : x.f11.length ≤ c12) (g12 : Kd.F k38 W ok A12 x.f11.length x.f11) {A13 : Option Addr} {c13 : Nat} (l13 : x.f12.length ≤ c13) (g13 : Kd.F Kd.string W ok A13 x.f12.length x.f12) : Kd.FK k33 W ok x [.string x.f0, .string x.f1, .int .i64 x.f2, .int .i64 x.f3, .int .i64 x.f4, .string x.f5, .string x.f6, .string x.f7, .int .i64 x.f8, .int .i64 x.f9, .string x.f10.f0, .int .i64 x.f10.f1, .slice A12 x.f11.length c12, .slice A13 x.f12.length c13] := fun W2 hW => k33_mk W2 x l12 (g12 W2 hW) l13 (g13 W2 hW)
def rd_T33 (xs : List S33) (i : Int) : S33 := xs.getD i.toNat z33
theorem at_T33 {w : World} {A : Option Addr} {n : Nat} {xs : List S33} (h : Kd.C k33 w A n xs) (i : Int) (h0 : 0 ≤ i) (h1 : i < n) : ∃ ad A12 c12 A13 c13, A = some ad ∧ w.cell? (ad.add (i.toNat * 14)) = some (.string (rd_T33 xs i).f0) ∧ w.cell? ⟨(ad.add (i.toNat * 14)).block, (ad.add (i.toNat * 14)).off + 1, none⟩ = some (.string (rd_T33 xs i).f1) ∧ w.cell? ⟨(ad.add (i.toNat * 14)).block, (ad.add (i.toNat * 14)).off + 2, none⟩ = some (.int .i64 (rd_T33 xs i).f2) ∧ w.cell? ⟨(ad.add (i.toNat * 14)).block, (ad.add (i.toNat * 14)).off + 3, none⟩ = some (.int .i64 (rd_T33 xs i).f3) ∧ w.cell? ⟨(ad.add (i.toNat * 14)).block, (ad.add (i.toNat * 14)).off + 4, none⟩ = some (.int .i64 (rd_T33 xs i).f4) ∧ w.cell? ⟨(ad.add (i.toNat * 14)).block, (ad.add (i.toNat * 14)).off + 5, none⟩ = some (.string (rd_T33 xs i).f5) ∧ w.cell? ⟨(ad.add (i.toNat * 14)).block, (ad.add (i.toNat * 14)).off + 6, none⟩ = some (.string (rd_T33 xs i).f6) ∧ w.cell? ⟨(ad.add (i.toNat * 14)).block, (ad.add (i.toNat * 14)).off + 7, none⟩ = some (.string (rd_T33 xs i).f7) ∧ w.cell? ⟨(ad.add (i.toNat * 14)).block, (ad.add (i.toNat * 14)).off + 8, none⟩ = some (.int .i64 (rd_T33 xs i).f8) ∧ w.cell? ⟨(ad.add (i.toNat * 14)).block, (ad.add (i.toNat * 14)).off + 9, none⟩ = some (.int .i64 (rd_T33 xs i).f9) ∧ w.cell? ⟨(ad.add (i.toNat * 14)).block, (ad.add (i.toNat * 14)).off + 10, none⟩ = some (.string (rd_T33 xs i).f10.f0) ∧ w.cell? ⟨(ad.add (i.toNat * 14)).block, (ad.add (i.toNat * 14)).off + 11, none⟩ = some (.int .i64 (rd_T33 xs i).f10.f1) ∧ w.cell? ⟨(ad.add (i.toNat * 14)).block, (ad.add (i.toNat * 14)).off + 12, none⟩ = some (.slice A12 (rd_T33 xs i).f11.length c12) ∧ w.cell? ⟨(ad.add (i.toNat * 14)).block, (ad.add (i.toNat * 14)).off + 13, none⟩ = some (.slice A13 (rd_T33 xs i).f12.length c13) ∧ (rd_T33 xs i).f11.length ≤ c12 ∧ k38.C w A12 (rd_T33 xs i).f11.length (rd_T33 xs i).f11 ∧ (rd_T33 xs i).f12.length ≤ c13 ∧ Kd.string.C w A13 (rd_T33 xs i).f12.length (rd_T33 xs i).f12 := by
  obtain ⟨ad, c, e, _, hK, hc0⟩ := Kd.C_get h z33 i h0 h1
  have hc : ∀ j u, c[j]? = some u → w.cell? (ad.add (i.toNat * 14 + j)) = some u := hc0
  obtain ⟨A12, c12, A13, c13, rfl, l12, g12, l13, g13⟩ := k33_open hK
  exact ⟨ad, A12, c12, A13, c13, e, hc 0 _ rfl, by rw [← add_field _ _ 1 (by omega)]; exact hc 1 _ rfl, by rw [← add_field _ _ 2 (by omega)]; exact hc 2 _ rfl, by rw [← add_field _ _ 3 (by omega)]; exact hc 3 _ rfl, by rw [← add_field _ _ 4 (by omega)]; exact hc 4 _ rfl, by rw [← add_field _ _ 5 (by omega)]; exact hc 5 _ rfl, by rw [← add_field _ _ 6 (by omega)]; exact hc 6 _ rfl, by rw [← add_field _ _ 7 (by omega)]; exact hc 7 _ rfl, by rw [← add_field _ _ 8 (by omega)]; exact hc 8 _ rfl, by rw [← add_field _ _ 9 (by omega)]; exact hc 9 _ rfl, by rw [← add_field _ _ 10 (by omega)]; exact hc 10 _ rfl, by rw [← add_field _ _ 11 (by omega)]; exact hc 11 _ rfl, by rw [← add_field _ _ 12 (by omega)]; exact hc 12 _ rfl, by rw [← add_field _ _ 13 (by omega)]; exact hc 13 _ rfl, l12, g12, l13, g13⟩

end Go.Proofs.YtkblmomfiimkiaaGreatDoor.P
