/- What the claim's theorem leans on. Conditions: none of its own. (Written by prune.py out of the texts Px0 Let, without what the claim doesn't lean on.) -/
import Derived.Test.YtkblmomfiimkiaaGreatDoorProg
import Derived.Below
import Derived.Deep.Draws
import Derived.Deep.AppendLies
import Derived.Maps.AppendAt
import Derived.OwnWalk
import Derived.Laws.BytesArg
import Derived.Laws.MakeOwn
import Derived.Laws.OwnMore
import Derived.Deep.OwnRows
import Derived.Tactics
import Derived.Lib.ConvBytes
import Derived.Laws.Slices
import Derived.WalkKit
import Derived.KernelRfl
import Derived.RowKit3
import Derived.Deep.LoopGhost
import Derived.Deep.QuietTactic
import Derived.BigQuiet
import Derived.WideLaws
import Derived.Deep.DeepCutAuto
import Derived.Deep.CutBlock
import Derived.Deep.RegionHeld3
import Derived.Laws.Rows
import Derived.Lib.AppendStr
import Derived.ArgAppend
import Derived.Laws.IdiomCopy
import Derived.OrdersHeld
import Derived.Laws.BitsLemmas
import Derived.RowKit
import Derived.Test.YtkblmomfiimkiaaGreatDoorM0
import Derived.Test.YtkblmomfiimkiaaGreatDoorM1
section
namespace Go.Proofs.YtkblmomfiimkiaaGreatDoor.P
open Go.RowKit Go.Proofs.YtkblmomfiimkiaaGreatDoorW.PrintWords Go.Proofs.YtkblmomfiimkiaaGreatDoorW.PrintLast Go.Proofs.YtkblmomfiimkiaaGreatDoorW.PrintMore
attribute [local go_sem] max2_int min2_int max_two min_two max_three min_three max_four min_four   -- for this text's walks alone
set_option linter.unusedVariables false
set_option linter.unusedSimpArgs false
def errW : Option Int → Value
 | none => .nilIface
 | some c => .iface 0 (.int .i64 c)
theorem errW_none : errW none = .nilIface := rfl
theorem errW_some (c : Int) : errW (some c) = .iface 0 (.int .i64 c) := rfl
theorem info43 : (Tryz.prog.info? 43).map (fun i => (i.zero, i.size, i.bytes)) = some (some (.agg #[(.string ⟨#[]⟩), (.string ⟨#[]⟩)]), 2, 32) := by kernel_rfl
structure S43 where
 f0 : ByteArray
 f1 : ByteArray
def z43 : S43 := ⟨(⟨#[]⟩ : ByteArray), (⟨#[]⟩ : ByteArray)⟩
def k43 : Kd S43 := Kd.iso (Kd.pair Kd.string Kd.string) (fun x : S43 => (x.f0, x.f1))
theorem k43_open {w : World} {x : S43} {cs : List Value} (h : k43.K w x cs) : cs = [.string x.f0, .string x.f1] := by
 obtain ⟨_, _, rfl, rfl, rfl⟩ := h
 exact rfl
theorem k43_mk (w : World) (x : S43)  : k43.K w x [.string x.f0, .string x.f1] := ⟨[.string x.f0], [.string x.f1], rfl, rfl, rfl⟩
theorem k43_mkM (w : World) (base : Nat) (ok : Nat → Prop) (x : S43)  : k43.M w base ok x [.string x.f0, .string x.f1] := ⟨[.string x.f0], [.string x.f1], rfl, rfl, rfl⟩
def rd_T43 (xs : List S43) (i : Int) : S43 := xs.getD i.toNat z43
theorem at_T43 {w : World} {A : Option Addr} {n : Nat} {xs : List S43} (h : Kd.C k43 w A n xs) (i : Int) (h0 : 0 ≤ i) (h1 : i < n) : ∃ ad , A = some ad ∧ w.cell? (ad.add (i.toNat * 2)) = some (.string (rd_T43 xs i).f0) ∧ w.cell? ⟨(ad.add (i.toNat * 2)).block, (ad.add (i.toNat * 2)).off + 1, none⟩ = some (.string (rd_T43 xs i).f1) := by
 obtain ⟨ad, c, e, _, hK, hc0⟩ := Kd.C_get h z43 i h0 h1
 have hc : ∀ j u, c[j]? = some u → w.cell? (ad.add (i.toNat * 2 + j)) = some u := hc0
 obtain rfl := k43_open hK
 exact ⟨ad, e, hc 0 _ rfl, by rw [← add_field _ _ 1 (by omega)]; exact hc 1 _ rfl⟩
structure S30 where
 f0 : ByteArray
 f1 : Int
structure S38 where
 f0 : Int
 f1 : ByteArray
 f2 : ByteArray
 f3 : (List S43)
def z38 : S38 := ⟨(0 : Int), (⟨#[]⟩ : ByteArray), (⟨#[]⟩ : ByteArray), ([] : List S43)⟩
def k38 : Kd S38 := Kd.iso (Kd.pair (Kd.int .i64) (Kd.pair Kd.string (Kd.pair Kd.string (Kd.slice 43 k43)))) (fun x : S38 => (x.f0, x.f1, x.f2, x.f3))
theorem k38_open {w : World} {x : S38} {cs : List Value} (h : k38.K w x cs) : ∃ A3 c3, cs = [.int .i64 x.f0, .string x.f1, .string x.f2, .slice A3 x.f3.length c3] ∧ x.f3.length ≤ c3 ∧ k43.C w A3 x.f3.length x.f3 := by
 obtain ⟨_, _, rfl, rfl, ⟨_, _, rfl, rfl, ⟨_, _, rfl, rfl, ⟨A3, c3, rfl, l3, g3⟩⟩⟩⟩ := h
 exact ⟨A3, c3, rfl, l3, g3⟩
theorem k38_mk (w : World) (x : S38) {A3 : Option Addr} {c3 : Nat} (l3 : x.f3.length ≤ c3) (g3 : k43.C w A3 x.f3.length x.f3) : k38.K w x [.int .i64 x.f0, .string x.f1, .string x.f2, .slice A3 x.f3.length c3] := ⟨[.int .i64 x.f0], [.string x.f1, .string x.f2, .slice A3 x.f3.length c3], rfl, rfl, ⟨[.string x.f1], [.string x.f2, .slice A3 x.f3.length c3], rfl, rfl, ⟨[.string x.f2], [.slice A3 x.f3.length c3], rfl, rfl, ⟨A3, c3, rfl, l3, g3⟩⟩⟩⟩
def rd_T38 (xs : List S38) (i : Int) : S38 := xs.getD i.toNat z38
theorem at_T38 {w : World} {A : Option Addr} {n : Nat} {xs : List S38} (h : Kd.C k38 w A n xs) (i : Int) (h0 : 0 ≤ i) (h1 : i < n) : ∃ ad A3 c3, A = some ad ∧ w.cell? (ad.add (i.toNat * 4)) = some (.int .i64 (rd_T38 xs i).f0) ∧ w.cell? ⟨(ad.add (i.toNat * 4)).block, (ad.add (i.toNat * 4)).off + 1, none⟩ = some (.string (rd_T38 xs i).f1) ∧ w.cell? ⟨(ad.add (i.toNat * 4)).block, (ad.add (i.toNat * 4)).off + 2, none⟩ = some (.string (rd_T38 xs i).f2) ∧ w.cell? ⟨(ad.add (i.toNat * 4)).block, (ad.add (i.toNat * 4)).off + 3, none⟩ = some (.slice A3 (rd_T38 xs i).f3.length c3) ∧ (rd_T38 xs i).f3.length ≤ c3 ∧ k43.C w A3 (rd_T38 xs i).f3.length (rd_T38 xs i).f3 := by
 obtain ⟨ad, c, e, _, hK, hc0⟩ := Kd.C_get h z38 i h0 h1
 have hc : ∀ j u, c[j]? = some u → w.cell? (ad.add (i.toNat * 4 + j)) = some u := hc0
 obtain ⟨A3, c3, rfl, l3, g3⟩ := k38_open hK
 exact ⟨ad, A3, c3, e, hc 0 _ rfl, by rw [← add_field _ _ 1 (by omega)]; exact hc 1 _ rfl, by rw [← add_field _ _ 2 (by omega)]; exact hc 2 _ rfl, by rw [← add_field _ _ 3 (by omega)]; exact hc 3 _ rfl, l3, g3⟩
structure S33 where
 f0 : ByteArray
 f1 : ByteArray
 f2 : Int
 f3 : Int
 f4 : Int
 f5 : ByteArray
 f6 : ByteArray
 f7 : ByteArray
 f8 : Int
 f9 : Int
 f10 : S30
 f11 : (List S38)
 f12 : (List ByteArray)
end Go.Proofs.YtkblmomfiimkiaaGreatDoor.P
end

section
namespace Go.Proofs.YtkblmomfiimkiaaGreatDoor.P
open Go.RowKit Go.Proofs.YtkblmomfiimkiaaGreatDoorW.PrintWords Go.Proofs.YtkblmomfiimkiaaGreatDoorW.PrintLast Go.Proofs.YtkblmomfiimkiaaGreatDoorW.PrintMore
def letC (x : S33) (A : Option Addr) (c : Nat) (B : Option Addr) (d : Nat) : Array Value :=
 #[.string x.f0, .string x.f1, .int .i64 x.f2, .int .i64 x.f3, .int .i64 x.f4, .string x.f5, .string x.f6, .string x.f7, .int .i64 x.f8, .int .i64 x.f9, .string x.f10.f0, .int .i64 x.f10.f1, .slice A x.f11.length c, .slice B x.f12.length d]
structure CBox (g : Nat) (C : Array Value) (w : World) where
 W : World
 h : W.heap[g]? = some (.cells C 33 (0, 0)) ∧ Below w.heap.size w W
theorem CBox.below {g : Nat} {C : Array Value} {w : World} (p : CBox g C w) : Below w.heap.size w p.W := p.h.2
theorem cbox_below {g : Nat} {C : Array Value} {w : World} (p : CBox g C w) {w' : World} (hb : Below p.W.heap.size p.W w') : ∃ q : CBox g C w, w' = q.W := ⟨⟨w', (hb.block g (blk_lt p.h.1)).trans p.h.1, below_step p.h.2 hb⟩, rfl⟩
theorem cbox_drawn {g : Nat} {C : Array Value} {w : World} (p : CBox g C w) {w' : World} (hb : Drawn0 p.W w') : ∃ q : CBox g C w, w' = q.W := cbox_below p (by obtain ⟨n, hn⟩ := hb; rw [hn]; exact pw_below_drewN (Below.refl _ _) n)
theorem cbox_new (w : World) (C : Array Value) : ∃ p : CBox w.heap.size C w, w.alloc (.cells C 33) = p.W :=
 ⟨⟨_, by show (w.heap.push _)[w.heap.size]? = _; rw [Array.getElem?_push_size], (Below.refl _ w).alloc (Nat.le_refl _) _⟩, rfl⟩
section
variable {g : Nat} {x : S33} {A : Option Addr} {c : Nat} {B : Option Addr} {d : Nat} {w : World} (p : CBox g (letC x A c B d) w)
theorem lb0 : p.W.cell? ⟨g, 0, none⟩ = some (.string x.f0) := (blk_cell p.h.1 0).trans rfl
theorem lb1 : p.W.cell? ⟨g, 1, none⟩ = some (.string x.f1) := (blk_cell p.h.1 1).trans rfl
theorem lb2 : p.W.cell? ⟨g, 2, none⟩ = some (.int .i64 x.f2) := (blk_cell p.h.1 2).trans rfl
theorem lb3 : p.W.cell? ⟨g, 3, none⟩ = some (.int .i64 x.f3) := (blk_cell p.h.1 3).trans rfl
theorem lb4 : p.W.cell? ⟨g, 4, none⟩ = some (.int .i64 x.f4) := (blk_cell p.h.1 4).trans rfl
theorem lb5 : p.W.cell? ⟨g, 5, none⟩ = some (.string x.f5) := (blk_cell p.h.1 5).trans rfl
theorem lb6 : p.W.cell? ⟨g, 6, none⟩ = some (.string x.f6) := (blk_cell p.h.1 6).trans rfl
theorem lb7 : p.W.cell? ⟨g, 7, none⟩ = some (.string x.f7) := (blk_cell p.h.1 7).trans rfl
theorem lb8 : p.W.cell? ⟨g, 8, none⟩ = some (.int .i64 x.f8) := (blk_cell p.h.1 8).trans rfl
theorem lb9 : p.W.cell? ⟨g, 9, none⟩ = some (.int .i64 x.f9) := (blk_cell p.h.1 9).trans rfl
theorem lb10 : p.W.cell? ⟨g, 10, none⟩ = some (.string x.f10.f0) := (blk_cell p.h.1 10).trans rfl
theorem lb11 : p.W.cell? ⟨g, 11, none⟩ = some (.int .i64 x.f10.f1) := (blk_cell p.h.1 11).trans rfl
theorem lb12 : p.W.cell? ⟨g, 12, none⟩ = some (.slice A x.f11.length c) := (blk_cell p.h.1 12).trans rfl
theorem lb13 : p.W.cell? ⟨g, 13, none⟩ = some (.slice B x.f12.length d) := (blk_cell p.h.1 13).trans rfl
end
structure LetR (w : World) (x : S33) (A : Option Addr) (c : Nat) (B : Option Addr) (d : Nat) : Prop where
 rA : Kd.C k38 w A x.f11.length x.f11
 lA : x.f11.length ≤ c
 rB : Kd.C Kd.string w B x.f12.length x.f12
 lB : x.f12.length ≤ d
theorem LetR.below {w w' : World} {x : S33} {A : Option Addr} {c : Nat} {B : Option Addr} {d : Nat} (h : LetR w x A c B d) (hb : Below w.heap.size w w') : LetR w' x A c B d := ⟨Kd.C_below h.rA hb, h.lA, Kd.C_below h.rB hb, h.lB⟩
end Go.Proofs.YtkblmomfiimkiaaGreatDoor.P
end
