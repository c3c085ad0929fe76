/- What the claim's theorem leans on. Conditions: none of its own. (Written by prune.py out of the texts Px0 Px2 Px7 Px8 Px9 EqB EqMoney Shelf EqDocs Plain Name Dec NameB Px13 Build, without what the claim doesn't lean on.) -/
import Derived.Test.YtkblmomfiimkiaaGreatDoorProg
import Derived.Below
import Derived.Deep.Draws
import Derived.Deep.AppendLies
import Derived.Maps.AppendAt
import Derived.OwnWalk
import Derived.Laws.BytesArg
import Derived.Laws.MakeOwn
import Derived.Laws.OwnMore
import Derived.Deep.OwnRows
import Derived.Tactics
import Derived.Lib.ConvBytes
import Derived.Laws.Slices
import Derived.WalkKit
import Derived.KernelRfl
import Derived.RowKit3
import Derived.Deep.LoopGhost
import Derived.Deep.QuietTactic
import Derived.BigQuiet
import Derived.WideLaws
import Derived.Deep.DeepCutAuto
import Derived.Deep.CutBlock
import Derived.Deep.RegionHeld3
import Derived.Laws.Rows
import Derived.Lib.AppendStr
import Derived.ArgAppend
import Derived.Laws.IdiomCopy
import Derived.OrdersHeld
import Derived.Laws.BitsLemmas
import Derived.RowKit
import Derived.Lib.Strings
import Derived.Shelf.Strings.Builder1
import Derived.Shelf.Strings.Builder2
import Derived.Shelf.Strings.BuilderF
import Derived.Shelf.Strconv.Itoa0
import Derived.Shelf.Strconv.Itoa1
import Derived.Shelf.LaysM
import Derived.Shelf.Strconv.Itoa2
import Derived.Shelf.Strconv.Itoa3
import Derived.Shelf.Strconv.Itoa4
import Derived.Shelf.Strconv.ParseIntEmpty
import Derived.Shelf.Strconv.Clone
import Derived.Shelf.Strconv.SyntaxError
import Derived.Shelf.LaysC
import Derived.Shelf.Strconv.ToError
import Derived.Shelf.Strconv.Lower
import Derived.Shelf.Strconv.ParseUint10
import Derived.Shelf.Strconv.ParseUint10Empty
import Derived.Shelf.Strconv.ParseUint10Any
import Derived.Shelf.Strconv.ParseInt10
import Derived.Shelf.Strconv.RangeError
import Derived.Shelf.Strconv.ToErrorRange
import Derived.Shelf.Strconv.ParseUintEmpty
import Derived.Shelf.Strconv.ParseUint10b64
import Derived.Shelf.Strconv.ParseUint10b32
import Derived.Shelf.Strconv.ParseUint10b16
import Derived.Shelf.Strconv.ParseUint10b8
import Derived.Shelf.Strconv.ParseUint10At
import Derived.Shelf.Strconv.ParseInt10At64
import Derived.Shelf.Strconv.ParseInt10At32
import Derived.Shelf.Strconv.ParseInt10At16
import Derived.Shelf.Strconv.ParseInt10At8
import Derived.Shelf.Strconv.ParseInt10All
import Derived.Shelf.Strconv.ParseIntPublic10
import Derived.Shelf.Strings.Search1
import Derived.Shelf.Strings.Search2
import Derived.Shelf.Strings.Search3
import Derived.Shelf.Strings.Cut
import Derived.Shelf.Strings.Count
import Derived.Shelf.Strings.Shaped
import Derived.Shelf.GgClosure.StringsIndexFunc
import Derived.Shelf.GgClosure.StringsIndexFuncTop
import Derived.Shelf.Strings.Prefix
import Derived.Shelf.Strings.Split
import Derived.Shelf.Strings.Fields
import Derived.Shelf.Strings.Replace
import Derived.Shelf.Unicode.Latin
import Derived.Shelf.Bits.Mul64
import Derived.Shelf.Strings.Repeat
import Derived.Shelf.Unicode.DecodeSlow
import Derived.Shelf.Unicode.Is16White
import Derived.Shelf.Unicode.IsSpaceAny
import Derived.Shelf.Unicode.Is16Any
import Derived.Shelf.Unicode.Is32Any
import Derived.Shelf.Unicode.ExclAny
import Derived.Shelf.GgClosure.Gives
import Derived.WalkMore
import Derived.Lib.Hide
import Derived.Deep.DrawnRows
import Derived.WalkSpells
import Derived.Laws.RangeString
import Derived.Outline
import Derived.Lib.ItoaNum
import Derived.Lib.ParseIntBCases
import Derived.Lib.ItoaLen
import Derived.WalkLawsBesides
import Derived.Deep.WholeRow
import Derived.Laws.IdiomStrings
import Derived.Laws.NewBlocks
import Derived.Lib.SmallJoins
import Derived.Test.YtkblmomfiimkiaaGreatDoorS0
import Derived.Test.YtkblmomfiimkiaaGreatDoorS1
section
namespace Go.Proofs.YtkblmomfiimkiaaGreatDoor.P
open Go.RowKit Go.Proofs.YtkblmomfiimkiaaGreatDoorW.PrintWords Go.Proofs.YtkblmomfiimkiaaGreatDoorW.PrintLast Go.Proofs.YtkblmomfiimkiaaGreatDoorW.PrintMore
attribute [local go_sem] max2_int min2_int max_two min_two max_three min_three max_four min_four   -- for this text's walks alone
set_option linter.unusedVariables false
set_option linter.unusedSimpArgs false
def errW : Option Int → Value
 | none => .nilIface
 | some c => .iface 0 (.int .i64 c)
theorem errW_none : errW none = .nilIface := rfl
theorem errW_some (c : Int) : errW (some c) = .iface 0 (.int .i64 c) := rfl
theorem info9 : (Tryz.prog.info? 9).map (fun i => (i.zero, i.size, i.bytes)) = some (some (.string ⟨#[]⟩), 1, 16) := by kernel_rfl
theorem info38 : (Tryz.prog.info? 38).map (fun i => (i.zero, i.size, i.bytes)) = some (some (.agg #[(.int .i64 0), (.string ⟨#[]⟩), (.string ⟨#[]⟩), (.slice none 0 0)]), 4, 64) := by kernel_rfl
theorem info43 : (Tryz.prog.info? 43).map (fun i => (i.zero, i.size, i.bytes)) = some (some (.agg #[(.string ⟨#[]⟩), (.string ⟨#[]⟩)]), 2, 32) := by kernel_rfl
structure S43 where
 f0 : ByteArray
 f1 : ByteArray
def z43 : S43 := ⟨(⟨#[]⟩ : ByteArray), (⟨#[]⟩ : ByteArray)⟩
def k43 : Kd S43 := Kd.iso (Kd.pair Kd.string Kd.string) (fun x : S43 => (x.f0, x.f1))
theorem k43_open {w : World} {x : S43} {cs : List Value} (h : k43.K w x cs) : cs = [.string x.f0, .string x.f1] := by
 obtain ⟨_, _, rfl, rfl, rfl⟩ := h
 exact rfl
theorem k43_mk (w : World) (x : S43)  : k43.K w x [.string x.f0, .string x.f1] := ⟨[.string x.f0], [.string x.f1], rfl, rfl, rfl⟩
theorem k43_mkM (w : World) (base : Nat) (ok : Nat → Prop) (x : S43)  : k43.M w base ok x [.string x.f0, .string x.f1] := ⟨[.string x.f0], [.string x.f1], rfl, rfl, rfl⟩
def rd_T43 (xs : List S43) (i : Int) : S43 := xs.getD i.toNat z43
theorem at_T43 {w : World} {A : Option Addr} {n : Nat} {xs : List S43} (h : Kd.C k43 w A n xs) (i : Int) (h0 : 0 ≤ i) (h1 : i < n) : ∃ ad , A = some ad ∧ w.cell? (ad.add (i.toNat * 2)) = some (.string (rd_T43 xs i).f0) ∧ w.cell? ⟨(ad.add (i.toNat * 2)).block, (ad.add (i.toNat * 2)).off + 1, none⟩ = some (.string (rd_T43 xs i).f1) := by
 obtain ⟨ad, c, e, _, hK, hc0⟩ := Kd.C_get h z43 i h0 h1
 have hc : ∀ j u, c[j]? = some u → w.cell? (ad.add (i.toNat * 2 + j)) = some u := hc0
 obtain rfl := k43_open hK
 exact ⟨ad, e, hc 0 _ rfl, by rw [← add_field _ _ 1 (by omega)]; exact hc 1 _ rfl⟩
structure S30 where
 f0 : ByteArray
 f1 : Int
structure S38 where
 f0 : Int
 f1 : ByteArray
 f2 : ByteArray
 f3 : (List S43)
def z38 : S38 := ⟨(0 : Int), (⟨#[]⟩ : ByteArray), (⟨#[]⟩ : ByteArray), ([] : List S43)⟩
def k38 : Kd S38 := Kd.iso (Kd.pair (Kd.int .i64) (Kd.pair Kd.string (Kd.pair Kd.string (Kd.slice 43 k43)))) (fun x : S38 => (x.f0, x.f1, x.f2, x.f3))
theorem k38_open {w : World} {x : S38} {cs : List Value} (h : k38.K w x cs) : ∃ A3 c3, cs = [.int .i64 x.f0, .string x.f1, .string x.f2, .slice A3 x.f3.length c3] ∧ x.f3.length ≤ c3 ∧ k43.C w A3 x.f3.length x.f3 := by
 obtain ⟨_, _, rfl, rfl, ⟨_, _, rfl, rfl, ⟨_, _, rfl, rfl, ⟨A3, c3, rfl, l3, g3⟩⟩⟩⟩ := h
 exact ⟨A3, c3, rfl, l3, g3⟩
theorem k38_mk (w : World) (x : S38) {A3 : Option Addr} {c3 : Nat} (l3 : x.f3.length ≤ c3) (g3 : k43.C w A3 x.f3.length x.f3) : k38.K w x [.int .i64 x.f0, .string x.f1, .string x.f2, .slice A3 x.f3.length c3] := ⟨[.int .i64 x.f0], [.string x.f1, .string x.f2, .slice A3 x.f3.length c3], rfl, rfl, ⟨[.string x.f1], [.string x.f2, .slice A3 x.f3.length c3], rfl, rfl, ⟨[.string x.f2], [.slice A3 x.f3.length c3], rfl, rfl, ⟨A3, c3, rfl, l3, g3⟩⟩⟩⟩
def rd_T38 (xs : List S38) (i : Int) : S38 := xs.getD i.toNat z38
theorem at_T38 {w : World} {A : Option Addr} {n : Nat} {xs : List S38} (h : Kd.C k38 w A n xs) (i : Int) (h0 : 0 ≤ i) (h1 : i < n) : ∃ ad A3 c3, A = some ad ∧ w.cell? (ad.add (i.toNat * 4)) = some (.int .i64 (rd_T38 xs i).f0) ∧ w.cell? ⟨(ad.add (i.toNat * 4)).block, (ad.add (i.toNat * 4)).off + 1, none⟩ = some (.string (rd_T38 xs i).f1) ∧ w.cell? ⟨(ad.add (i.toNat * 4)).block, (ad.add (i.toNat * 4)).off + 2, none⟩ = some (.string (rd_T38 xs i).f2) ∧ w.cell? ⟨(ad.add (i.toNat * 4)).block, (ad.add (i.toNat * 4)).off + 3, none⟩ = some (.slice A3 (rd_T38 xs i).f3.length c3) ∧ (rd_T38 xs i).f3.length ≤ c3 ∧ k43.C w A3 (rd_T38 xs i).f3.length (rd_T38 xs i).f3 := by
 obtain ⟨ad, c, e, _, hK, hc0⟩ := Kd.C_get h z38 i h0 h1
 have hc : ∀ j u, c[j]? = some u → w.cell? (ad.add (i.toNat * 4 + j)) = some u := hc0
 obtain ⟨A3, c3, rfl, l3, g3⟩ := k38_open hK
 exact ⟨ad, A3, c3, e, hc 0 _ rfl, by rw [← add_field _ _ 1 (by omega)]; exact hc 1 _ rfl, by rw [← add_field _ _ 2 (by omega)]; exact hc 2 _ rfl, by rw [← add_field _ _ 3 (by omega)]; exact hc 3 _ rfl, l3, g3⟩
structure S33 where
 f0 : ByteArray
 f1 : ByteArray
 f2 : Int
 f3 : Int
 f4 : Int
 f5 : ByteArray
 f6 : ByteArray
 f7 : ByteArray
 f8 : Int
 f9 : Int
 f10 : S30
 f11 : (List S38)
 f12 : (List ByteArray)
end Go.Proofs.YtkblmomfiimkiaaGreatDoor.P
end

section
namespace Go.Proofs.YtkblmomfiimkiaaGreatDoor.P
open Go.RowKit Go.Proofs.YtkblmomfiimkiaaGreatDoorW.PrintWords Go.Proofs.YtkblmomfiimkiaaGreatDoorW.PrintLast Go.Proofs.YtkblmomfiimkiaaGreatDoorW.PrintMore
attribute [local go_sem] max2_int min2_int max_two min_two max_three min_three max_four min_four   -- for this text's walks alone
set_option linter.unusedVariables false
set_option linter.unusedSimpArgs false
theorem eqA43 (d : Nat) (w : World) (x0 y0 : ByteArray) (x1 y1 : ByteArray) :
  (Op.equalIn (d + 2) 43 (.agg #[.string x0, .string x1]) (.agg #[.string y0, .string y1])).run Tryz.prog w = .ok (x0.toList == y0.toList && (x1.toList == y1.toList)) w := by
 refine eqA_of Tryz.underlying43 (by kernel_rfl) ?_
 refine eqf_cons (by rfl) (by go_simp; rfl) (by go_simp; rfl) (by go_simp) ?_
 exact eqf_last (by rfl) (by go_simp; rfl) (by go_simp; rfl) (by go_simp)
end Go.Proofs.YtkblmomfiimkiaaGreatDoor.P
end

section
namespace Go.Proofs.YtkblmomfiimkiaaGreatDoor.P
open Go.RowKit Go.Proofs.YtkblmomfiimkiaaGreatDoorW.PrintWords Go.Proofs.YtkblmomfiimkiaaGreatDoorW.PrintLast Go.Proofs.YtkblmomfiimkiaaGreatDoorW.PrintMore
attribute [local go_sem] max2_int min2_int max_two min_two max_three min_three max_four min_four   -- for this text's walks alone
set_option linter.unusedVariables false
set_option linter.unusedSimpArgs false
attribute [local go_sem high] eqA43
def api_Field.l0 : Nat → List (S43) → List (S43) → Int → Int → Option (Bool)
 | 0, _, _, _, _ => none
 | k + 1, x0, x1, x12, x13 => if x13 < x12 then (if 0 ≤ x13 then (if x13 < (x0.length : Int) then (if x13 < (x1.length : Int) then (if (!((((rd_T43 x0 x13).f0).toList) == (((rd_T43 x1 x13).f0).toList)) || (!((((rd_T43 x0 x13).f1).toList) == (((rd_T43 x1 x13).f1).toList)))) = true then (some false) else (api_Field.l0 k x0 x1 x12 (wrap64 (x13 + 1)))) else (none)) else (none)) else (none)) else (some true)
def api_Field.f (k : Nat) (l0 : List (S43)) (l1 : List (S43)) : Option (Bool) := if (l0.length : Int) = (l1.length : Int) then (api_Field.l0 k l0 l1 (l0.length : Int) 0) else (some false)
theorem api_Field.mono_l : ∀ k, (∀ y0 y1 y2 y3, LeO (api_Field.l0 k y0 y1 y2 y3) (api_Field.l0 (k + 1) y0 y1 y2 y3))
 | 0 => fun _ _ _ _ r h => by simp [api_Field.l0] at h
 | k + 1 => by
  have ih0 := api_Field.mono_l k
  ·
   intro y0 y1 y2 y3
   unfold api_Field.l0
   repeat' first
   | (with_reducible exact ih0 _ _ _ _)
   | (with_reducible exact LeO.refl _)
   | (with_reducible exact LeO.none _)
   | (with_reducible refine LeO.ite ?_ ?_)
   | (with_reducible refine LeO.bind ?_ (fun _ => ?_))
   | exact ih0 _ _ _ _
   | exact LeO.none _
   | refine LeO.ite ?_ ?_
   | refine LeO.bind ?_ (fun _ => ?_)
theorem api_Field.mono : ∀ a0 a1 k, LeO (api_Field.f k a0 a1) (api_Field.f (k + 1) a0 a1) := by
 intro a0 a1 k
 have ih0 := api_Field.mono_l k
 unfold api_Field.f
 repeat' first
   | (with_reducible exact ih0 _ _ _ _)
   | (with_reducible exact LeO.refl _)
   | (with_reducible exact LeO.none _)
   | (with_reducible refine LeO.ite ?_ ?_)
   | (with_reducible refine LeO.bind ?_ (fun _ => ?_))
   | exact ih0 _ _ _ _
   | exact LeO.none _
   | refine LeO.ite ?_ ?_
   | refine LeO.bind ?_ (fun _ => ?_)
set_option maxHeartbeats 8000000 in
set_option maxRecDepth 100000 in
theorem api_Field.calls (k : Nat) (A0 : Option Addr) (c0 : Nat) (l0 : List (S43)) (A1 : Option Addr) (c1 : Nat) (l1 : List (S43)) (r : Bool) (w : World) (hr0 : Kd.C k43 w A0 l0.length l0) (hc0 : l0.length ≤ c0) (hr1 : Kd.C k43 w A1 l1.length l1) (hc1 : l1.length ≤ c1) (h : api_Field.f k l0 l1 = some r) :
  Calls Tryz.prog 55 #[.slice A0 l0.length c0, .slice A1 l1.length c1] w fun e w' => e = .returned (.bool r) ∧ Drawn0 w w' := by
 have hu43 := Tryz.underlying43
 have HR0 := Aside0.mk hr0
 have HC0 := Aside0.mk hc0
 clear hr0 hc0
 have HR1 := Aside0.mk hr1
 have HC1 := Aside0.mk hc1
 clear hr1 hc1
 have H : (if (l0.length : Int) = (l1.length : Int) then (api_Field.l0 k l0 l1 (l0.length : Int) 0) else (some false)) = some r := h
 clear h
 by_cases c3 : (l0.length : Int) = (l1.length : Int)
 ·
  rw [if_pos c3] at H
  have c3b0 : ((l0.length : Int) == (l1.length : Int)) = true := beq_iff_eq.mpr c3
  have c3b1 : ((l0.length : Int) != (l1.length : Int)) = false := bne_eq_false_iff_eq.mpr c3
  have c3b2 : (l0.length == l1.length) = true := by first | simpa using c3 | (simp at c3 ⊢; omega)
  clear c3
  have H' := Aside0.mk H
  clear H
  go_enter Tryz.func55, Tryz.ntmps55
  go_wp2
  repeat (go_quiet (fail); try go_wp2)
  go_loopg [13] k (fun kq v13 w' => ∃ (x13_1 : Int), v13 = .int .i64 x13_1 ∧ Aside0 (api_Field.l0 kq l0 l1 (l0.length : Int) x13_1 = some r) ∧ Aside0 (kq ≤ k) ∧ Drawn0 w w')
  case atStart => exact ⟨(0), (by first | rfl | (simp; done) | (simp [*]; done)), H', ⟨Nat.le_refl _⟩, by repeat (first | exact Drawn0.refl _ | apply Drawn0.step)⟩
  case round =>
   clear H'
   try clear c1
   try clear p2
   try clear c3
   try clear c3b0
   try clear c3b1
   try clear c3b2
   obtain ⟨x13_1, rfl, HA, HK1, ⟨m1, rfl⟩⟩ := hrel
   cases gk with
   | zero => exact absurd HA.out (by simp [api_Field.l0])
   | succ k1 =>
    have H := HA.out
    clear HA
    simp only [api_Field.l0] at H
    by_cases c4 : x13_1 < (l0.length : Int)
    ·
     rw [if_pos c4] at H
     have c4b0 : decide (x13_1 < (l0.length : Int)) = true := decide_eq_true c4
     clear c4
     by_cases c5 : 0 ≤ x13_1
     ·
      rw [if_pos c5] at H
      have c5b0 : decide (0 ≤ x13_1) = true := decide_eq_true c5
      clear c5
      by_cases c6 : x13_1 < (l0.length : Int)
      ·
       rw [if_pos c6] at H
       have c6b0 : decide (x13_1 < (l0.length : Int)) = true := decide_eq_true c6
       clear c6
       by_cases c7 : x13_1 < (l1.length : Int)
       ·
        rw [if_pos c7] at H
        have c7b0 : decide (x13_1 < (l1.length : Int)) = true := decide_eq_true c7
        clear c7
        by_cases c8 : (!((((rd_T43 l0 x13_1).f0).toList) == (((rd_T43 l1 x13_1).f0).toList)) || (!((((rd_T43 l0 x13_1).f1).toList) == (((rd_T43 l1 x13_1).f1).toList)))) = true
        ·
         rw [if_pos c8] at H
         have c8b0 : (!((((rd_T43 l0 x13_1).f0).toList) == (((rd_T43 l1 x13_1).f0).toList)) || (!((((rd_T43 l0 x13_1).f1).toList) == (((rd_T43 l1 x13_1).f1).toList)))) = true := c8
         clear c8
         obtain rfl := Option.some.inj H
         have p111 : 0 ≤ (x13_1 : Int) := of_decide_eq_true (by first | (with_reducible assumption) | assumption)
         have q111 : x13_1 < (l0.length : Int) := of_decide_eq_true (by first | (with_reducible assumption) | assumption)
         obtain ⟨ad111, e111, hx111_0, hx111_1⟩ := at_T43 HR0.out x13_1 p111 q111
         cases e111
         replace p111 := eq_true p111
         replace q111 := eq_true q111
         have p112 : 0 ≤ (x13_1 : Int) := of_decide_eq_true (by first | (with_reducible assumption) | assumption)
         have q112 : x13_1 < (l1.length : Int) := of_decide_eq_true (by first | (with_reducible assumption) | assumption)
         obtain ⟨ad112, e112, hx112_0, hx112_1⟩ := at_T43 HR1.out x13_1 p112 q112
         cases e112
         replace p112 := eq_true p112
         replace q112 := eq_true q112
         go_wp2
         repeat (go_quiet (fail); try go_wp2)
         go_ret
         exact ⟨by first | rfl | (simp; done) | (simp [*]; done), by repeat (first | exact Drawn0.refl _ | apply Drawn0.step)⟩
        ·
         rw [if_neg c8] at H
         have c8b0 : (!((((rd_T43 l0 x13_1).f0).toList) == (((rd_T43 l1 x13_1).f0).toList)) || (!((((rd_T43 l0 x13_1).f1).toList) == (((rd_T43 l1 x13_1).f1).toList)))) = false := by simpa using c8
         clear c8
         have H' := Aside0.mk H
         clear H
         have p111 : 0 ≤ (x13_1 : Int) := of_decide_eq_true (by first | (with_reducible assumption) | assumption)
         have q111 : x13_1 < (l0.length : Int) := of_decide_eq_true (by first | (with_reducible assumption) | assumption)
         obtain ⟨ad111, e111, hx111_0, hx111_1⟩ := at_T43 HR0.out x13_1 p111 q111
         cases e111
         replace p111 := eq_true p111
         replace q111 := eq_true q111
         have p112 : 0 ≤ (x13_1 : Int) := of_decide_eq_true (by first | (with_reducible assumption) | assumption)
         have q112 : x13_1 < (l1.length : Int) := of_decide_eq_true (by first | (with_reducible assumption) | assumption)
         obtain ⟨ad112, e112, hx112_0, hx112_1⟩ := at_T43 HR1.out x13_1 p112 q112
         cases e112
         replace p112 := eq_true p112
         replace q112 := eq_true q112
         go_wp2
         repeat (go_quiet (fail); try go_wp2)
         go_roundg k1
         case measure => have := HK1.out; omega
         case rel => exact ⟨(wrap64 (x13_1 + 1)), (by first | rfl | (simp; done) | (simp [*]; done)), H', ⟨by have := HK1.out; omega⟩, by repeat (first | exact Drawn0.refl _ | apply Drawn0.step)⟩
       ·
        rw [if_neg c7] at H
        exact absurd H (by simp)
      ·
       rw [if_neg c6] at H
       exact absurd H (by simp)
     ·
      rw [if_neg c5] at H
      exact absurd H (by simp)
    ·
     rw [if_neg c4] at H
     have c4b0 : decide (x13_1 < (l0.length : Int)) = false := decide_eq_false c4
     clear c4
     obtain rfl := Option.some.inj H
     go_wp2
     repeat (go_quiet (fail); try go_wp2)
     go_ret
     exact ⟨by first | rfl | (simp; done) | (simp [*]; done), by repeat (first | exact Drawn0.refl _ | apply Drawn0.step)⟩
 ·
  rw [if_neg c3] at H
  have c3b0 : ((l0.length : Int) == (l1.length : Int)) = false := beq_eq_false_iff_ne.mpr c3
  have c3b1 : ((l0.length : Int) != (l1.length : Int)) = true := bne_iff_ne.mpr c3
  have c3b2 : (l0.length == l1.length) = false := by first | simpa using c3 | (simp at c3 ⊢; omega)
  obtain rfl := Option.some.inj H
  go_enter Tryz.func55, Tryz.ntmps55
  go_wp2
  repeat (go_quiet (fail); try go_wp2)
  go_ret
  exact ⟨by first | rfl | (simp; done) | (simp [*]; done), by repeat (first | exact Drawn0.refl _ | apply Drawn0.step)⟩
end Go.Proofs.YtkblmomfiimkiaaGreatDoor.P
end

section
namespace Go.Proofs.YtkblmomfiimkiaaGreatDoor.P
open Go.RowKit Go.Proofs.YtkblmomfiimkiaaGreatDoorW.PrintWords Go.Proofs.YtkblmomfiimkiaaGreatDoorW.PrintLast Go.Proofs.YtkblmomfiimkiaaGreatDoorW.PrintMore
attribute [local go_sem] max2_int min2_int max_two min_two max_three min_three max_four min_four   -- for this text's walks alone
set_option linter.unusedVariables false
set_option linter.unusedSimpArgs false
def field_Same.f (k : Nat) (a0_0 : Int) (a0_1 : ByteArray) (a0_2 : ByteArray) (l0_3 : List (S43)) (a1_0 : Int) (a1_1 : ByteArray) (a1_2 : ByteArray) (l1_3 : List (S43)) : Option (Bool) := if a0_0 = a1_0 then (if a0_1.toList = a1_1.toList then (if a0_2.toList = a1_2.toList then ((api_Field.f k l0_3 l1_3).bind fun t115 => (some t115)) else (some false)) else (some false)) else (some false)
theorem field_Same.mono : ∀ a0 a1 a2 a3 a4 a5 a6 a7 k, LeO (field_Same.f k a0 a1 a2 a3 a4 a5 a6 a7) (field_Same.f (k + 1) a0 a1 a2 a3 a4 a5 a6 a7) := by
 intro a0 a1 a2 a3 a4 a5 a6 a7 k
 unfold field_Same.f
 repeat' first
   | (with_reducible exact api_Field.mono _ _ _)
   | (with_reducible exact LeO.refl _)
   | (with_reducible exact LeO.none _)
   | (with_reducible refine LeO.ite ?_ ?_)
   | (with_reducible refine LeO.bind ?_ (fun _ => ?_))
   | exact api_Field.mono _ _ _
   | exact LeO.none _
   | refine LeO.ite ?_ ?_
   | refine LeO.bind ?_ (fun _ => ?_)
set_option maxHeartbeats 8000000 in
set_option maxRecDepth 100000 in
theorem field_Same.calls (k : Nat) (a0_0 : Int) (a0_1 : ByteArray) (a0_2 : ByteArray) (A0_3 : Option Addr) (c0_3 : Nat) (l0_3 : List (S43)) (a1_0 : Int) (a1_1 : ByteArray) (a1_2 : ByteArray) (A1_3 : Option Addr) (c1_3 : Nat) (l1_3 : List (S43)) (r : Bool) (w : World) (hr0_3 : Kd.C k43 w A0_3 l0_3.length l0_3) (hc0_3 : l0_3.length ≤ c0_3) (hr1_3 : Kd.C k43 w A1_3 l1_3.length l1_3) (hc1_3 : l1_3.length ≤ c1_3) (h : field_Same.f k a0_0 a0_1 a0_2 l0_3 a1_0 a1_1 a1_2 l1_3 = some r) :
  Calls Tryz.prog 33 #[.agg #[.int .i64 a0_0, .string a0_1, .string a0_2, .slice A0_3 l0_3.length c0_3], .agg #[.int .i64 a1_0, .string a1_1, .string a1_2, .slice A1_3 l1_3.length c1_3]] w fun e w' => e = .returned (.bool r) ∧ Below w.heap.size w w' := by
 have hu38 := Tryz.underlying38
 have HR0_3 := Aside0.mk hr0_3
 have HC0_3 := Aside0.mk hc0_3
 clear hr0_3 hc0_3
 have HR1_3 := Aside0.mk hr1_3
 have HC1_3 := Aside0.mk hc1_3
 clear hr1_3 hc1_3
 have HB := Aside0.mk (Below.refl w.heap.size w)
 have H : (if a0_0 = a1_0 then (if a0_1.toList = a1_1.toList then (if a0_2.toList = a1_2.toList then ((api_Field.f k l0_3 l1_3).bind fun t115 => (some t115)) else (some false)) else (some false)) else (some false)) = some r := h
 clear h
 by_cases c3 : a0_0 = a1_0
 ·
  rw [if_pos c3] at H
  have c3b0 : (a0_0 == a1_0) = true := beq_iff_eq.mpr c3
  have c3b1 : (a0_0 != a1_0) = false := bne_eq_false_iff_eq.mpr c3
  clear c3
  by_cases c4 : a0_1.toList = a1_1.toList
  ·
   rw [if_pos c4] at H
   have c4b0 : (a0_1.toList == a1_1.toList) = true := beq_iff_eq.mpr c4
   have c4b1 : (a0_1.toList != a1_1.toList) = false := bne_eq_false_iff_eq.mpr c4
   clear c4
   by_cases c5 : a0_2.toList = a1_2.toList
   ·
    rw [if_pos c5] at H
    have c5b0 : (a0_2.toList == a1_2.toList) = true := beq_iff_eq.mpr c5
    have c5b1 : (a0_2.toList != a1_2.toList) = false := bne_eq_false_iff_eq.mpr c5
    clear c5
    replace H := Option.bind_eq_some_iff.mp H
    obtain ⟨t115, A60, H⟩ := H
    replace H : (some t115) = some r := H
    have A6 := Aside0.mk A60
    clear A60
    obtain rfl := Option.some.inj H
    go_enter Tryz.func33, Tryz.ntmps33
    go_wp2_with (first | ((with_reducible refine gate_dst (N := 2) rfl ?_); refine box_event ?hg (N := 2) ?hd (cs := #[.int .i64 a0_0, .string a0_1, .string a0_2, .slice A0_3 l0_3.length c0_3]) (t := 38) ?hr ?_; (case hd => rfl); (case hg => rfl); (case hr => first | (go_simp; done) | (go_simp; rfl)); intro gb113 hg w7 hbox hb; have n0_ := Aside0.mk (below_step (by repeat (first | (with_reducible first | exact HB.out | apply below_alloc | apply pw_below_drewN | apply below_drew1) | exact HB.out)) hb); have n1_ := Aside0.mk (hbox); have n2_ := Aside0.mk ((by rw [hg]; exact (below_size (by repeat (first | (with_reducible first | exact HB.out | apply below_alloc | apply pw_below_drewN | apply below_drew1) | exact HB.out))) : w.heap.size ≤ gb113)); have n3_ := Aside0.mk ((by rw [hg]; exact (below_size (by repeat (first | (with_reducible first | exact HB.out | apply below_alloc | apply pw_below_drewN | apply below_drew1) | exact HB.out))) : w.heap.size ≤ gb113)); clear HB; have HB := n0_; have BK113 := n1_; have GW113 := n2_; have GE113 := n3_; clear n0_ n1_ n2_ n3_; clear hb hbox hg) | ((with_reducible refine gate_dst (N := 3) rfl ?_); refine box_event ?hg (N := 3) ?hd (cs := #[.int .i64 a1_0, .string a1_1, .string a1_2, .slice A1_3 l1_3.length c1_3]) (t := 38) ?hr ?_; (case hd => rfl); (case hg => rfl); (case hr => first | (go_simp; done) | (go_simp; rfl)); intro gb114 hg w8 hbox hb; have n0_ := Aside0.mk (blk_below (g := gb113) (o := .cells #[.int .i64 a0_0, .string a0_1, .string a0_2, .slice A0_3 l0_3.length c0_3] 38 (0, 0)) (by (with_reducible repeat (first | refine blk_drewN ?_ _ | refine blk_drew ?_ | refine blk_alloc ?_ _)); exact BK113.out) hb); have n1_ := Aside0.mk (below_step (by repeat (first | (with_reducible first | exact HB.out | apply below_alloc | apply pw_below_drewN | apply below_drew1 | refine below_set ?_ GE113.out) | exact HB.out)) hb); have n2_ := Aside0.mk (hbox); have n3_ := Aside0.mk ((by rw [hg]; exact (below_size (by repeat (first | (with_reducible first | exact HB.out | apply below_alloc | apply pw_below_drewN | apply below_drew1 | refine below_set ?_ GE113.out) | exact HB.out))) : w.heap.size ≤ gb114)); have n4_ := Aside0.mk ((by rw [hg]; exact (below_size (by repeat (first | (with_reducible first | exact HB.out | apply below_alloc | apply pw_below_drewN | apply below_drew1 | refine below_set ?_ GE113.out) | exact HB.out))) : w.heap.size ≤ gb114)); have n5_ := Aside0.mk ((by rw [hg]; exact Nat.ne_of_lt (blk_lt (g := gb113) (o := .cells #[.int .i64 a0_0, .string a0_1, .string a0_2, .slice A0_3 l0_3.length c0_3] 38 (0, 0)) (by (with_reducible repeat (first | refine blk_drewN ?_ _ | refine blk_drew ?_ | refine blk_alloc ?_ _)); exact BK113.out)) : gb113 ≠ gb114)); have n6_ := Aside0.mk ((by rw [hg]; exact Nat.ne_of_gt (blk_lt (g := gb113) (o := .cells #[.int .i64 a0_0, .string a0_1, .string a0_2, .slice A0_3 l0_3.length c0_3] 38 (0, 0)) (by (with_reducible repeat (first | refine blk_drewN ?_ _ | refine blk_drew ?_ | refine blk_alloc ?_ _)); exact BK113.out)) : gb114 ≠ gb113)); clear BK113; clear HB; have BK113 := n0_; have HB := n1_; have BK114 := n2_; have GW114 := n3_; have GE114 := n4_; have NB113_114 := n5_; have NB114_113 := n6_; clear n0_ n1_ n2_ n3_ n4_ n5_ n6_; clear hb hbox hg; have hnb9 := NB113_114.out; have hnc9 := NB114_113.out; have hcz10_0 : w8.cell? ⟨gb113, 0, none⟩ = some (.int .i64 a0_0) := (blk_cell BK113.out 0).trans rfl; have hcz10_1 : w8.cell? ⟨gb113, 1, none⟩ = some (.string a0_1) := (blk_cell BK113.out 1).trans rfl; have hcz10_2 : w8.cell? ⟨gb113, 2, none⟩ = some (.string a0_2) := (blk_cell BK113.out 2).trans rfl; have hcz10_3 : w8.cell? ⟨gb113, 3, none⟩ = some (.slice A0_3 l0_3.length c0_3) := (blk_cell BK113.out 3).trans rfl; have hfz10_0 := blk_frozen BK113.out 0; have hfz10_1 := blk_frozen BK113.out 1; have hfz10_2 := blk_frozen BK113.out 2; have hfz10_3 := blk_frozen BK113.out 3; have hcz11_0 : w8.cell? ⟨gb114, 0, none⟩ = some (.int .i64 a1_0) := (blk_cell BK114.out 0).trans rfl; have hcz11_1 : w8.cell? ⟨gb114, 1, none⟩ = some (.string a1_1) := (blk_cell BK114.out 1).trans rfl; have hcz11_2 : w8.cell? ⟨gb114, 2, none⟩ = some (.string a1_2) := (blk_cell BK114.out 2).trans rfl; have hcz11_3 : w8.cell? ⟨gb114, 3, none⟩ = some (.slice A1_3 l1_3.length c1_3) := (blk_cell BK114.out 3).trans rfl; have hfz11_0 := blk_frozen BK114.out 0; have hfz11_1 := blk_frozen BK114.out 1; have hfz11_2 := blk_frozen BK114.out 2; have hfz11_3 := blk_frozen BK114.out 3) | (go_at_call 55; (with_reducible refine (api_Field.calls k _ _ l0_3 _ _ l1_3 t115 _ ?side1 ?side2 ?side3 ?side4 A6.out).mono ?_); (case side1 => repeat (first | exact (Kd.C_below HR0_3.out HB.out) | (with_reducible refine Kd.C_alloc ?_ _) | (with_reducible refine Kd.C_drewN ?_ _) | (with_reducible refine Kd.C_drew ?_))); (case side2 => exact HC0_3.out); (case side3 => repeat (first | exact (Kd.C_below HR1_3.out HB.out) | (with_reducible refine Kd.C_alloc ?_ _) | (with_reducible refine Kd.C_drewN ?_ _) | (with_reducible refine Kd.C_drew ?_))); (case side4 => exact HC1_3.out); rintro e w' ⟨rfl, ⟨nd, rfl⟩⟩))
    go_ret
    exact ⟨by first | rfl | (simp [errW_none, errW_some] <;> rfl) | (simp [*, errW_none, errW_some] <;> rfl), by repeat (first | (with_reducible first | exact HB.out | apply below_alloc | apply pw_below_drewN | apply below_drew1 | refine below_set ?_ GE113.out | refine below_set ?_ GE114.out) | exact HB.out)⟩
   ·
    rw [if_neg c5] at H
    have c5b0 : (a0_2.toList == a1_2.toList) = false := beq_eq_false_iff_ne.mpr c5
    have c5b1 : (a0_2.toList != a1_2.toList) = true := bne_iff_ne.mpr c5
    obtain rfl := Option.some.inj H
    go_enter Tryz.func33, Tryz.ntmps33
    go_wp2_with (first | ((with_reducible refine gate_dst (N := 2) rfl ?_); refine box_event ?hg (N := 2) ?hd (cs := #[.int .i64 a0_0, .string a0_1, .string a0_2, .slice A0_3 l0_3.length c0_3]) (t := 38) ?hr ?_; (case hd => rfl); (case hg => rfl); (case hr => first | (go_simp; done) | (go_simp; rfl)); intro gb113 hg w12 hbox hb; have n0_ := Aside0.mk (below_step (by repeat (first | (with_reducible first | exact HB.out | apply below_alloc | apply pw_below_drewN | apply below_drew1) | exact HB.out)) hb); have n1_ := Aside0.mk (hbox); have n2_ := Aside0.mk ((by rw [hg]; exact (below_size (by repeat (first | (with_reducible first | exact HB.out | apply below_alloc | apply pw_below_drewN | apply below_drew1) | exact HB.out))) : w.heap.size ≤ gb113)); have n3_ := Aside0.mk ((by rw [hg]; exact (below_size (by repeat (first | (with_reducible first | exact HB.out | apply below_alloc | apply pw_below_drewN | apply below_drew1) | exact HB.out))) : w.heap.size ≤ gb113)); clear HB; have HB := n0_; have BK113 := n1_; have GW113 := n2_; have GE113 := n3_; clear n0_ n1_ n2_ n3_; clear hb hbox hg) | ((with_reducible refine gate_dst (N := 3) rfl ?_); refine box_event ?hg (N := 3) ?hd (cs := #[.int .i64 a1_0, .string a1_1, .string a1_2, .slice A1_3 l1_3.length c1_3]) (t := 38) ?hr ?_; (case hd => rfl); (case hg => rfl); (case hr => first | (go_simp; done) | (go_simp; rfl)); intro gb114 hg w13 hbox hb; have n0_ := Aside0.mk (blk_below (g := gb113) (o := .cells #[.int .i64 a0_0, .string a0_1, .string a0_2, .slice A0_3 l0_3.length c0_3] 38 (0, 0)) (by (with_reducible repeat (first | refine blk_drewN ?_ _ | refine blk_drew ?_ | refine blk_alloc ?_ _)); exact BK113.out) hb); have n1_ := Aside0.mk (below_step (by repeat (first | (with_reducible first | exact HB.out | apply below_alloc | apply pw_below_drewN | apply below_drew1 | refine below_set ?_ GE113.out) | exact HB.out)) hb); have n2_ := Aside0.mk (hbox); have n3_ := Aside0.mk ((by rw [hg]; exact (below_size (by repeat (first | (with_reducible first | exact HB.out | apply below_alloc | apply pw_below_drewN | apply below_drew1 | refine below_set ?_ GE113.out) | exact HB.out))) : w.heap.size ≤ gb114)); have n4_ := Aside0.mk ((by rw [hg]; exact (below_size (by repeat (first | (with_reducible first | exact HB.out | apply below_alloc | apply pw_below_drewN | apply below_drew1 | refine below_set ?_ GE113.out) | exact HB.out))) : w.heap.size ≤ gb114)); have n5_ := Aside0.mk ((by rw [hg]; exact Nat.ne_of_lt (blk_lt (g := gb113) (o := .cells #[.int .i64 a0_0, .string a0_1, .string a0_2, .slice A0_3 l0_3.length c0_3] 38 (0, 0)) (by (with_reducible repeat (first | refine blk_drewN ?_ _ | refine blk_drew ?_ | refine blk_alloc ?_ _)); exact BK113.out)) : gb113 ≠ gb114)); have n6_ := Aside0.mk ((by rw [hg]; exact Nat.ne_of_gt (blk_lt (g := gb113) (o := .cells #[.int .i64 a0_0, .string a0_1, .string a0_2, .slice A0_3 l0_3.length c0_3] 38 (0, 0)) (by (with_reducible repeat (first | refine blk_drewN ?_ _ | refine blk_drew ?_ | refine blk_alloc ?_ _)); exact BK113.out)) : gb114 ≠ gb113)); clear BK113; clear HB; have BK113 := n0_; have HB := n1_; have BK114 := n2_; have GW114 := n3_; have GE114 := n4_; have NB113_114 := n5_; have NB114_113 := n6_; clear n0_ n1_ n2_ n3_ n4_ n5_ n6_; clear hb hbox hg; have hnb14 := NB113_114.out; have hnc14 := NB114_113.out; have hcz15_0 : w13.cell? ⟨gb113, 0, none⟩ = some (.int .i64 a0_0) := (blk_cell BK113.out 0).trans rfl; have hcz15_1 : w13.cell? ⟨gb113, 1, none⟩ = some (.string a0_1) := (blk_cell BK113.out 1).trans rfl; have hcz15_2 : w13.cell? ⟨gb113, 2, none⟩ = some (.string a0_2) := (blk_cell BK113.out 2).trans rfl; have hcz15_3 : w13.cell? ⟨gb113, 3, none⟩ = some (.slice A0_3 l0_3.length c0_3) := (blk_cell BK113.out 3).trans rfl; have hfz15_0 := blk_frozen BK113.out 0; have hfz15_1 := blk_frozen BK113.out 1; have hfz15_2 := blk_frozen BK113.out 2; have hfz15_3 := blk_frozen BK113.out 3; have hcz16_0 : w13.cell? ⟨gb114, 0, none⟩ = some (.int .i64 a1_0) := (blk_cell BK114.out 0).trans rfl; have hcz16_1 : w13.cell? ⟨gb114, 1, none⟩ = some (.string a1_1) := (blk_cell BK114.out 1).trans rfl; have hcz16_2 : w13.cell? ⟨gb114, 2, none⟩ = some (.string a1_2) := (blk_cell BK114.out 2).trans rfl; have hcz16_3 : w13.cell? ⟨gb114, 3, none⟩ = some (.slice A1_3 l1_3.length c1_3) := (blk_cell BK114.out 3).trans rfl; have hfz16_0 := blk_frozen BK114.out 0; have hfz16_1 := blk_frozen BK114.out 1; have hfz16_2 := blk_frozen BK114.out 2; have hfz16_3 := blk_frozen BK114.out 3))
    go_ret
    exact ⟨by first | rfl | (simp [errW_none, errW_some] <;> rfl) | (simp [*, errW_none, errW_some] <;> rfl), by repeat (first | (with_reducible first | exact HB.out | apply below_alloc | apply pw_below_drewN | apply below_drew1 | refine below_set ?_ GE113.out | refine below_set ?_ GE114.out) | exact HB.out)⟩
  ·
   rw [if_neg c4] at H
   have c4b0 : (a0_1.toList == a1_1.toList) = false := beq_eq_false_iff_ne.mpr c4
   have c4b1 : (a0_1.toList != a1_1.toList) = true := bne_iff_ne.mpr c4
   obtain rfl := Option.some.inj H
   go_enter Tryz.func33, Tryz.ntmps33
   go_wp2_with (first | ((with_reducible refine gate_dst (N := 2) rfl ?_); refine box_event ?hg (N := 2) ?hd (cs := #[.int .i64 a0_0, .string a0_1, .string a0_2, .slice A0_3 l0_3.length c0_3]) (t := 38) ?hr ?_; (case hd => rfl); (case hg => rfl); (case hr => first | (go_simp; done) | (go_simp; rfl)); intro gb113 hg w17 hbox hb; have n0_ := Aside0.mk (below_step (by repeat (first | (with_reducible first | exact HB.out | apply below_alloc | apply pw_below_drewN | apply below_drew1) | exact HB.out)) hb); have n1_ := Aside0.mk (hbox); have n2_ := Aside0.mk ((by rw [hg]; exact (below_size (by repeat (first | (with_reducible first | exact HB.out | apply below_alloc | apply pw_below_drewN | apply below_drew1) | exact HB.out))) : w.heap.size ≤ gb113)); have n3_ := Aside0.mk ((by rw [hg]; exact (below_size (by repeat (first | (with_reducible first | exact HB.out | apply below_alloc | apply pw_below_drewN | apply below_drew1) | exact HB.out))) : w.heap.size ≤ gb113)); clear HB; have HB := n0_; have BK113 := n1_; have GW113 := n2_; have GE113 := n3_; clear n0_ n1_ n2_ n3_; clear hb hbox hg) | ((with_reducible refine gate_dst (N := 3) rfl ?_); refine box_event ?hg (N := 3) ?hd (cs := #[.int .i64 a1_0, .string a1_1, .string a1_2, .slice A1_3 l1_3.length c1_3]) (t := 38) ?hr ?_; (case hd => rfl); (case hg => rfl); (case hr => first | (go_simp; done) | (go_simp; rfl)); intro gb114 hg w18 hbox hb; have n0_ := Aside0.mk (blk_below (g := gb113) (o := .cells #[.int .i64 a0_0, .string a0_1, .string a0_2, .slice A0_3 l0_3.length c0_3] 38 (0, 0)) (by (with_reducible repeat (first | refine blk_drewN ?_ _ | refine blk_drew ?_ | refine blk_alloc ?_ _)); exact BK113.out) hb); have n1_ := Aside0.mk (below_step (by repeat (first | (with_reducible first | exact HB.out | apply below_alloc | apply pw_below_drewN | apply below_drew1 | refine below_set ?_ GE113.out) | exact HB.out)) hb); have n2_ := Aside0.mk (hbox); have n3_ := Aside0.mk ((by rw [hg]; exact (below_size (by repeat (first | (with_reducible first | exact HB.out | apply below_alloc | apply pw_below_drewN | apply below_drew1 | refine below_set ?_ GE113.out) | exact HB.out))) : w.heap.size ≤ gb114)); have n4_ := Aside0.mk ((by rw [hg]; exact (below_size (by repeat (first | (with_reducible first | exact HB.out | apply below_alloc | apply pw_below_drewN | apply below_drew1 | refine below_set ?_ GE113.out) | exact HB.out))) : w.heap.size ≤ gb114)); have n5_ := Aside0.mk ((by rw [hg]; exact Nat.ne_of_lt (blk_lt (g := gb113) (o := .cells #[.int .i64 a0_0, .string a0_1, .string a0_2, .slice A0_3 l0_3.length c0_3] 38 (0, 0)) (by (with_reducible repeat (first | refine blk_drewN ?_ _ | refine blk_drew ?_ | refine blk_alloc ?_ _)); exact BK113.out)) : gb113 ≠ gb114)); have n6_ := Aside0.mk ((by rw [hg]; exact Nat.ne_of_gt (blk_lt (g := gb113) (o := .cells #[.int .i64 a0_0, .string a0_1, .string a0_2, .slice A0_3 l0_3.length c0_3] 38 (0, 0)) (by (with_reducible repeat (first | refine blk_drewN ?_ _ | refine blk_drew ?_ | refine blk_alloc ?_ _)); exact BK113.out)) : gb114 ≠ gb113)); clear BK113; clear HB; have BK113 := n0_; have HB := n1_; have BK114 := n2_; have GW114 := n3_; have GE114 := n4_; have NB113_114 := n5_; have NB114_113 := n6_; clear n0_ n1_ n2_ n3_ n4_ n5_ n6_; clear hb hbox hg; have hnb19 := NB113_114.out; have hnc19 := NB114_113.out; have hcz20_0 : w18.cell? ⟨gb113, 0, none⟩ = some (.int .i64 a0_0) := (blk_cell BK113.out 0).trans rfl; have hcz20_1 : w18.cell? ⟨gb113, 1, none⟩ = some (.string a0_1) := (blk_cell BK113.out 1).trans rfl; have hcz20_2 : w18.cell? ⟨gb113, 2, none⟩ = some (.string a0_2) := (blk_cell BK113.out 2).trans rfl; have hcz20_3 : w18.cell? ⟨gb113, 3, none⟩ = some (.slice A0_3 l0_3.length c0_3) := (blk_cell BK113.out 3).trans rfl; have hfz20_0 := blk_frozen BK113.out 0; have hfz20_1 := blk_frozen BK113.out 1; have hfz20_2 := blk_frozen BK113.out 2; have hfz20_3 := blk_frozen BK113.out 3; have hcz21_0 : w18.cell? ⟨gb114, 0, none⟩ = some (.int .i64 a1_0) := (blk_cell BK114.out 0).trans rfl; have hcz21_1 : w18.cell? ⟨gb114, 1, none⟩ = some (.string a1_1) := (blk_cell BK114.out 1).trans rfl; have hcz21_2 : w18.cell? ⟨gb114, 2, none⟩ = some (.string a1_2) := (blk_cell BK114.out 2).trans rfl; have hcz21_3 : w18.cell? ⟨gb114, 3, none⟩ = some (.slice A1_3 l1_3.length c1_3) := (blk_cell BK114.out 3).trans rfl; have hfz21_0 := blk_frozen BK114.out 0; have hfz21_1 := blk_frozen BK114.out 1; have hfz21_2 := blk_frozen BK114.out 2; have hfz21_3 := blk_frozen BK114.out 3))
   go_ret
   exact ⟨by first | rfl | (simp [errW_none, errW_some] <;> rfl) | (simp [*, errW_none, errW_some] <;> rfl), by repeat (first | (with_reducible first | exact HB.out | apply below_alloc | apply pw_below_drewN | apply below_drew1 | refine below_set ?_ GE113.out | refine below_set ?_ GE114.out) | exact HB.out)⟩
 ·
  rw [if_neg c3] at H
  have c3b0 : (a0_0 == a1_0) = false := beq_eq_false_iff_ne.mpr c3
  have c3b1 : (a0_0 != a1_0) = true := bne_iff_ne.mpr c3
  obtain rfl := Option.some.inj H
  go_enter Tryz.func33, Tryz.ntmps33
  go_wp2_with (first | ((with_reducible refine gate_dst (N := 2) rfl ?_); refine box_event ?hg (N := 2) ?hd (cs := #[.int .i64 a0_0, .string a0_1, .string a0_2, .slice A0_3 l0_3.length c0_3]) (t := 38) ?hr ?_; (case hd => rfl); (case hg => rfl); (case hr => first | (go_simp; done) | (go_simp; rfl)); intro gb113 hg w22 hbox hb; have n0_ := Aside0.mk (below_step (by repeat (first | (with_reducible first | exact HB.out | apply below_alloc | apply pw_below_drewN | apply below_drew1) | exact HB.out)) hb); have n1_ := Aside0.mk (hbox); have n2_ := Aside0.mk ((by rw [hg]; exact (below_size (by repeat (first | (with_reducible first | exact HB.out | apply below_alloc | apply pw_below_drewN | apply below_drew1) | exact HB.out))) : w.heap.size ≤ gb113)); have n3_ := Aside0.mk ((by rw [hg]; exact (below_size (by repeat (first | (with_reducible first | exact HB.out | apply below_alloc | apply pw_below_drewN | apply below_drew1) | exact HB.out))) : w.heap.size ≤ gb113)); clear HB; have HB := n0_; have BK113 := n1_; have GW113 := n2_; have GE113 := n3_; clear n0_ n1_ n2_ n3_; clear hb hbox hg) | ((with_reducible refine gate_dst (N := 3) rfl ?_); refine box_event ?hg (N := 3) ?hd (cs := #[.int .i64 a1_0, .string a1_1, .string a1_2, .slice A1_3 l1_3.length c1_3]) (t := 38) ?hr ?_; (case hd => rfl); (case hg => rfl); (case hr => first | (go_simp; done) | (go_simp; rfl)); intro gb114 hg w23 hbox hb; have n0_ := Aside0.mk (blk_below (g := gb113) (o := .cells #[.int .i64 a0_0, .string a0_1, .string a0_2, .slice A0_3 l0_3.length c0_3] 38 (0, 0)) (by (with_reducible repeat (first | refine blk_drewN ?_ _ | refine blk_drew ?_ | refine blk_alloc ?_ _)); exact BK113.out) hb); have n1_ := Aside0.mk (below_step (by repeat (first | (with_reducible first | exact HB.out | apply below_alloc | apply pw_below_drewN | apply below_drew1 | refine below_set ?_ GE113.out) | exact HB.out)) hb); have n2_ := Aside0.mk (hbox); have n3_ := Aside0.mk ((by rw [hg]; exact (below_size (by repeat (first | (with_reducible first | exact HB.out | apply below_alloc | apply pw_below_drewN | apply below_drew1 | refine below_set ?_ GE113.out) | exact HB.out))) : w.heap.size ≤ gb114)); have n4_ := Aside0.mk ((by rw [hg]; exact (below_size (by repeat (first | (with_reducible first | exact HB.out | apply below_alloc | apply pw_below_drewN | apply below_drew1 | refine below_set ?_ GE113.out) | exact HB.out))) : w.heap.size ≤ gb114)); have n5_ := Aside0.mk ((by rw [hg]; exact Nat.ne_of_lt (blk_lt (g := gb113) (o := .cells #[.int .i64 a0_0, .string a0_1, .string a0_2, .slice A0_3 l0_3.length c0_3] 38 (0, 0)) (by (with_reducible repeat (first | refine blk_drewN ?_ _ | refine blk_drew ?_ | refine blk_alloc ?_ _)); exact BK113.out)) : gb113 ≠ gb114)); have n6_ := Aside0.mk ((by rw [hg]; exact Nat.ne_of_gt (blk_lt (g := gb113) (o := .cells #[.int .i64 a0_0, .string a0_1, .string a0_2, .slice A0_3 l0_3.length c0_3] 38 (0, 0)) (by (with_reducible repeat (first | refine blk_drewN ?_ _ | refine blk_drew ?_ | refine blk_alloc ?_ _)); exact BK113.out)) : gb114 ≠ gb113)); clear BK113; clear HB; have BK113 := n0_; have HB := n1_; have BK114 := n2_; have GW114 := n3_; have GE114 := n4_; have NB113_114 := n5_; have NB114_113 := n6_; clear n0_ n1_ n2_ n3_ n4_ n5_ n6_; clear hb hbox hg; have hnb24 := NB113_114.out; have hnc24 := NB114_113.out; have hcz25_0 : w23.cell? ⟨gb113, 0, none⟩ = some (.int .i64 a0_0) := (blk_cell BK113.out 0).trans rfl; have hcz25_1 : w23.cell? ⟨gb113, 1, none⟩ = some (.string a0_1) := (blk_cell BK113.out 1).trans rfl; have hcz25_2 : w23.cell? ⟨gb113, 2, none⟩ = some (.string a0_2) := (blk_cell BK113.out 2).trans rfl; have hcz25_3 : w23.cell? ⟨gb113, 3, none⟩ = some (.slice A0_3 l0_3.length c0_3) := (blk_cell BK113.out 3).trans rfl; have hfz25_0 := blk_frozen BK113.out 0; have hfz25_1 := blk_frozen BK113.out 1; have hfz25_2 := blk_frozen BK113.out 2; have hfz25_3 := blk_frozen BK113.out 3; have hcz26_0 : w23.cell? ⟨gb114, 0, none⟩ = some (.int .i64 a1_0) := (blk_cell BK114.out 0).trans rfl; have hcz26_1 : w23.cell? ⟨gb114, 1, none⟩ = some (.string a1_1) := (blk_cell BK114.out 1).trans rfl; have hcz26_2 : w23.cell? ⟨gb114, 2, none⟩ = some (.string a1_2) := (blk_cell BK114.out 2).trans rfl; have hcz26_3 : w23.cell? ⟨gb114, 3, none⟩ = some (.slice A1_3 l1_3.length c1_3) := (blk_cell BK114.out 3).trans rfl; have hfz26_0 := blk_frozen BK114.out 0; have hfz26_1 := blk_frozen BK114.out 1; have hfz26_2 := blk_frozen BK114.out 2; have hfz26_3 := blk_frozen BK114.out 3))
  go_ret
  exact ⟨by first | rfl | (simp [errW_none, errW_some] <;> rfl) | (simp [*, errW_none, errW_some] <;> rfl), by repeat (first | (with_reducible first | exact HB.out | apply below_alloc | apply pw_below_drewN | apply below_drew1 | refine below_set ?_ GE113.out | refine below_set ?_ GE114.out) | exact HB.out)⟩
end Go.Proofs.YtkblmomfiimkiaaGreatDoor.P
end

section
namespace Go.Proofs.YtkblmomfiimkiaaGreatDoor.P
open Go.RowKit Go.Proofs.YtkblmomfiimkiaaGreatDoorW.PrintWords Go.Proofs.YtkblmomfiimkiaaGreatDoorW.PrintLast Go.Proofs.YtkblmomfiimkiaaGreatDoorW.PrintMore
attribute [local go_sem] max2_int min2_int max_two min_two max_three min_three max_four min_four   -- for this text's walks alone
set_option linter.unusedVariables false
set_option linter.unusedSimpArgs false
def slices_Equal_string_string.l0 : Nat → List ByteArray → List ByteArray → Int → Int → Option (Bool)
 | 0, _, _, _, _ => none
 | k + 1, x0, x1, x12, x13 => if x13 < x12 then (if 0 ≤ x13 then (if x13 < (x0.length : Int) then (if x13 < (x1.length : Int) then (if (rdOf ByteArray.empty x0 x13).toList = (rdOf ByteArray.empty x1 x13).toList then (slices_Equal_string_string.l0 k x0 x1 x12 (wrap64 (x13 + 1))) else (some false)) else (none)) else (none)) else (none)) else (some true)
def slices_Equal_string_string.f (k : Nat) (l0 : List ByteArray) (l1 : List ByteArray) : Option (Bool) := if (l0.length : Int) = (l1.length : Int) then (slices_Equal_string_string.l0 k l0 l1 (l0.length : Int) 0) else (some false)
theorem slices_Equal_string_string.mono_l : ∀ k, (∀ y0 y1 y2 y3, LeO (slices_Equal_string_string.l0 k y0 y1 y2 y3) (slices_Equal_string_string.l0 (k + 1) y0 y1 y2 y3))
 | 0 => fun _ _ _ _ r h => by simp [slices_Equal_string_string.l0] at h
 | k + 1 => by
  have ih0 := slices_Equal_string_string.mono_l k
  ·
   intro y0 y1 y2 y3
   unfold slices_Equal_string_string.l0
   repeat' first
   | (with_reducible exact ih0 _ _ _ _)
   | (with_reducible exact LeO.refl _)
   | (with_reducible exact LeO.none _)
   | (with_reducible refine LeO.ite ?_ ?_)
   | (with_reducible refine LeO.bind ?_ (fun _ => ?_))
   | exact ih0 _ _ _ _
   | exact LeO.none _
   | refine LeO.ite ?_ ?_
   | refine LeO.bind ?_ (fun _ => ?_)
theorem slices_Equal_string_string.mono : ∀ a0 a1 k, LeO (slices_Equal_string_string.f k a0 a1) (slices_Equal_string_string.f (k + 1) a0 a1) := by
 intro a0 a1 k
 have ih0 := slices_Equal_string_string.mono_l k
 unfold slices_Equal_string_string.f
 repeat' first
   | (with_reducible exact ih0 _ _ _ _)
   | (with_reducible exact LeO.refl _)
   | (with_reducible exact LeO.none _)
   | (with_reducible refine LeO.ite ?_ ?_)
   | (with_reducible refine LeO.bind ?_ (fun _ => ?_))
   | exact ih0 _ _ _ _
   | exact LeO.none _
   | refine LeO.ite ?_ ?_
   | refine LeO.bind ?_ (fun _ => ?_)
set_option maxHeartbeats 8000000 in
set_option maxRecDepth 100000 in
theorem slices_Equal_string_string.calls (k : Nat) (A0 : Option Addr) (c0 : Nat) (l0 : List ByteArray) (A1 : Option Addr) (c1 : Nat) (l1 : List ByteArray) (r : Bool) (w : World) (hr0 : Kd.C Kd.string w A0 l0.length l0) (hc0 : l0.length ≤ c0) (hr1 : Kd.C Kd.string w A1 l1.length l1) (hc1 : l1.length ≤ c1) (h : slices_Equal_string_string.f k l0 l1 = some r) :
  Calls Tryz.prog 34 #[.slice A0 l0.length c0, .slice A1 l1.length c1] w fun e w' => e = .returned (.bool r) ∧ Drawn0 w w' := by
 have HR0 := Aside0.mk hr0
 have HC0 := Aside0.mk hc0
 clear hr0 hc0
 have HR1 := Aside0.mk hr1
 have HC1 := Aside0.mk hc1
 clear hr1 hc1
 have H : (if (l0.length : Int) = (l1.length : Int) then (slices_Equal_string_string.l0 k l0 l1 (l0.length : Int) 0) else (some false)) = some r := h
 clear h
 by_cases c3 : (l0.length : Int) = (l1.length : Int)
 ·
  rw [if_pos c3] at H
  have c3b0 : ((l0.length : Int) == (l1.length : Int)) = true := beq_iff_eq.mpr c3
  have c3b1 : ((l0.length : Int) != (l1.length : Int)) = false := bne_eq_false_iff_eq.mpr c3
  have c3b2 : (l0.length == l1.length) = true := by first | simpa using c3 | (simp at c3 ⊢; omega)
  clear c3
  have H' := Aside0.mk H
  clear H
  go_enter Tryz.func34, Tryz.ntmps34
  go_wp2
  repeat (go_quiet (fail); try go_wp2)
  go_loopg [13] k (fun kq v13 w' => ∃ (x13_1 : Int), v13 = .int .i64 x13_1 ∧ Aside0 (slices_Equal_string_string.l0 kq l0 l1 (l0.length : Int) x13_1 = some r) ∧ Aside0 (kq ≤ k) ∧ Drawn0 w w')
  case atStart => exact ⟨(0), (by first | rfl | (simp; done) | (simp [*]; done)), H', ⟨Nat.le_refl _⟩, by repeat (first | exact Drawn0.refl _ | apply Drawn0.step)⟩
  case round =>
   clear H'
   try clear c1
   try clear p2
   try clear c3
   try clear c3b0
   try clear c3b1
   try clear c3b2
   obtain ⟨x13_1, rfl, HA, HK1, ⟨m1, rfl⟩⟩ := hrel
   cases gk with
   | zero => exact absurd HA.out (by simp [slices_Equal_string_string.l0])
   | succ k1 =>
    have H := HA.out
    clear HA
    simp only [slices_Equal_string_string.l0] at H
    by_cases c4 : x13_1 < (l0.length : Int)
    ·
     rw [if_pos c4] at H
     have c4b0 : decide (x13_1 < (l0.length : Int)) = true := decide_eq_true c4
     clear c4
     by_cases c5 : 0 ≤ x13_1
     ·
      rw [if_pos c5] at H
      have c5b0 : decide (0 ≤ x13_1) = true := decide_eq_true c5
      clear c5
      by_cases c6 : x13_1 < (l0.length : Int)
      ·
       rw [if_pos c6] at H
       have c6b0 : decide (x13_1 < (l0.length : Int)) = true := decide_eq_true c6
       clear c6
       by_cases c7 : x13_1 < (l1.length : Int)
       ·
        rw [if_pos c7] at H
        have c7b0 : decide (x13_1 < (l1.length : Int)) = true := decide_eq_true c7
        clear c7
        by_cases c8 : (rdOf ByteArray.empty l0 x13_1).toList = (rdOf ByteArray.empty l1 x13_1).toList
        ·
         rw [if_pos c8] at H
         have c8b0 : ((rdOf ByteArray.empty l0 x13_1).toList == (rdOf ByteArray.empty l1 x13_1).toList) = true := beq_iff_eq.mpr c8
         have c8b1 : ((rdOf ByteArray.empty l0 x13_1).toList != (rdOf ByteArray.empty l1 x13_1).toList) = false := bne_eq_false_iff_eq.mpr c8
         clear c8
         have H' := Aside0.mk H
         clear H
         have p116 : 0 ≤ (x13_1 : Int) := of_decide_eq_true (by first | (with_reducible assumption) | assumption)
         have q116 : x13_1 < (l0.length : Int) := of_decide_eq_true (by first | (with_reducible assumption) | assumption)
         obtain ⟨ad116, e116, hx116_0⟩ := Kd.at_string HR0.out x13_1 p116 q116
         cases e116
         replace p116 := eq_true p116
         replace q116 := eq_true q116
         have p117 : 0 ≤ (x13_1 : Int) := of_decide_eq_true (by first | (with_reducible assumption) | assumption)
         have q117 : x13_1 < (l1.length : Int) := of_decide_eq_true (by first | (with_reducible assumption) | assumption)
         obtain ⟨ad117, e117, hx117_0⟩ := Kd.at_string HR1.out x13_1 p117 q117
         cases e117
         replace p117 := eq_true p117
         replace q117 := eq_true q117
         go_wp2
         repeat (go_quiet (fail); try go_wp2)
         go_roundg k1
         case measure => have := HK1.out; omega
         case rel => exact ⟨(wrap64 (x13_1 + 1)), (by first | rfl | (simp; done) | (simp [*]; done)), H', ⟨by have := HK1.out; omega⟩, by repeat (first | exact Drawn0.refl _ | apply Drawn0.step)⟩
        ·
         rw [if_neg c8] at H
         have c8b0 : ((rdOf ByteArray.empty l0 x13_1).toList == (rdOf ByteArray.empty l1 x13_1).toList) = false := beq_eq_false_iff_ne.mpr c8
         have c8b1 : ((rdOf ByteArray.empty l0 x13_1).toList != (rdOf ByteArray.empty l1 x13_1).toList) = true := bne_iff_ne.mpr c8
         obtain rfl := Option.some.inj H
         have p116 : 0 ≤ (x13_1 : Int) := of_decide_eq_true (by first | (with_reducible assumption) | assumption)
         have q116 : x13_1 < (l0.length : Int) := of_decide_eq_true (by first | (with_reducible assumption) | assumption)
         obtain ⟨ad116, e116, hx116_0⟩ := Kd.at_string HR0.out x13_1 p116 q116
         cases e116
         replace p116 := eq_true p116
         replace q116 := eq_true q116
         have p117 : 0 ≤ (x13_1 : Int) := of_decide_eq_true (by first | (with_reducible assumption) | assumption)
         have q117 : x13_1 < (l1.length : Int) := of_decide_eq_true (by first | (with_reducible assumption) | assumption)
         obtain ⟨ad117, e117, hx117_0⟩ := Kd.at_string HR1.out x13_1 p117 q117
         cases e117
         replace p117 := eq_true p117
         replace q117 := eq_true q117
         go_wp2
         repeat (go_quiet (fail); try go_wp2)
         go_ret
         exact ⟨by first | rfl | (simp; done) | (simp [*]; done), by repeat (first | exact Drawn0.refl _ | apply Drawn0.step)⟩
       ·
        rw [if_neg c7] at H
        exact absurd H (by simp)
      ·
       rw [if_neg c6] at H
       exact absurd H (by simp)
     ·
      rw [if_neg c5] at H
      exact absurd H (by simp)
    ·
     rw [if_neg c4] at H
     have c4b0 : decide (x13_1 < (l0.length : Int)) = false := decide_eq_false c4
     clear c4
     obtain rfl := Option.some.inj H
     go_wp2
     repeat (go_quiet (fail); try go_wp2)
     go_ret
     exact ⟨by first | rfl | (simp; done) | (simp [*]; done), by repeat (first | exact Drawn0.refl _ | apply Drawn0.step)⟩
 ·
  rw [if_neg c3] at H
  have c3b0 : ((l0.length : Int) == (l1.length : Int)) = false := beq_eq_false_iff_ne.mpr c3
  have c3b1 : ((l0.length : Int) != (l1.length : Int)) = true := bne_iff_ne.mpr c3
  have c3b2 : (l0.length == l1.length) = false := by first | simpa using c3 | (simp at c3 ⊢; omega)
  obtain rfl := Option.some.inj H
  go_enter Tryz.func34, Tryz.ntmps34
  go_wp2
  repeat (go_quiet (fail); try go_wp2)
  go_ret
  exact ⟨by first | rfl | (simp; done) | (simp [*]; done), by repeat (first | exact Drawn0.refl _ | apply Drawn0.step)⟩
end Go.Proofs.YtkblmomfiimkiaaGreatDoor.P
end

section
namespace Go.Proofs.YtkblmomfiimkiaaGreatDoor.P
open Go.RowKit Go.Proofs.YtkblmomfiimkiaaGreatDoorW.PrintWords Go.Proofs.YtkblmomfiimkiaaGreatDoorW.PrintLast Go.Proofs.YtkblmomfiimkiaaGreatDoorW.PrintMore
noncomputable def eqB {α : Type} (a b : α) : Bool := @decide (a = b) (Classical.propDecidable _)
theorem eqB_true {α : Type} {a b : α} : eqB a b = true ↔ a = b := by unfold eqB; simp
theorem eqB_of {α : Type} {a b : α} (h : a = b) : eqB a b = true := eqB_true.2 h
theorem eqB_ne {α : Type} {a b : α} (h : a ≠ b) : eqB a b = false := by
 cases e : eqB a b
 ·
  rfl
 ·
  exact absurd (eqB_true.1 e) h
theorem eqB_false {α : Type} {a b : α} : eqB a b = false ↔ a ≠ b := ⟨fun h e => Bool.noConfusion ((eqB_of e).symm.trans h), eqB_ne⟩
theorem bytes_eq {a b : ByteArray} : a.toList = b.toList ↔ a = b := by
 rw [Lib.toList_data, Lib.toList_data]
 constructor
 ·
  intro h
  apply ByteArray.ext
  exact Array.ext' h
 ·
  intro h; rw [h]
theorem bytes_beq {a b : ByteArray} : (a.toList == b.toList) = eqB a b := by
 by_cases h : a = b
 ·
  rw [eqB_of h, h]; simp
 ·
  rw [eqB_ne h, beq_eq_false_iff_ne]; exact fun e => h (bytes_eq.1 e)
theorem rdT_nat (l : List S43) (i : Nat) (h : i < l.length) : rd_T43 l (i : Int) = l[i] := by
 unfold rd_T43
 simp [List.getD, List.getElem?_eq_getElem h]
theorem rdOf_nat (l : List ByteArray) (i : Nat) (h : i < l.length) : rdOf ByteArray.empty l (i : Int) = l[i] := by
 unfold rdOf
 simp [List.getD, List.getElem?_eq_getElem h]
theorem wr_nat (i : Nat) (h : i < 9223372036854775807) : wrap64 ((i : Int) + 1) = ((i + 1 : Nat) : Int) := by unfold wrap64; omega
theorem field_ext (x y : S43) : (!(x.f0.toList == y.f0.toList) || (!(x.f1.toList == y.f1.toList))) = !eqB x y := by
 rw [bytes_beq, bytes_beq]
 cases x; cases y
 rename_i a b c d
 by_cases h1 : a = c
 ·
  by_cases h2 : b = d
  ·
   rw [eqB_of h1, eqB_of h2, eqB_of (by rw [h1, h2])]; rfl
  ·
   rw [eqB_of h1, eqB_ne h2, eqB_ne (fun e => h2 (by injection e))]; rfl
 ·
  have e3 : eqB (⟨a, b⟩ : S43) ⟨c, d⟩ = false := eqB_ne (fun e => h1 (by injection e))
  rw [eqB_ne h1, e3]; rfl
theorem eqB_cons {α : Type} (x y : α) (a b : List α) : eqB (x :: a) (y :: b) = (eqB x y && eqB a b) := by
 by_cases h1 : x = y
 ·
  by_cases h2 : a = b
  ·
   rw [eqB_of h1, eqB_of h2, eqB_of (by rw [h1, h2])]; rfl
  ·
   rw [eqB_of h1, eqB_ne h2, eqB_ne (fun e => h2 (by injection e))]; rfl
 ·
  have e3 : eqB (x :: a) (y :: b) = false := eqB_ne (fun e => h1 (by injection e))
  rw [eqB_ne h1, e3]; rfl
theorem eqF_l0 (a b : List S43) (hl : a.length = b.length) (hs : a.length ≤ 4611686018427387904) : ∀ (d i k : Nat), i + d = a.length → d < k →
  api_Field.l0 k a b (a.length : Int) (i : Int) = some (eqB (a.drop i) (b.drop i)) := by
 intro d
 induction d with
 | zero =>
  intro i k h1 h2
  obtain ⟨k, rfl⟩ : ∃ m, k = m + 1 := ⟨k - 1, by omega⟩
  simp only [api_Field.l0]
  rw [if_neg (by omega), List.drop_eq_nil_of_le (by omega), List.drop_eq_nil_of_le (by omega), eqB_of rfl]
 | succ d ih =>
  intro i k h1 h2
  obtain ⟨k, rfl⟩ : ∃ m, k = m + 1 := ⟨k - 1, by omega⟩
  have ha : i < a.length := by omega
  have hb : i < b.length := by omega
  simp only [api_Field.l0]
  rw [if_pos (by omega), if_pos (by omega), if_pos (by omega), if_pos (by omega), rdT_nat a i ha, rdT_nat b i hb, field_ext, wr_nat i (by omega), ih (i + 1) k (by omega) (by omega), List.drop_eq_getElem_cons ha, List.drop_eq_getElem_cons hb, eqB_cons]
  cases eqB a[i] b[i] <;> rfl
theorem eqF_f (a b : List S43) (hs : a.length ≤ 4611686018427387904) (k : Nat) (hk : a.length < k) : api_Field.f k a b = some (eqB a b) := by
 unfold api_Field.f
 by_cases h : a.length = b.length
 ·
  rw [if_pos (by omega)]
  have := eqF_l0 a b h hs a.length 0 k (by omega) hk
  rw [List.drop_zero, List.drop_zero] at this
  exact this
 ·
  rw [if_neg (by omega), eqB_ne (fun e => h (by rw [e]))]
theorem eqS_l0 (a b : List ByteArray) (hl : a.length = b.length) (hs : a.length ≤ 4611686018427387904) : ∀ (d i k : Nat), i + d = a.length → d < k →
  slices_Equal_string_string.l0 k a b (a.length : Int) (i : Int) = some (eqB (a.drop i) (b.drop i)) := by
 intro d
 induction d with
 | zero =>
  intro i k h1 h2
  obtain ⟨k, rfl⟩ : ∃ m, k = m + 1 := ⟨k - 1, by omega⟩
  simp only [slices_Equal_string_string.l0]
  rw [if_neg (by omega), List.drop_eq_nil_of_le (by omega), List.drop_eq_nil_of_le (by omega), eqB_of rfl]
 | succ d ih =>
  intro i k h1 h2
  obtain ⟨k, rfl⟩ : ∃ m, k = m + 1 := ⟨k - 1, by omega⟩
  have ha : i < a.length := by omega
  have hb : i < b.length := by omega
  simp only [slices_Equal_string_string.l0]
  rw [if_pos (by omega), if_pos (by omega), if_pos (by omega), if_pos (by omega), rdOf_nat a i ha, rdOf_nat b i hb, wr_nat i (by omega), ih (i + 1) k (by omega) (by omega), List.drop_eq_getElem_cons ha, List.drop_eq_getElem_cons hb, eqB_cons]
  by_cases h : a[i] = b[i]
  ·
   rw [if_pos (bytes_eq.2 h), eqB_of h]; rfl
  ·
   rw [if_neg (fun e => h (bytes_eq.1 e)), eqB_ne h]; rfl
theorem eqS_f (a b : List ByteArray) (hs : a.length ≤ 4611686018427387904) (k : Nat) (hk : a.length < k) : slices_Equal_string_string.f k a b = some (eqB a b) := by
 unfold slices_Equal_string_string.f
 by_cases h : a.length = b.length
 ·
  rw [if_pos (by omega)]
  have := eqS_l0 a b h hs a.length 0 k (by omega) hk
  rw [List.drop_zero, List.drop_zero] at this
  exact this
 ·
  rw [if_neg (by omega), eqB_ne (fun e => h (by rw [e]))]
theorem same_f (a b : S38) (hs : a.f3.length ≤ 4611686018427387904) (k : Nat) (hk : a.f3.length < k) : field_Same.f k a.f0 a.f1 a.f2 a.f3 b.f0 b.f1 b.f2 b.f3 = some (eqB a b) := by
 unfold field_Same.f
 obtain ⟨a0, a1, a2, a3⟩ := a
 obtain ⟨b0, b1, b2, b3⟩ := b
 dsimp only at hs hk ⊢
 by_cases h0 : a0 = b0
 ·
  rw [if_pos h0]
  by_cases h1 : a1 = b1
  ·
   rw [if_pos (bytes_eq.2 h1)]
   by_cases h2 : a2 = b2
   ·
    rw [if_pos (bytes_eq.2 h2), eqF_f a3 b3 hs k hk, Option.bind_some]
    by_cases h3 : a3 = b3
    ·
     rw [eqB_of h3, eqB_of (by rw [h0, h1, h2, h3])]
    ·
     rw [eqB_ne h3, eqB_ne (fun e => h3 (by injection e))]
   ·
    rw [if_neg (fun e => h2 (bytes_eq.1 e)), eqB_ne (fun e => h2 (by injection e))]
  ·
   rw [if_neg (fun e => h1 (bytes_eq.1 e)), eqB_ne (fun e => h1 (by injection e))]
 ·
  rw [if_neg h0, eqB_ne (fun e => h0 (by injection e))]
end Go.Proofs.YtkblmomfiimkiaaGreatDoor.P
end

section
namespace Go.Proofs.YtkblmomfiimkiaaGreatDoor.P
open Go.RowKit Go.Proofs.YtkblmomfiimkiaaGreatDoorW.PrintWords Go.Proofs.YtkblmomfiimkiaaGreatDoorW.PrintLast Go.Proofs.YtkblmomfiimkiaaGreatDoorW.PrintMore
theorem eqMoney (d : Nat) (w : World) (x0 y0 : ByteArray) (x1 y1 : Int) :
  (Op.equalIn (d + 2) 30 (.agg #[.string x0, .int .i64 x1]) (.agg #[.string y0, .int .i64 y1])).run Tryz.prog w = .ok (x0.toList == y0.toList && (x1 == y1)) w := by
 refine eqA_of Tryz.underlying30 (by kernel_rfl) ?_
 refine eqf_cons (by rfl) (by go_simp; rfl) (by go_simp; rfl) (by go_simp) ?_
 exact eqf_last (by rfl) (by go_simp; rfl) (by go_simp; rfl) (by go_simp)
end Go.Proofs.YtkblmomfiimkiaaGreatDoor.P
end

section
namespace Go.Proofs.YtkblmomfiimkiaaGreatDoor.Sh
open Go.Shelf
def lays169_ren : Go.Shelf.Ren := ⟨fun | 169 => 93 | n => n, fun | 0 => 0 | 3 => 3 | 5 => 5 | 9 => 9 | 37 => 110 | 70 => 109 | 72 => 112 | 127 => 134 | n => n, fun | n => n⟩
theorem lays169 : Go.Proofs.Lays.n169 Tryz.prog lays169_ren := {
 mixed := by kernel_rfl
 f169 := Tryz.func93.trans (congrArg some (by kernel_rfl))
 t0 := Tryz.underlying0
 a0 := Tryz.isAgg0
 z0 := Tryz.sizeOf0
 v0 := Tryz.zeroValue0
 t3 := Tryz.underlying3
 a3 := Tryz.isAgg3
 z3 := Tryz.sizeOf3
 v3 := Tryz.zeroValue3
 t9 := Tryz.underlying9
 a9 := Tryz.isAgg9
 z9 := Tryz.sizeOf9
 v9 := Tryz.zeroValue9
 t37 := Tryz.underlying110
 a37 := Tryz.isAgg110
 z37 := Tryz.sizeOf110
 v37 := Tryz.zeroValue110
 t70 := Tryz.underlying109
 a70 := Tryz.isAgg109
 z70 := Tryz.sizeOf109
 v70 := Tryz.zeroValue109
 t72 := Tryz.underlying112
 a72 := Tryz.isAgg112
 z72 := Tryz.sizeOf112
 v72 := Tryz.zeroValue112
 t127 := Tryz.underlying134
 a127 := Tryz.isAgg134
 z127 := Tryz.sizeOf134
 v127 := Tryz.zeroValue134 }
theorem extra169 : Builder.Extra Tryz.prog lays169_ren := {
 sizeBuilder := by kernel_rfl
 liesBuilder := by kernel_rfl
 t5 := Tryz.underlying5
 a5 := Tryz.isAgg5
 z5 := Tryz.sizeOf5
 v5 := Tryz.zeroValue5
 infoByte := by kernel_rfl
 cellsByte := by kernel_rfl
 sizeByte := by kernel_rfl
 neB5 := by decide }
def lays166_ren : Go.Shelf.Ren := ⟨fun | 166 => 91 | 240 => 109 | 276 => 125 | n => n, fun | 0 => 0 | 3 => 3 | 4 => 4 | 5 => 5 | 9 => 9 | 20 => 20 | 37 => 110 | 70 => 109 | 72 => 112 | 75 => 114 | 80 => 118 | 164 => 148 | n => n, fun | n => n⟩
theorem lays166 : Go.Proofs.Lays.n166 Tryz.prog lays166_ren := {
 mixed := by kernel_rfl
 f166 := Tryz.func91.trans (congrArg some (by kernel_rfl))
 f240 := Tryz.func109.trans (congrArg some (by kernel_rfl))
 f276 := Tryz.func125.trans (congrArg some (by kernel_rfl))
 t0 := Tryz.underlying0
 a0 := Tryz.isAgg0
 z0 := Tryz.sizeOf0
 v0 := Tryz.zeroValue0
 t3 := Tryz.underlying3
 a3 := Tryz.isAgg3
 z3 := Tryz.sizeOf3
 v3 := Tryz.zeroValue3
 t4 := Tryz.underlying4
 a4 := Tryz.isAgg4
 z4 := Tryz.sizeOf4
 v4 := Tryz.zeroValue4
 t9 := Tryz.underlying9
 a9 := Tryz.isAgg9
 z9 := Tryz.sizeOf9
 v9 := Tryz.zeroValue9
 t20 := Tryz.underlying20
 a20 := Tryz.isAgg20
 z20 := Tryz.sizeOf20
 v20 := Tryz.zeroValue20
 t37 := Tryz.underlying110
 a37 := Tryz.isAgg110
 z37 := Tryz.sizeOf110
 v37 := Tryz.zeroValue110
 t70 := Tryz.underlying109
 a70 := Tryz.isAgg109
 z70 := Tryz.sizeOf109
 v70 := Tryz.zeroValue109
 t72 := Tryz.underlying112
 a72 := Tryz.isAgg112
 z72 := Tryz.sizeOf112
 v72 := Tryz.zeroValue112
 t75 := Tryz.underlying114
 a75 := Tryz.isAgg114
 z75 := Tryz.sizeOf114
 v75 := Tryz.zeroValue114
 t164 := Tryz.underlying148
 a164 := Tryz.isAgg148
 z164 := Tryz.sizeOf148
 v164 := Tryz.zeroValue148 }
theorem extra166 : Builder.Extra Tryz.prog lays166_ren := {
 sizeBuilder := by kernel_rfl
 liesBuilder := by kernel_rfl
 t5 := Tryz.underlying5
 a5 := Tryz.isAgg5
 z5 := Tryz.sizeOf5
 v5 := Tryz.zeroValue5
 infoByte := by kernel_rfl
 cellsByte := by kernel_rfl
 sizeByte := by kernel_rfl
 neB5 := by decide }
open Go.RowKit in
theorem Builder_WriteString (B b : Nat) (bs : List Value) (s : ByteArray) (w : World) (h : Lib.IsBuilder 112 5 B b bs w) (hlen : bs.length + s.size ≤ 140737488355328) (hBw : B ≤ w.heap.size) :
  Calls Tryz.prog 91 #[.pointer (some ⟨b, 0, none⟩), .string s] w fun e w' => e = .returned (.tuple #[.int .i64 s.size, .nilIface]) ∧ (Lib.BuilderAt 112 5 B b (.pointer (some ⟨b, 0, none⟩)) (bs ++ Lib.strCells s) w' ∧ Below B w w') := Any.Builder_WriteString lays166 extra166 B b bs s w h hlen hBw
open Go.RowKit in
theorem Builder_String (B b : Nat) (l : List UInt8) (w : World) (h : Lib.IsBuilder 112 5 B b (Lib.byteCells l) w) (hBw : B ≤ w.heap.size) :
  Calls Tryz.prog 93 #[.pointer (some ⟨b, 0, none⟩)] w fun e w' => e = .returned (.string ⟨l.toArray⟩) ∧ Below B w w' := Any.Builder_String_any lays169 extra169 B b l w h hBw
def lays138_ren : Go.Shelf.Ren := ⟨fun | 138 => 121 | 195 => 142 | 218 => 143 | 143 => 123 | 219 => 128 | 217 => 149 | 225 => 150 | 224 => 151 | 267 => 152 | 266 => 172 | 314 => 173 | n => n, fun | 9 => 9 | 3 => 3 | 4 => 4 | 5 => 5 | 0 => 0 | 46 => 183 | 146 => 204 | 51 => 138 | n => n, fun | 1 => 2 | n => n⟩
theorem lays138 : Go.Proofs.Lays.n138 Tryz.prog lays138_ren := {
 mixed := by kernel_rfl
 f138 := Tryz.func121.trans (congrArg some (by kernel_rfl))
 f143 := Tryz.func123.trans (congrArg some (by kernel_rfl))
 f195 := Tryz.func142.trans (congrArg some (by kernel_rfl))
 f217 := Tryz.func149.trans (congrArg some (by kernel_rfl))
 f218 := Tryz.func143.trans (congrArg some (by kernel_rfl))
 f219 := Tryz.func128.trans (congrArg some (by kernel_rfl))
 f224 := Tryz.func151.trans (congrArg some (by kernel_rfl))
 f225 := Tryz.func150.trans (congrArg some (by kernel_rfl))
 f266 := Tryz.func172.trans (congrArg some (by kernel_rfl))
 f267 := Tryz.func152.trans (congrArg some (by kernel_rfl))
 f314 := Tryz.func173.trans (congrArg some (by kernel_rfl))
 t0 := Tryz.underlying0
 a0 := Tryz.isAgg0
 z0 := Tryz.sizeOf0
 v0 := Tryz.zeroValue0
 t3 := Tryz.underlying3
 a3 := Tryz.isAgg3
 z3 := Tryz.sizeOf3
 v3 := Tryz.zeroValue3
 t4 := Tryz.underlying4
 a4 := Tryz.isAgg4
 z4 := Tryz.sizeOf4
 v4 := Tryz.zeroValue4
 t5 := Tryz.underlying5
 a5 := Tryz.isAgg5
 z5 := Tryz.sizeOf5
 v5 := Tryz.zeroValue5
 t9 := Tryz.underlying9
 a9 := Tryz.isAgg9
 z9 := Tryz.sizeOf9
 v9 := Tryz.zeroValue9
 t46 := Tryz.underlying183
 a46 := Tryz.isAgg183
 z46 := Tryz.sizeOf183
 v46 := Tryz.zeroValue183
 t51 := Tryz.underlying138
 a51 := Tryz.isAgg138
 z51 := Tryz.sizeOf138
 v51 := Tryz.zeroValue138
 t146 := Tryz.underlying204
 a146 := Tryz.isAgg204
 z146 := Tryz.sizeOf204
 v146 := Tryz.zeroValue204
 g1 := by kernel_rfl }
open Go.RowKit Go.Lib in
theorem strings_Count_one (s : ByteArray) (c : UInt8) (w : World) :
  Calls Tryz.prog 121 #[.string s, .string ⟨#[c]⟩] w fun e w' => e = .returned (.int .i64 (Lib.countByte s.data.toList c)) ∧ w' = w := Any.strings_Count_one lays138 s c w
def laysGw17_ren : Go.Shelf.Ren := ⟨fun | 17 => 65 | 15 => 100 | 20 => 115 | n => n, fun | 9 => 9 | 23 => 90 | 4 => 4 | 3 => 3 | 0 => 0 | 21 => 21 | n => n, fun | n => n⟩
theorem laysGw17 : Go.Proofs.LaysGw.n17 Tryz.prog laysGw17_ren := {
 mixed := by kernel_rfl
 f15 := Tryz.func100.trans (congrArg some (by kernel_rfl))
 f17 := Tryz.func65.trans (congrArg some (by kernel_rfl))
 f20 := Tryz.func115.trans (congrArg some (by kernel_rfl))
 t0 := Tryz.underlying0
 a0 := Tryz.isAgg0
 z0 := Tryz.sizeOf0
 v0 := Tryz.zeroValue0
 i0 := by kernel_rfl
 t3 := Tryz.underlying3
 a3 := Tryz.isAgg3
 z3 := Tryz.sizeOf3
 v3 := Tryz.zeroValue3
 i3 := by kernel_rfl
 t4 := Tryz.underlying4
 a4 := Tryz.isAgg4
 z4 := Tryz.sizeOf4
 v4 := Tryz.zeroValue4
 i4 := by kernel_rfl
 t9 := Tryz.underlying9
 a9 := Tryz.isAgg9
 z9 := Tryz.sizeOf9
 v9 := Tryz.zeroValue9
 i9 := by kernel_rfl
 t21 := Tryz.underlying21
 a21 := Tryz.isAgg21
 z21 := Tryz.sizeOf21
 v21 := Tryz.zeroValue21
 i21 := by kernel_rfl
 t23 := Tryz.underlying90
 a23 := Tryz.isAgg90
 z23 := Tryz.sizeOf90
 v23 := Tryz.zeroValue90
 i23 := by kernel_rfl }
open Go.RowKit Go.Lib in
theorem strings_ContainsFunc (g : Nat) (lb : Array Value) (eg : ∀ args w, (callFunc g args).run Tryz.prog w = .ok (.enter g args) w) (p : Nat → Bool) (s : ByteArray) (w : World) (hp : PredAt Tryz.prog g lb encR p w) :
  Calls Tryz.prog 65 #[.string s, .func (.func g) #[] lb] w fun e w' => e = .returned (.bool (decide (0 ≤ Lib.idxFunc p true s))) ∧ Below w.heap.size w w' := Any.strings_ContainsFunc laysGw17 g lb eg p s w hp
end Go.Proofs.YtkblmomfiimkiaaGreatDoor.Sh
end

section
namespace Go.Proofs.YtkblmomfiimkiaaGreatDoor.P
open Go.RowKit Go.Proofs.YtkblmomfiimkiaaGreatDoorW.PrintWords Go.Proofs.YtkblmomfiimkiaaGreatDoorW.PrintLast Go.Proofs.YtkblmomfiimkiaaGreatDoorW.PrintMore
theorem rdD_nat (l : List S38) (i : Nat) (h : i < l.length) : rd_T38 l (i : Int) = l[i] := by
 unfold rd_T38
 simp [List.getD, List.getElem?_eq_getElem h]
theorem eqB_take {α : Type} {a b : List α} (i : Nat) (h : i < a.length) (h' : i < b.length) (he : eqB (a.take i) (b.take i) = true) (hx : eqB a[i] b[i] = true) : eqB (a.take (i + 1)) (b.take (i + 1)) = true := by
 rw [eqB_true] at he hx ⊢
 rw [List.take_succ_eq_append_getElem h, List.take_succ_eq_append_getElem h', he, hx]
theorem eqB_not {α : Type} {a b : List α} (i : Nat) (h : i < a.length) (h' : i < b.length) (hx : eqB a[i] b[i] = false) : eqB a b = false := by
 rw [eqB_false] at hx ⊢
 intro e
 apply hx
 subst e
 rfl
set_option maxRecDepth 100000 in
set_option maxHeartbeats 4000000 in
theorem equalDocs (A0 : Option Addr) (c0 : Nat) (l0 : List S38) (A1 : Option Addr) (c1 : Nat) (l1 : List S38) (w : World) (hr0 : Kd.C k38 w A0 l0.length l0) (hr1 : Kd.C k38 w A1 l1.length l1)
  (hz0 : l0.length ≤ 4398046511104) (hf : ∀ x ∈ l0, x.f3.length ≤ 4398046511104) :
  Calls Tryz.prog 32 #[.slice A0 l0.length c0, .slice A1 l1.length c1, .func (.func 33) #[] #[]] w fun e w' => e = .returned (.bool (eqB l0 l1)) ∧ Below w.heap.size w w' := by
 have HR0 := Lib.hid hr0
 have HR1 := Lib.hid hr1
 have HF := Lib.hid hf
 clear hr0 hr1 hf
 by_cases hl : l0.length = l1.length
 ·
  have HL := Lib.hid hl
  have hlb : ((l0.length : Int) != (l1.length : Int)) = false := by rw [bne_eq_false_iff_eq]; omega
  have eg := enters_of (P := Tryz.prog) Tryz.func33 (by kernel_rfl) rfl
  clear hl
  go_enter Tryz.func32, Tryz.ntmps32
  go_wp2_with fail
  go_loopg [17] l0.length (fun g v17 wr => ∃ i : Nat, i ≤ l0.length ∧ l0.length - i ≤ g ∧ v17 = .int .i64 i ∧ Hid (Below w.heap.size w wr) ∧ Hid (eqB (l0.take i) (l1.take i) = true))
  case atStart => exact ⟨0, Nat.zero_le _, by omega, rfl, Lib.hid (Below.refl _ _), Lib.hid (eqB_of rfl)⟩
  case round =>
   rename Nat => G
   obtain ⟨i, hi, hg, rfl, HB, HE⟩ := hrel
   by_cases hlt : i < l0.length
   ·
    have hlt1 : i < l1.length := by rw [← HL.out]; exact hlt
    obtain ⟨ad0, B0, b0, hA0, p0, p1, p2, p3, p4, p5⟩ := at_T38 HR0.out (i : Int) (by omega) (by omega)
    obtain ⟨ad1, B1, b1, hA1, q0, q1, q2, q3, q4, q5⟩ := at_T38 HR1.out (i : Int) (by omega) (by omega)
    rw [Int.toNat_natCast] at p0 p1 p2 p3 q0 q1 q2 q3
    rw [rdD_nat l0 i hlt] at p0 p1 p2 p3 p4 p5
    rw [rdD_nat l1 i hlt1] at q0 q1 q2 q3 q4 q5
    obtain ⟨x, hx⟩ : ∃ x, l0[i] = x := ⟨_, rfl⟩
    obtain ⟨y, hy⟩ : ∃ y, l1[i] = y := ⟨_, rfl⟩
    have hxm : x.f3.length ≤ 4398046511104 := HF.out x (by rw [← hx]; exact List.getElem_mem hlt)
    rw [hx] at p0 p1 p2 p3 p4 p5
    rw [hy] at q0 q1 q2 q3 q4 q5
    replace p0 := pw_cell_below HB.out p0
    replace p1 := pw_cell_below HB.out p1
    replace p2 := pw_cell_below HB.out p2
    replace p3 := pw_cell_below HB.out p3
    replace q0 := pw_cell_below HB.out q0
    replace q1 := pw_cell_below HB.out q1
    replace q2 := pw_cell_below HB.out q2
    replace q3 := pw_cell_below HB.out q3
    have n0 := World.new_ne wr _ q0
    have n1 := World.new_ne wr _ q1
    have n2 := World.new_ne wr _ q2
    have n3 := World.new_ne wr _ q3
    have HX := Lib.hid hx
    have HY := Lib.hid hy
    have P4 := Lib.hid p4
    have P5 := Lib.hid p5
    have Q4 := Lib.hid q4
    have Q5 := Lib.hid q5
    have HXM := Lib.hid hxm
    subst hA0 hA1
    clear hx hy p4 p5 q4 q5 hxm
    go_upto_region 6 with (fail)
    have hb1 : Below wr.heap.size wr (wr.alloc (.cells #[.int .i64 x.f0, .string x.f1, .string x.f2, .slice B0 x.f3.length b0] 38)) := (Below.refl _ wr).alloc (Nat.le_refl _) _
    have hk1 : (wr.alloc (.cells #[.int .i64 x.f0, .string x.f1, .string x.f2, .slice B0 x.f3.length b0] 38)).heap[wr.heap.size]? = some (.cells #[.int .i64 x.f0, .string x.f1, .string x.f2, .slice B0 x.f3.length b0] 38 (0, 0)) := by show (wr.heap.push _)[wr.heap.size]? = _; rw [Array.getElem?_push_size]
    generalize (wr.alloc (.cells #[.int .i64 x.f0, .string x.f1, .string x.f2, .slice B0 x.f3.length b0] 38)) = w1 at hb1 hk1 ⊢
    replace q0 := pw_cell_below hb1 q0
    replace q1 := pw_cell_below hb1 q1
    replace q2 := pw_cell_below hb1 q2
    replace q3 := pw_cell_below hb1 q3
    have HB1 := Lib.hid (below_step HB.out hb1)
    have HK1 := Lib.hid hk1
    clear hb1 hk1 p0 p1 p2 p3 n0 n1 n2 n3
    go_upto_region 7 with (fail)
    have hb2 : Below w1.heap.size w1 (w1.alloc (.cells #[.int .i64 y.f0, .string y.f1, .string y.f2, .slice B1 y.f3.length b1] 38)) := (Below.refl _ w1).alloc (Nat.le_refl _) _
    have hk2 : (w1.alloc (.cells #[.int .i64 y.f0, .string y.f1, .string y.f2, .slice B1 y.f3.length b1] 38)).heap[w1.heap.size]? = some (.cells #[.int .i64 y.f0, .string y.f1, .string y.f2, .slice B1 y.f3.length b1] 38 (0, 0)) := by show (w1.heap.push _)[w1.heap.size]? = _; rw [Array.getElem?_push_size]
    have hk3 := (hb2.block wr.heap.size (blk_lt HK1.out)).trans HK1.out
    generalize (w1.alloc (.cells #[.int .i64 y.f0, .string y.f1, .string y.f2, .slice B1 y.f3.length b1] 38)) = w2 at hb2 hk2 hk3 ⊢
    have HB2 := Lib.hid (below_step HB1.out hb2)
    have m0 := (blk_cell hk3 0).trans rfl
    have m1 := (blk_cell hk3 1).trans rfl
    have m2 := (blk_cell hk3 2).trans rfl
    have m3 := (blk_cell hk3 3).trans rfl
    have s0 := (blk_cell hk2 0).trans rfl
    have s1 := (blk_cell hk2 1).trans rfl
    have s2 := (blk_cell hk2 2).trans rfl
    have s3 := (blk_cell hk2 3).trans rfl
    clear hb2 hk2 hk3 q0 q1 q2 q3
    have hc := field_Same.calls (x.f3.length + 1) x.f0 x.f1 x.f2 B0 b0 x.f3 y.f0 y.f1 y.f2 B1 b1 y.f3 (eqB x y) w2 (Kd.C_below P5.out HB2.out) P4.out (Kd.C_below Q5.out HB2.out) Q4.out (same_f x y (Nat.le_trans HXM.out (by omega)) _ (Nat.lt_succ_self _))
    cases hq : eqB x y with
    | true =>
     rw [hq] at hc
     have HC := Lib.hid hc
     have HQ := Lib.hid hq
     clear hc hq
     go_wp2_with fail
     refine HC.out.mono ?_
     rintro e w3 ⟨rfl, hb3⟩
     have HB3 := Lib.hid (below_step HB2.out hb3)
     clear hb3
     go_wp2_with fail
     go_roundg (l0.length - (i + 1))
     case measure => omega
     case rel => exact ⟨i + 1, by omega, by omega, by go_num, HB3, Lib.hid (eqB_take i hlt hlt1 HE.out (by rw [HX.out, HY.out]; exact HQ.out))⟩
    | false =>
     rw [hq] at hc
     have HC := Lib.hid hc
     have HN := Lib.hid (eqB_not i hlt hlt1 (by rw [HX.out, HY.out]; exact hq))
     clear hc hq
     go_wp2_with fail
     refine HC.out.mono ?_
     rintro e w3 ⟨rfl, hb3⟩
     have HB3 := Lib.hid (below_step HB2.out hb3)
     clear hb3
     go_wp2_with fail
     go_ret
     exact ⟨by rw [HN.out]; rfl, HB3.out⟩
   ·
    obtain rfl : i = l0.length := by omega
    have h1 := HE.out
    rw [List.take_length] at h1
    have h2 : l1.take l0.length = l1 := by rw [HL.out, List.take_length]
    rw [h2] at h1
    have H1 := Lib.hid h1
    clear h1 h2 HE
    go_wp2_with fail
    go_ret
    exact ⟨by rw [H1.out]; rfl, HB.out⟩
 ·
  have hl' : ¬ (l0.length : Int) = (l1.length : Int) := by omega
  have hlb : ((l0.length : Int) != (l1.length : Int)) = true := bne_iff_ne.2 hl'
  have HN := Lib.hid (eqB_ne (a := l0) (b := l1) (fun e => hl (by rw [e])))
  clear hl
  go_enter Tryz.func32, Tryz.ntmps32
  go_wp2_with fail
  go_ret
  exact ⟨by rw [HN.out]; rfl, Below.refl _ _⟩
end Go.Proofs.YtkblmomfiimkiaaGreatDoor.P
end

section
namespace Go.Proofs.YtkblmomfiimkiaaGreatDoor.Fp
def okB (c : UInt8) : Bool := (decide (97 ≤ c.toNat) && decide (c.toNat ≤ 122)) || (decide (48 ≤ c.toNat) && decide (c.toNat ≤ 57)) || decide (c.toNat = 45)
def nameB (l : List UInt8) : Bool := !l.isEmpty && decide (l.length ≤ 16) && l.all okB
def escC (c : UInt8) : List UInt8 := if c = 92 then [92, 92] else if c = 10 then [92, 110] else [c]
def esc (l : List UInt8) : List UInt8 := l.flatMap escC
def lineB (n v : List UInt8) : List UInt8 := n ++ 61 :: (esc v ++ [10])
def mayB (n v : List UInt8) : Bool := nameB n && decide (v.length ≤ 4096)
def unesc : List UInt8 → Option (List UInt8)
 | [] => some []
 | c :: r =>
  if c = 92 then
   match r with
   | [] => none
   | d :: q => if d = 110 then (unesc q).map (10 :: ·) else if d = 92 then (unesc q).map (92 :: ·) else none
  else (unesc r).map (c :: ·)
def cutAt (c : UInt8) : List UInt8 → Option (List UInt8 × List UInt8)
 | [] => none
 | d :: r => if d = c then some ([], r) else (cutAt c r).map fun p => (d :: p.1, p.2)
def lineP (row : List UInt8) : Option (List UInt8 × List UInt8) :=
 (cutAt 61 row).bind fun p => if nameB p.1 = true then (unesc p.2).bind fun v => if v.length ≤ 4096 then some (p.1, v) else none else none
def parseL : Nat → List UInt8 → List (List UInt8 × List UInt8) → List (List UInt8 × List UInt8) × Int × Int
 | n, s, acc =>
  if s = [] then (acc, 0, 0)
  else match n with
   | 0 => ([], 65, 7)
   | m + 1 =>
    match cutAt 10 s with
    | none => ([], 64 - (m : Int), 2)
    | some (row, rest) =>
     match lineP row with
     | none => ([], 64 - (m : Int), 2)
     | some x => parseL m rest (acc ++ [x])
end Go.Proofs.YtkblmomfiimkiaaGreatDoor.Fp
end

section
namespace Go.Proofs.YtkblmomfiimkiaaGreatDoor.P
open Go.RowKit Go.Proofs.YtkblmomfiimkiaaGreatDoorW.PrintWords Go.Proofs.YtkblmomfiimkiaaGreatDoorW.PrintLast Go.Proofs.YtkblmomfiimkiaaGreatDoorW.PrintMore
open Go.Proofs.YtkblmomfiimkiaaGreatDoor.Fp
def field_name.f (a0 : ByteArray) : Option Bool := some (nameB a0.data.toList)
def oddR (r : Nat) : Bool := (decide (r < 97) || decide (122 < r)) && (decide (r < 48) || decide (57 < r)) && !decide (r = 45)
theorem decode_high (s : ByteArray) (pos : Nat) (_h : pos < s.size) (ha : 128 ≤ (s.get! pos).toNat) : 128 ≤ (Utf8.decode s pos).1 := by
 unfold Utf8.decode
 have hr : 128 ≤ Utf8.runeError := by decide
 simp only [Nat.add_zero]
 rw [if_neg (by omega)]
 repeat' split
 all_goals first | exact hr | (simp only [Bool.and_eq_true, decide_eq_true_eq, ge_iff_le] at *; omega) | (dsimp only at *; omega)
theorem oddR_high (r : Nat) (h : 128 ≤ r) : oddR r = true := by
 unfold oddR
 have h1 : decide (122 < r) = true := decide_eq_true (by omega)
 have h2 : decide (57 < r) = true := decide_eq_true (by omega)
 have h3 : decide (r = 45) = false := decide_eq_false (by omega)
 rw [h1, h2, h3]; simp
theorem oddR_low (c : UInt8) : oddR c.toNat = !okB c := by
 unfold oddR okB
 rw [Bool.eq_iff_iff]
 simp
theorem all_drop (s : ByteArray) (pos : Nat) (h : pos < s.size) : (s.data.toList.drop pos).all okB = (okB (s[pos]'h) && (s.data.toList.drop (pos + 1)).all okB) := by
 rw [List.drop_eq_getElem_cons (by simpa using h), List.all_cons]
 rfl
theorem idx_names (s : ByteArray) : ∀ (f pos : Nat), pos ≤ s.size → s.size - pos ≤ f → decide (0 ≤ Lib.idxFuncFrom oddR true s f pos) = !((s.data.toList.drop pos).all okB)
 | 0, pos, hp, hf => by
  have : (s.data.toList.drop pos) = [] := List.drop_eq_nil_of_le (by simp; omega)
  rw [this]; simp [Lib.idxFuncFrom]
 | f + 1, pos, hp, hf => by
  unfold Lib.idxFuncFrom
  split
  ·
   rename_i hlt
   rw [all_drop s pos hlt]
   have hg : s.get! pos = s[pos]'hlt := by
    have hlt' : pos < s.data.size := hlt
    simp [ByteArray.get!, getElem!_def, Array.getElem?_eq_getElem hlt']
    rfl
   by_cases ha : (s[pos]'hlt).toNat < 128
   ·
    rw [decode_ascii s pos hlt ha, oddR_low]
    by_cases hk : okB (s[pos]'hlt) = true
    ·
     rw [hk]
     simp only [Bool.not_true, Bool.false_eq_true, if_false, Bool.true_and]
     exact idx_names s f (pos + 1) (by omega) (by omega)
    ·
     have hk' : okB (s[pos]'hlt) = false := by simpa using hk
     rw [hk']
     simp
   ·
    have h1 := decode_high s pos hlt (by rw [hg]; omega)
    have hk : okB (s[pos]'hlt) = false := by
     have := oddR_low (s[pos]'hlt)
     rw [oddR_high _ (by omega)] at this
     simpa using this.symm
    rw [oddR_high _ h1, hk]
    simp
  ·
   have : (s.data.toList.drop pos) = [] := List.drop_eq_nil_of_le (by simp; omega)
   rw [this]; simp
theorem contains_odd (s : ByteArray) : decide (0 ≤ Lib.idxFunc oddR true s) = !(s.data.toList.all okB) := by
 exact idx_names s s.size 0 (by omega) (by omega)
theorem odd_pays (w : World) : PredAt Tryz.prog 113 #[] encR oddR w := fun W r _ => by
  unfold FnGives
  have z1 : (r : Int) < 97 ↔ r < 97 := by omega
  have z2 : (122 : Int) < (r : Int) ↔ 122 < r := by omega
  have z3 : (r : Int) < 48 ↔ r < 48 := by omega
  have z4 : (57 : Int) < (r : Int) ↔ 57 < r := by omega
  have z5 : (r : Int) = 45 ↔ r = 45 := by omega
  by_cases h1 : r < 97 <;> by_cases h2 : 122 < r <;> by_cases h3 : r < 48 <;> by_cases h4 : 57 < r <;> by_cases h5 : r = 45
  all_goals first
    | (exfalso; omega)
    | (go_enter Tryz.func113, Tryz.ntmps113
       go_wp2
       all_goals first | (exfalso; omega) | (go_ret; exact ⟨by simp [oddR, h1, h2, h3, h4, h5, z5], 0, rfl⟩))
set_option maxHeartbeats 1000000 in
theorem field_name.calls (a0 : ByteArray) (r : Bool) (w : World) (h : field_name.f a0 = some r) :
  Calls Tryz.prog 95 #[.string a0] w fun e w' => e = .returned (.bool r) ∧ Below w.heap.size w w' := by
 unfold field_name.f at h
 obtain rfl := Option.some.inj h
 clear h
 have hC := fun W => Sh.strings_ContainsFunc 113 #[] (enters_of Tryz.func113 (by kernel_rfl) rfl) oddR a0 W (odd_pays W)
 have hn : nameB a0.data.toList = (!a0.data.toList.isEmpty && decide (a0.size ≤ 16) && a0.data.toList.all okB) := by unfold nameB; rw [Array.length_toList]; rfl
 have HN := Lib.hid hn
 clear hn
 have ht : a0.toList = a0.data.toList := Lib.toList_data a0
 by_cases h0 : a0.toList = []
 ·
  have H0 := Lib.hid (ht.symm.trans h0)
  clear ht
  go_enter Tryz.func95, Tryz.ntmps95
  go_wp2_with fail
  all_goals first
   | (exfalso; contradiction)
   | (go_ret; exact ⟨by rw [HN.out, H0.out]; rfl, Below.refl _ _⟩)
 ·
  have H0 : Hid (a0.data.toList.isEmpty = false) := Lib.hid (by rw [← ht]; simpa using h0)
  clear ht
  by_cases h1 : a0.size ≤ 16
  ·
   have H1 := Lib.hid (decide_eq_true h1)
   go_enter Tryz.func95, Tryz.ntmps95
   go_wp2_with (go_at_call 65; refine (hC _).mono ?_; rintro e w' ⟨rfl, hb⟩)
   all_goals first
    | (exfalso; contradiction)
    | (exfalso; omega)
    | (go_ret; exact ⟨by rw [HN.out, H0.out, H1.out, contains_odd]; simp [h0], hb⟩)
  ·
   have H1 := Lib.hid (decide_eq_false h1)
   go_enter Tryz.func95, Tryz.ntmps95
   go_wp2_with fail
   all_goals first
    | (exfalso; contradiction)
    | (exfalso; omega)
    | (go_ret; exact ⟨by rw [HN.out, H0.out, H1.out]; simp, Below.refl _ _⟩)
end Go.Proofs.YtkblmomfiimkiaaGreatDoor.P
end

section
namespace Go.Proofs.YtkblmomfiimkiaaGreatDoor.Fp
open Go.Lib (itoa decDigits parseIntB parseUintB parseUintM)
theorem dec_small {u : Nat} (h : u < 10) : decDigits u = [UInt8.ofNat (48 + u)] := by rw [decDigits, dif_pos h]
theorem dec_big {u : Nat} (h : ¬ u < 10) : decDigits u = decDigits (u / 10) ++ [UInt8.ofNat (48 + u % 10)] := by rw [decDigits, dif_neg h]
theorem dec_ne (u : Nat) : decDigits u ≠ [] := by
 by_cases h : u < 10
 ·
  rw [dec_small h]; simp
 ·
  rw [dec_big h]; simp
def padded (k : Nat) (l : List UInt8) : List UInt8 := List.replicate (k + 1 - l.length) 48 ++ l
def digs : Nat → Nat → List UInt8
 | 0, _ => []
 | d + 1, n => digs d (n / 10) ++ [UInt8.ofNat (48 + n % 10)]
theorem digs_length : ∀ d n, (digs d n).length = d
 | 0, _ => rfl
 | d + 1, n => by rw [digs, List.length_append, digs_length d]; rfl
theorem digs_zero : ∀ d, digs d 0 = List.replicate d 48
 | 0 => rfl
 | d + 1 => by rw [digs, Nat.zero_div, digs_zero d, List.replicate_succ']; rfl
theorem padded_snoc (k : Nat) (l : List UInt8) (c : UInt8) : padded (k + 1) (l ++ [c]) = padded k l ++ [c] := by
 unfold padded
 rw [List.length_append, List.length_singleton, show k + 1 + 1 - (l.length + 1) = k + 1 - l.length by omega, List.append_assoc]
theorem padded_dec : ∀ d n, padded d (decDigits n) = decDigits (n / 10 ^ d) ++ digs d n
 | 0, n => by
  have : 0 < (decDigits n).length := List.length_pos_iff.2 (dec_ne n)
  rw [padded, show 0 + 1 - (decDigits n).length = 0 by omega, digs, List.append_nil, Nat.pow_zero, Nat.div_one]; rfl
 | d + 1, n => by
  by_cases h : n < 10
  ·
   have h0 : n / 10 ^ (d + 1) = 0 := Nat.div_eq_of_lt (Nat.lt_of_lt_of_le h (by rw [Nat.pow_succ]; exact Nat.le_mul_of_pos_left _ (Nat.pow_pos (by decide))))
   have e0 : n / 10 = 0 := by omega
   rw [h0, dec_small h, dec_small (show 0 < 10 by decide), digs, e0, digs_zero, Nat.mod_eq_of_lt h]
   show List.replicate (d + 1) 48 ++ _ = _
   rw [List.replicate_succ]
   rfl
  ·
   rw [dec_big h, padded_snoc, padded_dec d (n / 10), digs, Nat.div_div_eq_div_mul, Nat.pow_succ, Nat.mul_comm 10, List.append_assoc]
def capB (c : UInt8) : Bool := decide (65 ≤ c.toNat) && decide (c.toNat ≤ 90)
def curB (l : List UInt8) : Bool := decide (l.length = 3) && l.all capB
def moneyMay (cur : List UInt8) (n : Int) : Bool := curB cur && (decide (-1099511627776 ≤ n) && decide (n ≤ 1099511627776))
def scaleN (cur : List UInt8) : Nat :=
 if cur = [74, 80, 89] ∨ cur = [75, 82, 87] then 0 else if cur = [66, 72, 68] ∨ cur = [75, 87, 68] ∨ cur = [84, 78, 68] then 3 else 2
def signL (n : Int) : List UInt8 := if n < 0 then [45] else []
def amountL (d : Nat) (n : Nat) : List UInt8 := decDigits (n / 10 ^ d) ++ (if d = 0 then [] else 46 :: digs d n)
def moneyT (cur : List UInt8) (n : Int) : List UInt8 := if moneyMay cur n = true then cur ++ 32 :: (signL n ++ amountL (scaleN cur) n.natAbs) else []
theorem money_cur {cur : List UInt8} {n : Int} (h : moneyMay cur n = true) : cur.length = 3 ∧ (∀ c ∈ cur, 65 ≤ c.toNat ∧ c.toNat ≤ 90) ∧ -1099511627776 ≤ n ∧ n ≤ 1099511627776 := by
 unfold moneyMay curB at h
 simp only [Bool.and_eq_true, decide_eq_true_eq, List.all_eq_true] at h
 refine ⟨h.1.1, fun c hc => ?_, h.2.1, h.2.2⟩
 have := h.1.2 c hc
 unfold capB at this
 simpa using this
end Go.Proofs.YtkblmomfiimkiaaGreatDoor.Fp
end

section
namespace Go.Proofs.YtkblmomfiimkiaaGreatDoor.P
open Go.RowKit Go.Proofs.YtkblmomfiimkiaaGreatDoorW.PrintWords Go.Proofs.YtkblmomfiimkiaaGreatDoorW.PrintLast Go.Proofs.YtkblmomfiimkiaaGreatDoorW.PrintMore
open Go.Proofs.YtkblmomfiimkiaaGreatDoor.Fp
def post_name.f (a0 : ByteArray) : Option Bool := some (nameB a0.data.toList)
theorem odd_paysB (w : World) : PredAt Tryz.prog 64 #[] encR oddR w := fun W r _ => by
  unfold FnGives
  have z1 : (r : Int) < 97 ↔ r < 97 := by omega
  have z2 : (122 : Int) < (r : Int) ↔ 122 < r := by omega
  have z3 : (r : Int) < 48 ↔ r < 48 := by omega
  have z4 : (57 : Int) < (r : Int) ↔ 57 < r := by omega
  have z5 : (r : Int) = 45 ↔ r = 45 := by omega
  by_cases h1 : r < 97 <;> by_cases h2 : 122 < r <;> by_cases h3 : r < 48 <;> by_cases h4 : 57 < r <;> by_cases h5 : r = 45
  all_goals first
    | (exfalso; omega)
    | (go_enter Tryz.func64, Tryz.ntmps64
       go_wp2
       all_goals first | (exfalso; omega) | (go_ret; exact ⟨by simp [oddR, h1, h2, h3, h4, h5, z5], 0, rfl⟩))
set_option maxHeartbeats 1000000 in
theorem post_name.calls (a0 : ByteArray) (r : Bool) (w : World) (h : post_name.f a0 = some r) :
  Calls Tryz.prog 37 #[.string a0] w fun e w' => e = .returned (.bool r) ∧ Below w.heap.size w w' := by
 unfold post_name.f at h
 obtain rfl := Option.some.inj h
 clear h
 have hC := fun W => Sh.strings_ContainsFunc 64 #[] (enters_of Tryz.func64 (by kernel_rfl) rfl) oddR a0 W (odd_paysB W)
 have hn : nameB a0.data.toList = (!a0.data.toList.isEmpty && decide (a0.size ≤ 16) && a0.data.toList.all okB) := by unfold nameB; rw [Array.length_toList]; rfl
 have HN := Lib.hid hn
 clear hn
 have ht : a0.toList = a0.data.toList := Lib.toList_data a0
 by_cases h0 : a0.toList = []
 ·
  have H0 := Lib.hid (ht.symm.trans h0)
  clear ht
  go_enter Tryz.func37, Tryz.ntmps37
  go_wp2_with fail
  all_goals first
   | (exfalso; contradiction)
   | (go_ret; exact ⟨by rw [HN.out, H0.out]; rfl, Below.refl _ _⟩)
 ·
  have H0 : Hid (a0.data.toList.isEmpty = false) := Lib.hid (by rw [← ht]; simpa using h0)
  clear ht
  by_cases h1 : a0.size ≤ 16
  ·
   have H1 := Lib.hid (decide_eq_true h1)
   go_enter Tryz.func37, Tryz.ntmps37
   go_wp2_with (go_at_call 65; refine (hC _).mono ?_; rintro e w' ⟨rfl, hb⟩)
   all_goals first
    | (exfalso; contradiction)
    | (exfalso; omega)
    | (go_ret; exact ⟨by rw [HN.out, H0.out, H1.out, contains_odd]; simp [h0], hb⟩)
  ·
   have H1 := Lib.hid (decide_eq_false h1)
   go_enter Tryz.func37, Tryz.ntmps37
   go_wp2_with fail
   all_goals first
    | (exfalso; contradiction)
    | (exfalso; omega)
    | (go_ret; exact ⟨by rw [HN.out, H0.out, H1.out]; simp, Below.refl _ _⟩)
def capR (r : Nat) : Bool := decide (r < 65) || decide (90 < r)
theorem capR_high (r : Nat) (h : 128 ≤ r) : capR r = true := by unfold capR; rw [decide_eq_true (show 90 < r by omega)]; simp
theorem capR_low (c : UInt8) : capR c.toNat = !capB c := by
 unfold capR capB
 rw [Bool.eq_iff_iff]
 simp
theorem cap_drop (s : ByteArray) (pos : Nat) (h : pos < s.size) : (s.data.toList.drop pos).all capB = (capB (s[pos]'h) && (s.data.toList.drop (pos + 1)).all capB) := by
 rw [List.drop_eq_getElem_cons (by simpa using h), List.all_cons]
 rfl
theorem idx_caps (s : ByteArray) : ∀ (f pos : Nat), pos ≤ s.size → s.size - pos ≤ f → decide (0 ≤ Lib.idxFuncFrom capR true s f pos) = !((s.data.toList.drop pos).all capB)
 | 0, pos, hp, hf => by
  have : (s.data.toList.drop pos) = [] := List.drop_eq_nil_of_le (by simp; omega)
  rw [this]; simp [Lib.idxFuncFrom]
 | f + 1, pos, hp, hf => by
  unfold Lib.idxFuncFrom
  split
  ·
   rename_i hlt
   rw [cap_drop s pos hlt]
   have hg : s.get! pos = s[pos]'hlt := by
    have hlt' : pos < s.data.size := hlt
    simp [ByteArray.get!, getElem!_def, Array.getElem?_eq_getElem hlt']
    rfl
   by_cases ha : (s[pos]'hlt).toNat < 128
   ·
    rw [decode_ascii s pos hlt ha, capR_low]
    by_cases hk : capB (s[pos]'hlt) = true
    ·
     rw [hk]
     simp only [Bool.not_true, Bool.false_eq_true, if_false, Bool.true_and]
     exact idx_caps s f (pos + 1) (by omega) (by omega)
    ·
     have hk' : capB (s[pos]'hlt) = false := by simpa using hk
     rw [hk']
     simp
   ·
    have h1 := decode_high s pos hlt (by rw [hg]; omega)
    have hk : capB (s[pos]'hlt) = false := by
     have := capR_low (s[pos]'hlt)
     rw [capR_high _ (by omega)] at this
     simpa using this.symm
    rw [capR_high _ h1, hk]
    simp
  ·
   have : (s.data.toList.drop pos) = [] := List.drop_eq_nil_of_le (by simp; omega)
   rw [this]; simp
theorem contains_cap (s : ByteArray) : decide (0 ≤ Lib.idxFunc capR true s) = !(s.data.toList.all capB) := idx_caps s s.size 0 (by omega) (by omega)
theorem cap_pays (w : World) : PredAt Tryz.prog 101 #[] encR capR w := fun W r _ => by
  unfold FnGives
  have z1 : (r : Int) < 65 ↔ r < 65 := by omega
  have z2 : (90 : Int) < (r : Int) ↔ 90 < r := by omega
  by_cases h1 : r < 65 <;> by_cases h2 : 90 < r
  all_goals first
    | (exfalso; omega)
    | (go_enter Tryz.func101, Tryz.ntmps101
       go_wp2
       all_goals first | (exfalso; omega) | (go_ret; exact ⟨by simp [capR, h1, h2], 0, rfl⟩))
def money_currency.f (a0 : ByteArray) : Option Bool := some (curB a0.data.toList)
set_option maxHeartbeats 1000000 in
theorem money_currency.calls (a0 : ByteArray) (r : Bool) (w : World) (h : money_currency.f a0 = some r) :
  Calls Tryz.prog 66 #[.string a0] w fun e w' => e = .returned (.bool r) ∧ Below w.heap.size w w' := by
 unfold money_currency.f at h
 obtain rfl := Option.some.inj h
 clear h
 have hC := fun W => Sh.strings_ContainsFunc 101 #[] (enters_of Tryz.func101 (by kernel_rfl) rfl) capR a0 W (cap_pays W)
 have hn : curB a0.data.toList = (decide (a0.size = 3) && a0.data.toList.all capB) := by unfold curB; rw [Array.length_toList]; rfl
 have HN := Lib.hid hn
 clear hn
 by_cases h1 : a0.size = 3
 ·
  have H1 := Lib.hid h1
  have h1' : (a0.size : Int) = 3 := by omega
  have hb1 : (((a0.size : Nat) : Int) == 3) = true := by simp [h1]
  clear h1 
  go_enter Tryz.func66, Tryz.ntmps66
  go_wp2_with (go_at_call 65; refine (hC _).mono ?_; rintro e w' ⟨rfl, hb⟩)
  all_goals first
   | (exfalso; contradiction)
   | (exfalso; omega)
   | (go_ret; exact ⟨by rw [HN.out, contains_cap, H1.out]; simp, hb⟩)
 ·
  have h1' : ¬ (a0.size : Int) = 3 := by omega
  have hb1 : (((a0.size : Nat) : Int) == 3) = false := by simpa using h1'
  go_enter Tryz.func66, Tryz.ntmps66
  go_wp2_with fail
  all_goals first
   | (exfalso; contradiction)
   | (exfalso; omega)
   | (go_ret; exact ⟨by rw [HN.out]; simp [h1], Below.refl _ _⟩)
end Go.Proofs.YtkblmomfiimkiaaGreatDoor.P
end

section
namespace Go.Proofs.YtkblmomfiimkiaaGreatDoor.P
open Go.RowKit Go.Proofs.YtkblmomfiimkiaaGreatDoorW.PrintWords Go.Proofs.YtkblmomfiimkiaaGreatDoorW.PrintLast Go.Proofs.YtkblmomfiimkiaaGreatDoorW.PrintMore
attribute [local go_sem] max2_int min2_int max_two min_two max_three min_three max_four min_four   -- for this text's walks alone
set_option linter.unusedVariables false
set_option linter.unusedSimpArgs false
def field_kinds.f  : Option (List ByteArray) := some (([(⟨#[105, 110, 118, 111, 105, 99, 101]⟩ : ByteArray), (⟨#[112, 97, 99, 107, 105, 110, 103]⟩ : ByteArray), (⟨#[108, 97, 100, 105, 110, 103]⟩ : ByteArray), (⟨#[105, 110, 115, 117, 114, 97, 110, 99, 101]⟩ : ByteArray), (⟨#[111, 114, 105, 103, 105, 110]⟩ : ByteArray), (⟨#[100, 114, 97, 102, 116]⟩ : ByteArray)] : List ByteArray))
set_option maxHeartbeats 8000000 in
set_option maxRecDepth 100000 in
theorem field_kinds.calls  (r : List ByteArray) (w : World) (h : field_kinds.f  = some r) :
  Calls Tryz.prog 102 #[] w fun e w' => ∃ v0_ : Value, e = .returned (v0_) ∧ Kd.R Kd.string 9 w' w.heap.size (fun _ => True) v0_ r ∧ Below w.heap.size w w' := by
 have HB := Aside0.mk (Below.refl w.heap.size w)
 have H : (some (([(⟨#[105, 110, 118, 111, 105, 99, 101]⟩ : ByteArray), (⟨#[112, 97, 99, 107, 105, 110, 103]⟩ : ByteArray), (⟨#[108, 97, 100, 105, 110, 103]⟩ : ByteArray), (⟨#[105, 110, 115, 117, 114, 97, 110, 99, 101]⟩ : ByteArray), (⟨#[111, 114, 105, 103, 105, 110]⟩ : ByteArray), (⟨#[100, 114, 97, 102, 116]⟩ : ByteArray)] : List ByteArray))) = some r := h
 clear h
 obtain ⟨y123, hy123⟩ : ∃ y_ : List ByteArray, y_ = (([(⟨#[105, 110, 118, 111, 105, 99, 101]⟩ : ByteArray), (⟨#[112, 97, 99, 107, 105, 110, 103]⟩ : ByteArray), (⟨#[108, 97, 100, 105, 110, 103]⟩ : ByteArray), (⟨#[105, 110, 115, 117, 114, 97, 110, 99, 101]⟩ : ByteArray), (⟨#[111, 114, 105, 103, 105, 110]⟩ : ByteArray), (⟨#[100, 114, 97, 102, 116]⟩ : ByteArray)] : List ByteArray)) := ⟨_, rfl⟩
 replace H : (some y123) = some r := by first | (rw [hy123]; with_reducible exact H) | (have H2_ := (Option.bind_some _ _).symm.trans H; rw [hy123]; with_reducible exact H2_) | (have H2_ := (Option.bind_some _ _).symm.trans H; with_reducible exact H2_) | with_reducible exact H | (rw [hy123]; exact H) | exact H
 have Ny123 := Aside0.mk hy123
 clear hy123
 obtain rfl := Option.some.inj H
 go_enter Tryz.func102, Tryz.ntmps102
 go_wp2_with (first | ((with_reducible refine gate_dst (N := 1) rfl ?_); refine Kd.R_lit Kd.string _ 9 ?hg (N := 1) ?hd (xs := ([(⟨#[105, 110, 118, 111, 105, 99, 101]⟩ : ByteArray), (⟨#[112, 97, 99, 107, 105, 110, 103]⟩ : ByteArray), (⟨#[108, 97, 100, 105, 110, 103]⟩ : ByteArray), (⟨#[105, 110, 115, 117, 114, 97, 110, 99, 101]⟩ : ByteArray), (⟨#[111, 114, 105, 103, 105, 110]⟩ : ByteArray), (⟨#[100, 114, 97, 102, 116]⟩ : ByteArray)] : List ByteArray)) (inner := [.string (⟨#[105, 110, 118, 111, 105, 99, 101]⟩ : ByteArray), .string (⟨#[112, 97, 99, 107, 105, 110, 103]⟩ : ByteArray), .string (⟨#[108, 97, 100, 105, 110, 103]⟩ : ByteArray), .string (⟨#[105, 110, 115, 117, 114, 97, 110, 99, 101]⟩ : ByteArray), .string (⟨#[111, 114, 105, 103, 105, 110]⟩ : ByteArray), .string (⟨#[100, 114, 97, 102, 116]⟩ : ByteArray)]) (ok := fun _ => True) (okp := fun _ => True) ?hr ?hp (fun _ hk => hk) trivial (Below.refl _ _) (Nat.le_refl _) (by simp) ?_; (case hd => rfl); (case hg => rfl); (case hr => first | (go_simp; done) | (go_simp; rfl)); (case hp => exact (Reps.one (show Kd.M Kd.string _ _ _ (⟨#[105, 110, 118, 111, 105, 99, 101]⟩ : ByteArray) [.string (⟨#[105, 110, 118, 111, 105, 99, 101]⟩ : ByteArray)] from rfl) (Reps.one (show Kd.M Kd.string _ _ _ (⟨#[112, 97, 99, 107, 105, 110, 103]⟩ : ByteArray) [.string (⟨#[112, 97, 99, 107, 105, 110, 103]⟩ : ByteArray)] from rfl) (Reps.one (show Kd.M Kd.string _ _ _ (⟨#[108, 97, 100, 105, 110, 103]⟩ : ByteArray) [.string (⟨#[108, 97, 100, 105, 110, 103]⟩ : ByteArray)] from rfl) (Reps.one (show Kd.M Kd.string _ _ _ (⟨#[105, 110, 115, 117, 114, 97, 110, 99, 101]⟩ : ByteArray) [.string (⟨#[105, 110, 115, 117, 114, 97, 110, 99, 101]⟩ : ByteArray)] from rfl) (Reps.one (show Kd.M Kd.string _ _ _ (⟨#[111, 114, 105, 103, 105, 110]⟩ : ByteArray) [.string (⟨#[111, 114, 105, 103, 105, 110]⟩ : ByteArray)] from rfl) (Reps.one (show Kd.M Kd.string _ _ _ (⟨#[100, 114, 97, 102, 116]⟩ : ByteArray) [.string (⟨#[100, 114, 97, 102, 116]⟩ : ByteArray)] from rfl) (Reps.none _ _)))))))); intro v124 w1 ho2 hb hg_ hnew_; clear hg_ hnew_; (first | rw [← Ny123.out] at ho2 | (simp only [Int.reduceToNat] at ho2; rw [← Ny123.out] at ho2)); have n0_ := Aside0.mk (Kd.R_lower ho2 (below_size (by repeat (first | (with_reducible first | exact HB.out | apply below_alloc | apply pw_below_drewN | apply below_drew1) | exact HB.out)))); have n1_ := Aside0.mk (below_step (by repeat (first | (with_reducible first | exact HB.out | apply below_alloc | apply pw_below_drewN | apply below_drew1) | exact HB.out)) hb); clear HB; have HO125 := n0_; have HB := n1_; clear n0_ n1_; clear hb ho2))
 go_ret
 exact ⟨_, by first | rfl | (simp [errW_none, errW_some] <;> rfl) | (simp [*, errW_none, errW_some] <;> rfl), by (with_reducible repeat (first | apply Kd.R_alloc | apply Kd.R_drewN | apply Kd.R_drew)); exact HO125.out, by repeat (first | (with_reducible first | exact HB.out | apply below_alloc | apply pw_below_drewN | apply below_drew1) | exact HB.out)⟩
end Go.Proofs.YtkblmomfiimkiaaGreatDoor.P
end

section
namespace Go.Proofs.YtkblmomfiimkiaaGreatDoor.P
open Go.RowKit
noncomputable def Zr (n : Nat) : Array Value := Tryz.zeroCells228.setIfInBounds 256 (.slice (some ⟨n, 0, none⟩) 0 2)
theorem Zr_size (n : Nat) : (Zr n).size = 257 := by unfold Zr; rw [Array.size_setIfInBounds]; kernel_rfl
theorem zero_one : Tryz.zeroCells228.all (·.oneCell') = true := by kernel_rfl
theorem Zr_one (n : Nat) : (Zr n).all (·.oneCell') = true := by
 unfold Zr
 rw [Array.all_eq_true_iff_forall_mem]
 intro x hx
 rcases Array.mem_or_eq_of_mem_setIfInBounds hx with h | h
 ·
  exact (Array.all_eq_true_iff_forall_mem.1 zero_one) x h
 ·
  subst h; rfl
theorem Zr_toList (n : Nat) : (Zr n).toList = Tryz.zeroCells228.toList.set 256 (.slice (some ⟨n, 0, none⟩) 0 2) := by
 unfold Zr; rw [Array.toList_setIfInBounds]
theorem Zr_low (n b : Nat) (h : b < 256) : (Zr n)[b]? = some (.slice none 0 0) := by
 unfold Zr
 rw [Array.getElem?_setIfInBounds_ne (by omega)]
 have e : Tryz.zeroCells228 = Array.replicate 257 (.slice none 0 0) := by kernel_rfl
 rw [e, Array.getElem?_replicate, if_pos (by omega)]
theorem Zr_at (n b : Nat) (hb : b < 256) : ∀ h, (Zr n)[b]'h = .slice none 0 0 := fun h => by
 have := Zr_low n b hb
 rw [Array.getElem?_eq_getElem h] at this
 exact Option.some.inj this
theorem Zr_high (n : Nat) : (Zr n)[256]? = some (.slice (some ⟨n, 0, none⟩) 0 2) := by
 unfold Zr
 have : Tryz.zeroCells228.size = 257 := by kernel_rfl
 rw [Array.getElem?_setIfInBounds_self]
 simp [this]
theorem append_one (P : Program) (t ty e : TypeId) (i : TypeInfo) (ht : P.underlying t = some (.slice e)) (hi : P.info? e = some i) (hs : i.size = 1) (W : World) (b sLen sCap c : Nat) (a : Addr) (v : Value)
  (hv : W.cell? a = some v) (h1 : v.oneCell' = true) (hroom : sLen + 1 ≤ sCap) (hc : (W.cell? ⟨b, sLen, none⟩).isSome = true) (hf : W.frozen? ⟨b, sLen, none⟩ = false) :
  (Builtin.append_ #[t, t] ty #[.slice (some ⟨b, 0, none⟩) sLen sCap, .slice (some a) 1 c]).run P W = .ok (.slice (some ⟨b, 0, none⟩) (sLen + 1) sCap) (W.setCell ⟨b, sLen, none⟩ v) := by
 have h := run_append_room_cells (P := P) W t ty e i ht hi b 0 sLen sCap a 1 c [v] (by simp [hs]) (fun j u hj => by
  rcases j with _ | j
  ·
   simp at hj; subst hj; rw [Addr.add_zero']; exact hv
  ·
   simp at hj) (fun u hu => by simp at hu; subst hu; exact h1) hroom (fun j hj => by
  obtain rfl : j = 0 := by simp at hj; omega
  simpa [hs] using hc) (fun j hj => by
  obtain rfl : j = 0 := by simp at hj; omega
  simpa [hs] using hf)
 rw [h]
 simp [World.setCells, hs]
theorem bytes_two (P : Program) (src dst e : TypeId) (hs : P.underlying src = some .string) (hd : P.underlying dst = some (.slice e)) (he : P.underlying e = some (.int .u8)) (W : World) (a b : UInt8) :
  ∃ c C fr, (convert src dst (.string ⟨#[a, b]⟩)).run P W = .ok (.slice (some ⟨W.heap.size, 0, none⟩) 2 c) ((W.alloc (.cells C e fr)).drew) ∧ C[0]? = some (.int .u8 a.toNat) ∧ C[1]? = some (.int .u8 b.toNat) :=
 ⟨_, _, _, run_bytes_of_string W src dst e ⟨#[a, b]⟩ hs hd he, bytesRow_at ⟨#[a, b]⟩ _ 0 (by simp), bytesRow_at ⟨#[a, b]⟩ _ 1 (by simp)⟩
def repAt (x y : Nat) (cx cy : Nat) (b : Nat) : Value := if b = 10 then .slice (some ⟨x, 0, none⟩) 2 cx else if b = 92 then .slice (some ⟨y, 0, none⟩) 2 cy else .slice none 0 0
def IsBsr (lo b : Nat) (w : World) : Prop := ∃ x y t cx cy : Nat, (lo ≤ b ∧ b < w.heap.size) ∧ (lo ≤ x ∧ x < w.heap.size) ∧ (lo ≤ y ∧ y < w.heap.size) ∧ (lo ≤ t ∧ t < w.heap.size) ∧
 (∀ j, j < 256 → w.cell? ⟨b, j, none⟩ = some (repAt x y cx cy j)) ∧ w.cell? ⟨b, 256, none⟩ = some (.slice (some ⟨t, 0, none⟩) 2 2) ∧
 (w.cell? ⟨x, 0, none⟩ = some (.int .u8 92) ∧ w.cell? ⟨x, 1, none⟩ = some (.int .u8 110)) ∧ (w.cell? ⟨y, 0, none⟩ = some (.int .u8 92) ∧ w.cell? ⟨y, 1, none⟩ = some (.int .u8 92)) ∧
 (w.cell? ⟨t, 0, none⟩ = some (.string ⟨#[10]⟩) ∧ w.cell? ⟨t, 1, none⟩ = some (.string ⟨#[92]⟩))
theorem IsBsr.step {lo b : Nat} {w w' : World} (h : IsBsr lo b w) (hs : w.heap.size ≤ w'.heap.size) (hb : ∀ g, lo ≤ g → g < w.heap.size → ∀ o, w'.cell? ⟨g, o, none⟩ = w.cell? ⟨g, o, none⟩) : IsBsr lo b w' := by
 obtain ⟨x, y, t, cx, cy, ⟨b0, b1⟩, ⟨x0, x1⟩, ⟨y0, y1⟩, ⟨t0, t1⟩, hr, hl, ⟨hx0, hx1⟩, ⟨hy0, hy1⟩, ht0, ht1⟩ := h
 exact ⟨x, y, t, cx, cy, ⟨b0, by omega⟩, ⟨x0, by omega⟩, ⟨y0, by omega⟩, ⟨t0, by omega⟩, fun j hj => (hb b b0 b1 j).trans (hr j hj), (hb b b0 b1 _).trans hl, ⟨(hb x x0 x1 _).trans hx0, (hb x x0 x1 _).trans hx1⟩, ⟨(hb y y0 y1 _).trans hy0, (hb y y0 y1 _).trans hy1⟩, (hb t t0 t1 _).trans ht0, (hb t t0 t1 _).trans ht1⟩
theorem IsBsr.below {lo b : Nat} {w w' : World} (h : IsBsr lo b w) (hb : Below w.heap.size w w') : IsBsr lo b w' :=
 h.step hb.size (fun g _ hg o => hb.cell (p := ⟨g, o, none⟩) hg)
theorem bsr_made (w : World) (c1 c2 : Nat) (C1 C2 : Array Value) (fr1 fr2 : Nat × Nat) (hC10 : C1[0]? = some (.int .u8 92)) (hC11 : C1[1]? = some (.int .u8 110)) (hC20 : C2[0]? = some (.int .u8 92)) (hC21 : C2[1]? = some (.int .u8 92)) :
  IsBsr w.heap.size (w.heap.size + 1) (((((((((w.alloc (.cells #[.string ⟨#[10]⟩, .string ⟨#[92]⟩] 9)).alloc (.cells (((((Zr w.heap.size).setIfInBounds 256 (.slice (some ⟨w.heap.size, 0, none⟩) 1 2)).setIfInBounds 10 (.slice (some ⟨w.heap.size + 1 + 1 + 1 + 1, 0, none⟩) 2 c1)).setIfInBounds 256 (.slice (some ⟨w.heap.size, 0, none⟩) 2 2)).setIfInBounds 92 (.slice (some ⟨w.heap.size + 1 + 1 + 1 + 1 + 1 + 1 + 1, 0, none⟩) 2 c2)) 228)).alloc (.cells #[.int .u8 10] 5)).alloc (.cells #[.string ⟨#[10]⟩] 9)).alloc (.cells C1 5 fr1)).alloc (.cells #[.int .u8 92] 5)).alloc (.cells #[.string ⟨#[92]⟩] 9)).alloc (.cells C2 5 fr2)).drew.drew) := by
 have hz : (((((((((w.alloc (.cells #[.string ⟨#[10]⟩, .string ⟨#[92]⟩] 9)).alloc (.cells (((((Zr w.heap.size).setIfInBounds 256 (.slice (some ⟨w.heap.size, 0, none⟩) 1 2)).setIfInBounds 10 (.slice (some ⟨w.heap.size + 1 + 1 + 1 + 1, 0, none⟩) 2 c1)).setIfInBounds 256 (.slice (some ⟨w.heap.size, 0, none⟩) 2 2)).setIfInBounds 92 (.slice (some ⟨w.heap.size + 1 + 1 + 1 + 1 + 1 + 1 + 1, 0, none⟩) 2 c2)) 228)).alloc (.cells #[.int .u8 10] 5)).alloc (.cells #[.string ⟨#[10]⟩] 9)).alloc (.cells C1 5 fr1)).alloc (.cells #[.int .u8 92] 5)).alloc (.cells #[.string ⟨#[92]⟩] 9)).alloc (.cells C2 5 fr2)).drew.drew).heap.size = w.heap.size + 1 + 1 + 1 + 1 + 1 + 1 + 1 + 1 := by simp
 refine ⟨w.heap.size + 1 + 1 + 1 + 1, w.heap.size + 1 + 1 + 1 + 1 + 1 + 1 + 1, w.heap.size, c1, c2, ⟨by omega, by rw [hz]; omega⟩, ⟨by omega, by rw [hz]; omega⟩, ⟨by omega, by rw [hz]; omega⟩, ⟨by omega, by rw [hz]; omega⟩, ?_, ?_, ⟨?_, ?_⟩, ⟨?_, ?_⟩, ?_, ?_⟩
 ·
  intro j hj
  have e : (((((((((w.alloc (.cells #[.string ⟨#[10]⟩, .string ⟨#[92]⟩] 9)).alloc (.cells (((((Zr w.heap.size).setIfInBounds 256 (.slice (some ⟨w.heap.size, 0, none⟩) 1 2)).setIfInBounds 10 (.slice (some ⟨w.heap.size + 1 + 1 + 1 + 1, 0, none⟩) 2 c1)).setIfInBounds 256 (.slice (some ⟨w.heap.size, 0, none⟩) 2 2)).setIfInBounds 92 (.slice (some ⟨w.heap.size + 1 + 1 + 1 + 1 + 1 + 1 + 1, 0, none⟩) 2 c2)) 228)).alloc (.cells #[.int .u8 10] 5)).alloc (.cells #[.string ⟨#[10]⟩] 9)).alloc (.cells C1 5 fr1)).alloc (.cells #[.int .u8 92] 5)).alloc (.cells #[.string ⟨#[92]⟩] 9)).alloc (.cells C2 5 fr2)).drew.drew).cell? ⟨w.heap.size + 1, j, none⟩ = (((((Zr w.heap.size).setIfInBounds 256 (.slice (some ⟨w.heap.size, 0, none⟩) 1 2)).setIfInBounds 10 (.slice (some ⟨w.heap.size + 1 + 1 + 1 + 1, 0, none⟩) 2 c1)).setIfInBounds 256 (.slice (some ⟨w.heap.size, 0, none⟩) 2 2)).setIfInBounds 92 (.slice (some ⟨w.heap.size + 1 + 1 + 1 + 1 + 1 + 1 + 1, 0, none⟩) 2 c2))[j]? := by go_simp
  have zl := Zr_low w.heap.size j hj
  rw [e]
  unfold repAt
  by_cases h1 : j = 10
  ·
   subst h1; rw [if_pos rfl, Array.getElem?_setIfInBounds_ne (by omega), Array.getElem?_setIfInBounds_ne (by omega), Array.getElem?_setIfInBounds_self]; simp [Zr_size]
  ·
   by_cases h2 : j = 92
   ·
    subst h2; rw [if_neg h1, if_pos rfl, Array.getElem?_setIfInBounds_self]; simp [Zr_size]
   ·
    rw [if_neg h1, if_neg h2, Array.getElem?_setIfInBounds_ne (by omega), Array.getElem?_setIfInBounds_ne (by omega), Array.getElem?_setIfInBounds_ne (by omega), Array.getElem?_setIfInBounds_ne (by omega)]; exact zl
 ·
  have e : (((((((((w.alloc (.cells #[.string ⟨#[10]⟩, .string ⟨#[92]⟩] 9)).alloc (.cells (((((Zr w.heap.size).setIfInBounds 256 (.slice (some ⟨w.heap.size, 0, none⟩) 1 2)).setIfInBounds 10 (.slice (some ⟨w.heap.size + 1 + 1 + 1 + 1, 0, none⟩) 2 c1)).setIfInBounds 256 (.slice (some ⟨w.heap.size, 0, none⟩) 2 2)).setIfInBounds 92 (.slice (some ⟨w.heap.size + 1 + 1 + 1 + 1 + 1 + 1 + 1, 0, none⟩) 2 c2)) 228)).alloc (.cells #[.int .u8 10] 5)).alloc (.cells #[.string ⟨#[10]⟩] 9)).alloc (.cells C1 5 fr1)).alloc (.cells #[.int .u8 92] 5)).alloc (.cells #[.string ⟨#[92]⟩] 9)).alloc (.cells C2 5 fr2)).drew.drew).cell? ⟨w.heap.size + 1, 256, none⟩ = (((((Zr w.heap.size).setIfInBounds 256 (.slice (some ⟨w.heap.size, 0, none⟩) 1 2)).setIfInBounds 10 (.slice (some ⟨w.heap.size + 1 + 1 + 1 + 1, 0, none⟩) 2 c1)).setIfInBounds 256 (.slice (some ⟨w.heap.size, 0, none⟩) 2 2)).setIfInBounds 92 (.slice (some ⟨w.heap.size + 1 + 1 + 1 + 1 + 1 + 1 + 1, 0, none⟩) 2 c2))[256]? := by go_simp
  rw [e, Array.getElem?_setIfInBounds_ne (by omega), Array.getElem?_setIfInBounds_self]; simp [Zr_size]
 all_goals first | (go_simp; done) | (go_simp; rw [Joins.cell_alloc_mark_at _ _ _ _ _ _ (by simp)]; assumption)
set_option maxRecDepth 100000 in
set_option maxHeartbeats 4000000 in
theorem build_calls (R O c : Nat) (w : World) (h4 : w.cell? ⟨R, 4, none⟩ = some (.slice (some ⟨O, 0, none⟩) 4 c)) (hO : O < w.heap.size)
   (o0 : w.cell? ⟨O, 0, none⟩ = some (.string ⟨#[92]⟩)) (o1 : w.cell? ⟨O, 1, none⟩ = some (.string ⟨#[92, 92]⟩))
   (o2 : w.cell? ⟨O, 2, none⟩ = some (.string ⟨#[10]⟩)) (o3 : w.cell? ⟨O, 3, none⟩ = some (.string ⟨#[92, 110]⟩)) :
   Calls Tryz.prog 148 #[.pointer (some ⟨R, 0, none⟩)] w fun e w' => e = .returned (.iface 229 (.pointer (some ⟨w.heap.size + 1, 0, none⟩))) ∧ IsBsr w.heap.size (w.heap.size + 1) w' ∧ Below w.heap.size w w' := by
  have hmk : ∀ w, (Instr.makeSlice 23 (.int .i64 0) (.int .i64 2)).run Tryz.prog w = .ok (.slice (some ⟨w.heap.size, 0, none⟩) 0 2) (w.alloc (.cells #[.string ⟨#[]⟩, .string ⟨#[]⟩] 9)) := fun _ => by kernel_rfl
  have hst : (storeCells ⟨w.heap.size + 1, 0, none⟩ (Tryz.zeroCells228.toList.set 256 (.slice (some ⟨w.heap.size, 0, none⟩) 0 2)) 0).run Tryz.prog ((w.alloc (.cells #[.string ⟨#[]⟩, .string ⟨#[]⟩] 9)).alloc (.cells Tryz.zeroCells228 228)) = .ok () ((w.alloc (.cells #[.string ⟨#[]⟩, .string ⟨#[]⟩] 9)).alloc (.cells (Zr w.heap.size) 228)) := by
    have h := run_storeCells_new (P := Tryz.prog) (w.alloc (.cells #[.string ⟨#[]⟩, .string ⟨#[]⟩] 9)) 228 Tryz.zeroCells228 (Zr w.heap.size) (by rw [Zr_size]; kernel_rfl) (by rw [Zr_size]; kernel_rfl) (Zr_one _)
    rw [Zr_toList] at h
    have e : (w.alloc (.cells #[.string ⟨#[]⟩, .string ⟨#[]⟩] 9)).heap.size = w.heap.size + 1 := by simp
    rw [e] at h
    exact h
  obtain ⟨i9, hi9, hz9, hs9, hb9⟩ := info_parts (P := Tryz.prog) (e := 9) (z := .string ⟨#[]⟩) (size := 1) (bytes := 16) (by kernel_rfl)
  have hcv : (convert 110 9 (.slice (some ⟨w.heap.size + 1 + 1, 0, none⟩) 1 1)).run Tryz.prog (((w.alloc (.cells #[.string ⟨#[]⟩, .string ⟨#[]⟩] 9)).alloc (.cells (Zr w.heap.size) 228)).alloc (.cells #[.int .u8 10] 5)) = .ok (.string ⟨#[10]⟩) (((w.alloc (.cells #[.string ⟨#[]⟩, .string ⟨#[]⟩] 9)).alloc (.cells (Zr w.heap.size) 228)).alloc (.cells #[.int .u8 10] 5)) :=
    run_convert_bytes_back (P := Tryz.prog) (((w.alloc (.cells #[.string ⟨#[]⟩, .string ⟨#[]⟩] 9)).alloc (.cells (Zr w.heap.size) 228)).alloc (.cells #[.int .u8 10] 5)) 110 9 5 ⟨w.heap.size + 1 + 1, 0, none⟩ 1 [10] Tryz.underlying110 Tryz.underlying5 Tryz.underlying9 (fun j hj => by
      obtain rfl : j = 0 := by simp at hj; omega
      rw [Addr.add_zero']
      go_simp)
  have hv4 : (((((w.alloc (.cells #[.string ⟨#[]⟩, .string ⟨#[]⟩] 9)).alloc (.cells (Zr w.heap.size) 228)).alloc (.cells #[.int .u8 10] 5)).alloc (.cells #[.string ⟨#[10]⟩] 9))).cell? ⟨w.heap.size + 1 + 1 + 1, 0, none⟩ = some (.string ⟨#[10]⟩) := by go_simp
  have hw4 : ((((((w.alloc (.cells #[.string ⟨#[]⟩, .string ⟨#[]⟩] 9)).alloc (.cells (Zr w.heap.size) 228)).alloc (.cells #[.int .u8 10] 5)).alloc (.cells #[.string ⟨#[10]⟩] 9))).cell? ⟨w.heap.size, 0, none⟩).isSome = true := by go_simp
  have hf4 : (((((w.alloc (.cells #[.string ⟨#[]⟩, .string ⟨#[]⟩] 9)).alloc (.cells (Zr w.heap.size) 228)).alloc (.cells #[.int .u8 10] 5)).alloc (.cells #[.string ⟨#[10]⟩] 9))).frozen? ⟨w.heap.size, 0, none⟩ = false := by go_simp
  have hap : (Builtin.append_ #[23, 23] 23 #[.slice (some ⟨w.heap.size, 0, none⟩) 0 2, .slice (some ⟨w.heap.size + 1 + 1 + 1, 0, none⟩) 1 1]).run Tryz.prog ((((w.alloc (.cells #[.string ⟨#[]⟩, .string ⟨#[]⟩] 9)).alloc (.cells (Zr w.heap.size) 228)).alloc (.cells #[.int .u8 10] 5)).alloc (.cells #[.string ⟨#[10]⟩] 9)) = .ok (.slice (some ⟨w.heap.size, 0, none⟩) 1 2) ((((w.alloc (.cells #[.string ⟨#[10]⟩, .string ⟨#[]⟩] 9)).alloc (.cells (Zr w.heap.size) 228)).alloc (.cells #[.int .u8 10] 5)).alloc (.cells #[.string ⟨#[10]⟩] 9)) := by
    rw [append_one Tryz.prog 23 23 9 i9 Tryz.underlying23 hi9 hs9 ((((w.alloc (.cells #[.string ⟨#[]⟩, .string ⟨#[]⟩] 9)).alloc (.cells (Zr w.heap.size) 228)).alloc (.cells #[.int .u8 10] 5)).alloc (.cells #[.string ⟨#[10]⟩] 9)) w.heap.size 0 2 1 ⟨w.heap.size + 1 + 1 + 1, 0, none⟩ (.string ⟨#[10]⟩) hv4 rfl (by omega) hw4 hf4]
    go_simp
  clear hv4 hw4 hf4
  obtain ⟨c1, C1, fr1, hsb1, hC10, hC11⟩ := bytes_two Tryz.prog 9 110 5 Tryz.underlying9 Tryz.underlying110 Tryz.underlying5 ((((w.alloc (.cells #[.string ⟨#[10]⟩, .string ⟨#[]⟩] 9)).alloc (.cells ((Zr w.heap.size).setIfInBounds 256 (.slice (some ⟨w.heap.size, 0, none⟩) 1 2)) 228)).alloc (.cells #[.int .u8 10] 5)).alloc (.cells #[.string ⟨#[10]⟩] 9)) 92 110
  have q1 : ((((w.alloc (.cells #[.string ⟨#[10]⟩, .string ⟨#[]⟩] 9)).alloc (.cells ((Zr w.heap.size).setIfInBounds 256 (.slice (some ⟨w.heap.size, 0, none⟩) 1 2)) 228)).alloc (.cells #[.int .u8 10] 5)).alloc (.cells #[.string ⟨#[10]⟩] 9)).heap.size = w.heap.size + 1 + 1 + 1 + 1 := by simp
  rw [q1] at hsb1
  clear q1
  have hcv2 : (convert 110 9 (.slice (some ⟨w.heap.size + 1 + 1 + 1 + 1 + 1, 0, none⟩) 1 1)).run Tryz.prog ((((((w.alloc (.cells #[.string ⟨#[10]⟩, .string ⟨#[]⟩] 9)).alloc (.cells (((Zr w.heap.size).setIfInBounds 256 (.slice (some ⟨w.heap.size, 0, none⟩) 1 2)).setIfInBounds 10 (.slice (some ⟨w.heap.size + 1 + 1 + 1 + 1, 0, none⟩) 2 c1)) 228)).alloc (.cells #[.int .u8 10] 5)).alloc (.cells #[.string ⟨#[10]⟩] 9)).alloc (.cells C1 5 fr1)).alloc (.cells #[.int .u8 92] 5)).drew = .ok (.string ⟨#[92]⟩) ((((((w.alloc (.cells #[.string ⟨#[10]⟩, .string ⟨#[]⟩] 9)).alloc (.cells (((Zr w.heap.size).setIfInBounds 256 (.slice (some ⟨w.heap.size, 0, none⟩) 1 2)).setIfInBounds 10 (.slice (some ⟨w.heap.size + 1 + 1 + 1 + 1, 0, none⟩) 2 c1)) 228)).alloc (.cells #[.int .u8 10] 5)).alloc (.cells #[.string ⟨#[10]⟩] 9)).alloc (.cells C1 5 fr1)).alloc (.cells #[.int .u8 92] 5)).drew :=
    run_convert_bytes_back (P := Tryz.prog) ((((((w.alloc (.cells #[.string ⟨#[10]⟩, .string ⟨#[]⟩] 9)).alloc (.cells (((Zr w.heap.size).setIfInBounds 256 (.slice (some ⟨w.heap.size, 0, none⟩) 1 2)).setIfInBounds 10 (.slice (some ⟨w.heap.size + 1 + 1 + 1 + 1, 0, none⟩) 2 c1)) 228)).alloc (.cells #[.int .u8 10] 5)).alloc (.cells #[.string ⟨#[10]⟩] 9)).alloc (.cells C1 5 fr1)).alloc (.cells #[.int .u8 92] 5)).drew 110 9 5 ⟨w.heap.size + 1 + 1 + 1 + 1 + 1, 0, none⟩ 1 [92] Tryz.underlying110 Tryz.underlying5 Tryz.underlying9 (fun j hj => by
      obtain rfl : j = 0 := by simp at hj; omega
      rw [Addr.add_zero']
      go_simp)
  have hv7 : ((((((((w.alloc (.cells #[.string ⟨#[10]⟩, .string ⟨#[]⟩] 9)).alloc (.cells (((Zr w.heap.size).setIfInBounds 256 (.slice (some ⟨w.heap.size, 0, none⟩) 1 2)).setIfInBounds 10 (.slice (some ⟨w.heap.size + 1 + 1 + 1 + 1, 0, none⟩) 2 c1)) 228)).alloc (.cells #[.int .u8 10] 5)).alloc (.cells #[.string ⟨#[10]⟩] 9)).alloc (.cells C1 5 fr1)).alloc (.cells #[.int .u8 92] 5)).alloc (.cells #[.string ⟨#[92]⟩] 9)).drew).cell? ⟨w.heap.size + 1 + 1 + 1 + 1 + 1 + 1, 0, none⟩ = some (.string ⟨#[92]⟩) := by go_simp
  have hw7 : (((((((((w.alloc (.cells #[.string ⟨#[10]⟩, .string ⟨#[]⟩] 9)).alloc (.cells (((Zr w.heap.size).setIfInBounds 256 (.slice (some ⟨w.heap.size, 0, none⟩) 1 2)).setIfInBounds 10 (.slice (some ⟨w.heap.size + 1 + 1 + 1 + 1, 0, none⟩) 2 c1)) 228)).alloc (.cells #[.int .u8 10] 5)).alloc (.cells #[.string ⟨#[10]⟩] 9)).alloc (.cells C1 5 fr1)).alloc (.cells #[.int .u8 92] 5)).alloc (.cells #[.string ⟨#[92]⟩] 9)).drew).cell? ⟨w.heap.size, 1, none⟩).isSome = true := by go_simp
  have hf7 : ((((((((w.alloc (.cells #[.string ⟨#[10]⟩, .string ⟨#[]⟩] 9)).alloc (.cells (((Zr w.heap.size).setIfInBounds 256 (.slice (some ⟨w.heap.size, 0, none⟩) 1 2)).setIfInBounds 10 (.slice (some ⟨w.heap.size + 1 + 1 + 1 + 1, 0, none⟩) 2 c1)) 228)).alloc (.cells #[.int .u8 10] 5)).alloc (.cells #[.string ⟨#[10]⟩] 9)).alloc (.cells C1 5 fr1)).alloc (.cells #[.int .u8 92] 5)).alloc (.cells #[.string ⟨#[92]⟩] 9)).drew).frozen? ⟨w.heap.size, 1, none⟩ = false := by go_simp
  have hap2 : (Builtin.append_ #[23, 23] 23 #[.slice (some ⟨w.heap.size, 0, none⟩) 1 2, .slice (some ⟨w.heap.size + 1 + 1 + 1 + 1 + 1 + 1, 0, none⟩) 1 1]).run Tryz.prog ((((((((w.alloc (.cells #[.string ⟨#[10]⟩, .string ⟨#[]⟩] 9)).alloc (.cells (((Zr w.heap.size).setIfInBounds 256 (.slice (some ⟨w.heap.size, 0, none⟩) 1 2)).setIfInBounds 10 (.slice (some ⟨w.heap.size + 1 + 1 + 1 + 1, 0, none⟩) 2 c1)) 228)).alloc (.cells #[.int .u8 10] 5)).alloc (.cells #[.string ⟨#[10]⟩] 9)).alloc (.cells C1 5 fr1)).alloc (.cells #[.int .u8 92] 5)).alloc (.cells #[.string ⟨#[92]⟩] 9)).drew) = .ok (.slice (some ⟨w.heap.size, 0, none⟩) 2 2) ((((((((w.alloc (.cells #[.string ⟨#[10]⟩, .string ⟨#[92]⟩] 9)).alloc (.cells (((Zr w.heap.size).setIfInBounds 256 (.slice (some ⟨w.heap.size, 0, none⟩) 1 2)).setIfInBounds 10 (.slice (some ⟨w.heap.size + 1 + 1 + 1 + 1, 0, none⟩) 2 c1)) 228)).alloc (.cells #[.int .u8 10] 5)).alloc (.cells #[.string ⟨#[10]⟩] 9)).alloc (.cells C1 5 fr1)).alloc (.cells #[.int .u8 92] 5)).alloc (.cells #[.string ⟨#[92]⟩] 9)).drew) := by
    rw [append_one Tryz.prog 23 23 9 i9 Tryz.underlying23 hi9 hs9 ((((((((w.alloc (.cells #[.string ⟨#[10]⟩, .string ⟨#[]⟩] 9)).alloc (.cells (((Zr w.heap.size).setIfInBounds 256 (.slice (some ⟨w.heap.size, 0, none⟩) 1 2)).setIfInBounds 10 (.slice (some ⟨w.heap.size + 1 + 1 + 1 + 1, 0, none⟩) 2 c1)) 228)).alloc (.cells #[.int .u8 10] 5)).alloc (.cells #[.string ⟨#[10]⟩] 9)).alloc (.cells C1 5 fr1)).alloc (.cells #[.int .u8 92] 5)).alloc (.cells #[.string ⟨#[92]⟩] 9)).drew) w.heap.size 1 2 1 ⟨w.heap.size + 1 + 1 + 1 + 1 + 1 + 1, 0, none⟩ (.string ⟨#[92]⟩) hv7 rfl (by omega) hw7 hf7]
    go_simp
  clear hv7 hw7 hf7
  obtain ⟨c2, C2, fr2, hsb2, hC20, hC21⟩ := bytes_two Tryz.prog 9 110 5 Tryz.underlying9 Tryz.underlying110 Tryz.underlying5 ((((((((w.alloc (.cells #[.string ⟨#[10]⟩, .string ⟨#[92]⟩] 9)).alloc (.cells ((((Zr w.heap.size).setIfInBounds 256 (.slice (some ⟨w.heap.size, 0, none⟩) 1 2)).setIfInBounds 10 (.slice (some ⟨w.heap.size + 1 + 1 + 1 + 1, 0, none⟩) 2 c1)).setIfInBounds 256 (.slice (some ⟨w.heap.size, 0, none⟩) 2 2)) 228)).alloc (.cells #[.int .u8 10] 5)).alloc (.cells #[.string ⟨#[10]⟩] 9)).alloc (.cells C1 5 fr1)).alloc (.cells #[.int .u8 92] 5)).alloc (.cells #[.string ⟨#[92]⟩] 9)).drew) 92 92
  have q2 : ((((((((w.alloc (.cells #[.string ⟨#[10]⟩, .string ⟨#[92]⟩] 9)).alloc (.cells ((((Zr w.heap.size).setIfInBounds 256 (.slice (some ⟨w.heap.size, 0, none⟩) 1 2)).setIfInBounds 10 (.slice (some ⟨w.heap.size + 1 + 1 + 1 + 1, 0, none⟩) 2 c1)).setIfInBounds 256 (.slice (some ⟨w.heap.size, 0, none⟩) 2 2)) 228)).alloc (.cells #[.int .u8 10] 5)).alloc (.cells #[.string ⟨#[10]⟩] 9)).alloc (.cells C1 5 fr1)).alloc (.cells #[.int .u8 92] 5)).alloc (.cells #[.string ⟨#[92]⟩] 9)).drew).heap.size = w.heap.size + 1 + 1 + 1 + 1 + 1 + 1 + 1 := by go_simp
  rw [q2] at hsb2
  clear q2
  have HF := Lib.hid (bsr_made w c1 c2 C1 C2 fr1 fr2 hC10 hC11 hC20 hC21)
  have z10 := Zr_at w.heap.size 10 (by omega)
  have z92 := Zr_at w.heap.size 92 (by omega)
  have z256 : ∀ h, (Zr w.heap.size)[256]'h = .slice (some ⟨w.heap.size, 0, none⟩) 0 2 := fun h => by have := Zr_high w.heap.size; rw [Array.getElem?_eq_getElem h] at this; exact Option.some.inj this
  have zs := Zr_size w.heap.size
  have hnil := fun w a l c => Lib.run_eql_slice_nil (P := Tryz.prog) w 110 5 a l c 0 0 Tryz.underlying110
  have b10 : ∀ h, ((⟨#[10]⟩ : ByteArray)[0]'h).toNat = 10 := fun _ => rfl
  have b92 : ∀ h, ((⟨#[92]⟩ : ByteArray)[0]'h).toNat = 92 := fun _ => rfl
  have hO1 : O < w.heap.size + 1 := by omega
  have hO2 : O < w.heap.size + 1 + 1 := by omega
  have hO3 : O < w.heap.size + 1 + 1 + 1 := by omega
  have hO4 : O < w.heap.size + 1 + 1 + 1 + 1 := by omega
  have hO5 : O < w.heap.size + 1 + 1 + 1 + 1 + 1 := by omega
  have hO6 : O < w.heap.size + 1 + 1 + 1 + 1 + 1 + 1 := by omega
  have hO7 : O < w.heap.size + 1 + 1 + 1 + 1 + 1 + 1 + 1 := by omega
  clear hC10 hC11 hC20 hC21 hi9 hz9 hs9 hb9
  go_enter Tryz.func148, Tryz.ntmps148
  go_wp2_with fail
  refine wp_loop_rounds 3 ?_
  rw [rounds_succ]
  go_wp2_with fail
  rw [rounds_succ]
  go_wp2_with fail
  rw [rounds_succ]
  go_wp2_with fail
  refine wp_loop_rounds 3 ?_
  rw [rounds_succ]
  go_wp2_with fail
  rw [rounds_succ]
  go_wp2_with fail
  rw [rounds_succ]
  go_wp2_with fail
  go_ret
  refine ⟨rfl, HF.out, ?_⟩
  exact (((((((((Below.refl _ _).alloc (Nat.le_refl _) _).alloc (by simp) _).alloc (by simp; omega) _).alloc (by simp; omega) _).alloc (by simp; omega) _).alloc (by simp; omega) _).alloc (by simp; omega) _).alloc (by simp; omega) _).drew.drew
end Go.Proofs.YtkblmomfiimkiaaGreatDoor.P
end
