/- What the claim's theorem leans on. Conditions: none of its own. (Written by prune.py out of the texts SameB, without what the claim doesn't lean on.) -/
import Derived.Test.YtkblmomfiimkiaaGreatDoorS2
import Derived.Test.YtkblmomfiimkiaaGreatDoorS8
section
namespace Go.Proofs.YtkblmomfiimkiaaGreatDoor.P
open Go.RowKit Go.Proofs.YtkblmomfiimkiaaGreatDoorW.PrintWords Go.Proofs.YtkblmomfiimkiaaGreatDoorW.PrintLast Go.Proofs.YtkblmomfiimkiaaGreatDoorW.PrintMore
attribute [local go_sem high] eqMoney eqTexts5 eqInts5
attribute [local go_sem ↓] Go.wp_at_zero Go.wp_at_succ
theorem heads_calls (x0 : ByteArray) (x1 : ByteArray) (x2 : Int) (x3 : Int) (x4 : Int) (x5 : ByteArray) (x6 : ByteArray) (x7 : ByteArray) (x8 : Int) (x9 : Int) (x10 : ByteArray) (x11 : Int) (xA12 : Option Addr) (xn12 xc12 : Nat) (xA13 : Option Addr) (xn13 xc13 : Nat) (w : World) :
  Calls Tryz.prog 30 #[.agg #[.string x0, .string x1, .int .i64 x2, .int .i64 x3, .int .i64 x4, .string x5, .string x6, .string x7, .int .i64 x8, .int .i64 x9, .string x10, .int .i64 x11, .slice xA12 xn12 xc12, .slice xA13 xn13 xc13]] w fun e w' => e = .returned (.agg #[.string x0, .string x1, .string x5, .string x6, .string x7]) ∧ Below w.heap.size w w' := by
 go_enter Tryz.func30, Tryz.ntmps30
 go_wp2_with fail
 exact bodyPost_ret (v := .agg #[.string x0, .string x1, .string x5, .string x6, .string x7]) (by simp [results, Tryz.results30, go_sem]) rfl ⟨rfl, ((Below.refl _ _).alloc (Nat.le_refl _) _).alloc (by simp) _⟩
theorem numbers_calls (x0 : ByteArray) (x1 : ByteArray) (x2 : Int) (x3 : Int) (x4 : Int) (x5 : ByteArray) (x6 : ByteArray) (x7 : ByteArray) (x8 : Int) (x9 : Int) (x10 : ByteArray) (x11 : Int) (xA12 : Option Addr) (xn12 xc12 : Nat) (xA13 : Option Addr) (xn13 xc13 : Nat) (w : World) :
  Calls Tryz.prog 31 #[.agg #[.string x0, .string x1, .int .i64 x2, .int .i64 x3, .int .i64 x4, .string x5, .string x6, .string x7, .int .i64 x8, .int .i64 x9, .string x10, .int .i64 x11, .slice xA12 xn12 xc12, .slice xA13 xn13 xc13]] w fun e w' => e = .returned (.agg #[.int .i64 x2, .int .i64 x3, .int .i64 x4, .int .i64 x8, .int .i64 x9]) ∧ Below w.heap.size w w' := by
 go_enter Tryz.func31, Tryz.ntmps31
 go_wp2_with fail
 exact bodyPost_ret (v := .agg #[.int .i64 x2, .int .i64 x3, .int .i64 x4, .int .i64 x8, .int .i64 x9]) (by simp [results, Tryz.results31, go_sem]) rfl ⟨rfl, ((Below.refl _ _).alloc (Nat.le_refl _) _).alloc (by simp) _⟩
def Boxes (ga gb : Nat) (A B : Array Value) (w W : World) : Prop := W.heap[ga]? = some (.cells A 33 (0, 0)) ∧ W.heap[gb]? = some (.cells B 33 (0, 0)) ∧ Below w.heap.size w W
theorem boxes_below {ga gb : Nat} {A B : Array Value} {w W W1 : World} (h : Boxes ga gb A B w W) (hb : Below W.heap.size W W1) : Boxes ga gb A B w W1 :=
 ⟨(hb.block ga (blk_lt h.1)).trans h.1, (hb.block gb (blk_lt h.2.1)).trans h.2.1, below_step h.2.2 hb⟩
theorem boxes_new (w : World) (A B : Array Value) : Boxes w.heap.size (w.heap.size + 1) A B w ((w.alloc (.cells A 33)).alloc (.cells B 33)) := by
 refine ⟨?_, ?_, ((Below.refl _ w).alloc (Nat.le_refl _) _).alloc (by simp) _⟩
 ·
  have hq := ((Below.refl _ (w.alloc (.cells A 33))).alloc (Nat.le_refl _) (.cells B 33)).block w.heap.size (by show w.heap.size < (w.heap.push _).size; rw [Array.size_push]; omega)
  refine hq.trans ?_
  show (w.heap.push _)[w.heap.size]? = _
  rw [Array.getElem?_push_size]
 ·
  have hs : (w.alloc (.cells A 33)).heap.size = w.heap.size + 1 := Array.size_push ..
  rw [← hs]
  show ((w.alloc (.cells A 33)).heap.push _)[(w.alloc (.cells A 33)).heap.size]? = _
  rw [Array.getElem?_push_size]
structure BoxW (ga gb : Nat) (A B : Array Value) (w : World) where
 W : World
 h : Boxes ga gb A B w W
theorem boxW_below {ga gb : Nat} {A B : Array Value} {w : World} (p : BoxW ga gb A B w) {w' : World} (hb : Below p.W.heap.size p.W w') : ∃ q : BoxW ga gb A B w, w' = q.W := ⟨⟨w', boxes_below p.h hb⟩, rfl⟩
theorem boxW_a {ga gb : Nat} {A B : Array Value} {w : World} (p : BoxW ga gb A B w) (i : Nat) {v : Value} (h : A[i]? = some v) : p.W.cell? ⟨ga, i, none⟩ = some v := (blk_cell p.h.1 i).trans h
theorem boxW_b {ga gb : Nat} {A B : Array Value} {w : World} (p : BoxW ga gb A B w) (i : Nat) {v : Value} (h : B[i]? = some v) : p.W.cell? ⟨gb, i, none⟩ = some v := (blk_cell p.h.2.1 i).trans h
theorem wp_region_class {P : Program} {id : Nat} {Q : Exit → Act → World → Prop} {C : World → Prop} {a : Act} {w : World} {l : List Oper} (hm : P.follows .mixedOrders = true) (hB : Region.lexB .any l.toArray = true) (hC : C w.drew)
  (h : wpQuiet P l.toArray C (fun a' => ∀ w', C w' → Q .normal a' w') l a) : (Code.region id l.toArray true).wp P Q a w :=
 wp_region_quiet (C := C) hm hB hC (by simpa using h)
theorem heads_class {ga gb : Nat} {A B : Array Value} {w : World} (p : BoxW ga gb A B w) (x0 : ByteArray) (x1 : ByteArray) (x2 : Int) (x3 : Int) (x4 : Int) (x5 : ByteArray) (x6 : ByteArray) (x7 : ByteArray) (x8 : Int) (x9 : Int) (x10 : ByteArray) (x11 : Int) (xA12 : Option Addr) (xn12 xc12 : Nat) (xA13 : Option Addr) (xn13 xc13 : Nat) :
  Calls Tryz.prog 30 #[.agg #[.string x0, .string x1, .int .i64 x2, .int .i64 x3, .int .i64 x4, .string x5, .string x6, .string x7, .int .i64 x8, .int .i64 x9, .string x10, .int .i64 x11, .slice xA12 xn12 xc12, .slice xA13 xn13 xc13]] p.W fun e w' => e = .returned (.agg #[.string x0, .string x1, .string x5, .string x6, .string x7]) ∧ ∃ q : BoxW ga gb A B w, w' = q.W :=
 (heads_calls x0 x1 x2 x3 x4 x5 x6 x7 x8 x9 x10 x11 xA12 xn12 xc12 xA13 xn13 xc13 p.W).mono fun _ _ hq => ⟨hq.1, boxW_below p hq.2⟩
theorem numbers_class {ga gb : Nat} {A B : Array Value} {w : World} (p : BoxW ga gb A B w) (x0 : ByteArray) (x1 : ByteArray) (x2 : Int) (x3 : Int) (x4 : Int) (x5 : ByteArray) (x6 : ByteArray) (x7 : ByteArray) (x8 : Int) (x9 : Int) (x10 : ByteArray) (x11 : Int) (xA12 : Option Addr) (xn12 xc12 : Nat) (xA13 : Option Addr) (xn13 xc13 : Nat) :
  Calls Tryz.prog 31 #[.agg #[.string x0, .string x1, .int .i64 x2, .int .i64 x3, .int .i64 x4, .string x5, .string x6, .string x7, .int .i64 x8, .int .i64 x9, .string x10, .int .i64 x11, .slice xA12 xn12 xc12, .slice xA13 xn13 xc13]] p.W fun e w' => e = .returned (.agg #[.int .i64 x2, .int .i64 x3, .int .i64 x4, .int .i64 x8, .int .i64 x9]) ∧ ∃ q : BoxW ga gb A B w, w' = q.W :=
 (numbers_calls x0 x1 x2 x3 x4 x5 x6 x7 x8 x9 x10 x11 xA12 xn12 xc12 xA13 xn13 xc13 p.W).mono fun _ _ hq => ⟨hq.1, boxW_below p hq.2⟩
def DocsC (ga gb : Nat) (A B : Array Value) (w : World) (A0 : Option Addr) (n0 c0 : Nat) (A1 : Option Addr) (n1 c1 : Nat) (r : Bool) : Prop := ∀ p : BoxW ga gb A B w, Calls Tryz.prog 32 #[.slice A0 n0 c0, .slice A1 n1 c1, .func (.func 33) #[] #[]] p.W fun e w' => e = .returned (.bool r) ∧ ∃ q : BoxW ga gb A B w, w' = q.W
def TextsC (ga gb : Nat) (A B : Array Value) (w : World) (A0 : Option Addr) (n0 c0 : Nat) (A1 : Option Addr) (n1 c1 : Nat) (r : Bool) : Prop := ∀ p : BoxW ga gb A B w, Calls Tryz.prog 34 #[.slice A0 n0 c0, .slice A1 n1 c1] p.W fun e w' => e = .returned (.bool r) ∧ ∃ q : BoxW ga gb A B w, w' = q.W
theorem letter_eq (a0 : ByteArray) (a1 : ByteArray) (a2 : Int) (a3 : Int) (a4 : Int) (a5 : ByteArray) (a6 : ByteArray) (a7 : ByteArray) (a8 : Int) (a9 : Int) (a10 : ByteArray) (a11 : Int) (al12 : List S38) (al13 : List ByteArray) (b0 : ByteArray) (b1 : ByteArray) (b2 : Int) (b3 : Int) (b4 : Int) (b5 : ByteArray) (b6 : ByteArray) (b7 : ByteArray) (b8 : Int) (b9 : Int) (b10 : ByteArray) (b11 : Int) (bl12 : List S38) (bl13 : List ByteArray) :
  eqB (⟨a0, a1, a2, a3, a4, a5, a6, a7, a8, a9, ⟨a10, a11⟩, al12, al13⟩ : S33) (⟨b0, b1, b2, b3, b4, b5, b6, b7, b8, b9, ⟨b10, b11⟩, bl12, bl13⟩ : S33) = (((((a0.toList == b0.toList && (a1.toList == b1.toList && (a5.toList == b5.toList && (a6.toList == b6.toList && a7.toList == b7.toList)))) && (a2 == b2 && (a3 == b3 && (a4 == b4 && (a8 == b8 && a9 == b9))))) && (a10.toList == b10.toList && (a11 == b11))) && eqB al12 bl12) && eqB al13 bl13) := by
 have hb : ∀ x y : ByteArray, (x.toList == y.toList) = eqB x y := fun x y => bytes_beq
 have hi : ∀ x y : Int, (x == y) = eqB x y := fun x y => by
  by_cases h : x = y
  ·
   rw [eqB_of h, h]; simp
  ·
   rw [eqB_ne h, beq_eq_false_iff_ne]; exact h
 simp only [hb, hi]
 rw [Bool.eq_iff_iff]
 simp only [Bool.and_eq_true, eqB_true]
 constructor
 ·
  intro h
  injection h with e0 e1 e2 e3 e4 e5 e6 e7 e8 e9 e10 e11 e12
  injection e10 with f0 f1
  exact ⟨⟨⟨⟨⟨e0, e1, e5, e6, e7⟩, e2, e3, e4, e8, e9⟩, f0, f1⟩, e11⟩, e12⟩
 ·
  rintro ⟨⟨⟨⟨⟨e0, e1, e5, e6, e7⟩, e2, e3, e4, e8, e9⟩, f0, f1⟩, e11⟩, e12⟩
  subst e0 e1 e2 e3 e4 e5 e6 e7 e8 e9 f0 f1 e11 e12
  rfl
noncomputable def post_Same.f (a0 : ByteArray) (a1 : ByteArray) (a2 : Int) (a3 : Int) (a4 : Int) (a5 : ByteArray) (a6 : ByteArray) (a7 : ByteArray) (a8 : Int) (a9 : Int) (a10 : ByteArray) (a11 : Int) (al12 : List S38) (al13 : List ByteArray) (b0 : ByteArray) (b1 : ByteArray) (b2 : Int) (b3 : Int) (b4 : Int) (b5 : ByteArray) (b6 : ByteArray) (b7 : ByteArray) (b8 : Int) (b9 : Int) (b10 : ByteArray) (b11 : Int) (bl12 : List S38) (bl13 : List ByteArray) : Option Bool := @ite _ (al12.length ≤ 4398046511104 ∧ bl12.length ≤ 4398046511104 ∧ al13.length ≤ 4398046511104 ∧ bl13.length ≤ 4398046511104 ∧ ∀ x ∈ al12, x.f3.length ≤ 4398046511104) (Classical.propDecidable _) (some (eqB (⟨a0, a1, a2, a3, a4, a5, a6, a7, a8, a9, ⟨a10, a11⟩, al12, al13⟩ : S33) (⟨b0, b1, b2, b3, b4, b5, b6, b7, b8, b9, ⟨b10, b11⟩, bl12, bl13⟩ : S33))) none
section
variable {ga gb : Nat} {x : S33} {A : Option Addr} {c : Nat} {B : Option Addr} {d : Nat} {w : World} {C : Array Value}
theorem xa0 (p : BoxW ga gb (letC x A c B d) C w) : p.W.cell? ⟨ga, 0, none⟩ = some (.string x.f0) := boxW_a p 0 rfl
theorem xb0 (p : BoxW ga gb C (letC x A c B d) w) : p.W.cell? ⟨gb, 0, none⟩ = some (.string x.f0) := boxW_b p 0 rfl
theorem xa1 (p : BoxW ga gb (letC x A c B d) C w) : p.W.cell? ⟨ga, 1, none⟩ = some (.string x.f1) := boxW_a p 1 rfl
theorem xb1 (p : BoxW ga gb C (letC x A c B d) w) : p.W.cell? ⟨gb, 1, none⟩ = some (.string x.f1) := boxW_b p 1 rfl
theorem xa2 (p : BoxW ga gb (letC x A c B d) C w) : p.W.cell? ⟨ga, 2, none⟩ = some (.int .i64 x.f2) := boxW_a p 2 rfl
theorem xb2 (p : BoxW ga gb C (letC x A c B d) w) : p.W.cell? ⟨gb, 2, none⟩ = some (.int .i64 x.f2) := boxW_b p 2 rfl
theorem xa3 (p : BoxW ga gb (letC x A c B d) C w) : p.W.cell? ⟨ga, 3, none⟩ = some (.int .i64 x.f3) := boxW_a p 3 rfl
theorem xb3 (p : BoxW ga gb C (letC x A c B d) w) : p.W.cell? ⟨gb, 3, none⟩ = some (.int .i64 x.f3) := boxW_b p 3 rfl
theorem xa4 (p : BoxW ga gb (letC x A c B d) C w) : p.W.cell? ⟨ga, 4, none⟩ = some (.int .i64 x.f4) := boxW_a p 4 rfl
theorem xb4 (p : BoxW ga gb C (letC x A c B d) w) : p.W.cell? ⟨gb, 4, none⟩ = some (.int .i64 x.f4) := boxW_b p 4 rfl
theorem xa5 (p : BoxW ga gb (letC x A c B d) C w) : p.W.cell? ⟨ga, 5, none⟩ = some (.string x.f5) := boxW_a p 5 rfl
theorem xb5 (p : BoxW ga gb C (letC x A c B d) w) : p.W.cell? ⟨gb, 5, none⟩ = some (.string x.f5) := boxW_b p 5 rfl
theorem xa6 (p : BoxW ga gb (letC x A c B d) C w) : p.W.cell? ⟨ga, 6, none⟩ = some (.string x.f6) := boxW_a p 6 rfl
theorem xb6 (p : BoxW ga gb C (letC x A c B d) w) : p.W.cell? ⟨gb, 6, none⟩ = some (.string x.f6) := boxW_b p 6 rfl
theorem xa7 (p : BoxW ga gb (letC x A c B d) C w) : p.W.cell? ⟨ga, 7, none⟩ = some (.string x.f7) := boxW_a p 7 rfl
theorem xb7 (p : BoxW ga gb C (letC x A c B d) w) : p.W.cell? ⟨gb, 7, none⟩ = some (.string x.f7) := boxW_b p 7 rfl
theorem xa8 (p : BoxW ga gb (letC x A c B d) C w) : p.W.cell? ⟨ga, 8, none⟩ = some (.int .i64 x.f8) := boxW_a p 8 rfl
theorem xb8 (p : BoxW ga gb C (letC x A c B d) w) : p.W.cell? ⟨gb, 8, none⟩ = some (.int .i64 x.f8) := boxW_b p 8 rfl
theorem xa9 (p : BoxW ga gb (letC x A c B d) C w) : p.W.cell? ⟨ga, 9, none⟩ = some (.int .i64 x.f9) := boxW_a p 9 rfl
theorem xb9 (p : BoxW ga gb C (letC x A c B d) w) : p.W.cell? ⟨gb, 9, none⟩ = some (.int .i64 x.f9) := boxW_b p 9 rfl
theorem xa10 (p : BoxW ga gb (letC x A c B d) C w) : p.W.cell? ⟨ga, 10, none⟩ = some (.string x.f10.f0) := boxW_a p 10 rfl
theorem xb10 (p : BoxW ga gb C (letC x A c B d) w) : p.W.cell? ⟨gb, 10, none⟩ = some (.string x.f10.f0) := boxW_b p 10 rfl
theorem xa11 (p : BoxW ga gb (letC x A c B d) C w) : p.W.cell? ⟨ga, 11, none⟩ = some (.int .i64 x.f10.f1) := boxW_a p 11 rfl
theorem xb11 (p : BoxW ga gb C (letC x A c B d) w) : p.W.cell? ⟨gb, 11, none⟩ = some (.int .i64 x.f10.f1) := boxW_b p 11 rfl
theorem xa12 (p : BoxW ga gb (letC x A c B d) C w) : p.W.cell? ⟨ga, 12, none⟩ = some (.slice A x.f11.length c) := boxW_a p 12 rfl
theorem xb12 (p : BoxW ga gb C (letC x A c B d) w) : p.W.cell? ⟨gb, 12, none⟩ = some (.slice A x.f11.length c) := boxW_b p 12 rfl
theorem xa13 (p : BoxW ga gb (letC x A c B d) C w) : p.W.cell? ⟨ga, 13, none⟩ = some (.slice B x.f12.length d) := boxW_a p 13 rfl
theorem xb13 (p : BoxW ga gb C (letC x A c B d) w) : p.W.cell? ⟨gb, 13, none⟩ = some (.slice B x.f12.length d) := boxW_b p 13 rfl
end
attribute [local go_sem] xa0 xb0 xa1 xb1 xa2 xb2 xa3 xb3 xa4 xb4 xa5 xb5 xa6 xb6 xa7 xb7 xa8 xb8 xa9 xb9 xa10 xb10 xa11 xb11 xa12 xb12 xa13 xb13
set_option maxRecDepth 100000 in
set_option maxHeartbeats 8000000 in
theorem same_0 (x : S33) (A : Option Addr) (c : Nat) (B : Option Addr) (d : Nat) (y : S33) (A' : Option Addr) (c' : Nat) (B' : Option Addr) (d' : Nat) (w : World) (ht0 : (x.f0.toList == y.f0.toList && (x.f1.toList == y.f1.toList && (x.f5.toList == y.f5.toList && (x.f6.toList == y.f6.toList && x.f7.toList == y.f7.toList)))) = false) :
  Calls Tryz.prog 14 #[.agg (letC x A c B d), .agg (letC y A' c' B' d')] w fun e w' => e = .returned (.bool false) ∧ Below w.heap.size w w' := by
 have HBX0 := Lib.hid (boxes_new w (letC x A c B d) (letC y A' c' B' d'))
 go_enter Tryz.func14, Tryz.ntmps14
 go_upto_region 3 with (fail)
 generalize ((w.alloc (.cells (letC x A c B d) 33)).alloc (.cells (letC y A' c' B' d') 33)) = W0 at HBX0 ⊢
 have inst : Nonempty (BoxW w.heap.size (w.heap.size + 1) (letC x A c B d) (letC y A' c' B' d') w) := ⟨⟨W0, HBX0.out⟩⟩
 refine wp_region_class (C := fun w' => ∃ p : BoxW w.heap.size (w.heap.size + 1) (letC x A c B d) (letC y A' c' B' d') w, w' = p.W) (by kernel_rfl) (by kernel_rfl) ⟨⟨W0.drew, boxes_below HBX0.out (pw_below_drewN (Below.refl _ W0) 1)⟩, rfl⟩ ?_
 repeat (first | go_big_quiet_skip | (go_big_quiet_want; go_big_quiet_op; first | go_big_quiet_on | go_big_quiet_call ((first | exact heads_class _ _ _ _ _ _ _ _ _ _ _ _ _ _ _ _ _ _ _ | exact numbers_class _ _ _ _ _ _ _ _ _ _ _ _ _ _ _ _ _ _ _))))
 refine wpQuiet_nil ?_
 rintro w' ⟨p, rfl⟩
 go_wp2_with fail
 go_ret
 exact ⟨rfl, p.h.2.2⟩
set_option maxRecDepth 100000 in
set_option maxHeartbeats 8000000 in
theorem same_1 (x : S33) (A : Option Addr) (c : Nat) (B : Option Addr) (d : Nat) (y : S33) (A' : Option Addr) (c' : Nat) (B' : Option Addr) (d' : Nat) (w : World) (ht0 : (x.f0.toList == y.f0.toList && (x.f1.toList == y.f1.toList && (x.f5.toList == y.f5.toList && (x.f6.toList == y.f6.toList && x.f7.toList == y.f7.toList)))) = true) (ht1 : (x.f2 == y.f2 && (x.f3 == y.f3 && (x.f4 == y.f4 && (x.f8 == y.f8 && x.f9 == y.f9)))) = false) :
  Calls Tryz.prog 14 #[.agg (letC x A c B d), .agg (letC y A' c' B' d')] w fun e w' => e = .returned (.bool false) ∧ Below w.heap.size w w' := by
 have HBX0 := Lib.hid (boxes_new w (letC x A c B d) (letC y A' c' B' d'))
 go_enter Tryz.func14, Tryz.ntmps14
 go_upto_region 3 with (fail)
 generalize ((w.alloc (.cells (letC x A c B d) 33)).alloc (.cells (letC y A' c' B' d') 33)) = W0 at HBX0 ⊢
 have inst : Nonempty (BoxW w.heap.size (w.heap.size + 1) (letC x A c B d) (letC y A' c' B' d') w) := ⟨⟨W0, HBX0.out⟩⟩
 refine wp_region_class (C := fun w' => ∃ p : BoxW w.heap.size (w.heap.size + 1) (letC x A c B d) (letC y A' c' B' d') w, w' = p.W) (by kernel_rfl) (by kernel_rfl) ⟨⟨W0.drew, boxes_below HBX0.out (pw_below_drewN (Below.refl _ W0) 1)⟩, rfl⟩ ?_
 repeat (first | go_big_quiet_skip | (go_big_quiet_want; go_big_quiet_op; first | go_big_quiet_on | go_big_quiet_call ((first | exact heads_class _ _ _ _ _ _ _ _ _ _ _ _ _ _ _ _ _ _ _ | exact numbers_class _ _ _ _ _ _ _ _ _ _ _ _ _ _ _ _ _ _ _))))
 refine wpQuiet_nil ?_
 rintro w' ⟨p, rfl⟩
 go_wp2_with fail
 go_ret
 exact ⟨rfl, p.h.2.2⟩
set_option maxRecDepth 100000 in
set_option maxHeartbeats 8000000 in
theorem same_2 (x : S33) (A : Option Addr) (c : Nat) (B : Option Addr) (d : Nat) (y : S33) (A' : Option Addr) (c' : Nat) (B' : Option Addr) (d' : Nat) (w : World) (ht0 : (x.f0.toList == y.f0.toList && (x.f1.toList == y.f1.toList && (x.f5.toList == y.f5.toList && (x.f6.toList == y.f6.toList && x.f7.toList == y.f7.toList)))) = true) (ht1 : (x.f2 == y.f2 && (x.f3 == y.f3 && (x.f4 == y.f4 && (x.f8 == y.f8 && x.f9 == y.f9)))) = true) (ht2 : (x.f10.f0.toList == y.f10.f0.toList && (x.f10.f1 == y.f10.f1)) = false) :
  Calls Tryz.prog 14 #[.agg (letC x A c B d), .agg (letC y A' c' B' d')] w fun e w' => e = .returned (.bool false) ∧ Below w.heap.size w w' := by
 have HBX0 := Lib.hid (boxes_new w (letC x A c B d) (letC y A' c' B' d'))
 go_enter Tryz.func14, Tryz.ntmps14
 go_upto_region 3 with (fail)
 generalize ((w.alloc (.cells (letC x A c B d) 33)).alloc (.cells (letC y A' c' B' d') 33)) = W0 at HBX0 ⊢
 have inst : Nonempty (BoxW w.heap.size (w.heap.size + 1) (letC x A c B d) (letC y A' c' B' d') w) := ⟨⟨W0, HBX0.out⟩⟩
 refine wp_region_class (C := fun w' => ∃ p : BoxW w.heap.size (w.heap.size + 1) (letC x A c B d) (letC y A' c' B' d') w, w' = p.W) (by kernel_rfl) (by kernel_rfl) ⟨⟨W0.drew, boxes_below HBX0.out (pw_below_drewN (Below.refl _ W0) 1)⟩, rfl⟩ ?_
 repeat (first | go_big_quiet_skip | (go_big_quiet_want; go_big_quiet_op; first | go_big_quiet_on | go_big_quiet_call ((first | exact heads_class _ _ _ _ _ _ _ _ _ _ _ _ _ _ _ _ _ _ _ | exact numbers_class _ _ _ _ _ _ _ _ _ _ _ _ _ _ _ _ _ _ _))))
 refine wpQuiet_nil ?_
 rintro w' ⟨p, rfl⟩
 go_wp2_with fail
 go_ret
 exact ⟨rfl, p.h.2.2⟩
set_option maxRecDepth 100000 in
set_option maxHeartbeats 8000000 in
theorem same_3 (x : S33) (A : Option Addr) (c : Nat) (B : Option Addr) (d : Nat) (y : S33) (A' : Option Addr) (c' : Nat) (B' : Option Addr) (d' : Nat) (w : World) (ht0 : (x.f0.toList == y.f0.toList && (x.f1.toList == y.f1.toList && (x.f5.toList == y.f5.toList && (x.f6.toList == y.f6.toList && x.f7.toList == y.f7.toList)))) = true) (ht1 : (x.f2 == y.f2 && (x.f3 == y.f3 && (x.f4 == y.f4 && (x.f8 == y.f8 && x.f9 == y.f9)))) = true) (ht2 : (x.f10.f0.toList == y.f10.f0.toList && (x.f10.f1 == y.f10.f1)) = true) (hd : Hid (DocsC w.heap.size (w.heap.size + 1) (letC x A c B d) (letC y A' c' B' d') w A x.f11.length c A' y.f11.length c' false)) :
  Calls Tryz.prog 14 #[.agg (letC x A c B d), .agg (letC y A' c' B' d')] w fun e w' => e = .returned (.bool false) ∧ Below w.heap.size w w' := by
 have HBX0 := Lib.hid (boxes_new w (letC x A c B d) (letC y A' c' B' d'))
 go_enter Tryz.func14, Tryz.ntmps14
 go_upto_region 3 with (fail)
 generalize ((w.alloc (.cells (letC x A c B d) 33)).alloc (.cells (letC y A' c' B' d') 33)) = W0 at HBX0 ⊢
 have inst : Nonempty (BoxW w.heap.size (w.heap.size + 1) (letC x A c B d) (letC y A' c' B' d') w) := ⟨⟨W0, HBX0.out⟩⟩
 refine wp_region_class (C := fun w' => ∃ p : BoxW w.heap.size (w.heap.size + 1) (letC x A c B d) (letC y A' c' B' d') w, w' = p.W) (by kernel_rfl) (by kernel_rfl) ⟨⟨W0.drew, boxes_below HBX0.out (pw_below_drewN (Below.refl _ W0) 1)⟩, rfl⟩ ?_
 repeat (first | go_big_quiet_skip | (go_big_quiet_want; go_big_quiet_op; first | go_big_quiet_on | go_big_quiet_call ((first | exact heads_class _ _ _ _ _ _ _ _ _ _ _ _ _ _ _ _ _ _ _ | exact numbers_class _ _ _ _ _ _ _ _ _ _ _ _ _ _ _ _ _ _ _ | exact hd.out _))))
 refine wpQuiet_nil ?_
 rintro w' ⟨p, rfl⟩
 go_wp2_with fail
 go_ret
 exact ⟨rfl, p.h.2.2⟩
set_option maxRecDepth 100000 in
set_option maxHeartbeats 8000000 in
theorem same_4 (x : S33) (A : Option Addr) (c : Nat) (B : Option Addr) (d : Nat) (y : S33) (A' : Option Addr) (c' : Nat) (B' : Option Addr) (d' : Nat) (r : Bool) (w : World) (ht0 : (x.f0.toList == y.f0.toList && (x.f1.toList == y.f1.toList && (x.f5.toList == y.f5.toList && (x.f6.toList == y.f6.toList && x.f7.toList == y.f7.toList)))) = true) (ht1 : (x.f2 == y.f2 && (x.f3 == y.f3 && (x.f4 == y.f4 && (x.f8 == y.f8 && x.f9 == y.f9)))) = true) (ht2 : (x.f10.f0.toList == y.f10.f0.toList && (x.f10.f1 == y.f10.f1)) = true) (hd : Hid (DocsC w.heap.size (w.heap.size + 1) (letC x A c B d) (letC y A' c' B' d') w A x.f11.length c A' y.f11.length c' true)) (hs : Hid (TextsC w.heap.size (w.heap.size + 1) (letC x A c B d) (letC y A' c' B' d') w B x.f12.length d B' y.f12.length d' r)) :
  Calls Tryz.prog 14 #[.agg (letC x A c B d), .agg (letC y A' c' B' d')] w fun e w' => e = .returned (.bool r) ∧ Below w.heap.size w w' := by
 have HBX0 := Lib.hid (boxes_new w (letC x A c B d) (letC y A' c' B' d'))
 go_enter Tryz.func14, Tryz.ntmps14
 go_upto_region 3 with (fail)
 generalize ((w.alloc (.cells (letC x A c B d) 33)).alloc (.cells (letC y A' c' B' d') 33)) = W0 at HBX0 ⊢
 have inst : Nonempty (BoxW w.heap.size (w.heap.size + 1) (letC x A c B d) (letC y A' c' B' d') w) := ⟨⟨W0, HBX0.out⟩⟩
 refine wp_region_class (C := fun w' => ∃ p : BoxW w.heap.size (w.heap.size + 1) (letC x A c B d) (letC y A' c' B' d') w, w' = p.W) (by kernel_rfl) (by kernel_rfl) ⟨⟨W0.drew, boxes_below HBX0.out (pw_below_drewN (Below.refl _ W0) 1)⟩, rfl⟩ ?_
 repeat (first | go_big_quiet_skip | (go_big_quiet_want; go_big_quiet_op; first | go_big_quiet_on | go_big_quiet_call ((first | exact heads_class _ _ _ _ _ _ _ _ _ _ _ _ _ _ _ _ _ _ _ | exact numbers_class _ _ _ _ _ _ _ _ _ _ _ _ _ _ _ _ _ _ _ | exact hd.out _ | exact hs.out _))))
 refine wpQuiet_nil ?_
 rintro w' ⟨p, rfl⟩
 go_wp2_with fail
 go_ret
 exact ⟨rfl, p.h.2.2⟩
theorem same_calls (x : S33) (A : Option Addr) (c : Nat) (B : Option Addr) (d : Nat) (y : S33) (A' : Option Addr) (c' : Nat) (B' : Option Addr) (d' : Nat) (w : World) (hx : LetR w x A c B d) (hy : LetR w y A' c' B' d') (hz : x.f11.length ≤ 4398046511104 ∧ y.f11.length ≤ 4398046511104 ∧ x.f12.length ≤ 4398046511104 ∧ y.f12.length ≤ 4398046511104 ∧ ∀ q ∈ x.f11, q.f3.length ≤ 4398046511104) :
  Calls Tryz.prog 14 #[.agg (letC x A c B d), .agg (letC y A' c' B' d')] w fun e w' => e = .returned (.bool (eqB x y)) ∧ Below w.heap.size w w' := by
 have h1 : eqB x y = _ := letter_eq x.f0 x.f1 x.f2 x.f3 x.f4 x.f5 x.f6 x.f7 x.f8 x.f9 x.f10.f0 x.f10.f1 x.f11 x.f12 y.f0 y.f1 y.f2 y.f3 y.f4 y.f5 y.f6 y.f7 y.f8 y.f9 y.f10.f0 y.f10.f1 y.f11 y.f12
 rw [h1]
 have hd : DocsC w.heap.size (w.heap.size + 1) (letC x A c B d) (letC y A' c' B' d') w A x.f11.length c A' y.f11.length c' (eqB x.f11 y.f11) := fun p => (equalDocs A c x.f11 A' c' y.f11 p.W (Kd.C_below hx.rA p.h.2.2) (Kd.C_below hy.rA p.h.2.2) hz.1 hz.2.2.2.2).mono fun _ _ hq => ⟨hq.1, boxW_below p hq.2⟩
 have hs : TextsC w.heap.size (w.heap.size + 1) (letC x A c B d) (letC y A' c' B' d') w B x.f12.length d B' y.f12.length d' (eqB x.f12 y.f12) := fun p => (slices_Equal_string_string.calls (x.f12.length + 1) B d x.f12 B' d' y.f12 (eqB x.f12 y.f12) p.W (Kd.C_below hx.rB p.h.2.2) hx.lB (Kd.C_below hy.rB p.h.2.2) hy.lB (eqS_f x.f12 y.f12 (Nat.le_trans hz.2.2.1 (by omega)) _ (Nat.lt_succ_self _))).mono fun _ _ hq => ⟨hq.1, boxW_below p (by obtain ⟨n, hn⟩ := hq.2; rw [hn]; exact pw_below_drewN (Below.refl _ _) n)⟩
 cases ht0 : (x.f0.toList == y.f0.toList && (x.f1.toList == y.f1.toList && (x.f5.toList == y.f5.toList && (x.f6.toList == y.f6.toList && x.f7.toList == y.f7.toList)))) with
 | false => exact same_0 x A c B d y A' c' B' d' w ht0
 | true =>
  cases ht1 : (x.f2 == y.f2 && (x.f3 == y.f3 && (x.f4 == y.f4 && (x.f8 == y.f8 && x.f9 == y.f9)))) with
  | false => exact same_1 x A c B d y A' c' B' d' w ht0 ht1
  | true =>
   cases ht2 : (x.f10.f0.toList == y.f10.f0.toList && (x.f10.f1 == y.f10.f1)) with
   | false => exact same_2 x A c B d y A' c' B' d' w ht0 ht1 ht2
   | true =>
    cases hd0 : eqB x.f11 y.f11 with
    | false => rw [hd0] at hd; exact same_3 x A c B d y A' c' B' d' w ht0 ht1 ht2 (Lib.hid hd)
    | true => rw [hd0] at hd; exact same_4 x A c B d y A' c' B' d' (eqB x.f12 y.f12) w ht0 ht1 ht2 (Lib.hid hd) (Lib.hid hs)
theorem post_Same.calls (a0 : ByteArray) (a1 : ByteArray) (a2 : Int) (a3 : Int) (a4 : Int) (a5 : ByteArray) (a6 : ByteArray) (a7 : ByteArray) (a8 : Int) (a9 : Int) (a10 : ByteArray) (a11 : Int) (aA12 : Option Addr) (ac12 : Nat) (al12 : List S38) (aA13 : Option Addr) (ac13 : Nat) (al13 : List ByteArray) (b0 : ByteArray) (b1 : ByteArray) (b2 : Int) (b3 : Int) (b4 : Int) (b5 : ByteArray) (b6 : ByteArray) (b7 : ByteArray) (b8 : Int) (b9 : Int) (b10 : ByteArray) (b11 : Int) (bA12 : Option Addr) (bc12 : Nat) (bl12 : List S38) (bA13 : Option Addr) (bc13 : Nat) (bl13 : List ByteArray) (r : Bool) (w : World) (ah12 : Kd.C k38 w aA12 al12.length al12) (ac12h : al12.length ≤ ac12) (ah13 : Kd.C Kd.string w aA13 al13.length al13) (ac13h : al13.length ≤ ac13) (bh12 : Kd.C k38 w bA12 bl12.length bl12) (bc12h : bl12.length ≤ bc12) (bh13 : Kd.C Kd.string w bA13 bl13.length bl13) (bc13h : bl13.length ≤ bc13) (h : post_Same.f a0 a1 a2 a3 a4 a5 a6 a7 a8 a9 a10 a11 al12 al13 b0 b1 b2 b3 b4 b5 b6 b7 b8 b9 b10 b11 bl12 bl13 = some r) :
  Calls Tryz.prog 14 #[.agg #[.string a0, .string a1, .int .i64 a2, .int .i64 a3, .int .i64 a4, .string a5, .string a6, .string a7, .int .i64 a8, .int .i64 a9, .string a10, .int .i64 a11, .slice aA12 al12.length ac12, .slice aA13 al13.length ac13], .agg #[.string b0, .string b1, .int .i64 b2, .int .i64 b3, .int .i64 b4, .string b5, .string b6, .string b7, .int .i64 b8, .int .i64 b9, .string b10, .int .i64 b11, .slice bA12 bl12.length bc12, .slice bA13 bl13.length bc13]] w fun e w' => e = .returned (.bool r) ∧ Below w.heap.size w w' := by
 unfold post_Same.f at h
 by_cases hz : al12.length ≤ 4398046511104 ∧ bl12.length ≤ 4398046511104 ∧ al13.length ≤ 4398046511104 ∧ bl13.length ≤ 4398046511104 ∧ ∀ x ∈ al12, x.f3.length ≤ 4398046511104
 ·
  rw [if_pos hz] at h
  obtain rfl := Option.some.inj h
  exact same_calls (⟨a0, a1, a2, a3, a4, a5, a6, a7, a8, a9, ⟨a10, a11⟩, al12, al13⟩ : S33) aA12 ac12 aA13 ac13 (⟨b0, b1, b2, b3, b4, b5, b6, b7, b8, b9, ⟨b10, b11⟩, bl12, bl13⟩ : S33) bA12 bc12 bA13 bc13 w ⟨ah12, ac12h, ah13, ac13h⟩ ⟨bh12, bc12h, bh13, bc13h⟩ hz
 ·
  rw [if_neg hz] at h; cases h
end Go.Proofs.YtkblmomfiimkiaaGreatDoor.P
end
