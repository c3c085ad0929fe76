/- post.May: whether a letter may be. Conditions: the library's variables stand as laid; lists' lengths below 2^42; of each paper it is told whether it may go with a letter. -/
import Derived.Test.YtkblmomfiimkiaaGreatDoorAnyB
import Derived.Test.YtkblmomfiimkiaaGreatDoorSameB
import Derived.Test.YtkblmomfiimkiaaGreatDoorLaidB
import Derived.Test.YtkblmomfiimkiaaGreatDoorPx10
import Derived.Test.YtkblmomfiimkiaaGreatDoorPx12
import Derived.Test.YtkblmomfiimkiaaGreatDoorPx5
import Derived.Test.YtkblmomfiimkiaaGreatDoorMoneyT
import Derived.Deep.RegionWith
namespace Go.Proofs.YtkblmomfiimkiaaGreatDoor.P
open Go.RowKit Go.Proofs.YtkblmomfiimkiaaGreatDoorW.PrintWords Go.Proofs.YtkblmomfiimkiaaGreatDoorW.PrintLast Go.Proofs.YtkblmomfiimkiaaGreatDoorW.PrintMore
open Go.Proofs.YtkblmomfiimkiaaGreatDoor.Fp
attribute [local go_sem high] eqMoney

/-- is a number from one to another one -/
def btwB (a lo hi : Int) : Bool := decide (lo ≤ a) && decide (a ≤ hi)
theorem within_f (a lo hi : Int) : post_within.f a lo hi = some (btwB a lo hi) := by
  unfold post_within.f btwB
  by_cases h : a ≥ lo
  · rw [if_pos h, decide_eq_true h, Bool.true_and]
  · rw [if_neg h, decide_eq_false h, Bool.false_and]
structure Box1 (g : Nat) (A : Array Value) (w : World) where
  W : World
  h : W.heap[g]? = some (.cells A 33 (0, 0)) ∧ Below w.heap.size w W
theorem box1_below {g : Nat} {A : Array Value} {w W w' : World} (h : W.heap[g]? = some (.cells A 33 (0, 0)) ∧ Below w.heap.size w W) (hb : Below W.heap.size W w') : ∃ q : Box1 g A w, w' = q.W := ⟨⟨w', (hb.block g (blk_lt h.1)).trans h.1, below_step h.2 hb⟩, rfl⟩
theorem box1_cell {g : Nat} {A : Array Value} {w : World} (p : Box1 g A w) (i : Nat) {v : Value} (h : A[i]? = some v) : p.W.cell? ⟨g, i, none⟩ = some v := (blk_cell p.h.1 i).trans h
theorem within_class {g : Nat} {A : Array Value} {w : World} (p : Box1 g A w) (a lo hi : Int) : Calls Tryz.prog 29 #[.int .i64 a, .int .i64 lo, .int .i64 hi] p.W fun e w' => e = .returned (.bool (btwB a lo hi)) ∧ ∃ q : Box1 g A w, w' = q.W :=
  (post_within.calls a lo hi _ p.W (within_f a lo hi)).mono fun _ _ hq => ⟨hq.1, box1_below p.h (by obtain ⟨n, hn⟩ := hq.2; rw [hn]; exact pw_below_drewN (Below.refl _ _) n)⟩
theorem name_class {g : Nat} {A : Array Value} {w : World} (p : Box1 g A w) (s : ByteArray) : Calls Tryz.prog 37 #[.string s] p.W fun e w' => e = .returned (.bool (nameB s.data.toList)) ∧ ∃ q : Box1 g A w, w' = q.W :=
  (post_name.calls s _ p.W rfl).mono fun _ _ hq => ⟨hq.1, box1_below p.h hq.2⟩
theorem money_class {g : Nat} {A : Array Value} {w : World} (p : Box1 g A w) (s : ByteArray) (n : Int) : Calls Tryz.prog 38 #[.agg #[.string s, .int .i64 n]] p.W fun e w' => e = .returned (.bool (moneyMay s.data.toList n)) ∧ ∃ q : Box1 g A w, w' = q.W :=
  (money_May.calls s n _ p.W (money_May_f s n)).mono fun _ _ hq => ⟨hq.1, box1_below p.h hq.2⟩
theorem names_class {g : Nat} {A : Array Value} {w W : World} (hG : Glob w) (h : W.heap[g]? = some (.cells A 33 (0, 0)) ∧ Below w.heap.size w W) : Calls Tryz.prog 28 #[] W fun e w' => (∃ a c, e = .returned (.slice a 29 c)) ∧ ∃ q : Box1 g A w, w' = q.W :=
  (post_names.calls namesB W (glob_below hG h.2) rfl).mono fun e w' hq => by
    obtain ⟨v, rfl, hr, hb⟩ := hq
    obtain ⟨a, c, rfl⟩ := Kd.R_slice hr
    exact ⟨⟨a, c, rfl⟩, box1_below h hb⟩
theorem box1_drew {g : Nat} {A : Array Value} {w W : World} (h : W.heap[g]? = some (.cells A 33 (0, 0)) ∧ Below w.heap.size w W) : W.drew.heap[g]? = some (.cells A 33 (0, 0)) ∧ Below w.heap.size w W.drew := ⟨h.1, below_step h.2 (pw_below_drewN (Below.refl _ W) 1)⟩
theorem Box1.below {g : Nat} {A : Array Value} {w : World} (p : Box1 g A w) : Below w.heap.size w p.W := p.h.2
/-- is an ack nothing else -/
noncomputable def plainB (a0 : ByteArray) (a1 : ByteArray) (a2 : Int) (a3 : Int) (a4 : Int) (a5 : ByteArray) (a6 : ByteArray) (a7 : ByteArray) (a8 : Int) (a9 : Int) (a10 : ByteArray) (a11 : Int) (al12 : List S38) (al13 : List ByteArray) : Bool := eqB (⟨a0, a1, a2, a3, a4, a5, a6, a7, a8, a9, ⟨a10, a11⟩, al12, al13⟩ : S33) (⟨a0, a1, 0, a3, a4, ⟨#[]⟩, ⟨#[]⟩, ⟨#[]⟩, 0, 0, ⟨⟨#[]⟩, 0⟩, [], []⟩ : S33)
theorem plain_f (a0 : ByteArray) (a1 : ByteArray) (a2 : Int) (a3 : Int) (a4 : Int) (a5 : ByteArray) (a6 : ByteArray) (a7 : ByteArray) (a8 : Int) (a9 : Int) (a10 : ByteArray) (a11 : Int) (al12 : List S38) (al13 : List ByteArray) (h1 : al12.length ≤ 4398046511104) (h2 : al13.length ≤ 4398046511104) (h3 : ∀ x ∈ al12, x.f3.length ≤ 4398046511104) : post_plain.f a0 a1 a2 a3 a4 a5 a6 a7 a8 a9 a10 a11 al12 al13 = some (plainB a0 a1 a2 a3 a4 a5 a6 a7 a8 a9 a10 a11 al12 al13) := by
  unfold post_plain.f post_Same.f
  rw [if_pos ⟨h1, by simp, h2, by simp, h3⟩]
  rfl
noncomputable def kindB (a0 : ByteArray) (a1 : ByteArray) (a2 : Int) (a3 : Int) (a4 : Int) (a5 : ByteArray) (a6 : ByteArray) (a7 : ByteArray) (a8 : Int) (a9 : Int) (a10 : ByteArray) (a11 : Int) (al12 : List S38) (al13 : List ByteArray) : Bool := btwB a3 0 28 && (!decide (a3 = 28) || plainB a0 a1 a2 a3 a4 a5 a6 a7 a8 a9 a10 a11 al12 al13)
def numbersB (a2 a4 a8 a9 : Int) : Bool := btwB a2 0 1048576 && (btwB a4 0 1048576 && (btwB a8 (-1) 2 && btwB a9 0 1048576))
def textsB (a0 a1 a5 a6 a7 : ByteArray) : Bool := nameB a0.data.toList && (nameB a1.data.toList && (!(a0.toList == a1.toList) && ((a5.toList.isEmpty || nameB a5.data.toList) && ((a7.toList.isEmpty || nameB a7.data.toList) && decide ((a6.size : Int) ≤ 4096)))))
def sumB (a10 : ByteArray) (a11 : Int) : Bool := (a10.toList.isEmpty && (a11 == 0)) || moneyMay a10.data.toList a11
noncomputable def mayLB (a0 : ByteArray) (a1 : ByteArray) (a2 : Int) (a3 : Int) (a4 : Int) (a5 : ByteArray) (a6 : ByteArray) (a7 : ByteArray) (a8 : Int) (a9 : Int) (a10 : ByteArray) (a11 : Int) (al12 : List S38) (al13 : List ByteArray) : Bool := kindB a0 a1 a2 a3 a4 a5 a6 a7 a8 a9 a10 a11 al12 al13 && (numbersB a2 a4 a8 a9 && (textsB a0 a1 a5 a6 a7 && (sumB a10 a11 && (decide ((al12.length : Int) ≤ 8) && (decide ((al13.length : Int) ≤ 32) && (!(al12.any fun x => !paperB x) && !(al13.any fun x => !nameB x.data.toList)))))))
noncomputable def post_May.f (a0 : ByteArray) (a1 : ByteArray) (a2 : Int) (a3 : Int) (a4 : Int) (a5 : ByteArray) (a6 : ByteArray) (a7 : ByteArray) (a8 : Int) (a9 : Int) (a10 : ByteArray) (a11 : Int) (al12 : List S38) (al13 : List ByteArray) : Option Bool := @ite _ (al12.length ≤ 4398046511104 ∧ al13.length ≤ 4398046511104 ∧ (∀ x ∈ al12, x.f3.length ≤ 4398046511104) ∧ (∀ x ∈ al12, PaperTold x) ∧ btwB a3 0 28 = true) (Classical.propDecidable _) (some (mayLB a0 a1 a2 a3 a4 a5 a6 a7 a8 a9 a10 a11 al12 al13)) none

set_option maxRecDepth 100000 in
set_option maxHeartbeats 8000000 in
theorem post_May.calls (a0 : ByteArray) (a1 : ByteArray) (a2 : Int) (a3 : Int) (a4 : Int) (a5 : ByteArray) (a6 : ByteArray) (a7 : ByteArray) (a8 : Int) (a9 : Int) (a10 : ByteArray) (a11 : Int) (aA12 : Option Addr) (ac12 : Nat) (al12 : List S38) (aA13 : Option Addr) (ac13 : Nat) (al13 : List ByteArray) (r : Bool) (w : World) (ah12 : Kd.C k38 w aA12 al12.length al12) (ac12h : al12.length ≤ ac12) (ah13 : Kd.C Kd.string w aA13 al13.length al13) (ac13h : al13.length ≤ ac13) (hG : Glob w) (h : post_May.f a0 a1 a2 a3 a4 a5 a6 a7 a8 a9 a10 a11 al12 al13 = some r) :
    Calls Tryz.prog 16 #[.agg #[.string a0, .string a1, .int .i64 a2, .int .i64 a3, .int .i64 a4, .string a5, .string a6, .string a7, .int .i64 a8, .int .i64 a9, .string a10, .int .i64 a11, .slice aA12 al12.length ac12, .slice aA13 al13.length ac13]] w fun e w' => e = .returned (.bool r) ∧ Below w.heap.size w w' := by
  unfold post_May.f at h
  by_cases hz : al12.length ≤ 4398046511104 ∧ al13.length ≤ 4398046511104 ∧ (∀ x ∈ al12, x.f3.length ≤ 4398046511104) ∧ (∀ x ∈ al12, PaperTold x) ∧ btwB a3 0 28 = true
  · rw [if_pos hz] at h
    have HR := Lib.hid (Option.some.inj h)
    have HZ := Lib.hid hz
    have HG := Lib.hid hG
    have H12 := Lib.hid ah12
    have H13 := Lib.hid ah13
    have L12 := Lib.hid ac12h
    have L13 := Lib.hid ac13h
    clear h hz hG ah12 ah13 ac12h ac13h
    have s0 : ∀ p : Box1 w.heap.size #[.string a0, .string a1, .int .i64 a2, .int .i64 a3, .int .i64 a4, .string a5, .string a6, .string a7, .int .i64 a8, .int .i64 a9, .string a10, .int .i64 a11, .slice aA12 al12.length ac12, .slice aA13 al13.length ac13] w, p.W.cell? ⟨w.heap.size, 0, none⟩ = some (.string a0) := fun p => box1_cell p 0 rfl
    have s1 : ∀ p : Box1 w.heap.size #[.string a0, .string a1, .int .i64 a2, .int .i64 a3, .int .i64 a4, .string a5, .string a6, .string a7, .int .i64 a8, .int .i64 a9, .string a10, .int .i64 a11, .slice aA12 al12.length ac12, .slice aA13 al13.length ac13] w, p.W.cell? ⟨w.heap.size, 1, none⟩ = some (.string a1) := fun p => box1_cell p 1 rfl
    have s2 : ∀ p : Box1 w.heap.size #[.string a0, .string a1, .int .i64 a2, .int .i64 a3, .int .i64 a4, .string a5, .string a6, .string a7, .int .i64 a8, .int .i64 a9, .string a10, .int .i64 a11, .slice aA12 al12.length ac12, .slice aA13 al13.length ac13] w, p.W.cell? ⟨w.heap.size, 2, none⟩ = some (.int .i64 a2) := fun p => box1_cell p 2 rfl
    have s3 : ∀ p : Box1 w.heap.size #[.string a0, .string a1, .int .i64 a2, .int .i64 a3, .int .i64 a4, .string a5, .string a6, .string a7, .int .i64 a8, .int .i64 a9, .string a10, .int .i64 a11, .slice aA12 al12.length ac12, .slice aA13 al13.length ac13] w, p.W.cell? ⟨w.heap.size, 3, none⟩ = some (.int .i64 a3) := fun p => box1_cell p 3 rfl
    have s4 : ∀ p : Box1 w.heap.size #[.string a0, .string a1, .int .i64 a2, .int .i64 a3, .int .i64 a4, .string a5, .string a6, .string a7, .int .i64 a8, .int .i64 a9, .string a10, .int .i64 a11, .slice aA12 al12.length ac12, .slice aA13 al13.length ac13] w, p.W.cell? ⟨w.heap.size, 4, none⟩ = some (.int .i64 a4) := fun p => box1_cell p 4 rfl
    have s5 : ∀ p : Box1 w.heap.size #[.string a0, .string a1, .int .i64 a2, .int .i64 a3, .int .i64 a4, .string a5, .string a6, .string a7, .int .i64 a8, .int .i64 a9, .string a10, .int .i64 a11, .slice aA12 al12.length ac12, .slice aA13 al13.length ac13] w, p.W.cell? ⟨w.heap.size, 5, none⟩ = some (.string a5) := fun p => box1_cell p 5 rfl
    have s6 : ∀ p : Box1 w.heap.size #[.string a0, .string a1, .int .i64 a2, .int .i64 a3, .int .i64 a4, .string a5, .string a6, .string a7, .int .i64 a8, .int .i64 a9, .string a10, .int .i64 a11, .slice aA12 al12.length ac12, .slice aA13 al13.length ac13] w, p.W.cell? ⟨w.heap.size, 6, none⟩ = some (.string a6) := fun p => box1_cell p 6 rfl
    have s7 : ∀ p : Box1 w.heap.size #[.string a0, .string a1, .int .i64 a2, .int .i64 a3, .int .i64 a4, .string a5, .string a6, .string a7, .int .i64 a8, .int .i64 a9, .string a10, .int .i64 a11, .slice aA12 al12.length ac12, .slice aA13 al13.length ac13] w, p.W.cell? ⟨w.heap.size, 7, none⟩ = some (.string a7) := fun p => box1_cell p 7 rfl
    have s8 : ∀ p : Box1 w.heap.size #[.string a0, .string a1, .int .i64 a2, .int .i64 a3, .int .i64 a4, .string a5, .string a6, .string a7, .int .i64 a8, .int .i64 a9, .string a10, .int .i64 a11, .slice aA12 al12.length ac12, .slice aA13 al13.length ac13] w, p.W.cell? ⟨w.heap.size, 8, none⟩ = some (.int .i64 a8) := fun p => box1_cell p 8 rfl
    have s9 : ∀ p : Box1 w.heap.size #[.string a0, .string a1, .int .i64 a2, .int .i64 a3, .int .i64 a4, .string a5, .string a6, .string a7, .int .i64 a8, .int .i64 a9, .string a10, .int .i64 a11, .slice aA12 al12.length ac12, .slice aA13 al13.length ac13] w, p.W.cell? ⟨w.heap.size, 9, none⟩ = some (.int .i64 a9) := fun p => box1_cell p 9 rfl
    have s10 : ∀ p : Box1 w.heap.size #[.string a0, .string a1, .int .i64 a2, .int .i64 a3, .int .i64 a4, .string a5, .string a6, .string a7, .int .i64 a8, .int .i64 a9, .string a10, .int .i64 a11, .slice aA12 al12.length ac12, .slice aA13 al13.length ac13] w, p.W.cell? ⟨w.heap.size, 10, none⟩ = some (.string a10) := fun p => box1_cell p 10 rfl
    have s11 : ∀ p : Box1 w.heap.size #[.string a0, .string a1, .int .i64 a2, .int .i64 a3, .int .i64 a4, .string a5, .string a6, .string a7, .int .i64 a8, .int .i64 a9, .string a10, .int .i64 a11, .slice aA12 al12.length ac12, .slice aA13 al13.length ac13] w, p.W.cell? ⟨w.heap.size, 11, none⟩ = some (.int .i64 a11) := fun p => box1_cell p 11 rfl
    have s12 : ∀ p : Box1 w.heap.size #[.string a0, .string a1, .int .i64 a2, .int .i64 a3, .int .i64 a4, .string a5, .string a6, .string a7, .int .i64 a8, .int .i64 a9, .string a10, .int .i64 a11, .slice aA12 al12.length ac12, .slice aA13 al13.length ac13] w, p.W.cell? ⟨w.heap.size, 12, none⟩ = some (.slice aA12 al12.length ac12) := fun p => box1_cell p 12 rfl
    have s13 : ∀ p : Box1 w.heap.size #[.string a0, .string a1, .int .i64 a2, .int .i64 a3, .int .i64 a4, .string a5, .string a6, .string a7, .int .i64 a8, .int .i64 a9, .string a10, .int .i64 a11, .slice aA12 al12.length ac12, .slice aA13 al13.length ac13] w, p.W.cell? ⟨w.heap.size, 13, none⟩ = some (.slice aA13 al13.length ac13) := fun p => box1_cell p 13 rfl
    have hp0 : (w.alloc (.cells #[.string a0, .string a1, .int .i64 a2, .int .i64 a3, .int .i64 a4, .string a5, .string a6, .string a7, .int .i64 a8, .int .i64 a9, .string a10, .int .i64 a11, .slice aA12 al12.length ac12, .slice aA13 al13.length ac13] 33)).heap[w.heap.size]? = some (.cells #[.string a0, .string a1, .int .i64 a2, .int .i64 a3, .int .i64 a4, .string a5, .string a6, .string a7, .int .i64 a8, .int .i64 a9, .string a10, .int .i64 a11, .slice aA12 al12.length ac12, .slice aA13 al13.length ac13] 33 (0, 0)) ∧ Below w.heap.size w (w.alloc (.cells #[.string a0, .string a1, .int .i64 a2, .int .i64 a3, .int .i64 a4, .string a5, .string a6, .string a7, .int .i64 a8, .int .i64 a9, .string a10, .int .i64 a11, .slice aA12 al12.length ac12, .slice aA13 al13.length ac13] 33)) := ⟨by show (w.heap.push _)[w.heap.size]? = _; rw [Array.getElem?_push_size], (Below.refl _ w).alloc (Nat.le_refl _) _⟩
    have HP0 := Lib.hid hp0
    clear hp0
    go_enter Tryz.func16, Tryz.ntmps16
    go_upto_region 1 with (fail)
    generalize (w.alloc (.cells #[.string a0, .string a1, .int .i64 a2, .int .i64 a3, .int .i64 a4, .string a5, .string a6, .string a7, .int .i64 a8, .int .i64 a9, .string a10, .int .i64 a11, .slice aA12 al12.length ac12, .slice aA13 al13.length ac13] 33)) = W0 at HP0 ⊢
    go_cut [3] (fun v3 wc => v3 = .bool (kindB a0 a1 a2 a3 a4 a5 a6 a7 a8 a9 a10 a11 al12 al13) ∧ ∃ p : Box1 w.heap.size #[.string a0, .string a1, .int .i64 a2, .int .i64 a3, .int .i64 a4, .string a5, .string a6, .string a7, .int .i64 a8, .int .i64 a9, .string a10, .int .i64 a11, .slice aA12 al12.length ac12, .slice aA13 al13.length ac13] w, wc = p.W)
    case first =>
      have HD := Lib.hid (box1_drew HP0.out)
      have hpl := fun (p : Box1 w.heap.size #[.string a0, .string a1, .int .i64 a2, .int .i64 a3, .int .i64 a4, .string a5, .string a6, .string a7, .int .i64 a8, .int .i64 a9, .string a10, .int .i64 a11, .slice aA12 al12.length ac12, .slice aA13 al13.length ac13] w) => ((post_plain.calls a0 a1 a2 a3 a4 a5 a6 a7 a8 a9 a10 a11 aA12 ac12 al12 aA13 ac13 al13 (plainB a0 a1 a2 a3 a4 a5 a6 a7 a8 a9 a10 a11 al12 al13) p.W (Kd.C_below H12.out p.h.2) L12.out (Kd.C_below H13.out p.h.2) L13.out (plain_f a0 a1 a2 a3 a4 a5 a6 a7 a8 a9 a10 a11 al12 al13 HZ.out.1 HZ.out.2.1 HZ.out.2.2.1)).mono fun e w' hq => (show e = Ending.returned (.bool (plainB a0 a1 a2 a3 a4 a5 a6 a7 a8 a9 a10 a11 al12 al13)) ∧ ∃ q : Box1 w.heap.size #[.string a0, .string a1, .int .i64 a2, .int .i64 a3, .int .i64 a4, .string a5, .string a6, .string a7, .int .i64 a8, .int .i64 a9, .string a10, .int .i64 a11, .slice aA12 al12.length ac12, .slice aA13 al13.length ac13] w, w' = q.W from ⟨hq.1, box1_below p.h hq.2⟩))
      have HPL := Lib.hid hpl
      clear hpl
      have c0 : W0.cell? ⟨w.heap.size, 3, none⟩ = some (.int .i64 a3) := (blk_cell HP0.out.1 3).trans rfl
      have hwi := fun (p : Box1 w.heap.size #[.string a0, .string a1, .int .i64 a2, .int .i64 a3, .int .i64 a4, .string a5, .string a6, .string a7, .int .i64 a8, .int .i64 a9, .string a10, .int .i64 a11, .slice aA12 al12.length ac12, .slice aA13 al13.length ac13] w) => within_class p a3 0 28
      cases hb : btwB a3 0 28 with
      | true =>
        rw [hb] at hwi
        have HW := Lib.hid hwi
        by_cases h28 : a3 = 28
        · have hn28 : (a3 != 28) = false := by rw [h28]; rfl
          have hk : (kindB a0 a1 a2 a3 a4 a5 a6 a7 a8 a9 a10 a11 al12 al13) = plainB a0 a1 a2 a3 a4 a5 a6 a7 a8 a9 a10 a11 al12 al13 := by unfold kindB; rw [hb, decide_eq_true h28]; rfl
          have HK := Lib.hid hk
          clear hk hb hwi h28
          go_region_with (first | (go_at_call 28; refine (names_class HG.out HD.out).mono ?_; rintro e w1 ⟨⟨na, nc, rfl⟩, q, rfl⟩) | (go_at_call 29; (refine (HW.out _).mono ?_); rintro e w' ⟨rfl, q, rfl⟩) | (go_at_call 36; refine (HPL.out _).mono ?_; rintro e w' ⟨rfl, q, rfl⟩))
          all_goals (go_wp2_with fail; go_meet; case rel => exact ⟨by rw [HK.out], _, rfl⟩)
        · have hn28 : (a3 != 28) = true := bne_iff_ne.2 h28
          have hk : (kindB a0 a1 a2 a3 a4 a5 a6 a7 a8 a9 a10 a11 al12 al13) = true := by unfold kindB; rw [hb, decide_eq_false h28]; rfl
          have HK := Lib.hid hk
          clear hk hb hwi h28
          go_region_with (first | (go_at_call 28; refine (names_class HG.out HD.out).mono ?_; rintro e w1 ⟨⟨na, nc, rfl⟩, q, rfl⟩) | (go_at_call 29; (refine (HW.out _).mono ?_); rintro e w' ⟨rfl, q, rfl⟩))
          all_goals (go_wp2_with fail; go_meet; case rel => exact ⟨by rw [HK.out], _, rfl⟩)
      | false => rw [HZ.out.2.2.2.2] at hb; cases hb
    case rest =>
      obtain ⟨rfl, p1, rfl⟩ := hcut
      go_upto_region 2 with (fail)
      go_cut [4] (fun v4 wc => v4 = .bool (numbersB a2 a4 a8 a9) ∧ ∃ p : Box1 w.heap.size #[.string a0, .string a1, .int .i64 a2, .int .i64 a3, .int .i64 a4, .string a5, .string a6, .string a7, .int .i64 a8, .int .i64 a9, .string a10, .int .i64 a11, .slice aA12 al12.length ac12, .slice aA13 al13.length ac13] w, wc = p.W)
      case first =>
        go_wp2_with (first | (go_at_call 29; (with_reducible refine (within_class _ _ _ _).mono ?_); rintro e w' ⟨rfl, q, rfl⟩))
        all_goals (go_meet; try (case rel => exact ⟨by simp [numbersB, *], _, rfl⟩))
      case rest =>
        obtain ⟨rfl, p2, rfl⟩ := hcut
        go_upto_region 3 with (fail)
        go_cut [5] (fun v5 wc => v5 = .bool (textsB a0 a1 a5 a6 a7) ∧ ∃ p : Box1 w.heap.size #[.string a0, .string a1, .int .i64 a2, .int .i64 a3, .int .i64 a4, .string a5, .string a6, .string a7, .int .i64 a8, .int .i64 a9, .string a10, .int .i64 a11, .slice aA12 al12.length ac12, .slice aA13 al13.length ac13] w, wc = p.W)
        case first =>
          go_wp2_with (first | (go_at_call 37; (with_reducible refine (name_class _ _).mono ?_); rintro e w' ⟨rfl, q, rfl⟩))
          all_goals (go_meet; try (case rel => exact ⟨by simp [textsB, *], _, rfl⟩))
        case rest =>
          obtain ⟨rfl, p3, rfl⟩ := hcut
          go_upto_region 4 with (fail)
          go_cut [6] (fun v6 wc => v6 = .bool (sumB a10 a11) ∧ ∃ p : Box1 w.heap.size #[.string a0, .string a1, .int .i64 a2, .int .i64 a3, .int .i64 a4, .string a5, .string a6, .string a7, .int .i64 a8, .int .i64 a9, .string a10, .int .i64 a11, .slice aA12 al12.length ac12, .slice aA13 al13.length ac13] w, wc = p.W)
          case first =>
            by_cases h1 : a10.toList = []
            · by_cases h2 : a11 = 0
              · have e : sumB a10 a11 = true := by simp [sumB, h1, h2]
                have E := Lib.hid e
                subst h2
                clear e
                go_wp2_with fail
                go_meet
                case rel => exact ⟨by rw [E.out], _, rfl⟩
              · have hb2 : (a11 == 0) = false := beq_eq_false_iff_ne.2 h2
                have e : sumB a10 a11 = moneyMay a10.data.toList a11 := by unfold sumB; rw [hb2, Bool.and_false, Bool.false_or]
                have E := Lib.hid e
                clear e h2
                go_wp2_with (first | (go_at_call 38; (with_reducible refine (money_class _ _ _).mono ?_); rintro e w' ⟨rfl, q, rfl⟩))
                go_meet
                case rel => exact ⟨by rw [E.out], _, rfl⟩
            · have h1' : a10.toList.isEmpty = false := by simpa using h1
              have h1b : (a10.toList == []) = false := by simpa using h1
              have e : sumB a10 a11 = moneyMay a10.data.toList a11 := by unfold sumB; rw [h1', Bool.false_and, Bool.false_or]
              have E := Lib.hid e
              clear e
              go_wp2_with (first | (go_at_call 38; (with_reducible refine (money_class _ _ _).mono ?_); rintro e w' ⟨rfl, q, rfl⟩))
              go_meet
              case rel => exact ⟨by rw [E.out], _, rfl⟩
          case rest =>
            obtain ⟨rfl, p4, rfl⟩ := hcut
            have hdc := fun (p : Box1 w.heap.size #[.string a0, .string a1, .int .i64 a2, .int .i64 a3, .int .i64 a4, .string a5, .string a6, .string a7, .int .i64 a8, .int .i64 a9, .string a10, .int .i64 a11, .slice aA12 al12.length ac12, .slice aA13 al13.length ac13] w) => ((containsDocs aA12 ac12 al12 p.W (Kd.C_below H12.out p.h.2) HZ.out.1 HZ.out.2.2.2.1).mono fun e w' hq => (show e = Ending.returned (.bool (al12.any fun x => !paperB x)) ∧ ∃ q : Box1 w.heap.size #[.string a0, .string a1, .int .i64 a2, .int .i64 a3, .int .i64 a4, .string a5, .string a6, .string a7, .int .i64 a8, .int .i64 a9, .string a10, .int .i64 a11, .slice aA12 al12.length ac12, .slice aA13 al13.length ac13] w, w' = q.W from ⟨hq.1, box1_below p.h hq.2⟩))
            have hbc := fun (p : Box1 w.heap.size #[.string a0, .string a1, .int .i64 a2, .int .i64 a3, .int .i64 a4, .string a5, .string a6, .string a7, .int .i64 a8, .int .i64 a9, .string a10, .int .i64 a11, .slice aA12 al12.length ac12, .slice aA13 al13.length ac13] w) => ((containsTexts aA13 ac13 al13 p.W (Kd.C_below H13.out p.h.2) HZ.out.2.1).mono fun e w' hq => (show e = Ending.returned (.bool (al13.any fun x => !nameB x.data.toList)) ∧ ∃ q : Box1 w.heap.size #[.string a0, .string a1, .int .i64 a2, .int .i64 a3, .int .i64 a4, .string a5, .string a6, .string a7, .int .i64 a8, .int .i64 a9, .string a10, .int .i64 a11, .slice aA12 al12.length ac12, .slice aA13 al13.length ac13] w, w' = q.W from ⟨hq.1, box1_below p.h hq.2⟩))
            have HDC := Lib.hid hdc
            have HBC := Lib.hid hbc
            clear hdc hbc
            go_upto_region 7 with (fail)
            generalize hk : (kindB a0 a1 a2 a3 a4 a5 a6 a7 a8 a9 a10 a11 al12 al13) = KB
            generalize hn : numbersB a2 a4 a8 a9 = NB
            generalize ht : textsB a0 a1 a5 a6 a7 = TB
            generalize hs : sumB a10 a11 = SB
            generalize hd : (al12.any fun x => !paperB x) = DB at HDC
            generalize hx : (al13.any fun x => !nameB x.data.toList) = XB at HBC
            have hR := HR.out
            unfold mayLB at hR
            rw [hk, hn, ht, hs, hd, hx] at hR
            have HR2 := Lib.hid hR
            clear hR hk hn ht hs hd hx
            go_wp2_with (first | (go_at_call 42; (with_reducible refine (HDC.out _).mono ?_); rintro e w' ⟨rfl, q, rfl⟩) | (go_at_call 43; (with_reducible refine (HBC.out _).mono ?_); rintro e w' ⟨rfl, q, rfl⟩))
            all_goals (go_ret; exact ⟨by rw [← HR2.out]; first | (simp [*]; done) | (simp [*]; intros; omega), Box1.below _⟩)
  · rw [if_neg hz] at h; cases h

end Go.Proofs.YtkblmomfiimkiaaGreatDoor.P
