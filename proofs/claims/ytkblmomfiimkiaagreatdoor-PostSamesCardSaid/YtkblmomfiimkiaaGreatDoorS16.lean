/- What the claim's theorem leans on. Conditions: none of its own. (Written by prune.py out of the texts Short Kin SamesA, without what the claim doesn't lean on.) -/
import Derived.Test.YtkblmomfiimkiaaGreatDoorS2
import Derived.Test.YtkblmomfiimkiaaGreatDoorS9
import Derived.Test.YtkblmomfiimkiaaGreatDoorS14
import Derived.Test.YtkblmomfiimkiaaGreatDoorS15
section
namespace Go.Proofs.YtkblmomfiimkiaaGreatDoor.P
open Go.RowKit Go.Proofs.YtkblmomfiimkiaaGreatDoorW.PrintWords Go.Proofs.YtkblmomfiimkiaaGreatDoorW.PrintLast Go.Proofs.YtkblmomfiimkiaaGreatDoorW.PrintMore
theorem short_l2 (a0 : ByteArray) (a1 : ByteArray) (a2 : Int) (a3 : Int) (a4 : Int) (a5 : ByteArray) (a6 : ByteArray) (a7 : ByteArray) (a8 : Int) (a9 : Int) (a10 : ByteArray) (a11 : Int) (al12 : List S38) (al13 : List ByteArray) (hs : al13.length ≤ 4611686018427387904) : ∀ (d i : Nat) (x3 : Int), i + d = al13.length →
  ∃ k r, supercargolaw09_short.l2 k x3 al13 (al13.length : Int) (i : Int) a0 a1 a2 a3 a4 a5 a6 a7 a8 a9 a10 a11 al12 al13 = some r ∧ (r = true → al12.length ≤ 12 ∧ al13.length ≤ 60) := by
 intro d
 induction d with
 | zero =>
  intro i x3 h1
  by_cases h9 : x3 ≤ 9000
  ·
   by_cases h12 : (al12.length : Int) ≤ 12
   ·
    refine ⟨1, decide ((al13.length : Int) ≤ 60), ?_, fun h => ⟨by omega, by have := of_decide_eq_true h; omega⟩⟩
    simp only [supercargolaw09_short.l2]
    rw [if_neg (by omega), if_pos h9, if_pos h12]
   ·
    refine ⟨1, false, ?_, fun h => by cases h⟩
    simp only [supercargolaw09_short.l2]
    rw [if_neg (by omega), if_pos h9, if_neg h12]
  ·
   refine ⟨1, false, ?_, fun h => by cases h⟩
   simp only [supercargolaw09_short.l2]
   rw [if_neg (by omega), if_neg h9]
 | succ d ih =>
  intro i x3 h1
  obtain ⟨k, r, hk, hr⟩ := ih (i + 1) (wrap64 (x3 + ((rdOf ByteArray.empty al13 (i : Int)).size : Int))) (by omega)
  refine ⟨k + 1, r, ?_, hr⟩
  simp only [supercargolaw09_short.l2]
  rw [if_pos (by omega), if_pos (by omega), if_pos (by omega), wr_nat i (by omega), hk]
theorem short_l1 (a0 : ByteArray) (a1 : ByteArray) (a2 : Int) (a3 : Int) (a4 : Int) (a5 : ByteArray) (a6 : ByteArray) (a7 : ByteArray) (a8 : Int) (a9 : Int) (a10 : ByteArray) (a11 : Int) (al12 : List S38) (al13 : List ByteArray) (x30 : List S38) (x31 x32 : Int) (Q : Prop) (y0 : Int) (y1 y2 : ByteArray) (fl : List S43) (hs : fl.length ≤ 4611686018427387904)
  (hn : ∀ x3, ∃ k r, supercargolaw09_short.l0 k x3 x30 x31 (wrap64 (x32 + 1)) a0 a1 a2 a3 a4 a5 a6 a7 a8 a9 a10 a11 al12 al13 = some r ∧ (r = true → Q)) : ∀ (d i : Nat) (x3 : Int), i + d = fl.length →
  ∃ k r, supercargolaw09_short.l1 k x3 x30 x31 x32 fl (fl.length : Int) (i : Int) a0 a1 a2 a3 a4 a5 a6 a7 a8 a9 a10 a11 al12 al13 y0 y1 y2 fl = some r ∧ (r = true → Q ∧ fl.length ≤ 80) := by
 intro d
 induction d with
 | zero =>
  intro i x3 h1
  by_cases h9 : x3 > 9000
  ·
   refine ⟨1, false, ?_, fun h => by cases h⟩
   simp only [supercargolaw09_short.l1]
   rw [if_neg (by omega), if_pos h9]
  ·
   by_cases h80 : (fl.length : Int) > 80
   ·
    refine ⟨1, false, ?_, fun h => by cases h⟩
    simp only [supercargolaw09_short.l1]
    rw [if_neg (by omega), if_neg h9, if_pos h80]
   ·
    obtain ⟨k, r, hk, hr⟩ := hn x3
    refine ⟨k + 1, r, ?_, fun h => ⟨hr h, by omega⟩⟩
    simp only [supercargolaw09_short.l1]
    rw [if_neg (by omega), if_neg h9, if_neg h80, hk]
 | succ d ih =>
  intro i x3 h1
  obtain ⟨k, r, hk, hr⟩ := ih (i + 1) (wrap64 (x3 + (wrap64 ((((rd_T43 fl (i : Int)).f0).size : Int) + (((rd_T43 fl (i : Int)).f1).size : Int))))) (by omega)
  refine ⟨k + 1, r, ?_, hr⟩
  simp only [supercargolaw09_short.l1]
  rw [if_pos (by omega), if_pos (by omega), if_pos (by omega), wr_nat i (by omega), hk]
theorem short_l0 (a0 : ByteArray) (a1 : ByteArray) (a2 : Int) (a3 : Int) (a4 : Int) (a5 : ByteArray) (a6 : ByteArray) (a7 : ByteArray) (a8 : Int) (a9 : Int) (a10 : ByteArray) (a11 : Int) (al12 : List S38) (al13 : List ByteArray) (hs : al12.length ≤ 4611686018427387904) (hs2 : al13.length ≤ 4611686018427387904) (hs3 : ∀ x ∈ al12, x.f3.length ≤ 4611686018427387904) : ∀ (d i : Nat) (x3 : Int), i + d = al12.length →
  ∃ k r, supercargolaw09_short.l0 k x3 al12 (al12.length : Int) (i : Int) a0 a1 a2 a3 a4 a5 a6 a7 a8 a9 a10 a11 al12 al13 = some r ∧ (r = true → (al12.length ≤ 12 ∧ al13.length ≤ 60) ∧ ∀ x ∈ al12.drop i, x.f3.length ≤ 80) := by
 intro d
 induction d with
 | zero =>
  intro i x3 h1
  obtain ⟨k, r, hk, hr⟩ := short_l2 a0 a1 a2 a3 a4 a5 a6 a7 a8 a9 a10 a11 al12 al13 hs2 al13.length 0 x3 (by omega)
  refine ⟨k + 1, r, ?_, fun h => ⟨hr h, fun x hx => by rw [List.drop_eq_nil_of_le (by omega)] at hx; cases hx⟩⟩
  simp only [supercargolaw09_short.l0]
  rw [if_neg (by omega)]
  exact hk
 | succ d ih =>
  intro i x3 h1
  have hi : i < al12.length := by omega
  have hn : ∀ x3, ∃ k r, supercargolaw09_short.l0 k x3 al12 (al12.length : Int) (wrap64 ((i : Int) + 1)) a0 a1 a2 a3 a4 a5 a6 a7 a8 a9 a10 a11 al12 al13 = some r ∧ (r = true → (al12.length ≤ 12 ∧ al13.length ≤ 60) ∧ ∀ x ∈ al12.drop (i + 1), x.f3.length ≤ 80) := by
   intro x3
   rw [wr_nat i (by omega)]
   exact ih (i + 1) x3 (by omega)
  obtain ⟨k, r, hk, hr⟩ := short_l1 a0 a1 a2 a3 a4 a5 a6 a7 a8 a9 a10 a11 al12 al13 al12 (al12.length : Int) (i : Int) _ (al12[i]).f0 (al12[i]).f1 (al12[i]).f2 (al12[i]).f3 (hs3 _ (List.getElem_mem hi)) hn (al12[i]).f3.length 0 (wrap64 (x3 + (wrap64 ((((al12[i]).f1).size : Int) + (((al12[i]).f2).size : Int))))) (by omega)
  refine ⟨k + 1, r, ?_, fun h => ⟨(hr h).1.1, fun x hx => ?_⟩⟩
  ·
   simp only [supercargolaw09_short.l0]
   rw [if_pos (by omega), if_pos (by omega), if_pos (by omega), rdD_nat al12 i hi]
   exact hk
  ·
   rw [List.drop_eq_getElem_cons hi] at hx
   rcases List.mem_cons.1 hx with e | e
   ·
    rw [e]; exact (hr h).2
   ·
    exact (hr h).1.2 x e
theorem short_f (a0 : ByteArray) (a1 : ByteArray) (a2 : Int) (a3 : Int) (a4 : Int) (a5 : ByteArray) (a6 : ByteArray) (a7 : ByteArray) (a8 : Int) (a9 : Int) (a10 : ByteArray) (a11 : Int) (al12 : List S38) (al13 : List ByteArray) (hs : al12.length ≤ 4611686018427387904) (hs2 : al13.length ≤ 4611686018427387904) (hs3 : ∀ x ∈ al12, x.f3.length ≤ 4611686018427387904) :
  ∃ k r, supercargolaw09_short.f k a0 a1 a2 a3 a4 a5 a6 a7 a8 a9 a10 a11 al12 al13 = some r ∧ (r = true → (al12.length ≤ 12 ∧ al13.length ≤ 60) ∧ ∀ x ∈ al12, x.f3.length ≤ 80) := by
 unfold supercargolaw09_short.f
 obtain ⟨k, r, hk, hr⟩ := short_l0 a0 a1 a2 a3 a4 a5 a6 a7 a8 a9 a10 a11 al12 al13 hs hs2 hs3 al12.length 0 (wrap64 ((wrap64 ((wrap64 ((wrap64 ((a0.size : Int) + (a1.size : Int))) + (a5.size : Int))) + (a7.size : Int))) + (a6.size : Int))) (by omega)
 exact ⟨k, r, hk, fun h => ⟨(hr h).1, fun x hx => (hr h).2 x (by rw [List.drop_zero]; exact hx)⟩⟩
end Go.Proofs.YtkblmomfiimkiaaGreatDoor.P
end

section
namespace Go.Proofs.YtkblmomfiimkiaaGreatDoor.P
open Go.RowKit Go.Proofs.YtkblmomfiimkiaaGreatDoorW.PrintWords Go.Proofs.YtkblmomfiimkiaaGreatDoorW.PrintLast Go.Proofs.YtkblmomfiimkiaaGreatDoorW.PrintMore
def kIn {α : Type} (d : Kd α) (w0 : World) : Kd α where
 sz := d.sz
 E := []
 K := fun _ x cs => d.K w0 x cs
 M := fun _ _ _ x cs => d.K w0 x cs
 K_len := fun h => d.K_len h
 K_one := fun h => d.K_one h
 K_below := fun _ h => h
 K_of_M := fun h => h
 M_mono := fun _ h => h
 M_bound := fun h => h
 M_move := fun _ h => h
 M_lower := fun _ h => h
theorem kIn_of {α : Type} {d : Kd α} {w0 W : World} {A : Option Addr} {n : Nat} {xs : List α} (h : Kd.C d w0 A n xs) (hb : Below w0.heap.size w0 W) : Kd.C (kIn d w0) W A n xs :=
 ReadsRow.imp_ h hb (fun _ _ hp => hp)
theorem kIn_to {α : Type} {d : Kd α} {w0 W : World} {A : Option Addr} {n : Nat} {xs : List α} (h : Kd.C (kIn d w0) W A n xs) (hb : Below w0.heap.size w0 W) : Kd.C d W A n xs :=
 ReadsRow.imp_ h (Below.refl _ W) (fun _ _ hp => d.K_below hb hp)
theorem kIn_zero (w0 : World) : (kIn k38 w0).K w0 z38 [.int .i64 0, .string (⟨#[]⟩ : ByteArray), .string (⟨#[]⟩ : ByteArray), .slice none 0 0] :=
 k38_mk w0 z38 (A3 := none) (c3 := 0) (Nat.le_refl _) ⟨rfl, by simp [z38], fun h => by simp [z38] at h⟩
end Go.Proofs.YtkblmomfiimkiaaGreatDoor.P
end

section
namespace Go.Proofs.YtkblmomfiimkiaaGreatDoor.P
open Go.RowKit Go.Proofs.YtkblmomfiimkiaaGreatDoorW.PrintWords Go.Proofs.YtkblmomfiimkiaaGreatDoorW.PrintLast Go.Proofs.YtkblmomfiimkiaaGreatDoorW.PrintMore
set_option linter.unusedSimpArgs false
set_option linter.unusedVariables false
theorem wrapB (n : Nat) : BitVec.ofInt 64 (IntKind.i64.wrap (n : Int)) = BitVec.ofNat 64 n := by
 apply BitVec.eq_of_toNat_eq
 simp [IntKind.wrap, IntKind.bits]
 omega
theorem xor64 (A : BitVec 64) : A ^^^ 1#64 ≠ A := by
 intro h
 have h3 := congrArg (fun b : BitVec 64 => b.getLsbD 0) h
 simp only [BitVec.getLsbD_xor] at h3
 revert h3
 cases A.getLsbD 0 <;> decide
theorem xor_ne (x : Int) : bits .xor .i64 x 1 ≠ x := by
 intro e
 have h := congrArg (BitVec.ofInt 64) e
 unfold bits at h
 dsimp only at h
 rw [wrapB] at h
 simp [IntKind.bits] at h
 exact xor64 _ h
theorem BoxW.below {ga gb : Nat} {A B : Array Value} {w : World} (p : BoxW ga gb A B w) : Below w.heap.size w p.W := p.h.2.2
abbrev SBox (x : S33) (A : Option Addr) (c : Nat) (B : Option Addr) (d : Nat) (y : S33) (A' : Option Addr) (c' : Nat) (B' : Option Addr) (d' : Nat) (w : World) := BoxW w.heap.size (w.heap.size + 1) (letC x A c B d) (letC y A' c' B' d') w
structure SamesH (x : S33) (A : Option Addr) (c : Nat) (B : Option Addr) (d : Nat) (y : S33) (A' : Option Addr) (c' : Nat) (B' : Option Addr) (d' : Nat) (ra rb e : Bool) (w : World) : Prop where
 hx : LetR w x A c B d
 s6 : x.f6.size ≤ 140737488351232
 hz : (!ra || !rb) = false → x.f11.length ≤ 12 ∧ x.f12.length ≤ 60 ∧ ∀ q ∈ x.f11, q.f3.length ≤ 80
 sa : ∀ p : SBox x A c B d y A' c' B' d' w, Calls Tryz.prog 13 #[.agg #[.string x.f0, .string x.f1, .int .i64 x.f2, .int .i64 x.f3, .int .i64 x.f4, .string x.f5, .string x.f6, .string x.f7, .int .i64 x.f8, .int .i64 x.f9, .string x.f10.f0, .int .i64 x.f10.f1, .slice A x.f11.length c, .slice B x.f12.length d]] p.W fun u w' => u = .returned (.bool ra) ∧ ∃ q : SBox x A c B d y A' c' B' d' w, w' = q.W
 sb : ∀ p : SBox x A c B d y A' c' B' d' w, Calls Tryz.prog 13 #[.agg #[.string y.f0, .string y.f1, .int .i64 y.f2, .int .i64 y.f3, .int .i64 y.f4, .string y.f5, .string y.f6, .string y.f7, .int .i64 y.f8, .int .i64 y.f9, .string y.f10.f0, .int .i64 y.f10.f1, .slice A' y.f11.length c', .slice B' y.f12.length d']] p.W fun u w' => u = .returned (.bool rb) ∧ ∃ q : SBox x A c B d y A' c' B' d' w, w' = q.W
 aw : ∀ p : SBox x A c B d y A' c' B' d' w, Calls Tryz.prog 9 #[] p.W fun u w' => u = .returned (.bool true) ∧ ∃ q : SBox x A c B d y A' c' B' d' w, w' = q.W
 sm : (!ra || !rb) = false → ∀ p : SBox x A c B d y A' c' B' d' w, Calls Tryz.prog 14 #[.agg #[.string x.f0, .string x.f1, .int .i64 x.f2, .int .i64 x.f3, .int .i64 x.f4, .string x.f5, .string x.f6, .string x.f7, .int .i64 x.f8, .int .i64 x.f9, .string x.f10.f0, .int .i64 x.f10.f1, .slice A x.f11.length c, .slice B x.f12.length d], .agg #[.string y.f0, .string y.f1, .int .i64 y.f2, .int .i64 y.f3, .int .i64 y.f4, .string y.f5, .string y.f6, .string y.f7, .int .i64 y.f8, .int .i64 y.f9, .string y.f10.f0, .int .i64 y.f10.f1, .slice A' y.f11.length c', .slice B' y.f12.length d']] p.W fun u w' => u = .returned (.bool e) ∧ ∃ q : SBox x A c B d y A' c' B' d' w, w' = q.W
 sr : (!ra || !rb) = false → ∀ p : SBox x A c B d y A' c' B' d' w, Calls Tryz.prog 15 #[.agg #[.string x.f0, .string x.f1, .int .i64 x.f2, .int .i64 x.f3, .int .i64 x.f4, .string x.f5, .string x.f6, .string x.f7, .int .i64 x.f8, .int .i64 x.f9, .string x.f10.f0, .int .i64 x.f10.f1, .slice A x.f11.length c, .slice B x.f12.length d], .agg #[.string y.f0, .string y.f1, .int .i64 y.f2, .int .i64 y.f3, .int .i64 y.f4, .string y.f5, .string y.f6, .string y.f7, .int .i64 y.f8, .int .i64 y.f9, .string y.f10.f0, .int .i64 y.f10.f1, .slice A' y.f11.length c', .slice B' y.f12.length d']] p.W fun u w' => u = .returned (.bool e) ∧ ∃ q : SBox x A c B d y A' c' B' d' w, w' = q.W
 ss : (!ra || !rb) = false → ∀ p : SBox x A c B d y A' c' B' d' w, Calls Tryz.prog 14 #[.agg #[.string x.f0, .string x.f1, .int .i64 x.f2, .int .i64 x.f3, .int .i64 x.f4, .string x.f5, .string x.f6, .string x.f7, .int .i64 x.f8, .int .i64 x.f9, .string x.f10.f0, .int .i64 x.f10.f1, .slice A x.f11.length c, .slice B x.f12.length d], .agg #[.string x.f0, .string x.f1, .int .i64 x.f2, .int .i64 x.f3, .int .i64 x.f4, .string x.f5, .string x.f6, .string x.f7, .int .i64 x.f8, .int .i64 x.f9, .string x.f10.f0, .int .i64 x.f10.f1, .slice A x.f11.length c, .slice B x.f12.length d]] p.W fun u w' => u = .returned (.bool true) ∧ ∃ q : SBox x A c B d y A' c' B' d' w, w' = q.W
end Go.Proofs.YtkblmomfiimkiaaGreatDoor.P
end
