/- What the claim's theorem leans on. Conditions: none of its own. (Written by prune.py out of the texts PSame, without what the claim doesn't lean on.) -/
import Derived.Test.YtkblmomfiimkiaaGreatDoorM12
import Derived.Test.YtkblmomfiimkiaaGreatDoorM25
section
namespace Go.Proofs.YtkblmomfiimkiaaGreatDoor.P
open Go.RowKit Go.Proofs.YtkblmomfiimkiaaGreatDoorW.PrintWords Go.Proofs.YtkblmomfiimkiaaGreatDoorW.PrintLast Go.Proofs.YtkblmomfiimkiaaGreatDoorW.PrintMore
theorem refSame_l0 (a b : List S43) (hl : a.length = b.length) (hs : a.length ≤ 4611686018427387904) : ∀ (d i k : Nat), i + d = a.length → d < k →
  supercargoref05_Same.l0 k a b (i : Int) = some (eqB (a.drop i) (b.drop i)) := by
 intro d
 induction d with
 | zero =>
  intro i k h1 h2
  obtain ⟨k, rfl⟩ : ∃ m, k = m + 1 := ⟨k - 1, by omega⟩
  simp only [supercargoref05_Same.l0]
  rw [if_neg (by omega), List.drop_eq_nil_of_le (by omega), List.drop_eq_nil_of_le (by omega), eqB_of rfl]
 | succ d ih =>
  intro i k h1 h2
  obtain ⟨k, rfl⟩ : ∃ m, k = m + 1 := ⟨k - 1, by omega⟩
  have ha : i < a.length := by omega
  have hb : i < b.length := by omega
  simp only [supercargoref05_Same.l0]
  rw [if_pos (by omega), if_pos (by omega), if_pos (by omega), rdT_nat a i ha, rdT_nat b i hb, field_ext, wr_nat i (by omega), ih (i + 1) k (by omega) (by omega), List.drop_eq_getElem_cons ha, List.drop_eq_getElem_cons hb, eqB_cons]
  cases eqB a[i] b[i] <;> rfl
theorem refSame_f (a b : List S43) (hs : a.length ≤ 4611686018427387904) (k : Nat) (hk : a.length < k) : supercargoref05_Same.f k a b = some (eqB a b) := by
 unfold supercargoref05_Same.f
 by_cases h : a.length = b.length
 ·
  rw [if_pos (by omega)]
  have := refSame_l0 a b h hs a.length 0 k (by omega) hk
  rw [List.drop_zero, List.drop_zero] at this
  exact this
 ·
  rw [if_neg (by omega), eqB_ne (fun e => h (by rw [e]))]
end Go.Proofs.YtkblmomfiimkiaaGreatDoor.P
end
