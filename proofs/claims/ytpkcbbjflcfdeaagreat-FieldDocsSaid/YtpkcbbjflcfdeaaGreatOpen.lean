/- An argument that is a list of fields, laid open: its elements as a list. Conditions: none. -/
import Derived.Test.YtpkcbbjflcfdeaaGreatPx0
import Derived.WalkKit
import Derived.Deep.SlicePairs
import Derived.ChangeArms
namespace Go.Proofs.YtpkcbbjflcfdeaaGreat.P
open Go.RowKit Go.Proofs.YtpkcbbjflcfdeaaGreatW.PrintWords Go.Proofs.YtpkcbbjflcfdeaaGreatW.PrintLast Go.Proofs.YtpkcbbjflcfdeaaGreatW.PrintMore
open Go.ChangeShapes Go.WideShapes

theorem open_fields {H : Type} {enc : TypeId × Value → H} {W : World} {base : Nat} {spare : Nat → Bool} {held : Bool} {fuel len cap : Nat} {a : Option Addr} {x : DataW H × List MemPlace}
    (h : DataW.trod enc Tryz.prog W base spare held fuel 22 [.slice a len cap] = some x) : len ≤ cap ∧ ∃ l : List S39, l.length = len ∧ Kd.C k39 W a len l := by
  rcases Go.Deep.open_slice_pairs Tryz.underlying22 Tryz.underlying39 (by kernel_rfl) rfl rfl (by kernel_rfl) (by kernel_rfl) h with ⟨hcs, _⟩ | ⟨a', len', cap', m, n, V0, V1, D0, D1, P0, P1, hcs, _, hl, hc, hm, _, hx⟩
  · simp at hcs
    obtain ⟨rfl, rfl, rfl⟩ := hcs
    exact ⟨Nat.le_refl _, [], rfl, rfl, by simp, fun h => absurd h (Nat.lt_irrefl 0)⟩
  · simp at hcs
    obtain ⟨rfl, rfl, rfl⟩ := hcs
    have hlm : len ≤ m := by rw [hm]; split <;> omega
    have each : ∀ i, i < len → ∃ q : ByteArray × ByteArray, W.cell? (a'.add (i * 2)) = some (.string q.1) ∧ W.cell? (a'.add (i * 2 + 1)) = some (.string q.2) := by
      intro i hi
      obtain ⟨h0, h1, t0, t1⟩ := hx i (by omega)
      obtain ⟨s0, e0, _, _⟩ := DataW.trod_string Tryz.underlying9 t0
      obtain ⟨s1, e1, _, _⟩ := DataW.trod_string Tryz.underlying9 t1
      simp only [List.cons.injEq, and_true] at e0 e1
      exact ⟨(s0, s1), by rw [h0, e0], by rw [h1, e1]⟩
    obtain ⟨q, hq⟩ := Go.Deep.choose_lt each
    refine ⟨hl, (List.range len).map (fun i => (⟨(q i).1, (q i).2⟩ : S39)), by simp, by simp, by have : maxLen = 9223372036854775807 := rfl; omega, fun _ => ⟨a', rfl, fun j p hj => ?_⟩⟩
    obtain ⟨hj1, hj2⟩ := List.getElem?_eq_some_iff.1 hj
    rw [List.length_map, List.length_range] at hj1
    rw [List.getElem_map, List.getElem_range] at hj2
    subst hj2
    refine ⟨_, rfl, k39_mk _ _, fun i u hu => ?_⟩
    match i, hu with
    | 0, hu => simp only [List.getElem?_cons_zero, Option.some.injEq] at hu; rw [← hu]; exact (hq j hj1).1
    | 1, hu => simp only [List.getElem?_cons_succ, List.getElem?_cons_zero, Option.some.injEq] at hu; rw [← hu]; exact (hq j hj1).2

theorem doc_int {H : Type} {enc : TypeId × Value → H} {W : World} {base : Nat} {spare : Nat → Bool} {held : Bool} {fuel : Nat} {c : Value} {y : DataW H × List MemPlace}
    (h : DataW.trod enc Tryz.prog W base spare held fuel 3 [c] = some y) : ∃ n : Int, c = .int .i64 n ∧ (Lit.int .i64 n).wf = true := by
  obtain ⟨n, e, _, hw⟩ := DataW.trod_int Tryz.underlying3 h
  simp only [List.cons.injEq, and_true] at e
  exact ⟨n, e, hw⟩
theorem doc_str {H : Type} {enc : TypeId × Value → H} {W : World} {base : Nat} {spare : Nat → Bool} {held : Bool} {fuel : Nat} {c : Value} {y : DataW H × List MemPlace}
    (h : DataW.trod enc Tryz.prog W base spare held fuel 9 [c] = some y) : ∃ s : ByteArray, c = .string s := by
  obtain ⟨s, e, _, _⟩ := DataW.trod_string Tryz.underlying9 h
  simp only [List.cons.injEq, and_true] at e
  exact ⟨s, e⟩
theorem doc_slice {H : Type} {enc : TypeId × Value → H} {W : World} {base : Nat} {spare : Nat → Bool} {held : Bool} {fuel : Nat} {c : Value} {y : DataW H × List MemPlace}
    (h : DataW.trod enc Tryz.prog W base spare held fuel 22 [c] = some y) : ∃ a len cap, c = .slice a len cap := by
  rcases DataW.trod_slice Tryz.underlying22 h with ⟨e, _⟩ | ⟨a, len, cap, _, _, _, _, e, _⟩
  · simp only [List.cons.injEq, and_true] at e; exact ⟨_, _, _, e⟩
  · simp only [List.cons.injEq, and_true] at e; exact ⟨_, _, _, e⟩

end Go.Proofs.YtpkcbbjflcfdeaaGreat.P
