/- A record's text reads back as the record: parseL of the lines. Conditions: none; no program stands here. -/
import Derived.Test.YtpkcbbjflcfdeaaGreatPlain
namespace Go.Proofs.YtpkcbbjflcfdeaaGreat.Fp

theorem cut_at (c : UInt8) (a b : List UInt8) (h : ∀ x ∈ a, x ≠ c) : cutAt c (a ++ c :: b) = some (a, b) := by
  induction a with
  | nil => simp [cutAt]
  | cons x a ih =>
    rw [List.cons_append, cutAt, if_neg (h x (List.mem_cons_self ..)), ih (fun y hy => h y (List.mem_cons_of_mem _ hy))]
    rfl
theorem ok_ne (c d : UInt8) (h : okB c = true) (hd : d = 10 ∨ d = 61) : c ≠ d := by
  intro e
  subst e
  rcases hd with rfl | rfl <;> simp [okB] at h
theorem name_ok (n : List UInt8) (h : nameB n = true) : n.all okB = true := by
  unfold nameB at h
  rw [Bool.and_eq_true] at h
  exact h.2
theorem name_ne (n : List UInt8) (h : nameB n = true) (d : UInt8) (hd : d = 10 ∨ d = 61) : ∀ x ∈ n, x ≠ d := by
  intro x hx
  exact ok_ne x d (List.all_eq_true.1 (name_ok n h) x hx) hd
theorem esc_no (v : List UInt8) : ∀ x ∈ esc v, x ≠ 10 := by
  intro x hx
  unfold esc at hx
  obtain ⟨c, _, hc⟩ := List.mem_flatMap.1 hx
  unfold escC at hc
  split at hc
  · simp at hc; subst hc; decide
  · split at hc
    · simp at hc; rcases hc with rfl | rfl <;> decide
    · rename_i h; simp at hc; subst hc; exact h
theorem unesc_esc (v : List UInt8) : unesc (esc v) = some v := by
  induction v with
  | nil => rfl
  | cons c v ih =>
    have e : esc (c :: v) = escC c ++ esc v := rfl
    rw [e]
    unfold escC
    by_cases h1 : c = 92
    · subst h1
      rw [if_pos rfl]
      show unesc (92 :: 92 :: esc v) = _
      rw [unesc.eq_def]
      simp [ih]
    · by_cases h2 : c = 10
      · subst h2
        rw [if_neg h1, if_pos rfl]
        show unesc (92 :: 110 :: esc v) = _
        rw [unesc.eq_def]
        simp [ih]
      · rw [if_neg h1, if_neg h2]
        show unesc (c :: esc v) = _
        rw [unesc.eq_def]
        simp [h1, ih]
theorem line_back (n v rest : List UInt8) (h : mayB n v = true) : cutAt 10 (lineB n v ++ rest) = some (n ++ 61 :: esc v, rest) ∧ lineP (n ++ 61 :: esc v) = some (n, v) := by
  unfold mayB at h
  rw [Bool.and_eq_true] at h
  have hv := of_decide_eq_true h.2
  constructor
  · have e : lineB n v ++ rest = (n ++ 61 :: esc v) ++ 10 :: rest := by unfold lineB; simp
    rw [e]
    apply cut_at
    intro x hx
    rw [List.mem_append, List.mem_cons] at hx
    rcases hx with hx | rfl | hx
    · exact name_ne n h.1 10 (.inl rfl) x hx
    · decide
    · exact esc_no v x hx
  · unfold lineP
    rw [cut_at 61 n (esc v) (name_ne n h.1 61 (.inr rfl))]
    simp [h.1, unesc_esc, hv]
theorem parse_back : ∀ (l : List (List UInt8 × List UInt8)) (n : Nat) (acc : List (List UInt8 × List UInt8)), l.length ≤ n → (∀ p ∈ l, mayB p.1 p.2 = true) → parseL n (l.flatMap fun p => lineB p.1 p.2) acc = (acc ++ l, 0, 0) := by
  intro l
  induction l with
  | nil => intro n acc _ _; unfold parseL; simp
  | cons p l ih =>
    intro n acc hn hm
    obtain ⟨m, rfl⟩ : ∃ m, n = m + 1 := ⟨n - 1, by have := hn; rw [List.length_cons] at this; omega⟩
    obtain ⟨h1, h2⟩ := line_back p.1 p.2 (l.flatMap fun p => lineB p.1 p.2) (hm p (List.mem_cons_self ..))
    have ne : lineB p.1 p.2 ++ (l.flatMap fun p => lineB p.1 p.2) ≠ [] := by unfold lineB; simp
    rw [List.flatMap_cons, parseL.eq_def]
    dsimp only
    rw [if_neg ne, h1]
    dsimp only
    rw [h2]
    dsimp only
    rw [ih m _ (by rw [List.length_cons] at hn; omega) (fun q hq => hm q (List.mem_cons_of_mem _ hq)), List.append_assoc]
    rfl
end Go.Proofs.YtpkcbbjflcfdeaaGreat.Fp
