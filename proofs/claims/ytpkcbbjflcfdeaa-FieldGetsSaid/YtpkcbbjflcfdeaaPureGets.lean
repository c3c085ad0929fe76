/- FieldGets answers true at every list and every three texts. Conditions: the list's length is below 2^63. -/
import Derived.Test.YtpkcbbjflcfdeaaPureTexts
import Derived.Test.YtpkcbbjflcfdeaaPx6
namespace Go.Proofs.Ytpkcbbjflcfdeaa.P
open Go.RowKit Go.Proofs.YtpkcbbjflcfdeaaW.PrintWords Go.Proofs.YtpkcbbjflcfdeaaW.PrintLast Go.Proofs.YtpkcbbjflcfdeaaW.PrintMore
open Go.Proofs.Ytpkcbbjflcfdeaa.Fp

theorem first_cases {α : Type} (p : α → Bool) : ∀ (l : List α) (i : Nat), (firstAt p l i = -1 ∧ ∀ x ∈ l, p x = false) ∨
    (∃ a x b, l = a ++ x :: b ∧ (∀ y ∈ a, p y = false) ∧ p x = true ∧ firstAt p l i = ((i + a.length : Nat) : Int)) := by
  intro l
  induction l with
  | nil => intro i; exact .inl ⟨rfl, by simp⟩
  | cons x r ih =>
    intro i
    by_cases h : p x = true
    · exact .inr ⟨[], x, r, rfl, by simp, h, by simp [firstAt, h]⟩
    · have h' : p x = false := by simpa using h
      have e : firstAt p (x :: r) i = firstAt p r ((i + 1 : Nat) : Int) := by simp [firstAt, h']
      rcases ih (i + 1) with ⟨h1, h2⟩ | ⟨a, y, b, h1, h2, h3, h4⟩
      · exact .inl ⟨by rw [e, h1], by intro y hy; rcases List.mem_cons.1 hy with rfl | hy; exact h'; exact h2 y hy⟩
      · refine .inr ⟨x :: a, y, b, by rw [h1]; rfl, ?_, h3, ?_⟩
        · intro z hz; rcases List.mem_cons.1 hz with rfl | hz
          · exact h'
          · exact h2 z hz
        · rw [e, h4, List.length_cons]; congr 1; omega

def getL (s : ByteArray) : List S42 → ByteArray × Bool
  | [] => (⟨#[]⟩, false)
  | x :: r => if namedF s x = true then (x.f1, true) else getL s r
theorem getL_none (s : ByteArray) (l : List S42) (h : ∀ x ∈ l, namedF s x = false) : getL s l = (⟨#[]⟩, false) := by
  induction l with
  | nil => rfl
  | cons x r ih => rw [getL, if_neg (by rw [h x (List.mem_cons_self ..)]; simp), ih (fun y hy => h y (List.mem_cons_of_mem _ hy))]
theorem getL_skip (s : ByteArray) (a l : List S42) (h : ∀ x ∈ a, namedF s x = false) : getL s (a ++ l) = getL s l := by
  induction a with
  | nil => rfl
  | cons x r ih => rw [List.cons_append, getL, if_neg (by rw [h x (List.mem_cons_self ..)]; simp), ih (fun y hy => h y (List.mem_cons_of_mem _ hy))]
theorem getL_hit (s : ByteArray) (a b : List S42) (x : S42) (h : ∀ x ∈ a, namedF s x = false) (hx : namedF s x = true) : getL s (a ++ x :: b) = (x.f1, true) := by
  rw [getL_skip s a _ h, getL, if_pos hx]
theorem rd_mid (a b : List S42) (x : S42) : rd_T42 (a ++ x :: b) (((0 + a.length : Nat) : Int)) = x := by
  rw [Nat.zero_add, rd_nat _ _ (by simp)]; simp

theorem Get_f (l : List S42) (s : ByteArray) : field_Get.f l s = some (getL s l) := by
  unfold field_Get.f field_place.f placeOf
  rw [Option.bind_some]
  rcases first_cases (namedF s) l 0 with ⟨h1, h2⟩ | ⟨a, x, b, h1, h2, h3, h4⟩
  · rw [show ((0 : Nat) : Int) = 0 from rfl] at h1
    rw [h1, if_pos (by omega), getL_none s l h2]
  · rw [show ((0 : Nat) : Int) = 0 from rfl] at h4
    rw [h4, if_neg (by omega), if_pos (by omega), if_pos (by rw [h1, List.length_append, List.length_cons]; omega), h1, rd_mid, getL_hit s a b x h2 h3]
theorem refGet_l0 (l : List S42) (s : ByteArray) (hs : l.length ≤ 9223372036854775807) : ∀ (d i k : Nat), i + d = l.length → d < k → supercargoref05_Get.l0 k l s (i : Int) = some (getL s (l.drop i)) := by
  intro d
  induction d with
  | zero =>
    intro i k h1 h2
    obtain ⟨k, rfl⟩ : ∃ m, k = m + 1 := ⟨k - 1, by omega⟩
    simp only [supercargoref05_Get.l0]
    rw [if_neg (by omega), List.drop_eq_nil_of_le (by omega)]
    rfl
  | succ d ih =>
    intro i k h1 h2
    obtain ⟨k, rfl⟩ : ∃ m, k = m + 1 := ⟨k - 1, by omega⟩
    have hi : i < l.length := by omega
    simp only [supercargoref05_Get.l0]
    rw [if_pos (by omega), if_pos (by omega), rd_nat l i hi, wrap_nat i (by omega), ih (i + 1) k (by omega) (by omega), List.drop_eq_getElem_cons hi, getL]
    by_cases c : (l[i]).f0.toList = s.toList
    · rw [if_pos c, if_pos (by simp [namedF, c])]
    · rw [if_neg c, if_neg (by simp [namedF, c])]
theorem refGet_f (l : List S42) (s : ByteArray) (hs : l.length ≤ 9223372036854775807) (k : Nat) (hk : l.length < k) : supercargoref05_Get.f k l s = some (getL s l) := by
  have := refGet_l0 l s hs l.length 0 k (by omega) hk
  rwa [List.drop_zero] at this

theorem refSet_true (s v : ByteArray) (l : List S42) : refSet s v l true = l := by
  induction l with
  | nil => rfl
  | cons x r ih => rw [refSet, if_neg (by simp), ih]
theorem refSet_none (s v : ByteArray) (l : List S42) (h : ∀ x ∈ l, namedF s x = false) : refSet s v l false = l ++ [⟨s, v⟩] := by
  induction l with
  | nil => rfl
  | cons x r ih => rw [refSet, if_neg (by rw [h x (List.mem_cons_self ..)]; simp), ih (fun y hy => h y (List.mem_cons_of_mem _ hy))]; rfl
theorem refSet_hit (s v : ByteArray) (a b : List S42) (x : S42) (h : ∀ x ∈ a, namedF s x = false) (hx : namedF s x = true) : refSet s v (a ++ x :: b) false = a ++ ⟨x.f0, v⟩ :: b := by
  induction a with
  | nil => rw [List.nil_append, refSet, if_pos (by rw [hx]; rfl), refSet_true]; rfl
  | cons y r ih => rw [List.cons_append, refSet, if_neg (by rw [h y (List.mem_cons_self ..)]; simp), ih (fun z hz => h z (List.mem_cons_of_mem _ hz))]; rfl
theorem Set_f (l : List S42) (s v : ByteArray) (hl : l.length < 4398046511104) : field_Set.f l s v = some (refSet s v l false) := by
  unfold field_Set.f api_Field_30.f
  rw [if_pos hl, Option.bind_some]
  unfold field_place.f placeOf
  rw [Option.bind_some]
  rcases first_cases (namedF s) l 0 with ⟨h1, h2⟩ | ⟨a, x, b, h1, h2, h3, h4⟩
  · rw [show ((0 : Nat) : Int) = 0 from rfl] at h1
    rw [h1, if_pos (by omega), if_pos hl, refSet_none s v l h2]
  · rw [show ((0 : Nat) : Int) = 0 from rfl] at h4
    rw [h4, if_neg (by omega), if_pos (by omega), if_pos (by rw [h1, List.length_append, List.length_cons]; omega), h1, rd_mid, refSet_hit s v a b x h2 h3]
    simp

theorem get_set (s v : ByteArray) (l : List S42) : getL s (refSet s v l false) = (v, true) := by
  rcases first_cases (namedF s) l 0 with ⟨_, h2⟩ | ⟨a, x, b, h1, h2, h3, _⟩
  · rw [refSet_none s v l h2, getL_hit s l [] ⟨s, v⟩ h2 (by simp [namedF])]
  · rw [h1, refSet_hit s v a b x h2 h3, getL_hit s a b ⟨x.f0, v⟩ h2 h3]
theorem get_other (s v o : ByteArray) (l : List S42) (ho : ¬ o.toList = s.toList) : getL o (refSet s v l false) = getL o l := by
  have apart : ∀ x y : S42, ∀ r q : List S42, namedF o x = false → namedF o y = false → getL o r = getL o q → getL o (x :: r) = getL o (y :: q) := by
    intro x y r q hx hy h
    rw [getL, getL, if_neg (by rw [hx]; simp), if_neg (by rw [hy]; simp), h]
  have same : ∀ a r q : List S42, getL o r = getL o q → getL o (a ++ r) = getL o (a ++ q) := by
    intro a r q h
    induction a with
    | nil => exact h
    | cons x t ih => rw [List.cons_append, List.cons_append, getL, getL, ih]
  rcases first_cases (namedF s) l 0 with ⟨_, h2⟩ | ⟨a, x, b, h1, h2, h3, _⟩
  · rw [refSet_none s v l h2]
    have : getL o (l ++ [⟨s, v⟩]) = getL o (l ++ []) := same l _ _ (by
      show (if namedF o ⟨s, v⟩ = true then _ else _) = _
      rw [if_neg (by simp only [namedF, beq_iff_eq]; exact fun h => ho h.symm)])
    rw [this, List.append_nil]
  · have hx : x.f0.toList = s.toList := by simpa [namedF] using h3
    rw [h1, refSet_hit s v a b x h2 h3]
    exact same a _ _ (apart _ _ _ _ (by simp only [namedF, beq_eq_false_iff_ne]; rw [hx]; exact fun h => ho h.symm) (by simp only [namedF, beq_eq_false_iff_ne]; rw [hx]; exact fun h => ho h.symm) rfl)
theorem refSet_len (s v : ByteArray) (l : List S42) : (refSet s v l false).length ≤ l.length + 1 := by
  rcases first_cases (namedF s) l 0 with ⟨_, h2⟩ | ⟨a, x, b, h1, h2, h3, _⟩
  · rw [refSet_none s v l h2]; simp
  · rw [h1, refSet_hit s v a b x h2 h3]; simp

theorem pure_FieldGets (l : List S42) (a1 a2 a3 : ByteArray) (hl : l.length ≤ 9223372036854775807) : ∃ k, supercargolaw05_FieldGets.f k l a1 a2 a3 = some true := by
  have key0 : ∀ k, supercargolaw05_FieldGets.j0 (k + 1) l a1 a2 a3 true = some true := by
    intro k
    simp only [supercargolaw05_FieldGets.j0]
    rw [if_pos trivial, awake_f]
    rfl
  by_cases hlong : longB l = true
  · refine ⟨l.length + 1, ?_⟩
    unfold supercargolaw05_FieldGets.f
    rw [long_f l hl _ (by omega), Option.bind_some, if_pos hlong]
    exact key0 _
  · have h70 : l.length ≤ 70 := by
      have hlong' : longB l = false := by simpa using hlong
      unfold longB at hlong'
      rw [Bool.or_eq_false_iff] at hlong'
      have := of_decide_eq_false hlong'.2
      omega
    have key1 : supercargolaw05_FieldGets.j0 (((100 + 1) + 1) + 1) l a1 a2 a3 false = some true := by
      have hrl := refSet_len a1 a2 l
      have s1 : (refSet a1 a2 l false).map twoF = (refSet a1 a2 l false).map twoF := rfl
      have j2 : supercargolaw05_FieldGets.j2 (100 + 1) l a1 a3 (refSet a1 a2 l false) false = some true := by
        simp only [supercargolaw05_FieldGets.j2]
        rw [if_neg (by simp), Get_f, Get_f, Option.bind_some, Option.bind_some, awake_f]
        by_cases c : a3.toList = a1.toList
        · rw [if_pos c]; rfl
        · rw [if_neg c, get_other _ _ _ _ c]; simp
      have j1 : supercargolaw05_FieldGets.j1 ((100 + 1) + 1) l a1 a2 a3 (refSet a1 a2 l false) false = some true := by
        simp only [supercargolaw05_FieldGets.j1]
        rw [if_neg (by simp), Get_f, get_set, Option.bind_some]
        simp only [Bool.not_true, if_true]
        exact j2
      simp only [supercargolaw05_FieldGets.j0]
      rw [if_neg (by simp), Option.bind_some, if_pos (by simp; omega), Get_f, Option.bind_some, refGet_f l a1 hl _ (by omega), Option.bind_some, Set_f l a1 a2 (by omega), Option.bind_some, if_pos rfl, if_neg (by simp)]
      unfold supercargoref05_Set.f
      rw [if_pos (by omega), Option.bind_some, Same_f _ _ (by omega) _ (by omega), Option.bind_some, if_pos (by simp), List.nil_append, Same_f l l hl _ (by omega), Option.bind_some]
      simp only [decide_true, Bool.not_true]
      exact j1
    refine ⟨((100 + 1) + 1) + 1, ?_⟩
    unfold supercargolaw05_FieldGets.f
    rw [long_f l hl _ (by omega), Option.bind_some, if_neg hlong]
    split
    · exact key0 _
    · split
      · exact key0 _
      · generalize decide ((a3.size : Int) > 100) = x
        cases x
        · exact key1
        · exact key0 _
end Go.Proofs.Ytpkcbbjflcfdeaa.P
