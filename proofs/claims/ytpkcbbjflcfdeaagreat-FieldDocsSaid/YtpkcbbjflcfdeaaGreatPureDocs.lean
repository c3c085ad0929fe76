/- FieldDocs answers true at every paper. Conditions: its list's length is below 2^63. -/
import Derived.Test.YtpkcbbjflcfdeaaGreatDocEq
import Derived.Test.YtpkcbbjflcfdeaaGreatRead
import Derived.Test.YtpkcbbjflcfdeaaGreatPx2
import Derived.Test.YtpkcbbjflcfdeaaGreatPx3
import Derived.Test.YtpkcbbjflcfdeaaGreatPx4
import Derived.Test.YtpkcbbjflcfdeaaGreatPx5
import Derived.Test.YtpkcbbjflcfdeaaGreatPx6
namespace Go.Proofs.YtpkcbbjflcfdeaaGreat.P
open Go.RowKit Go.Proofs.YtpkcbbjflcfdeaaGreatW.PrintWords Go.Proofs.YtpkcbbjflcfdeaaGreatW.PrintLast Go.Proofs.YtpkcbbjflcfdeaaGreatW.PrintMore
open Go.Proofs.YtpkcbbjflcfdeaaGreat.Fp

def kindN (n : Int) : ByteArray := if 0 ≤ n ∧ n ≤ 5 then rdOf ByteArray.empty kindsL n else ⟨#[]⟩
theorem Kind_f (n : Int) : supercargoref05_Kind.f n = some (kindN n) := by
  unfold supercargoref05_Kind.f kindN
  rw [Option.bind_some]
  by_cases h0 : n < 0
  · rw [if_pos h0, if_neg (by omega)]
  · rw [if_neg h0]
    by_cases h5 : n > 5
    · rw [if_pos h5, if_neg (by omega)]
    · rw [if_neg h5, if_pos (by omega), if_pos (by show n < (6 : Int); omega), if_pos (by omega)]
      rfl
theorem six {n : Int} (h0 : 0 ≤ n) (h5 : n ≤ 5) : n = 0 ∨ n = 1 ∨ n = 2 ∨ n = 3 ∨ n = 4 ∨ n = 5 := by omega
theorem kindN_good {n : Int} (h0 : 0 ≤ n) (h5 : n ≤ 5) : kindAt (rdOf ByteArray.empty kindsL n) = n ∧ (rdOf ByteArray.empty kindsL n).size ≤ 9 ∧ (rdOf ByteArray.empty kindsL n).toList ≠ [] := by
  rcases six h0 h5 with rfl | rfl | rfl | rfl | rfl | rfl <;>
    refine ⟨by simp [rdOf, kindAt, firstAt, sameB, kindsL, Lib.toList_data], by simp [rdOf, kindsL, ByteArray.size], by simp [rdOf, kindsL, Lib.toList_data]⟩

def paperB (n : Int) (s1 s2 : ByteArray) (l : List S39) : Bool := decide (0 ≤ n ∧ n ≤ 5) && (decide (s1.size ≤ 4096) && (decide (s2.size ≤ 4096) && decide (l.length ≤ 61)))
theorem Paper_l0 (n : Int) (s1 s2 : ByteArray) (l : List S39) (hl : l.length ≤ 9223372036854775807) (hs : ∀ x ∈ l, x.f0.size ≤ 100) : ∀ (d i k : Nat), i + d = l.length → d + 101 < k →
    supercargoref05_Paper.l0 k (i : Int) n s1 s2 l = some ((l.drop i).all mayF && paperB n s1 s2 l) := by
  intro d
  induction d with
  | zero =>
    intro i k h1 h2
    obtain ⟨k, rfl⟩ : ∃ m, k = m + 1 := ⟨k - 1, by omega⟩
    simp only [supercargoref05_Paper.l0]
    rw [if_neg (by omega), List.drop_eq_nil_of_le (by omega), Kind_f, Option.bind_some]
    unfold kindN paperB
    by_cases hn : 0 ≤ n ∧ n ≤ 5
    · rw [if_pos hn, if_neg (kindN_good hn.1 hn.2).2.2, decide_eq_true hn]
      by_cases c1 : s1.size ≤ 4096
      · rw [if_pos (by omega)]
        by_cases c2 : s2.size ≤ 4096
        · rw [if_pos (by omega)]; simp [c1, c2]; omega
        · rw [if_neg (by omega)]; simp [c2]
      · rw [if_neg (by omega)]; simp [c1]
    · rw [if_neg hn, decide_eq_false hn]
      rw [if_pos (by simp [Lib.toList_data])]
      simp
  | succ d ih =>
    intro i k h1 h2
    obtain ⟨k, rfl⟩ : ∃ m, k = m + 1 := ⟨k - 1, by omega⟩
    have hi : i < l.length := by omega
    have hsi := hs (l[i]) (List.getElem_mem hi)
    simp only [supercargoref05_Paper.l0]
    rw [if_pos (by omega), if_pos (by omega), rd_nat l i hi, May_f _ _ (by omega) _ (by omega), Option.bind_some, wrap_nat i (by omega), ih (i + 1) k (by omega) (by omega), List.drop_eq_getElem_cons hi, List.all_cons]
    have e : mayB (l[i]).f0.data.toList (l[i]).f1.data.toList = mayF (l[i]) := rfl
    rw [e]
    cases mayF (l[i])
    · rw [if_neg (by simp)]; simp
    · rw [if_pos rfl]; simp
theorem Paper_f (n : Int) (s1 s2 : ByteArray) (l : List S39) (hl : l.length ≤ 9223372036854775807) (hs : ∀ x ∈ l, x.f0.size ≤ 100) (k : Nat) (hk : l.length + 101 < k) :
    supercargoref05_Paper.f k n s1 s2 l = some (l.all mayF && paperB n s1 s2 l) := by
  have := Paper_l0 n s1 s2 l hl hs l.length 0 k (by omega) hk
  rwa [List.drop_zero] at this

def recL (v s1 s2 : ByteArray) (l : List S39) : List S39 := ⟨⟨#[112, 97, 112, 101, 114]⟩, v⟩ :: ⟨⟨#[110, 117, 109, 98, 101, 114]⟩, s1⟩ :: ⟨⟨#[105, 115, 115, 117, 101, 114]⟩, s2⟩ :: l
theorem rec_may (v s1 s2 : ByteArray) (l : List S39) (hv : v.size ≤ 4096) : (recL v s1 s2 l).all mayF = (decide (s1.size ≤ 4096) && (decide (s2.size ≤ 4096) && l.all mayF)) := by
  have e0 : mayF (⟨⟨#[112, 97, 112, 101, 114]⟩, v⟩ : S39) = decide (v.size ≤ 4096) := by
    unfold mayF mayB; rw [size_list]; rfl
  have e1 : mayF (⟨⟨#[110, 117, 109, 98, 101, 114]⟩, s1⟩ : S39) = decide (s1.size ≤ 4096) := by
    unfold mayF mayB; rw [size_list]; rfl
  have e2 : mayF (⟨⟨#[105, 115, 115, 117, 101, 114]⟩, s2⟩ : S39) = decide (s2.size ≤ 4096) := by
    unfold mayF mayB; rw [size_list]; rfl
  unfold recL
  rw [List.all_cons, List.all_cons, List.all_cons, e0, e1, e2, decide_eq_true hv, Bool.true_and]
theorem rec_len (v s1 s2 : ByteArray) (l : List S39) : (recL v s1 s2 l).length = l.length + 3 := rfl

theorem Text_bad (l : List S39) (h : ¬ (l.length ≤ 64 ∧ l.all mayF = true)) : ∃ s c, field_Text.f l = some (s, c) ∧ c ≠ 0 := by
  unfold field_Text.f
  by_cases c1 : 64 < l.length
  · rw [if_pos c1]; exact ⟨_, _, rfl, by simp⟩
  · rw [if_neg c1]
    by_cases c2 : l.all mayF = true
    · exact absurd ⟨by omega, c2⟩ h
    · rw [if_neg c2]; exact ⟨_, _, rfl, by simp⟩
theorem Text_good (l : List S39) (h1 : l.length ≤ 64) (h2 : l.all mayF = true) : field_Text.f l = some (⟨(l.flatMap lineF).toArray⟩, 0) := by
  unfold field_Text.f
  rw [if_neg (by omega), if_pos h2]
theorem Doc_out (n : Int) (s1 s2 : ByteArray) (l : List S39) (k : Nat) (hn : ¬ (0 ≤ n ∧ n ≤ 5)) : field_Doc.f (k + 1) n s1 s2 l = some (⟨#[]⟩, 1) := by
  unfold field_Doc.f
  have e : field_kinds.f = some kindsL := rfl
  rw [e, Option.bind_some]
  have e6 : (kindsL.length : Int) = 6 := rfl
  by_cases h0 : n < 0
  · rw [if_pos h0]; simp only [field_Doc.j0]; rw [if_pos trivial]
  · rw [if_neg h0, e6, decide_eq_true (by omega)]; simp only [field_Doc.j0]; rw [if_pos trivial]
theorem Doc_in (n : Int) (s1 s2 : ByteArray) (l : List S39) (k : Nat) (hn : 0 ≤ n ∧ n ≤ 5) (hl : l.length ≤ 1000) :
    field_Doc.f (k + 1) n s1 s2 l = (field_Text.f (recL (rdOf ByteArray.empty kindsL n) s1 s2 l)).bind fun x => if x.2 = 0 then some (x.1, 0) else some (⟨#[]⟩, 1) := by
  unfold field_Doc.f
  have e : field_kinds.f = some kindsL := rfl
  rw [e, Option.bind_some]
  have e6 : (kindsL.length : Int) = 6 := rfl
  rw [if_neg (by omega), e6, decide_eq_false (by omega)]
  simp only [field_Doc.j0]
  rw [if_neg (by simp), if_pos hn.1, if_pos (by rw [e6]; omega), Option.bind_some, if_pos (by show 3 + l.length < _; omega)]
  rfl

theorem pure_FieldDocs (n : Int) (s1 s2 : ByteArray) (l : List S39) (hl : l.length ≤ 9223372036854775807) : ∃ k, supercargolaw05_FieldDocs.f k n s1 s2 l = some true := by
  by_cases hfew : longB l = false ∧ s1.size ≤ 4200 ∧ s2.size ≤ 4200
  · obtain ⟨hlong, h1, h2⟩ := hfew
    have h70 : l.length ≤ 70 ∧ ∀ x ∈ l, x.f0.size ≤ 100 ∧ x.f1.size ≤ 4200 := by
      unfold longB at hlong
      rw [Bool.or_eq_false_iff] at hlong
      refine ⟨by have := of_decide_eq_false hlong.2; omega, fun x hx => ?_⟩
      have := List.any_eq_false.1 hlong.1 x hx
      simp [longX] at this
      omega
    have few : ∀ k, l.length < k → supercargolaw05_few.f k n s1 s2 l = some true := by
      intro k hk
      unfold supercargolaw05_few.f
      rw [long_f l hl k hk, Option.bind_some, hlong, if_neg (by simp), if_pos (by omega), decide_eq_true (by omega)]
    have paper := fun k => Paper_f n s1 s2 l hl (fun x hx => (h70.2 x hx).1) k
    by_cases hp : (l.all mayF && paperB n s1 s2 l) = true
    · have hp' := hp
      rw [Bool.and_eq_true] at hp'
      obtain ⟨hm, hq⟩ := hp'
      unfold paperB at hq
      rw [Bool.and_eq_true, Bool.and_eq_true, Bool.and_eq_true] at hq
      have hn := of_decide_eq_true hq.1
      have g1 := of_decide_eq_true hq.2.1
      have g2 := of_decide_eq_true hq.2.2.1
      have g3 := of_decide_eq_true hq.2.2.2
      obtain ⟨ka, kb, kc⟩ := kindN_good hn.1 hn.2
      have hrm : (recL (rdOf ByteArray.empty kindsL n) s1 s2 l).all mayF = true := by rw [rec_may _ _ _ _ (by omega), hm]; simp [g1, g2]
      have hrl : (recL (rdOf ByteArray.empty kindsL n) s1 s2 l).length ≤ 64 := by rw [rec_len]; omega
      have ht := Text_good _ hrl hrm
      have hsz : ∀ x ∈ recL (rdOf ByteArray.empty kindsL n) s1 s2 l, x.f0.size ≤ 9223372036854775807 ∧ x.f1.size ≤ 9223372036854775807 := by
        intro x hx
        have := may_small (List.all_eq_true.1 hrm x hx)
        omega
      obtain ⟨K, hK⟩ := Text_f _ hsz _ ht
      have hread : field_Read.f ⟨((recL (rdOf ByteArray.empty kindsL n) s1 s2 l).flatMap lineF).toArray⟩ = some (n, s1, s2, l, 0, 0) := by
        unfold field_Read.f
        rw [text_parse _ hrl hrm, Option.bind_some, if_pos ⟨rfl, rfl⟩]
        unfold recL goodRead
        dsimp only
        rw [ka, if_pos ⟨rfl, rfl, rfl, hn.1⟩]
      refine ⟨(K + 300) + 1, ?_⟩
      have hrec : supercargoref05_Record.f n s1 s2 l = some (recL (rdOf ByteArray.empty kindsL n) s1 s2 l) := by
        unfold supercargoref05_Record.f
        rw [Kind_f, Option.bind_some, Option.bind_some, if_pos (by show 3 + l.length < _; omega)]
        unfold kindN
        rw [if_pos hn]
        rfl
      unfold supercargolaw05_FieldDocs.f
      rw [few _ (by omega), Option.bind_some, if_pos rfl, Doc_in n s1 s2 l _ hn (by omega), ht, Option.bind_some, if_pos rfl, Option.bind_some, paper _ (by omega), Option.bind_some, if_pos hp, hrec, Option.bind_some, hK _ (by omega), Option.bind_some, hread, Option.bind_some, if_pos rfl, if_pos rfl]
      dsimp only
      rw [alike_f _ _ _ _ _ _ _ _ hl _ (by omega), dsame_f _ _ _ _ _ _ _ _ hl _ (by omega), sameD_self, awake_f]
      simp
    · refine ⟨(l.length + 200) + 1, ?_⟩
      have hdoc : field_Doc.f ((l.length + 200) + 1) n s1 s2 l = some (⟨#[]⟩, 1) := by
        by_cases hn : 0 ≤ n ∧ n ≤ 5
        · rw [Doc_in n s1 s2 l _ hn (by omega)]
          obtain ⟨ka, kb, kc⟩ := kindN_good hn.1 hn.2
          obtain ⟨s, c, e, hc⟩ := Text_bad (recL (rdOf ByteArray.empty kindsL n) s1 s2 l) (by
            rintro ⟨a1, a2⟩
            apply hp
            rw [rec_len] at a1
            rw [rec_may _ _ _ _ (by omega)] at a2
            rw [Bool.and_eq_true, Bool.and_eq_true] at a2
            unfold paperB
            rw [a2.2.2, a2.1, a2.2.1, decide_eq_true hn, decide_eq_true (show l.length ≤ 61 by omega)]
            rfl)
          rw [e, Option.bind_some, if_neg hc]
        · exact Doc_out n s1 s2 l _ hn
      unfold supercargolaw05_FieldDocs.f
      rw [few _ (by omega), Option.bind_some, if_pos rfl, hdoc, Option.bind_some, paper _ (by omega), Option.bind_some, if_neg hp, if_pos (by simp [Lib.toList_data]), if_pos rfl, awake_f]
      rfl
  · refine ⟨l.length + 1, ?_⟩
    have few : supercargolaw05_few.f (l.length + 1) n s1 s2 l = some false := by
      unfold supercargolaw05_few.f
      rw [long_f l hl _ (by omega), Option.bind_some]
      by_cases c : longB l = true
      · rw [if_pos c]
      · rw [if_neg c]
        by_cases c1 : s1.size ≤ 4200
        · rw [if_pos (by omega), decide_eq_false (by intro h; apply hfew; exact ⟨by simpa using c, c1, by omega⟩)]
        · rw [if_neg (by omega)]
    unfold supercargolaw05_FieldDocs.f
    rw [few, Option.bind_some, if_neg (by simp), awake_f]
    rfl
end Go.Proofs.YtpkcbbjflcfdeaaGreat.P
