/- FieldTexts answers true at every list. Conditions: its length is below 2^63. -/
import Derived.Test.YtpkcbbjflcfdeaaEq
import Derived.Test.YtpkcbbjflcfdeaaRound
import Derived.KernelRfl
namespace Go.Proofs.Ytpkcbbjflcfdeaa.P
open Go.RowKit Go.Proofs.YtpkcbbjflcfdeaaW.PrintWords Go.Proofs.YtpkcbbjflcfdeaaW.PrintLast Go.Proofs.YtpkcbbjflcfdeaaW.PrintMore
open Go.Proofs.Ytpkcbbjflcfdeaa.Fp

theorem awake_f : supercargolaw05_awake.f = some true := by
  have h1 : field_Text.f ([(⟨(⟨#[97]⟩ : ByteArray), (⟨#[120]⟩ : ByteArray)⟩ : S42), (⟨(⟨#[98]⟩ : ByteArray), (⟨#[10]⟩ : ByteArray)⟩ : S42)] : List (S42)) = some (⟨#[97, 61, 120, 10, 98, 61, 92, 110, 10]⟩, 0) := by rfl
  have h2 : field_Parse.f (⟨#[97]⟩ : ByteArray) = some ([], 1, 2) := by
    unfold field_Parse.f
    rw [if_pos (by decide)]
    rfl
  unfold supercargolaw05_awake.f
  rw [h1, h2]
  simp [Lib.toList_data]

theorem fieldOf_twoF (x : S42) : fieldOf (twoF x) = x := by
  show S42.mk _ _ = x
  simp [twoF]
theorem flat_lines (l : List S42) : l.flatMap lineF = (l.map twoF).flatMap fun p => lineB p.1 p.2 := by
  induction l with
  | nil => rfl
  | cons x l ih => rw [List.flatMap_cons, List.map_cons, List.flatMap_cons, ih]; rfl
theorem text_back (l : List S42) (hl : l.length ≤ 64) (hm : l.all mayF = true) : parseL 64 (l.flatMap lineF) [] = (l.map twoF, 0, 0) := by
  rw [flat_lines, parse_back _ 64 [] (by simpa using hl) (fun p hp => ?_)]
  · simp
  · obtain ⟨x, hx, rfl⟩ := List.mem_map.1 hp
    exact List.all_eq_true.1 hm x hx
theorem flat_len (l : List S42) (hm : l.all mayF = true) : (l.flatMap lineF).length ≤ 8300 * l.length := by
  induction l with
  | nil => simp
  | cons x l ih =>
    rw [List.all_cons, Bool.and_eq_true] at hm
    have := lineF_len hm.1
    have := ih hm.2
    rw [List.flatMap_cons, List.length_append, List.length_cons]
    omega
theorem text_parse (l : List S42) (hl : l.length ≤ 64) (hm : l.all mayF = true) : field_Parse.f ⟨(l.flatMap lineF).toArray⟩ = some (l, 0, 0) := by
  have h := flat_len l hm
  unfold field_Parse.f
  rw [if_pos (by rw [size_mk]; omega), text_back l hl hm]
  have e : (l.map twoF).map fieldOf = l := by
    rw [List.map_map]
    conv => rhs; rw [← List.map_id l]
    apply List.map_congr_left
    intro x _
    exact fieldOf_twoF x
  simp only [e]

theorem pure_FieldTexts (l : List S42) (hl : l.length ≤ 9223372036854775807) : ∃ k, supercargolaw05_FieldTexts.f k l = some true := by
  by_cases hlong : longB l = true
  · refine ⟨l.length + 1, ?_⟩
    unfold supercargolaw05_FieldTexts.f
    rw [long_f l hl _ (by omega), Option.bind_some, if_pos hlong, awake_f]
    rfl
  · have hlong' : longB l = false := by simpa using hlong
    have hsz : ∀ x ∈ l, x.f0.size ≤ 9223372036854775807 ∧ x.f1.size ≤ 9223372036854775807 := by
      intro x hx
      unfold longB at hlong'
      rw [Bool.or_eq_false_iff] at hlong'
      have := List.any_eq_false.1 hlong'.1 x hx
      simp [longX] at this
      omega
    obtain ⟨r, hr⟩ : ∃ r, field_Text.f l = some r := ⟨_, rfl⟩
    obtain ⟨K, hK⟩ := Text_f l hsz r hr
    refine ⟨K + l.length + 2, ?_⟩
    have hne : (r.2 != r.2) = false := by simp
    unfold supercargolaw05_FieldTexts.f
    rw [long_f l hl _ (by omega), Option.bind_some, if_neg hlong, hr, Option.bind_some, hK _ (by omega), Option.bind_some, if_pos rfl, hne, show K + l.length + 2 = (K + l.length + 1) + 1 by omega]
    simp only [supercargolaw05_FieldTexts.j0]
    rw [if_neg (by simp)]
    by_cases h0 : r.2 = 0
    · have hq : l.length ≤ 64 ∧ l.all mayF = true ∧ r.1 = ⟨(l.flatMap lineF).toArray⟩ := by
        unfold field_Text.f at hr
        have hr := Option.some.inj hr
        by_cases c1 : 64 < l.length
        · rw [if_pos c1] at hr; rw [← hr] at h0; exact absurd h0 (by simp)
        · rw [if_neg c1] at hr
          by_cases c2 : l.all mayF = true
          · rw [if_pos c2] at hr; rw [← hr]; exact ⟨by omega, c2, rfl⟩
          · rw [if_neg c2] at hr; rw [← hr] at h0; exact absurd h0 (by simp)
      rw [if_pos h0, hq.2.2, text_parse l hq.1 hq.2.1, Option.bind_some]
      dsimp only
      rw [Same_f l l hl _ (by omega), Option.bind_some, if_pos (by simp), if_pos rfl, if_pos rfl, awake_f]
      rfl
    · rw [if_neg h0, awake_f]
      rfl
end Go.Proofs.Ytpkcbbjflcfdeaa.P
