/- The chapter's examples hold; a record's text reads back as the record. Conditions: at most 64 fields, each of which may be. -/
import Derived.Test.YtpkcbbjflcfdeaaGreatEq
import Derived.Test.YtpkcbbjflcfdeaaGreatPx2
import Derived.Test.YtpkcbbjflcfdeaaGreatRound
import Derived.KernelRfl
namespace Go.Proofs.YtpkcbbjflcfdeaaGreat.P
open Go.RowKit Go.Proofs.YtpkcbbjflcfdeaaGreatW.PrintWords Go.Proofs.YtpkcbbjflcfdeaaGreatW.PrintLast Go.Proofs.YtpkcbbjflcfdeaaGreatW.PrintMore
open Go.Proofs.YtpkcbbjflcfdeaaGreat.Fp

theorem awake_f : supercargolaw05_awake.f = some true := by
  have h1 : field_Text.f ([(⟨(⟨#[97]⟩ : ByteArray), (⟨#[120]⟩ : ByteArray)⟩ : S39), (⟨(⟨#[98]⟩ : ByteArray), (⟨#[10]⟩ : ByteArray)⟩ : S39)] : List (S39)) = some (⟨#[97, 61, 120, 10, 98, 61, 92, 110, 10]⟩, 0) := by rfl
  have h2 : field_Parse.f (⟨#[97]⟩ : ByteArray) = some ([], 1, 2) := by
    unfold field_Parse.f
    rw [if_pos (by decide)]
    rfl
  unfold supercargolaw05_awake.f
  rw [h1, h2]
  simp [Lib.toList_data]

theorem fieldOf_twoF (x : S39) : fieldOf (twoF x) = x := by
  show S39.mk _ _ = x
  simp [twoF]
theorem flat_lines (l : List S39) : l.flatMap lineF = (l.map twoF).flatMap fun p => lineB p.1 p.2 := by
  induction l with
  | nil => rfl
  | cons x l ih => rw [List.flatMap_cons, List.map_cons, List.flatMap_cons, ih]; rfl
theorem text_back (l : List S39) (hl : l.length ≤ 64) (hm : l.all mayF = true) : parseL 64 (l.flatMap lineF) [] = (l.map twoF, 0, 0) := by
  rw [flat_lines, parse_back _ 64 [] (by simpa using hl) (fun p hp => ?_)]
  · simp
  · obtain ⟨x, hx, rfl⟩ := List.mem_map.1 hp
    exact List.all_eq_true.1 hm x hx
theorem flat_len (l : List S39) (hm : l.all mayF = true) : (l.flatMap lineF).length ≤ 8300 * l.length := by
  induction l with
  | nil => simp
  | cons x l ih =>
    rw [List.all_cons, Bool.and_eq_true] at hm
    have := lineF_len hm.1
    have := ih hm.2
    rw [List.flatMap_cons, List.length_append, List.length_cons]
    omega
theorem text_parse (l : List S39) (hl : l.length ≤ 64) (hm : l.all mayF = true) : field_Parse.f ⟨(l.flatMap lineF).toArray⟩ = some (l, 0, 0) := by
  have h := flat_len l hm
  unfold field_Parse.f
  rw [if_pos (by rw [size_mk]; omega), text_back l hl hm]
  have e : (l.map twoF).map fieldOf = l := by
    rw [List.map_map]
    conv => rhs; rw [← List.map_id l]
    apply List.map_congr_left
    intro x _
    exact fieldOf_twoF x
  simp only [e]

end Go.Proofs.YtpkcbbjflcfdeaaGreat.P
