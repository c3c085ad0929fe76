/- strings.Cut at a separator of one byte: what stands ahead of its first place and what behind it; if it isn't there, all. Conditions: the text has fewer than 4,294,967,296 bytes. -/
import Derived.Test.YtpkcbbjflcfdeaaGreatDoorPlain
import Derived.Test.YtpkcbbjflcfdeaaGreatDoorShelf
import Derived.WalkSpells
import Derived.Lib.Hide
import Derived.Deep.QuietTactic
import Derived.BigQuiet
import Derived.Lib.Strings
import Derived.Deep.Draws
namespace Go.Proofs.YtpkcbbjflcfdeaaGreatDoor.P
open Go.RowKit Go.Proofs.YtpkcbbjflcfdeaaGreatDoor.Fp

theorem cutAt_some : ∀ (c : UInt8) (l a b : List UInt8), cutAt c l = some (a, b) → Lib.indexByte l c = a.length ∧ l = a ++ c :: b
  | c, [], a, b, h => by simp [cutAt] at h
  | c, d :: r, a, b, h => by
    unfold cutAt at h
    by_cases hd : d = c
    · rw [if_pos hd] at h
      simp at h
      obtain ⟨rfl, rfl⟩ := h
      subst hd
      simp [Lib.indexByte]
    · rw [if_neg hd] at h
      cases hq : cutAt c r with
      | none => rw [hq] at h; simp at h
      | some p =>
        rw [hq] at h
        simp at h
        obtain ⟨rfl, rfl⟩ := h
        obtain ⟨h1, h2⟩ := cutAt_some c r p.1 p.2 hq
        refine ⟨?_, ?_⟩
        · unfold Lib.indexByte
          have hb : ¬ (d == c) = true := by simpa using hd
          have h3 : ¬ (Lib.indexByte r c == -1) = true := by rw [h1]; simp
          rw [if_neg hb, if_neg h3, h1, List.length_cons]
          omega
        · rw [List.cons_append, ← h2]
theorem cutAt_none : ∀ (c : UInt8) (l : List UInt8), cutAt c l = none → Lib.indexByte l c = -1 ∧ c ∉ l
  | c, [], _ => by simp [Lib.indexByte]
  | c, d :: r, h => by
    unfold cutAt at h
    by_cases hd : d = c
    · rw [if_pos hd] at h; simp at h
    · rw [if_neg hd] at h
      have hq : cutAt c r = none := by simpa using h
      obtain ⟨h1, h2⟩ := cutAt_none c r hq
      refine ⟨?_, ?_⟩
      · unfold Lib.indexByte
        have hb : ¬ (d == c) = true := by simpa using hd
        have h3 : (Lib.indexByte r c == -1) = true := by rw [h1]; rfl
        rw [if_neg hb, if_pos h3]
      · simp [h2, Ne.symm hd]

set_option maxHeartbeats 2000000 in
set_option maxRecDepth 100000 in
theorem cut_hit (s : ByteArray) (c : UInt8) (a b : List UInt8) (w : World) (hs : s.size < 4294967296) (h : cutAt c s.data.toList = some (a, b)) :
    Calls Tryz.prog 16 #[.string s, .string ⟨#[c]⟩] w fun e w' => e = .returned (.tuple #[.string ⟨a.toArray⟩, .string ⟨b.toArray⟩, .bool true]) ∧ ∃ n, w' = w.drewN n := by
  obtain ⟨h1, h2⟩ := cutAt_some c _ a b h
  have hl : s.data.toList.length = s.size := by simp
  have hal : a.length + 1 + b.length = s.size := by rw [← hl, h2]; simp; omega
  obtain ⟨i, hi⟩ : ∃ i, a.length = i := ⟨_, rfl⟩
  have e1 : (⟨a.toArray⟩ : ByteArray) = s.extract 0 i := by
    rw [Lib.extract_eq, h2, List.drop_zero, Nat.sub_zero, ← hi, List.take_left]
  have e2 : (⟨b.toArray⟩ : ByteArray) = s.extract (i + 1) s.size := by
    have e3 : s.data.toList.drop (i + 1) = b := by
      rw [h2, show a ++ c :: b = (a ++ [c]) ++ b by simp, show i + 1 = (a ++ [c]).length by simp [hi], List.drop_left]
    rw [Lib.extract_eq, e3, List.take_of_length_le (by omega)]
  rw [hi] at h1 hal
  rw [e1, e2]
  have H1 := Lib.hid h1
  have c1 : (0 : Int) ≤ (i : Int) := by omega
  have c2 : (i : Int) ≤ (s.size : Int) := by omega
  have c3 : (0 : Int) ≤ (i : Int) + 1 := by omega
  have c4 : (i : Int) + 1 ≤ (s.size : Int) := by omega
  clear h h1 h2 hl hi e1 e2 hal
  have hcut : Calls Tryz.prog 26 #[.string s, .string ⟨#[c]⟩] w fun e w' => e = .returned (.tuple #[.string (s.extract 0 i), .string (s.extract (i + 1) s.size), .bool true]) ∧ ∃ n, w' = w.drewN n := by
    go_enter Tryz.func26, Tryz.ntmps26
    go_wp2_with (go_at_call 41; refine (Sh.stringslite_Index_one s c _).mono ?_; rintro e wq ⟨rfl, hw⟩; subst wq; rw [H1.out])
    go_quiet (fail)
    go_wp2_with fail
    go_ret3
    exact ⟨rfl, _, rfl⟩
  have HC := Lib.hid hcut
  clear hcut
  go_enter Tryz.func16, Tryz.ntmps16
  go_wp2_with (go_at_call 26; refine HC.out.mono ?_; rintro e wq ⟨rfl, n, rfl⟩)
  go_ret3
  exact ⟨rfl, n, rfl⟩

set_option maxHeartbeats 2000000 in
set_option maxRecDepth 100000 in
theorem cut_miss (s : ByteArray) (c : UInt8) (w : World) (h : cutAt c s.data.toList = none) :
    Calls Tryz.prog 16 #[.string s, .string ⟨#[c]⟩] w fun e w' => e = .returned (.tuple #[.string s, .string ⟨#[]⟩, .bool false]) ∧ w' = w := by
  obtain ⟨h1, _⟩ := cutAt_none c _ h
  have H1 := Lib.hid h1
  clear h h1
  have hcut : Calls Tryz.prog 26 #[.string s, .string ⟨#[c]⟩] w fun e w' => e = .returned (.tuple #[.string s, .string ⟨#[]⟩, .bool false]) ∧ w' = w := by
    go_enter Tryz.func26, Tryz.ntmps26
    go_wp2_with (go_at_call 41; refine (Sh.stringslite_Index_one s c _).mono ?_; rintro e wq ⟨rfl, hw⟩; subst wq; rw [H1.out])
    go_ret3
    exact ⟨rfl, rfl⟩
  have HC := Lib.hid hcut
  clear hcut
  go_enter Tryz.func16, Tryz.ntmps16
  go_wp2_with (go_at_call 26; refine HC.out.mono ?_; rintro e wq ⟨rfl, hw⟩; subst wq)
  go_ret3
  exact ⟨rfl, rfl⟩
end Go.Proofs.YtpkcbbjflcfdeaaGreatDoor.P
