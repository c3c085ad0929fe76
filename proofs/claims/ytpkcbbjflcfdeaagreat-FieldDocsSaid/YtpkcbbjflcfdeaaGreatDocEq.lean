/- Two papers are one just if each part of them is: the program's and the model's answer. Conditions: lists' lengths below 2^63. -/
import Derived.Test.YtpkcbbjflcfdeaaGreatBack
import Derived.Test.YtpkcbbjflcfdeaaGreatPx5
import Derived.Test.YtpkcbbjflcfdeaaGreatPx6
namespace Go.Proofs.YtpkcbbjflcfdeaaGreat.P
open Go.RowKit Go.Proofs.YtpkcbbjflcfdeaaGreatW.PrintWords Go.Proofs.YtpkcbbjflcfdeaaGreatW.PrintLast Go.Proofs.YtpkcbbjflcfdeaaGreatW.PrintMore
open Go.Proofs.YtpkcbbjflcfdeaaGreat.Fp

theorem equal_l0 (a b : List S39) (hl : a.length = b.length) (hs : a.length ≤ 9223372036854775807) : ∀ (d i k : Nat), i + d = a.length → d < k →
    api_Field.l0 k a b (a.length : Int) (i : Int) = some (decide ((a.drop i).map twoF = (b.drop i).map twoF)) := by
  intro d
  induction d with
  | zero =>
    intro i k h1 h2
    obtain ⟨k, rfl⟩ : ∃ m, k = m + 1 := ⟨k - 1, by omega⟩
    simp only [api_Field.l0]
    rw [if_neg (by omega), List.drop_eq_nil_of_le (by omega), List.drop_eq_nil_of_le (by omega)]
    simp
  | succ d ih =>
    intro i k h1 h2
    obtain ⟨k, rfl⟩ : ∃ m, k = m + 1 := ⟨k - 1, by omega⟩
    have hi : i < a.length := by omega
    have hj : i < b.length := by omega
    simp only [api_Field.l0]
    rw [if_pos (by omega), if_pos (by omega), if_pos (by omega), if_pos (by omega), rd_nat a i hi, rd_nat b i hj, wrap_nat i (by omega), ih (i + 1) k (by omega) (by omega), List.drop_eq_getElem_cons hi, List.drop_eq_getElem_cons hj, toList_eq, toList_eq, List.map_cons, List.map_cons]
    by_cases c1 : (a[i]).f0.data.toList = (b[i]).f0.data.toList
    · by_cases c2 : (a[i]).f1.data.toList = (b[i]).f1.data.toList
      · rw [if_neg (by simp [c1, c2])]; simp [twoF, c1, c2]
      · rw [if_pos (by simp [c1, c2])]; simp [twoF, c1, c2]
    · rw [if_pos (by simp [c1])]; simp [twoF, c1]
theorem equal_f (a b : List S39) (hs : a.length ≤ 9223372036854775807) (k : Nat) (hk : a.length < k) : api_Field.f k a b = some (decide (a.map twoF = b.map twoF)) := by
  unfold api_Field.f
  by_cases hl : a.length = b.length
  · rw [if_pos (by omega)]
    have := equal_l0 a b hl hs a.length 0 k (by omega) hk
    rwa [List.drop_zero, List.drop_zero] at this
  · rw [if_neg (by omega)]
    have : ¬ a.map twoF = b.map twoF := by intro h; apply hl; have := congrArg List.length h; simpa using this
    simp [this]
def sameD (n0 : Int) (s1 s2 : ByteArray) (l : List S39) (m0 : Int) (t1 t2 : ByteArray) (m : List S39) : Bool :=
  decide (n0 = m0) && (decide (s1.toList = t1.toList) && (decide (s2.toList = t2.toList) && decide (l.map twoF = m.map twoF)))
theorem dsame_f (n0 : Int) (s1 s2 : ByteArray) (l : List S39) (m0 : Int) (t1 t2 : ByteArray) (m : List S39) (hs : l.length ≤ 9223372036854775807) (k : Nat) (hk : l.length < k) :
    field_Same.f k n0 s1 s2 l m0 t1 t2 m = some (sameD n0 s1 s2 l m0 t1 t2 m) := by
  unfold field_Same.f sameD
  rw [equal_f l m hs k hk]
  by_cases h0 : n0 = m0 <;> by_cases h1 : s1.toList = t1.toList <;> by_cases h2 : s2.toList = t2.toList <;> simp [h0, h1, h2]
theorem alike_f (n0 : Int) (s1 s2 : ByteArray) (l : List S39) (m0 : Int) (t1 t2 : ByteArray) (m : List S39) (hs : l.length ≤ 9223372036854775807) (k : Nat) (hk : l.length < k) :
    supercargoref05_Alike.f k n0 s1 s2 l m0 t1 t2 m = some (sameD n0 s1 s2 l m0 t1 t2 m) := by
  unfold supercargoref05_Alike.f sameD
  rw [Same_f l m hs k hk]
  by_cases h0 : n0 = m0 <;> by_cases h1 : s1.toList = t1.toList <;> by_cases h2 : s2.toList = t2.toList <;> simp [h0, h1, h2]
theorem sameD_self (n0 : Int) (s1 s2 : ByteArray) (l : List S39) : sameD n0 s1 s2 l n0 s1 s2 l = true := by simp [sameD]
end Go.Proofs.YtpkcbbjflcfdeaaGreat.P
