/- What the printed Lean functions of the model answer, as plain functions: long, Name, May, Text, Same. Conditions: lengths and sizes below 2^63. -/
import Derived.Test.YtpkcbbjflcfdeaaGreatPx2
import Derived.Test.YtpkcbbjflcfdeaaGreatPx4
import Derived.Test.YtpkcbbjflcfdeaaGreatPx5
namespace Go.Proofs.YtpkcbbjflcfdeaaGreat.P
open Go.RowKit Go.Proofs.YtpkcbbjflcfdeaaGreatW.PrintWords Go.Proofs.YtpkcbbjflcfdeaaGreatW.PrintLast Go.Proofs.YtpkcbbjflcfdeaaGreatW.PrintMore
open Go.Proofs.YtpkcbbjflcfdeaaGreat.Fp

theorem wrap_nat (i : Nat) (h : i < 9223372036854775807) : wrap64 ((i : Int) + 1) = ((i + 1 : Nat) : Int) := by unfold wrap64; omega
theorem rd_nat (l : List S39) (i : Nat) (h : i < l.length) : rd_T39 l (i : Int) = l[i] := by
  unfold rd_T39
  simp [List.getD, List.getElem?_eq_getElem h]
theorem bt_nat (s : ByteArray) (i : Nat) (h : i < s.data.toList.length) : bt s (i : Int) = ((s.data.toList[i]).toNat : Int) := by
  unfold bt
  rw [dif_pos (show ((i : Int).toNat < s.size) by simpa using h)]
  rfl
theorem size_list (s : ByteArray) : s.data.toList.length = s.size := by simp
theorem app_mk (L M : List UInt8) : ((⟨L.toArray⟩ : ByteArray) ++ (⟨M.toArray⟩ : ByteArray)) = ⟨(L ++ M).toArray⟩ := by
  apply ByteArray.ext; simp
theorem mk_list (s : ByteArray) : (⟨s.data.toList.toArray⟩ : ByteArray) = s := by apply ByteArray.ext; simp
theorem size_mk (L : List UInt8) : (⟨L.toArray⟩ : ByteArray).size = L.length := by simp [ByteArray.size]
theorem cut_one (s : ByteArray) (i : Nat) (h : i < s.data.toList.length) : s.extract i (i + 1) = ⟨([s.data.toList[i]] : List UInt8).toArray⟩ := by
  apply ByteArray.ext
  rw [ByteArray.data_extract]
  apply Array.ext'
  rw [Array.toList_extract, List.extract, List.drop_eq_getElem_cons h]
  simp

def longX (x : S39) : Bool := decide (100 < x.f0.size) || decide (4200 < x.f1.size)
def longB (l : List S39) : Bool := l.any longX || decide (70 < l.length)
theorem long_l0 (l : List S39) (hl : l.length ≤ 9223372036854775807) : ∀ (d i k : Nat), i + d = l.length → d < k →
    supercargolaw05_long.l0 k l l (l.length : Int) (i : Int) = some ((l.drop i).any longX || decide (70 < l.length)) := by
  intro d
  induction d with
  | zero =>
    intro i k h1 h2
    obtain ⟨k, rfl⟩ : ∃ m, k = m + 1 := ⟨k - 1, by omega⟩
    simp only [supercargolaw05_long.l0]
    rw [if_neg (by omega), List.drop_eq_nil_of_le (by omega)]
    simp
    omega
  | succ d ih =>
    intro i k h1 h2
    obtain ⟨k, rfl⟩ : ∃ m, k = m + 1 := ⟨k - 1, by omega⟩
    have hi : i < l.length := by omega
    simp only [supercargolaw05_long.l0]
    rw [if_pos (by omega), if_pos (by omega), if_pos (by omega), rd_nat l i hi, wrap_nat i (by omega), ih (i + 1) k (by omega) (by omega), List.drop_eq_getElem_cons hi, List.any_cons]
    by_cases c1 : 100 < (l[i]).f0.size
    · rw [if_pos (by omega)]; simp [longX, c1]
    · by_cases c2 : 4200 < (l[i]).f1.size
      · rw [if_neg (by omega), if_pos (by omega)]; simp [longX, c2]
      · rw [if_neg (by omega), if_neg (by omega)]; simp [longX, c1, c2]
theorem long_f (l : List S39) (hl : l.length ≤ 9223372036854775807) (k : Nat) (hk : l.length < k) : supercargolaw05_long.f k l = some (longB l) := by
  have := long_l0 l hl l.length 0 k (by omega) hk
  rwa [List.drop_zero] at this

theorem Name_l0 (s : ByteArray) (hs : s.size ≤ 9223372036854775807) : ∀ (d i k : Nat), i + d = s.size → d < k →
    supercargoref05_Name.l0 k s (i : Int) = some ((s.data.toList.drop i).all okB && (decide (1 ≤ s.size) && decide (s.size ≤ 16))) := by
  intro d
  induction d with
  | zero =>
    intro i k h1 h2
    obtain ⟨k, rfl⟩ : ∃ m, k = m + 1 := ⟨k - 1, by omega⟩
    simp only [supercargoref05_Name.l0]
    rw [if_neg (by omega), List.drop_eq_nil_of_le (by rw [size_list]; omega)]
    by_cases c : 1 ≤ s.size
    · rw [if_pos (by omega)]; simp [c]; omega
    · rw [if_neg (by omega)]; simp [c]
  | succ d ih =>
    intro i k h1 h2
    obtain ⟨k, rfl⟩ : ∃ m, k = m + 1 := ⟨k - 1, by omega⟩
    have hi : i < s.data.toList.length := by rw [size_list]; omega
    simp only [supercargoref05_Name.l0]
    rw [if_pos (by omega), if_pos (by omega), bt_nat s i hi, wrap_nat i (by omega), ih (i + 1) k (by omega) (by omega), List.drop_eq_getElem_cons hi, List.all_cons]
    generalize s.data.toList[i] = c
    generalize (s.data.toList.drop (i + 1)).all okB = X
    generalize (decide (1 ≤ s.size) && decide (s.size ≤ 16)) = Y
    have e : okB c = ((decide (97 ≤ c.toNat) && decide (c.toNat ≤ 122)) || (decide (48 ≤ c.toNat) && decide (c.toNat ≤ 57)) || decide (c.toNat = 45)) := rfl
    rw [e]
    generalize c.toNat = n
    by_cases h1 : n < 97 <;> by_cases h2 : 122 < n <;> by_cases h3 : n < 48 <;> by_cases h4 : 57 < n <;> by_cases h5 : n = 45 <;>
      simp [show ((n : Int) < 97) = (n < 97) by simp; omega, show ((n : Int) > 122) = (122 < n) by simp; omega, show ((n : Int) < 48) = (n < 48) by simp; omega, show ((n : Int) > 57) = (57 < n) by simp; omega, show ((n : Int) = 45) = (n = 45) by simp; omega, h1, h2, h3, h4, h5, show (97 ≤ n) = ¬ (n < 97) by simp, show (n ≤ 122) = ¬ (122 < n) by simp, show (48 ≤ n) = ¬ (n < 48) by simp, show (n ≤ 57) = ¬ (57 < n) by simp] <;> omega
theorem Name_f (s : ByteArray) (hs : s.size ≤ 9223372036854775807) (k : Nat) (hk : s.size < k) : supercargoref05_Name.f k s = some (nameB s.data.toList) := by
  have := Name_l0 s hs s.size 0 k (by omega) hk
  rw [List.drop_zero] at this
  unfold supercargoref05_Name.f
  rw [show ((0 : Int)) = ((0 : Nat) : Int) by rfl, this]
  unfold nameB
  rw [size_list]
  congr 1
  by_cases c : s.data.toList = []
  · have : s.size = 0 := by rw [← size_list, c]; rfl
    simp [c, this]
  · have : 1 ≤ s.size := by rw [← size_list]; exact List.length_pos_iff.2 c
    have e : s.data.toList.isEmpty = false := by simpa using c
    rw [e]
    simp only [this, decide_true, Bool.true_and, Bool.not_false]
    rw [Bool.and_comm]
theorem May_f (a b : ByteArray) (ha : a.size ≤ 9223372036854775807) (k : Nat) (hk : a.size < k) : supercargoref05_May.f k a b = some (mayB a.data.toList b.data.toList) := by
  unfold supercargoref05_May.f
  rw [Name_f a ha k hk, Option.bind_some]
  unfold mayB
  rw [size_list]
  cases nameB a.data.toList
  · simp
  · simp; omega

theorem Text_l1 (l : List S39) (i : Nat) (hi : i < l.length) (hv : (l[i]).f1.size ≤ 9223372036854775807) : ∀ (d j k : Nat) (X : List UInt8), j + d = (l[i]).f1.size → X.length + 2 * d + 1 ≤ 9223372036854775807 →
    supercargoref05_Text.l1 (k + d + 1) l ⟨X.toArray⟩ (i : Int) (j : Int) = supercargoref05_Text.l0 k l ⟨(X ++ (esc ((l[i]).f1.data.toList.drop j) ++ [10])).toArray⟩ (wrap64 ((i : Int) + 1)) := by
  intro d
  induction d with
  | zero =>
    intro j k X h1 h2
    simp only [supercargoref05_Text.l1]
    rw [if_pos (by omega), if_pos (by omega), rd_nat l i hi, if_neg (by omega), size_mk, if_pos (by omega), List.drop_eq_nil_of_le (by rw [size_list]; omega)]
    rw [show ((⟨#[10]⟩ : ByteArray)) = ⟨([10] : List UInt8).toArray⟩ by rfl, app_mk]
    simp [esc]
  | succ d ih =>
    intro j k X h1 h2
    have hj : j < (l[i]).f1.data.toList.length := by rw [size_list]; omega
    rw [show k + (d + 1) + 1 = (k + d + 1) + 1 by omega]
    generalize hn : k + d + 1 = n
    simp only [supercargoref05_Text.l1]
    rw [if_pos (by omega), if_pos (by omega), rd_nat l i hi, if_pos (by omega), if_pos (by omega), bt_nat _ j hj, wrap_nat j (by omega), size_mk]
    have e2 : esc ((l[i]).f1.data.toList.drop j) = escC ((l[i]).f1.data.toList[j]) ++ esc ((l[i]).f1.data.toList.drop (j + 1)) := by
      rw [List.drop_eq_getElem_cons hj]; rfl
    rw [e2]
    by_cases c1 : (l[i]).f1.data.toList[j] = 92
    · have e1 : escC ((l[i]).f1.data.toList[j]) = [92, 92] := by rw [c1]; rfl
      rw [if_pos (by rw [c1]; rfl), if_pos (by omega), e1, show ((⟨#[92, 92]⟩ : ByteArray)) = ⟨([92, 92] : List UInt8).toArray⟩ by rfl, app_mk, ← hn, ih (j + 1) k (X ++ [92, 92]) (by omega) (by simp; omega)]
      simp
    · have n1 : ¬ (((l[i]).f1.data.toList[j]).toNat : Int) = 92 := by intro h; apply c1; apply UInt8.toNat_inj.1; show ((l[i]).f1.data.toList[j]).toNat = 92; omega
      by_cases c2 : (l[i]).f1.data.toList[j] = 10
      · have e1 : escC ((l[i]).f1.data.toList[j]) = [92, 110] := by rw [c2]; rfl
        rw [if_neg n1, if_pos (by rw [c2]; rfl), if_pos (by omega), e1, show ((⟨#[92, 110]⟩ : ByteArray)) = ⟨([92, 110] : List UInt8).toArray⟩ by rfl, app_mk, ← hn, ih (j + 1) k (X ++ [92, 110]) (by omega) (by simp; omega)]
        simp
      · have n2 : ¬ (((l[i]).f1.data.toList[j]).toNat : Int) = 10 := by intro h; apply c2; apply UInt8.toNat_inj.1; show ((l[i]).f1.data.toList[j]).toNat = 10; omega
        have e1 : escC ((l[i]).f1.data.toList[j]) = [(l[i]).f1.data.toList[j]] := by unfold escC; rw [if_neg c1, if_neg c2]
        rw [if_neg n1, if_neg n2, if_pos (by omega), if_pos (by omega), show ((j : Int)).toNat = j by omega, show (((j + 1 : Nat) : Int)).toNat = j + 1 by omega, cut_one _ j hj, size_mk, if_pos (by simp; omega), app_mk, ← hn, ih (j + 1) k _ (by omega) (by simp; omega), e1]
        simp
theorem Text_l0 (l : List S39) (hl : l.length ≤ 64) (hs : ∀ x ∈ l, x.f0.size ≤ 9223372036854775807 ∧ x.f1.size ≤ 9223372036854775807) : ∀ (d i : Nat) (X : List UInt8), i + d = l.length → X.length + 9000 * d ≤ 1000000 →
    ∃ K, ∀ k, K ≤ k → supercargoref05_Text.l0 k l ⟨X.toArray⟩ (i : Int) = some (if (l.drop i).all mayF = true then (⟨(X ++ (l.drop i).flatMap lineF).toArray⟩, 0) else (⟨#[]⟩, 1)) := by
  intro d
  induction d with
  | zero =>
    intro i X h1 h2
    refine ⟨1, fun k hk => ?_⟩
    obtain ⟨k, rfl⟩ : ∃ m, k = m + 1 := ⟨k - 1, by omega⟩
    simp only [supercargoref05_Text.l0]
    rw [if_neg (by omega), List.drop_eq_nil_of_le (by omega)]
    simp
  | succ d ih =>
    intro i X h1 h2
    have hi : i < l.length := by omega
    obtain ⟨hs0, hs1⟩ := hs (l[i]) (List.getElem_mem hi)
    have hd := List.drop_eq_getElem_cons hi
    by_cases hm : mayF (l[i]) = true
    · obtain ⟨m0, m1⟩ := may_small hm
      have hlen := lineF_len hm
      obtain ⟨K, hK⟩ := ih (i + 1) (X ++ lineF (l[i])) (by omega) (by simp; omega)
      refine ⟨K + (l[i]).f1.size + (l[i]).f0.size + 2, fun k hk => ?_⟩
      obtain ⟨k, rfl⟩ : ∃ m, k = (m + (l[i]).f1.size + 1) + 1 := ⟨k - 2 - (l[i]).f1.size, by omega⟩
      simp only [supercargoref05_Text.l0]
      rw [if_pos (by omega), if_pos (by omega), rd_nat l i hi, May_f _ _ hs0 _ (by omega), Option.bind_some, show mayB (l[i]).f0.data.toList (l[i]).f1.data.toList = true from hm, if_pos rfl, if_pos (by omega)]
      have ea : ((⟨X.toArray⟩ : ByteArray) ++ ((l[i]).f0 ++ (⟨#[61]⟩ : ByteArray))) = ⟨(X ++ ((l[i]).f0.data.toList ++ [61])).toArray⟩ := by
        conv => lhs; rw [← mk_list (l[i]).f0, show ((⟨#[61]⟩ : ByteArray)) = ⟨([61] : List UInt8).toArray⟩ by rfl, app_mk, app_mk]
      have eb : ((l[i]).f0 ++ (⟨#[61]⟩ : ByteArray)).size = (l[i]).f0.size + 1 := by simp [ByteArray.size_append]; rfl
      rw [eb, size_mk, if_pos (by omega), ea, show (0 : Int) = ((0 : Nat) : Int) by rfl, Text_l1 l i hi hs1 (l[i]).f1.size 0 k _ (by omega) (by simp; omega), wrap_nat i (by omega)]
      have ec : X ++ ((l[i]).f0.data.toList ++ [61]) ++ (esc ((l[i]).f1.data.toList.drop 0) ++ [10]) = X ++ lineF (l[i]) := by
        unfold lineF lineB; simp
      rw [ec, hK k (by omega), hd, List.all_cons, hm, List.flatMap_cons, Bool.true_and, List.append_assoc]
      rfl
    · refine ⟨(l[i]).f0.size + 2, fun k hk => ?_⟩
      obtain ⟨k, rfl⟩ : ∃ m, k = m + 1 := ⟨k - 1, by omega⟩
      have hm' : mayF (l[i]) = false := by simpa using hm
      simp only [supercargoref05_Text.l0]
      rw [if_pos (by omega), if_pos (by omega), rd_nat l i hi, May_f _ _ hs0 _ (by omega), Option.bind_some, show mayB (l[i]).f0.data.toList (l[i]).f1.data.toList = false from hm', if_neg (by simp), hd, List.all_cons, hm']
      simp
theorem Text_f (l : List S39) (hs : ∀ x ∈ l, x.f0.size ≤ 9223372036854775807 ∧ x.f1.size ≤ 9223372036854775807) (r : ByteArray × Int) (hr : field_Text.f l = some r) : ∃ K, ∀ k, K ≤ k → supercargoref05_Text.f k l = some r := by
  unfold field_Text.f at hr
  by_cases hl : 64 < l.length
  · rw [if_pos hl] at hr
    refine ⟨0, fun k _ => ?_⟩
    unfold supercargoref05_Text.f
    rw [if_pos (by omega)]
    exact hr
  · rw [if_neg hl] at hr
    obtain ⟨K, hK⟩ := Text_l0 l (by omega) hs l.length 0 [] (by omega) (by simp; omega)
    refine ⟨K, fun k hk => ?_⟩
    unfold supercargoref05_Text.f
    rw [if_neg (by omega)]
    have := hK k hk
    rw [List.drop_zero, List.nil_append] at this
    exact this.trans hr

def twoF (x : S39) : List UInt8 × List UInt8 := (x.f0.data.toList, x.f1.data.toList)
theorem toList_eq (a b : ByteArray) : (a.toList == b.toList) = decide (a.data.toList = b.data.toList) := by
  rw [Lib.toList_data, Lib.toList_data]
  by_cases h : a.data.toList = b.data.toList
  · rw [decide_eq_true h, beq_iff_eq]; exact h
  · rw [decide_eq_false h, beq_eq_false_iff_ne]; exact h
theorem Same_l0 (a b : List S39) (hl : a.length = b.length) (hs : a.length ≤ 9223372036854775807) : ∀ (d i k : Nat), i + d = a.length → d < k →
    supercargoref05_Same.l0 k a b (i : Int) = some (decide ((a.drop i).map twoF = (b.drop i).map twoF)) := by
  intro d
  induction d with
  | zero =>
    intro i k h1 h2
    obtain ⟨k, rfl⟩ : ∃ m, k = m + 1 := ⟨k - 1, by omega⟩
    simp only [supercargoref05_Same.l0]
    rw [if_neg (by omega), List.drop_eq_nil_of_le (by omega), List.drop_eq_nil_of_le (by omega)]
    simp
  | succ d ih =>
    intro i k h1 h2
    obtain ⟨k, rfl⟩ : ∃ m, k = m + 1 := ⟨k - 1, by omega⟩
    have hi : i < a.length := by omega
    have hj : i < b.length := by omega
    simp only [supercargoref05_Same.l0]
    rw [if_pos (by omega), if_pos (by omega), if_pos (by omega), rd_nat a i hi, rd_nat b i hj, wrap_nat i (by omega), ih (i + 1) k (by omega) (by omega), List.drop_eq_getElem_cons hi, List.drop_eq_getElem_cons hj, toList_eq, toList_eq, List.map_cons, List.map_cons]
    by_cases c1 : (a[i]).f0.data.toList = (b[i]).f0.data.toList
    · by_cases c2 : (a[i]).f1.data.toList = (b[i]).f1.data.toList
      · rw [if_neg (by simp [c1, c2])]; simp [twoF, c1, c2]
      · rw [if_pos (by simp [c1, c2])]; simp [twoF, c1, c2]
    · rw [if_pos (by simp [c1])]; simp [twoF, c1]
theorem Same_f (a b : List S39) (hs : a.length ≤ 9223372036854775807) (k : Nat) (hk : a.length < k) : supercargoref05_Same.f k a b = some (decide (a.map twoF = b.map twoF)) := by
  unfold supercargoref05_Same.f
  by_cases hl : a.length = b.length
  · rw [if_pos (by omega)]
    have := Same_l0 a b hl hs a.length 0 k (by omega) hk
    rwa [List.drop_zero, List.drop_zero] at this
  · rw [if_neg (by omega)]
    have : ¬ a.map twoF = b.map twoF := by intro h; apply hl; have := congrArg List.length h; simpa using this
    simp [this]
end Go.Proofs.YtpkcbbjflcfdeaaGreat.P
