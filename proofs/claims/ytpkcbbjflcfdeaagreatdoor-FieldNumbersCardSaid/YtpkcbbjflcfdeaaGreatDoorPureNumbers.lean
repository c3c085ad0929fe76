/- FieldNumbers answers true at every text and every number. Conditions: none; no program stands here. -/
import Derived.Test.YtpkcbbjflcfdeaaGreatDoorNumber
import Derived.Test.YtpkcbbjflcfdeaaGreatDoorGiven
import Derived.Test.YtpkcbbjflcfdeaaGreatDoorPx1
import Derived.Test.YtpkcbbjflcfdeaaGreatDoorPx2
import Derived.Lib.ParseIntBCases
import Derived.Lib.ItoaLen
namespace Go.Proofs.YtpkcbbjflcfdeaaGreatDoor.P
open Go.RowKit Go.Proofs.YtpkcbbjflcfdeaaGreatDoorW.PrintWords Go.Proofs.YtpkcbbjflcfdeaaGreatDoorW.PrintLast Go.Proofs.YtpkcbbjflcfdeaaGreatDoorW.PrintMore
open Go.Lib (itoa decDigits parseIntB parseUintB parseUintM)

theorem dec_small {u : Nat} (h : u < 10) : decDigits u = [UInt8.ofNat (48 + u)] := by rw [decDigits, dif_pos h]
theorem dec_big {u : Nat} (h : ¬ u < 10) : decDigits u = decDigits (u / 10) ++ [UInt8.ofNat (48 + u % 10)] := by rw [decDigits, dif_neg h]
theorem dig_nat {d : Nat} (h : d < 10) : (UInt8.ofNat (48 + d)).toNat = 48 + d := by
  rw [UInt8.toNat_ofNat']; omega
theorem dec_ne (u : Nat) : decDigits u ≠ [] := by
  by_cases h : u < 10
  · rw [dec_small h]; simp
  · rw [dec_big h]; simp
theorem dec_head (u : Nat) : ∃ c r, decDigits u = c :: r ∧ 48 ≤ c.toNat ∧ c.toNat ≤ 57 := by
  induction u using Nat.strongRecOn with
  | _ u ih =>
    by_cases h : u < 10
    · exact ⟨_, [], dec_small h, by rw [dig_nat h]; omega, by rw [dig_nat h]; omega⟩
    · obtain ⟨c, r, e, h1, h2⟩ := ih (u / 10) (by omega)
      exact ⟨c, r ++ [UInt8.ofNat (48 + u % 10)], by rw [dec_big h, e]; rfl, h1, h2⟩

theorem parse_dec (M : Nat) (hM : M ≤ 18446744073709551615) : ∀ (u : Nat) (r : List UInt8), u ≤ M → parseUintM M 0 (decDigits u ++ r) = parseUintM M u r := by
  intro u
  induction u using Nat.strongRecOn with
  | _ u ih =>
    intro r hu
    by_cases h : u < 10
    · rw [dec_small h, List.singleton_append, parseUintM, dig_nat h, if_pos (by omega), if_neg (by omega), if_neg (by omega)]
      congr 1; omega
    · have hd : u % 10 < 10 := Nat.mod_lt _ (by decide)
      rw [dec_big h, List.append_assoc, ih (u / 10) (by omega) _ (by omega), List.singleton_append, parseUintM, dig_nat hd, if_pos (by omega), if_neg (by omega), if_neg (by omega)]
      congr 1; omega
theorem parse_itoa (n : Int) (h0 : -9223372036854775808 ≤ n) (h1 : n ≤ 9223372036854775807) : parseIntB 64 (itoa n) = .ok n := by
  have key : ∀ u : Nat, u ≤ 9223372036854775808 → parseUintB 64 (decDigits u) = .ok u := by
    intro u hu
    unfold parseUintB
    rw [if_neg (dec_ne u)]
    have := parse_dec (2 ^ 64 - 1) (by decide) u [] (by omega)
    rw [List.append_nil] at this
    rw [this, parseUintM]
  unfold itoa
  by_cases hn : n < 0
  · rw [if_pos hn, Lib.parseIntB_minus, key _ (by omega)]
    show (if (2 : Nat) ^ 63 < n.natAbs then _ else _) = _
    rw [if_neg (by omega)]
    congr 1; omega
  · rw [if_neg hn]
    obtain ⟨c, r, e, hc1, hc2⟩ := dec_head n.toNat
    have hk := key n.toNat (by omega)
    rw [e] at hk ⊢
    rw [Lib.parseIntB_plain 64 c r (by omega) (by omega), hk]
    show (if (2 : Nat) ^ 63 ≤ n.toNat then _ else _) = _
    rw [if_neg (by omega)]
    congr 1; omega
theorem numP_itoa (n : Int) (h0 : -9223372036854775808 ≤ n) (h1 : n ≤ 9223372036854775807) : numP (itoa n) = if n < -4611686018427387904 ∨ 4611686018427387904 < n then (0, false) else (n, true) := by
  unfold numP
  rw [parse_itoa n h0 h1]
  dsimp only
  rw [if_pos rfl]
theorem numP_none (s : List UInt8) (h : ∀ n : Int, -4611686018427387904 ≤ n → n ≤ 4611686018427387904 → itoa n ≠ s) : numP s = (0, false) := by
  unfold numP
  cases hp : parseIntB 64 s with
  | ok n =>
    dsimp only
    by_cases c : n < -4611686018427387904 ∨ 4611686018427387904 < n
    · rw [if_pos c]
    · rw [if_neg c, if_neg (h n (by omega) (by omega))]
  | «syntax» => rfl
  | range => rfl

theorem num_one (x : Int) (c : Nat) (h : x.toNat = c) : strOfNums [x] = ⟨([UInt8.ofNat c] : List UInt8).toArray⟩ := by
  show (⟨([x].map fun n => UInt8.ofNat n.toNat).toArray⟩ : ByteArray) = _
  rw [List.map_singleton, h]
theorem num_dig (e : Nat) (h : e < 10) : strOfNums [wrap64 (48 + (e : Int)) % 256] = ⟨([UInt8.ofNat (48 + e)] : List UInt8).toArray⟩ := num_one _ _ (by unfold wrap64; omega)
theorem num_neg (e : Nat) (h : e < 10) : strOfNums [wrap64 (48 - -(e : Int)) % 256] = ⟨([UInt8.ofNat (48 + e)] : List UInt8).toArray⟩ := num_one _ _ (by unfold wrap64; omega)
theorem app_mkN (L M : List UInt8) : ((⟨L.toArray⟩ : ByteArray) ++ (⟨M.toArray⟩ : ByteArray)) = ⟨(L ++ M).toArray⟩ := by
  apply ByteArray.ext; simp
theorem size_mkN (L : List UInt8) : (⟨L.toArray⟩ : ByteArray).size = L.length := by simp [ByteArray.size]
theorem tdiv_pos (m : Nat) : ((m : Int)).tdiv 10 = ((m / 10 : Nat) : Int) := rfl
theorem tmod_pos (m : Nat) : ((m : Int)).tmod 10 = ((m % 10 : Nat) : Int) := rfl
theorem tdiv_neg (m : Nat) : (-(m : Int)).tdiv 10 = -((m / 10 : Nat) : Int) := by rw [Int.neg_tdiv]; rfl
theorem tmod_neg (m : Nat) : (-(m : Int)).tmod 10 = -((m % 10 : Nat) : Int) := by rw [Int.neg_tmod]; rfl
theorem Digits_f : ∀ (d : Nat) (n : Int), n.natAbs < 10 ^ d → -9223372036854775808 ≤ n → n ≤ 9223372036854775807 → ∀ k, d < k → supercargoref05_Digits.f k n = some ⟨(itoa n).toArray⟩ := by
  intro d
  induction d with
  | zero =>
    intro n hd h0 h1 k hk
    obtain ⟨k, rfl⟩ : ∃ m, k = m + 1 := ⟨k - 1, by omega⟩
    have hn : n = 0 := by simp at hd; omega
    subst hn
    simp only [supercargoref05_Digits.f]
    rw [if_neg (by omega), if_pos (by omega), num_one _ 48 (by unfold wrap64; omega)]
    have : itoa 0 = [UInt8.ofNat 48] := by unfold itoa; rw [if_neg (by decide)]; exact dec_small (by decide)
    rw [this]
  | succ d ih =>
    intro n hd h0 h1 k hk
    obtain ⟨k, rfl⟩ : ∃ m, k = m + 1 := ⟨k - 1, by omega⟩
    simp only [supercargoref05_Digits.f]
    by_cases hn : n < 0
    · have hi : itoa n = 45 :: decDigits n.natAbs := by unfold itoa; rw [if_pos hn]
      rw [if_pos hn]
      by_cases h10 : n > -10
      · rw [if_pos h10, Option.bind_some, num_one _ (48 + n.natAbs) (by unfold wrap64; omega), size_mkN, if_pos (by simp), hi, dec_small (show n.natAbs < 10 by omega)]
        rw [show ((⟨#[45]⟩ : ByteArray)) = ⟨([45] : List UInt8).toArray⟩ by rfl, app_mkN]
        rfl
      · have hnn : n = -((n.natAbs : Nat) : Int) := by omega
        have ht : n.tdiv 10 = -((n.natAbs / 10 : Nat) : Int) := by conv => lhs; rw [hnn, tdiv_neg]
        have hm : n.tmod 10 = -((n.natAbs % 10 : Nat) : Int) := by conv => lhs; rw [hnn, tmod_neg]
        have hw : wrap64 (n.tdiv 10) = -((n.natAbs / 10 : Nat) : Int) := by rw [ht]; unfold wrap64; omega
        rw [if_neg h10, hw, ih _ (by rw [Nat.pow_succ] at hd; omega) (by omega) (by omega) k (by omega), Option.bind_some, Option.bind_some, hm, num_neg _ (Nat.mod_lt _ (by decide))]
        have hj : itoa (-((n.natAbs / 10 : Nat) : Int)) = 45 :: decDigits (n.natAbs / 10) := by
          unfold itoa; rw [if_pos (by omega)]; congr 2; omega
        have hl := Lib.itoa_length_le (-((n.natAbs / 10 : Nat) : Int)) (by omega) (by omega)
        rw [size_mkN, size_mkN, if_pos (by rw [List.length_singleton]; omega), app_mkN, hj, hi, dec_big (show ¬ n.natAbs < 10 by omega)]
        rfl
    · have hi : itoa n = decDigits n.toNat := by unfold itoa; rw [if_neg hn]
      rw [if_neg hn]
      by_cases h10 : n < 10
      · rw [if_pos h10, num_one _ (48 + n.toNat) (by unfold wrap64; omega), hi, dec_small (show n.toNat < 10 by omega)]
      · have hnn : n = ((n.toNat : Nat) : Int) := by omega
        have ht : n.tdiv 10 = ((n.toNat / 10 : Nat) : Int) := by conv => lhs; rw [hnn, tdiv_pos]
        have hm : n.tmod 10 = ((n.toNat % 10 : Nat) : Int) := by conv => lhs; rw [hnn, tmod_pos]
        have hw : wrap64 (n.tdiv 10) = ((n.toNat / 10 : Nat) : Int) := by rw [ht]; unfold wrap64; omega
        rw [if_neg h10, hw, ih _ (by rw [Nat.pow_succ] at hd; omega) (by omega) (by omega) k (by omega), Option.bind_some, Option.bind_some, hm, num_dig _ (Nat.mod_lt _ (by decide))]
        have hj : itoa ((n.toNat / 10 : Nat) : Int) = decDigits (n.toNat / 10) := by
          unfold itoa; rw [if_neg (by omega)]; congr 1
        have hl := Lib.itoa_length_le ((n.toNat / 10 : Nat) : Int) (by omega) (by omega)
        rw [size_mkN, size_mkN, if_pos (by rw [List.length_singleton]; omega), app_mkN, hj, hi, dec_big (show ¬ n.toNat < 10 by omega)]
theorem Digits_at (n : Int) (h0 : -9223372036854775808 ≤ n) (h1 : n ≤ 9223372036854775807) (k : Nat) (hk : 19 < k) : supercargoref05_Digits.f k n = some ⟨(itoa n).toArray⟩ :=
  Digits_f 19 n (by omega) h0 h1 k hk

theorem wr (x : Int) (h0 : -9223372036854775808 ≤ x) (h1 : x ≤ 9223372036854775807) : wrap64 x = x := by unfold wrap64; omega
theorem at_drop {l r : List UInt8} {i : Nat} {c : UInt8} (h : l.drop i = c :: r) : ∃ hi : i < l.length, l[i] = c ∧ l.drop (i + 1) = r := by
  have hi : i < l.length := by
    rcases Nat.lt_or_ge i l.length with h' | h'
    · exact h'
    · rw [List.drop_eq_nil_of_le h'] at h; cases h
  rw [List.drop_eq_getElem_cons hi] at h
  injection h with h1 h2
  exact ⟨hi, h1, h2⟩
theorem bt_at_nat (s : ByteArray) (i : Nat) (h : i < s.data.toList.length) : bt s (i : Int) = ((s.data.toList[i]).toNat : Int) := by
  unfold bt
  rw [dif_pos (show ((i : Int).toNat < s.size) by simpa using h)]
  rfl
theorem sizeN (s : ByteArray) : s.data.toList.length = s.size := by simp
theorem step_digit (s : ByteArray) (x5 : Int) (i k acc : Nat) (c : UInt8) (r : List UInt8) (hs : s.size ≤ 1000) (h : s.data.toList.drop i = c :: r) (h1 : 48 ≤ c.toNat) (h2 : c.toNat ≤ 57) (ha : acc ≤ 461168601842738790) :
    supercargoref05_Number.l0 (k + 1) s (acc : Int) x5 (i : Int) = supercargoref05_Number.l0 k s ((10 * acc + (c.toNat - 48) : Nat) : Int) x5 ((i + 1 : Nat) : Int) := by
  obtain ⟨hi, hc, _⟩ := at_drop h
  have hi' : i < s.size := by rw [← sizeN]; exact hi
  simp only [supercargoref05_Number.l0]
  rw [if_pos (by omega), if_pos (by omega), bt_at_nat s i hi, hc, if_neg (by omega), if_neg (by omega), if_neg (by omega), wr (10 * (acc : Int)) (by omega) (by omega), wr ((c.toNat : Int)) (by omega) (by omega), wr (10 * (acc : Int) + (c.toNat : Int)) (by omega) (by omega), wr _ (by omega) (by omega), wr _ (by omega) (by omega)]
  congr 1
  omega
theorem num_run (s : ByteArray) (x5 : Int) (hs : s.size ≤ 1000) : ∀ (u i k : Nat) (r : List UInt8), u ≤ 4611686018427387904 → s.data.toList.drop i = decDigits u ++ r →
    supercargoref05_Number.l0 (k + (decDigits u).length) s ((0 : Nat) : Int) x5 (i : Int) = supercargoref05_Number.l0 k s (u : Int) x5 ((i + (decDigits u).length : Nat) : Int) ∧ s.data.toList.drop (i + (decDigits u).length) = r := by
  intro u
  induction u using Nat.strongRecOn with
  | _ u ih =>
    intro i k r hu h
    by_cases hlt : u < 10
    · rw [dec_small hlt] at h ⊢
      have hd := dig_nat hlt
      have st := step_digit s x5 i k 0 (UInt8.ofNat (48 + u)) r hs h (by omega) (by omega) (by omega)
      rw [List.length_singleton]
      exact ⟨by rw [st]; congr 1; omega, (at_drop h).2.2⟩
    · have he : u % 10 < 10 := Nat.mod_lt _ (by decide)
      have hd := dig_nat he
      rw [dec_big hlt, List.append_assoc] at h
      obtain ⟨a, b⟩ := ih (u / 10) (by omega) i (k + 1) _ (by omega) h
      have hlen : (decDigits u).length = (decDigits (u / 10)).length + 1 := by rw [dec_big hlt]; simp
      have st := step_digit s x5 (i + (decDigits (u / 10)).length) k (u / 10) (UInt8.ofNat (48 + u % 10)) r hs b (by omega) (by omega) (by omega)
      refine ⟨?_, ?_⟩
      · rw [hlen, show k + ((decDigits (u / 10)).length + 1) = k + 1 + (decDigits (u / 10)).length by omega, a, st]
        congr 1; omega
      · rw [hlen, ← Nat.add_assoc]; exact (at_drop b).2.2
theorem num_end (s : ByteArray) (x5 : Int) (i k : Nat) (acc : Nat) (hi : s.size ≤ i) (ha : acc ≤ 4611686018427387909) (hk : 20 < k) :
    supercargoref05_Number.l0 k s (acc : Int) x5 (i : Int) =
      if x5 = 1 then (if (acc : Int) ≤ 4611686018427387904 then (if itoa (-(acc : Int)) = s.data.toList then some (-(acc : Int), true) else some (0, false)) else some (0, false))
      else (if (acc : Int) ≤ 4611686018427387904 then (if itoa (acc : Int) = s.data.toList then some ((acc : Int), true) else some (0, false)) else some (0, false)) := by
  obtain ⟨k, rfl⟩ : ∃ m, k = m + 1 := ⟨k - 1, by omega⟩
  simp only [supercargoref05_Number.l0]
  rw [if_neg (by omega)]
  have tl : ∀ L : List UInt8, ((⟨L.toArray⟩ : ByteArray).toList = s.toList) = (L = s.data.toList) := by
    intro L; rw [Lib.toList_data, Lib.toList_data]
  by_cases h5 : x5 = 1
  · rw [if_pos h5, if_pos h5, wr (-(acc : Int)) (by omega) (by omega), if_neg (by omega)]
    by_cases hb : (acc : Int) ≤ 4611686018427387904
    · rw [if_pos hb, if_neg (by omega), Digits_at _ (by omega) (by omega) k (by omega), Option.bind_some]
      simp only [tl]
    · rw [if_neg hb, if_pos (by omega)]
  · rw [if_neg h5, if_neg h5]
    by_cases hb : (acc : Int) ≤ 4611686018427387904
    · rw [if_pos hb, if_neg (by omega), if_neg (by omega), Digits_at _ (by omega) (by omega) k (by omega), Option.bind_some]
      simp only [tl]
    · rw [if_neg hb, if_pos (by omega)]
theorem num_bad (s : ByteArray) (x5 : Int) (hs : s.size ≤ 1000) (hbad : ∀ n : Int, -4611686018427387904 ≤ n → n ≤ 4611686018427387904 → itoa n ≠ s.data.toList) : ∀ (d i k acc : Nat), i + d = s.size → d + 21 < k → acc ≤ 4611686018427387909 →
    supercargoref05_Number.l0 k s (acc : Int) x5 (i : Int) = some (0, false) := by
  intro d
  induction d with
  | zero =>
    intro i k acc h1 h2 ha
    rw [num_end s x5 i k acc (by omega) ha (by omega)]
    split
    · split
      · rw [if_neg (hbad _ (by omega) (by omega))]
      · rfl
    · split
      · rw [if_neg (hbad _ (by omega) (by omega))]
      · rfl
  | succ d ih =>
    intro i k acc h1 h2 ha
    obtain ⟨k, rfl⟩ : ∃ m, k = m + 1 := ⟨k - 1, by omega⟩
    have hi : i < s.data.toList.length := by rw [sizeN]; omega
    by_cases hc : 48 ≤ (s.data.toList[i]).toNat ∧ (s.data.toList[i]).toNat ≤ 57 ∧ acc ≤ 461168601842738790
    · rw [step_digit s x5 i k acc _ _ hs (List.drop_eq_getElem_cons hi) hc.1 hc.2.1 hc.2.2]
      exact ih (i + 1) k _ (by omega) (by omega) (by omega)
    · simp only [supercargoref05_Number.l0]
      rw [if_pos (by omega), if_pos (by omega), bt_at_nat s i hi]
      by_cases c1 : (s.data.toList[i]).toNat < 48
      · rw [if_pos (by omega)]
      · rw [if_neg (by omega)]
        by_cases c2 : 57 < (s.data.toList[i]).toNat
        · rw [if_pos (by omega)]
        · rw [if_neg (by omega), if_pos (by omega)]
theorem dec_len : ∀ (d u : Nat), u < 10 ^ (d + 1) → (decDigits u).length ≤ d + 1 := by
  intro d
  induction d with
  | zero => intro u h; rw [dec_small (by simpa using h)]; simp
  | succ d ih =>
    intro u h
    by_cases hlt : u < 10
    · rw [dec_small hlt]; simp
    · rw [dec_big hlt, List.length_append, List.length_singleton]
      have := ih (u / 10) (by rw [Nat.pow_succ] at h; omega)
      omega
theorem Number_f (s : ByteArray) (hs : s.size ≤ 1000) (k : Nat) (hk : 1100 ≤ k) : supercargoref05_Number.f k s = some (numP s.data.toList) := by
  obtain ⟨k, rfl⟩ : ∃ m, k = (m + 1) + 1 := ⟨k - 2, by omega⟩
  have tl : (s.toList = ([] : List UInt8)) = (s.data.toList = []) := by rw [Lib.toList_data]
  by_cases hex : ∃ n : Int, -4611686018427387904 ≤ n ∧ n ≤ 4611686018427387904 ∧ itoa n = s.data.toList
  · obtain ⟨n, h0, h1, he⟩ := hex
    rw [← he, numP_itoa n (by omega) (by omega), if_neg (by omega)]
    have hl := dec_len 18 n.natAbs (by omega)
    have hab := dec_len 18 n.toNat (by omega)
    unfold supercargoref05_Number.f
    by_cases hn : n < 0
    · have hi : itoa n = 45 :: decDigits n.natAbs := by unfold itoa; rw [if_pos hn]
      have hsz : s.size = (decDigits n.natAbs).length + 1 := by rw [← sizeN, ← he, hi]; rfl
      have hb0 : bt s ((0 : Nat) : Int) = 45 := by
        have hlt : 0 < s.data.toList.length := by rw [sizeN]; omega
        rw [bt_at_nat s 0 hlt]
        have : s.data.toList[0] = 45 := by
          have hd : s.data.toList.drop 0 = 45 :: decDigits n.natAbs := by rw [List.drop_zero, ← he, hi]
          exact (at_drop hd).2.1
        rw [this]; rfl
      rw [if_neg (by rw [tl, ← he, hi]; simp), decide_eq_false (by omega)]
      simp only [supercargoref05_Number.j0]
      rw [if_neg (by simp), if_pos (by omega), show (0 : Int) = ((0 : Nat) : Int) from rfl, hb0, if_pos rfl]
      simp only [supercargoref05_Number.j1]
      have hd : s.data.toList.drop 1 = decDigits n.natAbs ++ [] := by rw [← he, hi]; simp
      obtain ⟨a, _⟩ := num_run s 1 hs n.natAbs 1 (k - (decDigits n.natAbs).length) [] (by omega) hd
      rw [show k - (decDigits n.natAbs).length + (decDigits n.natAbs).length = k by omega] at a
      rw [show (1 : Int) = ((1 : Nat) : Int) from rfl] at a ⊢
      rw [a, num_end s _ _ _ _ (by omega) (by omega) (by omega), if_pos (by omega), if_pos (by omega), if_pos (by rw [← he]; congr 1; omega)]
      congr 2; omega
    · have hi : itoa n = decDigits n.toNat := by unfold itoa; rw [if_neg hn]
      have hsz : s.size = (decDigits n.toNat).length := by rw [← sizeN, ← he, hi]
      obtain ⟨c, r, ec, c1, c2⟩ := dec_head n.toNat
      have hpos : 0 < s.size := by rw [hsz, ec]; simp
      have hb0 : ¬ bt s ((0 : Nat) : Int) = 45 := by
        have hlt : 0 < s.data.toList.length := by rw [sizeN]; omega
        rw [bt_at_nat s 0 hlt]
        have : s.data.toList[0] = c := by
          have hd : s.data.toList.drop 0 = c :: r := by rw [List.drop_zero, ← he, hi, ec]
          exact (at_drop hd).2.1
        rw [this]; omega
      rw [if_neg (by rw [tl, ← he, hi]; exact dec_ne _), decide_eq_false (by omega)]
      simp only [supercargoref05_Number.j0]
      rw [if_neg (by simp), if_pos (by omega), show (0 : Int) = ((0 : Nat) : Int) from rfl, if_neg hb0]
      simp only [supercargoref05_Number.j1]
      have hd : s.data.toList.drop 0 = decDigits n.toNat ++ [] := by rw [← he, hi]; simp
      obtain ⟨a, _⟩ := num_run s ((0 : Nat) : Int) hs n.toNat 0 (k - (decDigits n.toNat).length) [] (by omega) hd
      rw [show k - (decDigits n.toNat).length + (decDigits n.toNat).length = k by omega] at a
      rw [a, num_end s _ _ _ _ (by omega) (by omega) (by omega), if_neg (by omega), if_pos (by omega), if_pos (by rw [← he]; congr 1; omega)]
      congr 2; omega
  · have hbad : ∀ n : Int, -4611686018427387904 ≤ n → n ≤ 4611686018427387904 → itoa n ≠ s.data.toList := fun n h0 h1 he => hex ⟨n, h0, h1, he⟩
    rw [numP_none _ hbad]
    unfold supercargoref05_Number.f
    have j0t : supercargoref05_Number.j0 ((k + 1) + 1) s true = some (0, false) := by simp only [supercargoref05_Number.j0]; rw [if_pos trivial]
    by_cases h0 : s.data.toList = []
    · rw [if_pos (by rw [tl]; exact h0), j0t]
    · rw [if_neg (by rw [tl]; exact h0)]
      have hpos : 0 < s.size := by rw [← sizeN]; exact List.length_pos_iff.2 h0
      by_cases h20 : (s.size : Int) > 20
      · rw [decide_eq_true h20, j0t]
      · rw [decide_eq_false h20]
        simp only [supercargoref05_Number.j0]
        rw [if_neg (by simp), if_pos (by omega)]
        split
        · simp only [supercargoref05_Number.j1]
          exact num_bad s 1 hs hbad (s.size - 1) 1 k 0 (by omega) (by omega) (by omega)
        · simp only [supercargoref05_Number.j1]
          exact num_bad s 0 hs hbad s.size 0 k 0 (by omega) (by omega) (by omega)

theorem awakeN : supercargolaw05_awake.f = some true := by
  have h1 : field_Text.f ([(⟨(⟨#[97]⟩ : ByteArray), (⟨#[120]⟩ : ByteArray)⟩ : S31), (⟨(⟨#[98]⟩ : ByteArray), (⟨#[10]⟩ : ByteArray)⟩ : S31)] : List (S31)) = some (⟨#[97, 61, 120, 10, 98, 61, 92, 110, 10]⟩, 0) := by rfl
  have h2 : field_Parse.f (⟨#[97]⟩ : ByteArray) = some ([], 1, 2) := by
    unfold field_Parse.f
    rw [if_pos (by decide)]
    rfl
  unfold supercargolaw05_awake.f
  rw [h1, h2]
  simp [Lib.toList_data]
theorem pure_FieldNumbers : supercargolaw05_FieldNumbers.Pure := by
  intro s n hs hn
  have hb : -9223372036854775808 ≤ n ∧ n ≤ 9223372036854775807 := by simpa [Lit.wf, IntKind.min, IntKind.max, IntKind.signed, IntKind.bits] using hn
  refine ⟨1200 + 1, ?_⟩
  unfold supercargolaw05_FieldNumbers.f
  by_cases h100 : (s.size : Int) > 100
  · rw [if_pos h100, awakeN]; rfl
  · have hnum : ∀ t : ByteArray, t.size ≤ 1000 → field_Number.f t = some (numP t.data.toList) := by
      intro t ht
      unfold field_Number.f
      rw [if_pos (by omega)]
    rw [if_neg h100, hnum s (by omega), Option.bind_some, Number_f s (by omega) _ (by omega), Option.bind_some, if_pos rfl, show ((numP s.data.toList).2 != (numP s.data.toList).2) = false by simp]
    simp only [supercargolaw05_FieldNumbers.j0]
    have hl := Lib.itoa_length_le n hb.1 hb.2
    rw [if_neg (by simp), Digits_at n hb.1 hb.2 _ (by omega), Option.bind_some, hnum _ (by rw [size_mkN]; omega), Option.bind_some]
    dsimp only
    rw [numP_itoa n hb.1 hb.2, awakeN]
    by_cases c1 : n ≥ -4611686018427387904
    · rw [if_pos c1]
      by_cases c2 : n ≤ 4611686018427387904
      · have e : (if n < -4611686018427387904 ∨ 4611686018427387904 < n then ((0, false) : Int × Bool) else (n, true)) = (n, true) := if_neg (by omega)
        rw [e, decide_eq_true c2, if_pos c2, if_pos (by rfl), if_pos rfl]; rfl
      · have e : (if n < -4611686018427387904 ∨ 4611686018427387904 < n then ((0, false) : Int × Bool) else (n, true)) = (0, false) := if_pos (by omega)
        rw [e, decide_eq_false c2, if_neg c2, if_pos (by rfl)]; rfl
    · have e : (if n < -4611686018427387904 ∨ 4611686018427387904 < n then ((0, false) : Int × Bool) else (n, true)) = (0, false) := if_pos (by omega)
      rw [if_neg c1, e, if_pos (by rfl)]; rfl
end Go.Proofs.YtpkcbbjflcfdeaaGreatDoor.P
