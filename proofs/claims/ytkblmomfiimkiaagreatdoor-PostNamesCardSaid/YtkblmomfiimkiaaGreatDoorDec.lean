/- Decimal digits, plainly: an integer's numeral is read as it; a numeral of so many digits at least, parted in what stands ahead of the last ones and those; a currency's and an amount's text, and its reading. Conditions: none; no program stands here. -/
import Derived.Test.YtkblmomfiimkiaaGreatDoorPlain
import Derived.Lib.ItoaNum
import Derived.Lib.ParseIntBCases
import Derived.Lib.ItoaLen
namespace Go.Proofs.YtkblmomfiimkiaaGreatDoor.Fp
open Go.Lib (itoa decDigits parseIntB parseUintB parseUintM)

theorem dec_small {u : Nat} (h : u < 10) : decDigits u = [UInt8.ofNat (48 + u)] := by rw [decDigits, dif_pos h]
theorem dec_big {u : Nat} (h : ¬ u < 10) : decDigits u = decDigits (u / 10) ++ [UInt8.ofNat (48 + u % 10)] := by rw [decDigits, dif_neg h]
theorem dig_nat {d : Nat} (h : d < 10) : (UInt8.ofNat (48 + d)).toNat = 48 + d := by
  rw [UInt8.toNat_ofNat']; omega
theorem dec_ne (u : Nat) : decDigits u ≠ [] := by
  by_cases h : u < 10
  · rw [dec_small h]; simp
  · rw [dec_big h]; simp
theorem dec_all (u : Nat) : ∀ c ∈ decDigits u, 48 ≤ c.toNat ∧ c.toNat ≤ 57 := by
  induction u using Nat.strongRecOn with
  | _ u ih =>
    intro c hc
    by_cases h : u < 10
    · rw [dec_small h] at hc
      rw [List.mem_singleton.1 hc, dig_nat h]; omega
    · rw [dec_big h] at hc
      rcases List.mem_append.1 hc with hc | hc
      · exact ih (u / 10) (by omega) c hc
      · rw [List.mem_singleton.1 hc, dig_nat (Nat.mod_lt _ (by decide))]; omega
theorem dec_head (u : Nat) : ∃ c r, decDigits u = c :: r ∧ 48 ≤ c.toNat ∧ c.toNat ≤ 57 := by
  cases h : decDigits u with
  | nil => exact absurd h (dec_ne u)
  | cons c r => exact ⟨c, r, rfl, dec_all u c (by rw [h]; exact List.mem_cons_self ..)⟩
theorem parse_dec (M : Nat) (hM : M ≤ 18446744073709551615) : ∀ (u : Nat) (r : List UInt8), u ≤ M → parseUintM M 0 (decDigits u ++ r) = parseUintM M u r := by
  intro u
  induction u using Nat.strongRecOn with
  | _ u ih =>
    intro r hu
    by_cases h : u < 10
    · rw [dec_small h, List.singleton_append, parseUintM, dig_nat h, if_pos (by omega), if_neg (by omega), if_neg (by omega)]
      congr 1; omega
    · have hd : u % 10 < 10 := Nat.mod_lt _ (by decide)
      rw [dec_big h, List.append_assoc, ih (u / 10) (by omega) _ (by omega), List.singleton_append, parseUintM, dig_nat hd, if_pos (by omega), if_neg (by omega), if_neg (by omega)]
      congr 1; omega
theorem parse_zeros (M : Nat) (k : Nat) (r : List UInt8) : parseUintM M 0 (List.replicate k 48 ++ r) = parseUintM M 0 r := by
  induction k with
  | zero => rfl
  | succ k ih =>
    rw [List.replicate_succ, List.cons_append, parseUintM, if_pos (by decide), if_neg (by omega), if_neg (by have : (48 : UInt8).toNat = 48 := rfl; omega)]
    exact ih

/-- at least k + 1 digits, naughts ahead -/
def padded (k : Nat) (l : List UInt8) : List UInt8 := List.replicate (k + 1 - l.length) 48 ++ l
/-- the last d digits of a number -/
def digs : Nat → Nat → List UInt8
  | 0, _ => []
  | d + 1, n => digs d (n / 10) ++ [UInt8.ofNat (48 + n % 10)]
theorem digs_length : ∀ d n, (digs d n).length = d
  | 0, _ => rfl
  | d + 1, n => by rw [digs, List.length_append, digs_length d]; rfl
theorem digs_zero : ∀ d, digs d 0 = List.replicate d 48
  | 0 => rfl
  | d + 1 => by rw [digs, Nat.zero_div, digs_zero d, List.replicate_succ']; rfl
theorem digs_all : ∀ d n, ∀ c ∈ digs d n, 48 ≤ c.toNat ∧ c.toNat ≤ 57
  | 0, _, c, h => by cases h
  | d + 1, n, c, h => by
    rw [digs] at h
    rcases List.mem_append.1 h with h | h
    · exact digs_all d _ c h
    · rw [List.mem_singleton.1 h, dig_nat (Nat.mod_lt _ (by decide))]; omega
theorem padded_snoc (k : Nat) (l : List UInt8) (c : UInt8) : padded (k + 1) (l ++ [c]) = padded k l ++ [c] := by
  unfold padded
  rw [List.length_append, List.length_singleton, show k + 1 + 1 - (l.length + 1) = k + 1 - l.length by omega, List.append_assoc]
theorem padded_dec : ∀ d n, padded d (decDigits n) = decDigits (n / 10 ^ d) ++ digs d n
  | 0, n => by
    have : 0 < (decDigits n).length := List.length_pos_iff.2 (dec_ne n)
    rw [padded, show 0 + 1 - (decDigits n).length = 0 by omega, digs, List.append_nil, Nat.pow_zero, Nat.div_one]; rfl
  | d + 1, n => by
    by_cases h : n < 10
    · have h0 : n / 10 ^ (d + 1) = 0 := Nat.div_eq_of_lt (Nat.lt_of_lt_of_le h (by rw [Nat.pow_succ]; exact Nat.le_mul_of_pos_left _ (Nat.pow_pos (by decide))))
      have e0 : n / 10 = 0 := by omega
      rw [h0, dec_small h, dec_small (show 0 < 10 by decide), digs, e0, digs_zero, Nat.mod_eq_of_lt h]
      show List.replicate (d + 1) 48 ++ _ = _
      rw [List.replicate_succ]
      rfl
    · rw [dec_big h, padded_snoc, padded_dec d (n / 10), digs, Nat.div_div_eq_div_mul, Nat.pow_succ, Nat.mul_comm 10, List.append_assoc]
theorem padded_all (d n : Nat) : ∀ c ∈ padded d (decDigits n), 48 ≤ c.toNat ∧ c.toNat ≤ 57 := by
  intro c hc
  unfold padded at hc
  rcases List.mem_append.1 hc with h | h
  · rw [(List.mem_replicate.1 h).2]; decide
  · exact dec_all n c h
theorem padded_ne (d n : Nat) : padded d (decDigits n) ≠ [] := by
  unfold padded
  intro h
  exact dec_ne n (List.append_eq_nil_iff.1 h).2
/-- a numeral with naughts ahead is read as the number -/
theorem parse_padded (d : Nat) (n : Int) (h0 : -9223372036854775808 ≤ n) (h1 : n ≤ 9223372036854775807) : parseIntB 64 ((if n < 0 then [45] else []) ++ padded d (decDigits n.natAbs)) = .ok n := by
  have key : ∀ u : Nat, u ≤ 9223372036854775808 → parseUintB 64 (padded d (decDigits u)) = .ok u := by
    intro u hu
    unfold parseUintB
    rw [if_neg (padded_ne d u)]
    unfold padded
    rw [parse_zeros]
    have := parse_dec (2 ^ 64 - 1) (by decide) u [] (by omega)
    rw [List.append_nil] at this
    rw [this, parseUintM]
  by_cases hn : n < 0
  · rw [if_pos hn, List.singleton_append, Lib.parseIntB_minus, key _ (by omega)]
    show (if (2 : Nat) ^ 63 < n.natAbs then _ else _) = _
    rw [if_neg (by omega)]
    congr 1; omega
  · rw [if_neg hn, List.nil_append]
    have hk := key n.natAbs (by omega)
    cases e : padded d (decDigits n.natAbs) with
    | nil => exact absurd e (padded_ne _ _)
    | cons c r =>
      have hc := padded_all d n.natAbs c (by rw [e]; exact List.mem_cons_self ..)
      rw [e] at hk
      rw [Lib.parseIntB_plain 64 c r (by omega) (by omega), hk]
      show (if (2 : Nat) ^ 63 ≤ n.natAbs then _ else _) = _
      rw [if_neg (by omega)]
      congr 1; omega
theorem itoa_padded (n : Int) : itoa n = (if n < 0 then [45] else []) ++ padded 0 (decDigits n.natAbs) := by
  have : 0 < (decDigits n.natAbs).length := List.length_pos_iff.2 (dec_ne n.natAbs)
  unfold itoa padded
  rw [show 0 + 1 - (decDigits n.natAbs).length = 0 by omega]
  by_cases hn : n < 0
  · rw [if_pos hn, if_pos hn]; rfl
  · rw [if_neg hn, if_neg hn, show n.toNat = n.natAbs by omega]; rfl
theorem parse_itoa (n : Int) (h0 : -9223372036854775808 ≤ n) (h1 : n ≤ 9223372036854775807) : parseIntB 64 (itoa n) = .ok n := by
  rw [itoa_padded]; exact parse_padded 0 n h0 h1

/-! money -/
/-- is a text a currency -/
def capB (c : UInt8) : Bool := decide (65 ≤ c.toNat) && decide (c.toNat ≤ 90)
def curB (l : List UInt8) : Bool := decide (l.length = 3) && l.all capB
def moneyMay (cur : List UInt8) (n : Int) : Bool := curB cur && (decide (-1099511627776 ≤ n) && decide (n ≤ 1099511627776))
/-- how many digits stand behind the point -/
def scaleN (cur : List UInt8) : Nat :=
  if cur = [74, 80, 89] ∨ cur = [75, 82, 87] then 0 else if cur = [66, 72, 68] ∨ cur = [75, 87, 68] ∨ cur = [84, 78, 68] then 3 else 2
def signL (n : Int) : List UInt8 := if n < 0 then [45] else []
def amountL (d : Nat) (n : Nat) : List UInt8 := decDigits (n / 10 ^ d) ++ (if d = 0 then [] else 46 :: digs d n)
def moneyT (cur : List UInt8) (n : Int) : List UInt8 := if moneyMay cur n = true then cur ++ 32 :: (signL n ++ amountL (scaleN cur) n.natAbs) else []
/-- the money of a text: currency, amount, an error's number -/
def moneyP (s : List UInt8) : List UInt8 × Int × Int :=
  match cutAt 32 s with
  | none => ([], 0, 2)
  | some (a, b) =>
    match parseIntB 64 (b.erase 46) with
    | .ok n => if moneyT a n = s then (a, n, 0) else ([], 0, 2)
    | _ => ([], 0, 2)

theorem cut_append (x : UInt8) : ∀ (a b : List UInt8), (∀ c ∈ a, c ≠ x) → cutAt x (a ++ x :: b) = some (a, b)
  | [], b, _ => by rw [List.nil_append, cutAt, if_pos rfl]
  | c :: a, b, h => by
    rw [List.cons_append, cutAt, if_neg (h c (List.mem_cons_self ..)), cut_append x a b (fun d hd => h d (List.mem_cons_of_mem _ hd))]; rfl
theorem erase_amount (n : Int) (d m : Nat) : (signL n ++ amountL d m).erase 46 = signL n ++ padded d (decDigits m) := by
  have hs : (46 : UInt8) ∉ signL n := by unfold signL; split <;> simp
  have hd : ∀ u, (46 : UInt8) ∉ decDigits u := fun u h => by have := dec_all u _ h; have e : (46 : UInt8).toNat = 46 := rfl; omega
  rw [List.erase_append_right _ hs]
  unfold amountL
  by_cases h : d = 0
  · subst h
    rw [if_pos rfl, List.append_nil, List.erase_of_not_mem (hd _), padded_dec, digs, List.append_nil]
  · rw [if_neg h, List.erase_append_right _ (hd _), List.erase_cons_head, padded_dec]
theorem money_cur {cur : List UInt8} {n : Int} (h : moneyMay cur n = true) : cur.length = 3 ∧ (∀ c ∈ cur, 65 ≤ c.toNat ∧ c.toNat ≤ 90) ∧ -1099511627776 ≤ n ∧ n ≤ 1099511627776 := by
  unfold moneyMay curB at h
  simp only [Bool.and_eq_true, decide_eq_true_eq, List.all_eq_true] at h
  refine ⟨h.1.1, fun c hc => ?_, h.2.1, h.2.2⟩
  have := h.1.2 c hc
  unfold capB at this
  simpa using this
theorem moneyP_T {cur : List UInt8} {n : Int} (h : moneyMay cur n = true) : moneyP (moneyT cur n) = (cur, n, 0) := by
  obtain ⟨hl, hc, h0, h1⟩ := money_cur h
  have hT : moneyT cur n = cur ++ 32 :: (signL n ++ amountL (scaleN cur) n.natAbs) := if_pos h
  unfold moneyP
  rw [hT, cut_append 32 _ _ (fun c hm e => by have := hc c hm; rw [e] at this; have e : (32 : UInt8).toNat = 32 := rfl; omega)]
  have hp : parseIntB 64 ((signL n ++ amountL (scaleN cur) n.natAbs).erase 46) = .ok n := by
    rw [erase_amount]; exact parse_padded _ n (by omega) (by omega)
  simp only [hp]
  rw [if_pos hT]
theorem moneyT_small (cur : List UInt8) (n : Int) : (moneyT cur n).length ≤ 24 := by
  unfold moneyT
  by_cases h : moneyMay cur n = true
  · obtain ⟨hl, _, h0, h1⟩ := money_cur h
    rw [if_pos h, List.length_append, List.length_cons, List.length_append, hl]
    have h2 : (signL n).length ≤ 1 := by unfold signL; split <;> simp
    have h3 : (decDigits (n.natAbs / 10 ^ scaleN cur)).length ≤ 13 := by
      have : ∀ (d u : Nat), u < 10 ^ (d + 1) → (decDigits u).length ≤ d + 1 := by
        intro d
        induction d with
        | zero => intro u h; rw [dec_small (by simpa using h)]; simp
        | succ d ih =>
          intro u h
          by_cases hlt : u < 10
          · rw [dec_small hlt]; simp
          · rw [dec_big hlt, List.length_append, List.length_singleton]
            have := ih (u / 10) (by rw [Nat.pow_succ] at h; omega)
            omega
      refine this 12 _ (Nat.lt_of_le_of_lt (Nat.div_le_self _ _) ?_)
      have : (10 : Nat) ^ (12 + 1) = 10000000000000 := by decide
      omega
    have h4 : (amountL (scaleN cur) n.natAbs).length ≤ 17 := by
      unfold amountL
      have : scaleN cur ≤ 3 := by unfold scaleN; split <;> (try split) <;> omega
      rw [List.length_append]
      split
      · simp; omega
      · rw [List.length_cons, digs_length]; omega
    omega
  · rw [if_neg h]; simp
end Go.Proofs.YtkblmomfiimkiaaGreatDoor.Fp
