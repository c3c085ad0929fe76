/- What the claim's theorem leans on. Conditions: none of its own. (Written by prune.py out of the texts Plain Name Dec NameB Px13 Build Once, without what the claim doesn't lean on.) -/
import Derived.WalkSpells
import Derived.Laws.RangeString
import Derived.Outline
import Derived.Lib.Hide
import Derived.Lib.ItoaNum
import Derived.Lib.ParseIntBCases
import Derived.Lib.ItoaLen
import Derived.Test.YtkblmomfiimkiaaGreatDoorProg
import Derived.WalkKit
import Derived.WalkLawsBesides
import Derived.Below
import Derived.OwnWalk
import Derived.Deep.WholeRow
import Derived.KernelRfl
import Derived.Laws.IdiomStrings
import Derived.ArgAppend
import Derived.Laws.NewBlocks
import Derived.Lib.SmallJoins
import Derived.Tactics2
import Derived.Defers
import Derived.Laws.Pointers
import Derived.Laws.LoneSync
import Derived.RegionTactic
import Derived.RegionCalls
import Derived.ChangeAlike
import Derived.Test.YtkblmomfiimkiaaGreatDoorM2
import Derived.Test.YtkblmomfiimkiaaGreatDoorM4
section
namespace Go.Proofs.YtkblmomfiimkiaaGreatDoor.Fp
def okB (c : UInt8) : Bool := (decide (97 ≤ c.toNat) && decide (c.toNat ≤ 122)) || (decide (48 ≤ c.toNat) && decide (c.toNat ≤ 57)) || decide (c.toNat = 45)
def nameB (l : List UInt8) : Bool := !l.isEmpty && decide (l.length ≤ 16) && l.all okB
def escC (c : UInt8) : List UInt8 := if c = 92 then [92, 92] else if c = 10 then [92, 110] else [c]
def esc (l : List UInt8) : List UInt8 := l.flatMap escC
def lineB (n v : List UInt8) : List UInt8 := n ++ 61 :: (esc v ++ [10])
def mayB (n v : List UInt8) : Bool := nameB n && decide (v.length ≤ 4096)
def unesc : List UInt8 → Option (List UInt8)
 | [] => some []
 | c :: r =>
  if c = 92 then
   match r with
   | [] => none
   | d :: q => if d = 110 then (unesc q).map (10 :: ·) else if d = 92 then (unesc q).map (92 :: ·) else none
  else (unesc r).map (c :: ·)
def cutAt (c : UInt8) : List UInt8 → Option (List UInt8 × List UInt8)
 | [] => none
 | d :: r => if d = c then some ([], r) else (cutAt c r).map fun p => (d :: p.1, p.2)
def lineP (row : List UInt8) : Option (List UInt8 × List UInt8) :=
 (cutAt 61 row).bind fun p => if nameB p.1 = true then (unesc p.2).bind fun v => if v.length ≤ 4096 then some (p.1, v) else none else none
def parseL : Nat → List UInt8 → List (List UInt8 × List UInt8) → List (List UInt8 × List UInt8) × Int × Int
 | n, s, acc =>
  if s = [] then (acc, 0, 0)
  else match n with
   | 0 => ([], 65, 7)
   | m + 1 =>
    match cutAt 10 s with
    | none => ([], 64 - (m : Int), 2)
    | some (row, rest) =>
     match lineP row with
     | none => ([], 64 - (m : Int), 2)
     | some x => parseL m rest (acc ++ [x])
end Go.Proofs.YtkblmomfiimkiaaGreatDoor.Fp
end

section
namespace Go.Proofs.YtkblmomfiimkiaaGreatDoor.P
open Go.RowKit Go.Proofs.YtkblmomfiimkiaaGreatDoorW.PrintWords Go.Proofs.YtkblmomfiimkiaaGreatDoorW.PrintLast Go.Proofs.YtkblmomfiimkiaaGreatDoorW.PrintMore
open Go.Proofs.YtkblmomfiimkiaaGreatDoor.Fp
def field_name.f (a0 : ByteArray) : Option Bool := some (nameB a0.data.toList)
def oddR (r : Nat) : Bool := (decide (r < 97) || decide (122 < r)) && (decide (r < 48) || decide (57 < r)) && !decide (r = 45)
theorem decode_high (s : ByteArray) (pos : Nat) (_h : pos < s.size) (ha : 128 ≤ (s.get! pos).toNat) : 128 ≤ (Utf8.decode s pos).1 := by
 unfold Utf8.decode
 have hr : 128 ≤ Utf8.runeError := by decide
 simp only [Nat.add_zero]
 rw [if_neg (by omega)]
 repeat' split
 all_goals first | exact hr | (simp only [Bool.and_eq_true, decide_eq_true_eq, ge_iff_le] at *; omega) | (dsimp only at *; omega)
theorem oddR_high (r : Nat) (h : 128 ≤ r) : oddR r = true := by
 unfold oddR
 have h1 : decide (122 < r) = true := decide_eq_true (by omega)
 have h2 : decide (57 < r) = true := decide_eq_true (by omega)
 have h3 : decide (r = 45) = false := decide_eq_false (by omega)
 rw [h1, h2, h3]; simp
theorem oddR_low (c : UInt8) : oddR c.toNat = !okB c := by
 unfold oddR okB
 rw [Bool.eq_iff_iff]
 simp
theorem all_drop (s : ByteArray) (pos : Nat) (h : pos < s.size) : (s.data.toList.drop pos).all okB = (okB (s[pos]'h) && (s.data.toList.drop (pos + 1)).all okB) := by
 rw [List.drop_eq_getElem_cons (by simpa using h), List.all_cons]
 rfl
theorem idx_names (s : ByteArray) : ∀ (f pos : Nat), pos ≤ s.size → s.size - pos ≤ f → decide (0 ≤ Lib.idxFuncFrom oddR true s f pos) = !((s.data.toList.drop pos).all okB)
 | 0, pos, hp, hf => by
  have : (s.data.toList.drop pos) = [] := List.drop_eq_nil_of_le (by simp; omega)
  rw [this]; simp [Lib.idxFuncFrom]
 | f + 1, pos, hp, hf => by
  unfold Lib.idxFuncFrom
  split
  ·
   rename_i hlt
   rw [all_drop s pos hlt]
   have hg : s.get! pos = s[pos]'hlt := by
    have hlt' : pos < s.data.size := hlt
    simp [ByteArray.get!, getElem!_def, Array.getElem?_eq_getElem hlt']
    rfl
   by_cases ha : (s[pos]'hlt).toNat < 128
   ·
    rw [decode_ascii s pos hlt ha, oddR_low]
    by_cases hk : okB (s[pos]'hlt) = true
    ·
     rw [hk]
     simp only [Bool.not_true, Bool.false_eq_true, if_false, Bool.true_and]
     exact idx_names s f (pos + 1) (by omega) (by omega)
    ·
     have hk' : okB (s[pos]'hlt) = false := by simpa using hk
     rw [hk']
     simp
   ·
    have h1 := decode_high s pos hlt (by rw [hg]; omega)
    have hk : okB (s[pos]'hlt) = false := by
     have := oddR_low (s[pos]'hlt)
     rw [oddR_high _ (by omega)] at this
     simpa using this.symm
    rw [oddR_high _ h1, hk]
    simp
  ·
   have : (s.data.toList.drop pos) = [] := List.drop_eq_nil_of_le (by simp; omega)
   rw [this]; simp
theorem contains_odd (s : ByteArray) : decide (0 ≤ Lib.idxFunc oddR true s) = !(s.data.toList.all okB) := by
 exact idx_names s s.size 0 (by omega) (by omega)
theorem odd_pays (w : World) : PredAt Tryz.prog 113 #[] encR oddR w := fun W r _ => by
  unfold FnGives
  have z1 : (r : Int) < 97 ↔ r < 97 := by omega
  have z2 : (122 : Int) < (r : Int) ↔ 122 < r := by omega
  have z3 : (r : Int) < 48 ↔ r < 48 := by omega
  have z4 : (57 : Int) < (r : Int) ↔ 57 < r := by omega
  have z5 : (r : Int) = 45 ↔ r = 45 := by omega
  by_cases h1 : r < 97 <;> by_cases h2 : 122 < r <;> by_cases h3 : r < 48 <;> by_cases h4 : 57 < r <;> by_cases h5 : r = 45
  all_goals first
    | (exfalso; omega)
    | (go_enter Tryz.func113, Tryz.ntmps113
       go_wp2
       all_goals first | (exfalso; omega) | (go_ret; exact ⟨by simp [oddR, h1, h2, h3, h4, h5, z5], 0, rfl⟩))
set_option maxHeartbeats 1000000 in
theorem field_name.calls (a0 : ByteArray) (r : Bool) (w : World) (h : field_name.f a0 = some r) :
  Calls Tryz.prog 95 #[.string a0] w fun e w' => e = .returned (.bool r) ∧ Below w.heap.size w w' := by
 unfold field_name.f at h
 obtain rfl := Option.some.inj h
 clear h
 have hC := fun W => Sh.strings_ContainsFunc 113 #[] (enters_of Tryz.func113 (by kernel_rfl) rfl) oddR a0 W (odd_pays W)
 have hn : nameB a0.data.toList = (!a0.data.toList.isEmpty && decide (a0.size ≤ 16) && a0.data.toList.all okB) := by unfold nameB; rw [Array.length_toList]; rfl
 have HN := Lib.hid hn
 clear hn
 have ht : a0.toList = a0.data.toList := Lib.toList_data a0
 by_cases h0 : a0.toList = []
 ·
  have H0 := Lib.hid (ht.symm.trans h0)
  clear ht
  go_enter Tryz.func95, Tryz.ntmps95
  go_wp2_with fail
  all_goals first
   | (exfalso; contradiction)
   | (go_ret; exact ⟨by rw [HN.out, H0.out]; rfl, Below.refl _ _⟩)
 ·
  have H0 : Hid (a0.data.toList.isEmpty = false) := Lib.hid (by rw [← ht]; simpa using h0)
  clear ht
  by_cases h1 : a0.size ≤ 16
  ·
   have H1 := Lib.hid (decide_eq_true h1)
   go_enter Tryz.func95, Tryz.ntmps95
   go_wp2_with (go_at_call 65; refine (hC _).mono ?_; rintro e w' ⟨rfl, hb⟩)
   all_goals first
    | (exfalso; contradiction)
    | (exfalso; omega)
    | (go_ret; exact ⟨by rw [HN.out, H0.out, H1.out, contains_odd]; simp [h0], hb⟩)
  ·
   have H1 := Lib.hid (decide_eq_false h1)
   go_enter Tryz.func95, Tryz.ntmps95
   go_wp2_with fail
   all_goals first
    | (exfalso; contradiction)
    | (exfalso; omega)
    | (go_ret; exact ⟨by rw [HN.out, H0.out, H1.out]; simp, Below.refl _ _⟩)
end Go.Proofs.YtkblmomfiimkiaaGreatDoor.P
end

section
namespace Go.Proofs.YtkblmomfiimkiaaGreatDoor.Fp
open Go.Lib (itoa decDigits parseIntB parseUintB parseUintM)
theorem dec_small {u : Nat} (h : u < 10) : decDigits u = [UInt8.ofNat (48 + u)] := by rw [decDigits, dif_pos h]
theorem dec_big {u : Nat} (h : ¬ u < 10) : decDigits u = decDigits (u / 10) ++ [UInt8.ofNat (48 + u % 10)] := by rw [decDigits, dif_neg h]
theorem dec_ne (u : Nat) : decDigits u ≠ [] := by
 by_cases h : u < 10
 ·
  rw [dec_small h]; simp
 ·
  rw [dec_big h]; simp
def padded (k : Nat) (l : List UInt8) : List UInt8 := List.replicate (k + 1 - l.length) 48 ++ l
def digs : Nat → Nat → List UInt8
 | 0, _ => []
 | d + 1, n => digs d (n / 10) ++ [UInt8.ofNat (48 + n % 10)]
theorem digs_length : ∀ d n, (digs d n).length = d
 | 0, _ => rfl
 | d + 1, n => by rw [digs, List.length_append, digs_length d]; rfl
theorem digs_zero : ∀ d, digs d 0 = List.replicate d 48
 | 0 => rfl
 | d + 1 => by rw [digs, Nat.zero_div, digs_zero d, List.replicate_succ']; rfl
theorem padded_snoc (k : Nat) (l : List UInt8) (c : UInt8) : padded (k + 1) (l ++ [c]) = padded k l ++ [c] := by
 unfold padded
 rw [List.length_append, List.length_singleton, show k + 1 + 1 - (l.length + 1) = k + 1 - l.length by omega, List.append_assoc]
theorem padded_dec : ∀ d n, padded d (decDigits n) = decDigits (n / 10 ^ d) ++ digs d n
 | 0, n => by
  have : 0 < (decDigits n).length := List.length_pos_iff.2 (dec_ne n)
  rw [padded, show 0 + 1 - (decDigits n).length = 0 by omega, digs, List.append_nil, Nat.pow_zero, Nat.div_one]; rfl
 | d + 1, n => by
  by_cases h : n < 10
  ·
   have h0 : n / 10 ^ (d + 1) = 0 := Nat.div_eq_of_lt (Nat.lt_of_lt_of_le h (by rw [Nat.pow_succ]; exact Nat.le_mul_of_pos_left _ (Nat.pow_pos (by decide))))
   have e0 : n / 10 = 0 := by omega
   rw [h0, dec_small h, dec_small (show 0 < 10 by decide), digs, e0, digs_zero, Nat.mod_eq_of_lt h]
   show List.replicate (d + 1) 48 ++ _ = _
   rw [List.replicate_succ]
   rfl
  ·
   rw [dec_big h, padded_snoc, padded_dec d (n / 10), digs, Nat.div_div_eq_div_mul, Nat.pow_succ, Nat.mul_comm 10, List.append_assoc]
def capB (c : UInt8) : Bool := decide (65 ≤ c.toNat) && decide (c.toNat ≤ 90)
def curB (l : List UInt8) : Bool := decide (l.length = 3) && l.all capB
def moneyMay (cur : List UInt8) (n : Int) : Bool := curB cur && (decide (-1099511627776 ≤ n) && decide (n ≤ 1099511627776))
def scaleN (cur : List UInt8) : Nat :=
 if cur = [74, 80, 89] ∨ cur = [75, 82, 87] then 0 else if cur = [66, 72, 68] ∨ cur = [75, 87, 68] ∨ cur = [84, 78, 68] then 3 else 2
def signL (n : Int) : List UInt8 := if n < 0 then [45] else []
def amountL (d : Nat) (n : Nat) : List UInt8 := decDigits (n / 10 ^ d) ++ (if d = 0 then [] else 46 :: digs d n)
def moneyT (cur : List UInt8) (n : Int) : List UInt8 := if moneyMay cur n = true then cur ++ 32 :: (signL n ++ amountL (scaleN cur) n.natAbs) else []
theorem money_cur {cur : List UInt8} {n : Int} (h : moneyMay cur n = true) : cur.length = 3 ∧ (∀ c ∈ cur, 65 ≤ c.toNat ∧ c.toNat ≤ 90) ∧ -1099511627776 ≤ n ∧ n ≤ 1099511627776 := by
 unfold moneyMay curB at h
 simp only [Bool.and_eq_true, decide_eq_true_eq, List.all_eq_true] at h
 refine ⟨h.1.1, fun c hc => ?_, h.2.1, h.2.2⟩
 have := h.1.2 c hc
 unfold capB at this
 simpa using this
end Go.Proofs.YtkblmomfiimkiaaGreatDoor.Fp
end

section
namespace Go.Proofs.YtkblmomfiimkiaaGreatDoor.P
open Go.RowKit Go.Proofs.YtkblmomfiimkiaaGreatDoorW.PrintWords Go.Proofs.YtkblmomfiimkiaaGreatDoorW.PrintLast Go.Proofs.YtkblmomfiimkiaaGreatDoorW.PrintMore
open Go.Proofs.YtkblmomfiimkiaaGreatDoor.Fp
def post_name.f (a0 : ByteArray) : Option Bool := some (nameB a0.data.toList)
theorem odd_paysB (w : World) : PredAt Tryz.prog 64 #[] encR oddR w := fun W r _ => by
  unfold FnGives
  have z1 : (r : Int) < 97 ↔ r < 97 := by omega
  have z2 : (122 : Int) < (r : Int) ↔ 122 < r := by omega
  have z3 : (r : Int) < 48 ↔ r < 48 := by omega
  have z4 : (57 : Int) < (r : Int) ↔ 57 < r := by omega
  have z5 : (r : Int) = 45 ↔ r = 45 := by omega
  by_cases h1 : r < 97 <;> by_cases h2 : 122 < r <;> by_cases h3 : r < 48 <;> by_cases h4 : 57 < r <;> by_cases h5 : r = 45
  all_goals first
    | (exfalso; omega)
    | (go_enter Tryz.func64, Tryz.ntmps64
       go_wp2
       all_goals first | (exfalso; omega) | (go_ret; exact ⟨by simp [oddR, h1, h2, h3, h4, h5, z5], 0, rfl⟩))
set_option maxHeartbeats 1000000 in
theorem post_name.calls (a0 : ByteArray) (r : Bool) (w : World) (h : post_name.f a0 = some r) :
  Calls Tryz.prog 37 #[.string a0] w fun e w' => e = .returned (.bool r) ∧ Below w.heap.size w w' := by
 unfold post_name.f at h
 obtain rfl := Option.some.inj h
 clear h
 have hC := fun W => Sh.strings_ContainsFunc 64 #[] (enters_of Tryz.func64 (by kernel_rfl) rfl) oddR a0 W (odd_paysB W)
 have hn : nameB a0.data.toList = (!a0.data.toList.isEmpty && decide (a0.size ≤ 16) && a0.data.toList.all okB) := by unfold nameB; rw [Array.length_toList]; rfl
 have HN := Lib.hid hn
 clear hn
 have ht : a0.toList = a0.data.toList := Lib.toList_data a0
 by_cases h0 : a0.toList = []
 ·
  have H0 := Lib.hid (ht.symm.trans h0)
  clear ht
  go_enter Tryz.func37, Tryz.ntmps37
  go_wp2_with fail
  all_goals first
   | (exfalso; contradiction)
   | (go_ret; exact ⟨by rw [HN.out, H0.out]; rfl, Below.refl _ _⟩)
 ·
  have H0 : Hid (a0.data.toList.isEmpty = false) := Lib.hid (by rw [← ht]; simpa using h0)
  clear ht
  by_cases h1 : a0.size ≤ 16
  ·
   have H1 := Lib.hid (decide_eq_true h1)
   go_enter Tryz.func37, Tryz.ntmps37
   go_wp2_with (go_at_call 65; refine (hC _).mono ?_; rintro e w' ⟨rfl, hb⟩)
   all_goals first
    | (exfalso; contradiction)
    | (exfalso; omega)
    | (go_ret; exact ⟨by rw [HN.out, H0.out, H1.out, contains_odd]; simp [h0], hb⟩)
  ·
   have H1 := Lib.hid (decide_eq_false h1)
   go_enter Tryz.func37, Tryz.ntmps37
   go_wp2_with fail
   all_goals first
    | (exfalso; contradiction)
    | (exfalso; omega)
    | (go_ret; exact ⟨by rw [HN.out, H0.out, H1.out]; simp, Below.refl _ _⟩)
def capR (r : Nat) : Bool := decide (r < 65) || decide (90 < r)
theorem capR_high (r : Nat) (h : 128 ≤ r) : capR r = true := by unfold capR; rw [decide_eq_true (show 90 < r by omega)]; simp
theorem capR_low (c : UInt8) : capR c.toNat = !capB c := by
 unfold capR capB
 rw [Bool.eq_iff_iff]
 simp
theorem cap_drop (s : ByteArray) (pos : Nat) (h : pos < s.size) : (s.data.toList.drop pos).all capB = (capB (s[pos]'h) && (s.data.toList.drop (pos + 1)).all capB) := by
 rw [List.drop_eq_getElem_cons (by simpa using h), List.all_cons]
 rfl
theorem idx_caps (s : ByteArray) : ∀ (f pos : Nat), pos ≤ s.size → s.size - pos ≤ f → decide (0 ≤ Lib.idxFuncFrom capR true s f pos) = !((s.data.toList.drop pos).all capB)
 | 0, pos, hp, hf => by
  have : (s.data.toList.drop pos) = [] := List.drop_eq_nil_of_le (by simp; omega)
  rw [this]; simp [Lib.idxFuncFrom]
 | f + 1, pos, hp, hf => by
  unfold Lib.idxFuncFrom
  split
  ·
   rename_i hlt
   rw [cap_drop s pos hlt]
   have hg : s.get! pos = s[pos]'hlt := by
    have hlt' : pos < s.data.size := hlt
    simp [ByteArray.get!, getElem!_def, Array.getElem?_eq_getElem hlt']
    rfl
   by_cases ha : (s[pos]'hlt).toNat < 128
   ·
    rw [decode_ascii s pos hlt ha, capR_low]
    by_cases hk : capB (s[pos]'hlt) = true
    ·
     rw [hk]
     simp only [Bool.not_true, Bool.false_eq_true, if_false, Bool.true_and]
     exact idx_caps s f (pos + 1) (by omega) (by omega)
    ·
     have hk' : capB (s[pos]'hlt) = false := by simpa using hk
     rw [hk']
     simp
   ·
    have h1 := decode_high s pos hlt (by rw [hg]; omega)
    have hk : capB (s[pos]'hlt) = false := by
     have := capR_low (s[pos]'hlt)
     rw [capR_high _ (by omega)] at this
     simpa using this.symm
    rw [capR_high _ h1, hk]
    simp
  ·
   have : (s.data.toList.drop pos) = [] := List.drop_eq_nil_of_le (by simp; omega)
   rw [this]; simp
theorem contains_cap (s : ByteArray) : decide (0 ≤ Lib.idxFunc capR true s) = !(s.data.toList.all capB) := idx_caps s s.size 0 (by omega) (by omega)
theorem cap_pays (w : World) : PredAt Tryz.prog 101 #[] encR capR w := fun W r _ => by
  unfold FnGives
  have z1 : (r : Int) < 65 ↔ r < 65 := by omega
  have z2 : (90 : Int) < (r : Int) ↔ 90 < r := by omega
  by_cases h1 : r < 65 <;> by_cases h2 : 90 < r
  all_goals first
    | (exfalso; omega)
    | (go_enter Tryz.func101, Tryz.ntmps101
       go_wp2
       all_goals first | (exfalso; omega) | (go_ret; exact ⟨by simp [capR, h1, h2], 0, rfl⟩))
def money_currency.f (a0 : ByteArray) : Option Bool := some (curB a0.data.toList)
set_option maxHeartbeats 1000000 in
theorem money_currency.calls (a0 : ByteArray) (r : Bool) (w : World) (h : money_currency.f a0 = some r) :
  Calls Tryz.prog 66 #[.string a0] w fun e w' => e = .returned (.bool r) ∧ Below w.heap.size w w' := by
 unfold money_currency.f at h
 obtain rfl := Option.some.inj h
 clear h
 have hC := fun W => Sh.strings_ContainsFunc 101 #[] (enters_of Tryz.func101 (by kernel_rfl) rfl) capR a0 W (cap_pays W)
 have hn : curB a0.data.toList = (decide (a0.size = 3) && a0.data.toList.all capB) := by unfold curB; rw [Array.length_toList]; rfl
 have HN := Lib.hid hn
 clear hn
 by_cases h1 : a0.size = 3
 ·
  have H1 := Lib.hid h1
  have h1' : (a0.size : Int) = 3 := by omega
  have hb1 : (((a0.size : Nat) : Int) == 3) = true := by simp [h1]
  clear h1 
  go_enter Tryz.func66, Tryz.ntmps66
  go_wp2_with (go_at_call 65; refine (hC _).mono ?_; rintro e w' ⟨rfl, hb⟩)
  all_goals first
   | (exfalso; contradiction)
   | (exfalso; omega)
   | (go_ret; exact ⟨by rw [HN.out, contains_cap, H1.out]; simp, hb⟩)
 ·
  have h1' : ¬ (a0.size : Int) = 3 := by omega
  have hb1 : (((a0.size : Nat) : Int) == 3) = false := by simpa using h1'
  go_enter Tryz.func66, Tryz.ntmps66
  go_wp2_with fail
  all_goals first
   | (exfalso; contradiction)
   | (exfalso; omega)
   | (go_ret; exact ⟨by rw [HN.out]; simp [h1], Below.refl _ _⟩)
end Go.Proofs.YtkblmomfiimkiaaGreatDoor.P
end

section
namespace Go.Proofs.YtkblmomfiimkiaaGreatDoor.P
open Go.RowKit Go.Proofs.YtkblmomfiimkiaaGreatDoorW.PrintWords Go.Proofs.YtkblmomfiimkiaaGreatDoorW.PrintLast Go.Proofs.YtkblmomfiimkiaaGreatDoorW.PrintMore
attribute [local go_sem] max2_int min2_int max_two min_two max_three min_three max_four min_four   -- for this text's walks alone
set_option linter.unusedVariables false
set_option linter.unusedSimpArgs false
def field_kinds.f  : Option (List ByteArray) := some (([(⟨#[105, 110, 118, 111, 105, 99, 101]⟩ : ByteArray), (⟨#[112, 97, 99, 107, 105, 110, 103]⟩ : ByteArray), (⟨#[108, 97, 100, 105, 110, 103]⟩ : ByteArray), (⟨#[105, 110, 115, 117, 114, 97, 110, 99, 101]⟩ : ByteArray), (⟨#[111, 114, 105, 103, 105, 110]⟩ : ByteArray), (⟨#[100, 114, 97, 102, 116]⟩ : ByteArray)] : List ByteArray))
set_option maxHeartbeats 8000000 in
set_option maxRecDepth 100000 in
theorem field_kinds.calls  (r : List ByteArray) (w : World) (h : field_kinds.f  = some r) :
  Calls Tryz.prog 102 #[] w fun e w' => ∃ v0_ : Value, e = .returned (v0_) ∧ Kd.R Kd.string 9 w' w.heap.size (fun _ => True) v0_ r ∧ Below w.heap.size w w' := by
 have HB := Aside0.mk (Below.refl w.heap.size w)
 have H : (some (([(⟨#[105, 110, 118, 111, 105, 99, 101]⟩ : ByteArray), (⟨#[112, 97, 99, 107, 105, 110, 103]⟩ : ByteArray), (⟨#[108, 97, 100, 105, 110, 103]⟩ : ByteArray), (⟨#[105, 110, 115, 117, 114, 97, 110, 99, 101]⟩ : ByteArray), (⟨#[111, 114, 105, 103, 105, 110]⟩ : ByteArray), (⟨#[100, 114, 97, 102, 116]⟩ : ByteArray)] : List ByteArray))) = some r := h
 clear h
 obtain ⟨y123, hy123⟩ : ∃ y_ : List ByteArray, y_ = (([(⟨#[105, 110, 118, 111, 105, 99, 101]⟩ : ByteArray), (⟨#[112, 97, 99, 107, 105, 110, 103]⟩ : ByteArray), (⟨#[108, 97, 100, 105, 110, 103]⟩ : ByteArray), (⟨#[105, 110, 115, 117, 114, 97, 110, 99, 101]⟩ : ByteArray), (⟨#[111, 114, 105, 103, 105, 110]⟩ : ByteArray), (⟨#[100, 114, 97, 102, 116]⟩ : ByteArray)] : List ByteArray)) := ⟨_, rfl⟩
 replace H : (some y123) = some r := by first | (rw [hy123]; with_reducible exact H) | (have H2_ := (Option.bind_some _ _).symm.trans H; rw [hy123]; with_reducible exact H2_) | (have H2_ := (Option.bind_some _ _).symm.trans H; with_reducible exact H2_) | with_reducible exact H | (rw [hy123]; exact H) | exact H
 have Ny123 := Aside0.mk hy123
 clear hy123
 obtain rfl := Option.some.inj H
 go_enter Tryz.func102, Tryz.ntmps102
 go_wp2_with (first | ((with_reducible refine gate_dst (N := 1) rfl ?_); refine Kd.R_lit Kd.string _ 9 ?hg (N := 1) ?hd (xs := ([(⟨#[105, 110, 118, 111, 105, 99, 101]⟩ : ByteArray), (⟨#[112, 97, 99, 107, 105, 110, 103]⟩ : ByteArray), (⟨#[108, 97, 100, 105, 110, 103]⟩ : ByteArray), (⟨#[105, 110, 115, 117, 114, 97, 110, 99, 101]⟩ : ByteArray), (⟨#[111, 114, 105, 103, 105, 110]⟩ : ByteArray), (⟨#[100, 114, 97, 102, 116]⟩ : ByteArray)] : List ByteArray)) (inner := [.string (⟨#[105, 110, 118, 111, 105, 99, 101]⟩ : ByteArray), .string (⟨#[112, 97, 99, 107, 105, 110, 103]⟩ : ByteArray), .string (⟨#[108, 97, 100, 105, 110, 103]⟩ : ByteArray), .string (⟨#[105, 110, 115, 117, 114, 97, 110, 99, 101]⟩ : ByteArray), .string (⟨#[111, 114, 105, 103, 105, 110]⟩ : ByteArray), .string (⟨#[100, 114, 97, 102, 116]⟩ : ByteArray)]) (ok := fun _ => True) (okp := fun _ => True) ?hr ?hp (fun _ hk => hk) trivial (Below.refl _ _) (Nat.le_refl _) (by simp) ?_; (case hd => rfl); (case hg => rfl); (case hr => first | (go_simp; done) | (go_simp; rfl)); (case hp => exact (Reps.one (show Kd.M Kd.string _ _ _ (⟨#[105, 110, 118, 111, 105, 99, 101]⟩ : ByteArray) [.string (⟨#[105, 110, 118, 111, 105, 99, 101]⟩ : ByteArray)] from rfl) (Reps.one (show Kd.M Kd.string _ _ _ (⟨#[112, 97, 99, 107, 105, 110, 103]⟩ : ByteArray) [.string (⟨#[112, 97, 99, 107, 105, 110, 103]⟩ : ByteArray)] from rfl) (Reps.one (show Kd.M Kd.string _ _ _ (⟨#[108, 97, 100, 105, 110, 103]⟩ : ByteArray) [.string (⟨#[108, 97, 100, 105, 110, 103]⟩ : ByteArray)] from rfl) (Reps.one (show Kd.M Kd.string _ _ _ (⟨#[105, 110, 115, 117, 114, 97, 110, 99, 101]⟩ : ByteArray) [.string (⟨#[105, 110, 115, 117, 114, 97, 110, 99, 101]⟩ : ByteArray)] from rfl) (Reps.one (show Kd.M Kd.string _ _ _ (⟨#[111, 114, 105, 103, 105, 110]⟩ : ByteArray) [.string (⟨#[111, 114, 105, 103, 105, 110]⟩ : ByteArray)] from rfl) (Reps.one (show Kd.M Kd.string _ _ _ (⟨#[100, 114, 97, 102, 116]⟩ : ByteArray) [.string (⟨#[100, 114, 97, 102, 116]⟩ : ByteArray)] from rfl) (Reps.none _ _)))))))); intro v124 w1 ho2 hb hg_ hnew_; clear hg_ hnew_; (first | rw [← Ny123.out] at ho2 | (simp only [Int.reduceToNat] at ho2; rw [← Ny123.out] at ho2)); have n0_ := Aside0.mk (Kd.R_lower ho2 (below_size (by repeat (first | (with_reducible first | exact HB.out | apply below_alloc | apply pw_below_drewN | apply below_drew1) | exact HB.out)))); have n1_ := Aside0.mk (below_step (by repeat (first | (with_reducible first | exact HB.out | apply below_alloc | apply pw_below_drewN | apply below_drew1) | exact HB.out)) hb); clear HB; have HO125 := n0_; have HB := n1_; clear n0_ n1_; clear hb ho2))
 go_ret
 exact ⟨_, by first | rfl | (simp [errW_none, errW_some] <;> rfl) | (simp [*, errW_none, errW_some] <;> rfl), by (with_reducible repeat (first | apply Kd.R_alloc | apply Kd.R_drewN | apply Kd.R_drew)); exact HO125.out, by repeat (first | (with_reducible first | exact HB.out | apply below_alloc | apply pw_below_drewN | apply below_drew1) | exact HB.out)⟩
end Go.Proofs.YtkblmomfiimkiaaGreatDoor.P
end

section
namespace Go.Proofs.YtkblmomfiimkiaaGreatDoor.P
open Go.RowKit
noncomputable def Zr (n : Nat) : Array Value := Tryz.zeroCells228.setIfInBounds 256 (.slice (some ⟨n, 0, none⟩) 0 2)
theorem Zr_size (n : Nat) : (Zr n).size = 257 := by unfold Zr; rw [Array.size_setIfInBounds]; kernel_rfl
theorem zero_one : Tryz.zeroCells228.all (·.oneCell') = true := by kernel_rfl
theorem Zr_one (n : Nat) : (Zr n).all (·.oneCell') = true := by
 unfold Zr
 rw [Array.all_eq_true_iff_forall_mem]
 intro x hx
 rcases Array.mem_or_eq_of_mem_setIfInBounds hx with h | h
 ·
  exact (Array.all_eq_true_iff_forall_mem.1 zero_one) x h
 ·
  subst h; rfl
theorem Zr_toList (n : Nat) : (Zr n).toList = Tryz.zeroCells228.toList.set 256 (.slice (some ⟨n, 0, none⟩) 0 2) := by
 unfold Zr; rw [Array.toList_setIfInBounds]
theorem Zr_low (n b : Nat) (h : b < 256) : (Zr n)[b]? = some (.slice none 0 0) := by
 unfold Zr
 rw [Array.getElem?_setIfInBounds_ne (by omega)]
 have e : Tryz.zeroCells228 = Array.replicate 257 (.slice none 0 0) := by kernel_rfl
 rw [e, Array.getElem?_replicate, if_pos (by omega)]
theorem Zr_at (n b : Nat) (hb : b < 256) : ∀ h, (Zr n)[b]'h = .slice none 0 0 := fun h => by
 have := Zr_low n b hb
 rw [Array.getElem?_eq_getElem h] at this
 exact Option.some.inj this
theorem Zr_high (n : Nat) : (Zr n)[256]? = some (.slice (some ⟨n, 0, none⟩) 0 2) := by
 unfold Zr
 have : Tryz.zeroCells228.size = 257 := by kernel_rfl
 rw [Array.getElem?_setIfInBounds_self]
 simp [this]
theorem append_one (P : Program) (t ty e : TypeId) (i : TypeInfo) (ht : P.underlying t = some (.slice e)) (hi : P.info? e = some i) (hs : i.size = 1) (W : World) (b sLen sCap c : Nat) (a : Addr) (v : Value)
  (hv : W.cell? a = some v) (h1 : v.oneCell' = true) (hroom : sLen + 1 ≤ sCap) (hc : (W.cell? ⟨b, sLen, none⟩).isSome = true) (hf : W.frozen? ⟨b, sLen, none⟩ = false) :
  (Builtin.append_ #[t, t] ty #[.slice (some ⟨b, 0, none⟩) sLen sCap, .slice (some a) 1 c]).run P W = .ok (.slice (some ⟨b, 0, none⟩) (sLen + 1) sCap) (W.setCell ⟨b, sLen, none⟩ v) := by
 have h := run_append_room_cells (P := P) W t ty e i ht hi b 0 sLen sCap a 1 c [v] (by simp [hs]) (fun j u hj => by
  rcases j with _ | j
  ·
   simp at hj; subst hj; rw [Addr.add_zero']; exact hv
  ·
   simp at hj) (fun u hu => by simp at hu; subst hu; exact h1) hroom (fun j hj => by
  obtain rfl : j = 0 := by simp at hj; omega
  simpa [hs] using hc) (fun j hj => by
  obtain rfl : j = 0 := by simp at hj; omega
  simpa [hs] using hf)
 rw [h]
 simp [World.setCells, hs]
theorem bytes_two (P : Program) (src dst e : TypeId) (hs : P.underlying src = some .string) (hd : P.underlying dst = some (.slice e)) (he : P.underlying e = some (.int .u8)) (W : World) (a b : UInt8) :
  ∃ c C fr, (convert src dst (.string ⟨#[a, b]⟩)).run P W = .ok (.slice (some ⟨W.heap.size, 0, none⟩) 2 c) ((W.alloc (.cells C e fr)).drew) ∧ C[0]? = some (.int .u8 a.toNat) ∧ C[1]? = some (.int .u8 b.toNat) :=
 ⟨_, _, _, run_bytes_of_string W src dst e ⟨#[a, b]⟩ hs hd he, bytesRow_at ⟨#[a, b]⟩ _ 0 (by simp), bytesRow_at ⟨#[a, b]⟩ _ 1 (by simp)⟩
def repAt (x y : Nat) (cx cy : Nat) (b : Nat) : Value := if b = 10 then .slice (some ⟨x, 0, none⟩) 2 cx else if b = 92 then .slice (some ⟨y, 0, none⟩) 2 cy else .slice none 0 0
def IsBsr (lo b : Nat) (w : World) : Prop := ∃ x y t cx cy : Nat, (lo ≤ b ∧ b < w.heap.size) ∧ (lo ≤ x ∧ x < w.heap.size) ∧ (lo ≤ y ∧ y < w.heap.size) ∧ (lo ≤ t ∧ t < w.heap.size) ∧
 (∀ j, j < 256 → w.cell? ⟨b, j, none⟩ = some (repAt x y cx cy j)) ∧ w.cell? ⟨b, 256, none⟩ = some (.slice (some ⟨t, 0, none⟩) 2 2) ∧
 (w.cell? ⟨x, 0, none⟩ = some (.int .u8 92) ∧ w.cell? ⟨x, 1, none⟩ = some (.int .u8 110)) ∧ (w.cell? ⟨y, 0, none⟩ = some (.int .u8 92) ∧ w.cell? ⟨y, 1, none⟩ = some (.int .u8 92)) ∧
 (w.cell? ⟨t, 0, none⟩ = some (.string ⟨#[10]⟩) ∧ w.cell? ⟨t, 1, none⟩ = some (.string ⟨#[92]⟩))
theorem IsBsr.step {lo b : Nat} {w w' : World} (h : IsBsr lo b w) (hs : w.heap.size ≤ w'.heap.size) (hb : ∀ g, lo ≤ g → g < w.heap.size → ∀ o, w'.cell? ⟨g, o, none⟩ = w.cell? ⟨g, o, none⟩) : IsBsr lo b w' := by
 obtain ⟨x, y, t, cx, cy, ⟨b0, b1⟩, ⟨x0, x1⟩, ⟨y0, y1⟩, ⟨t0, t1⟩, hr, hl, ⟨hx0, hx1⟩, ⟨hy0, hy1⟩, ht0, ht1⟩ := h
 exact ⟨x, y, t, cx, cy, ⟨b0, by omega⟩, ⟨x0, by omega⟩, ⟨y0, by omega⟩, ⟨t0, by omega⟩, fun j hj => (hb b b0 b1 j).trans (hr j hj), (hb b b0 b1 _).trans hl, ⟨(hb x x0 x1 _).trans hx0, (hb x x0 x1 _).trans hx1⟩, ⟨(hb y y0 y1 _).trans hy0, (hb y y0 y1 _).trans hy1⟩, (hb t t0 t1 _).trans ht0, (hb t t0 t1 _).trans ht1⟩
theorem IsBsr.below {lo b : Nat} {w w' : World} (h : IsBsr lo b w) (hb : Below w.heap.size w w') : IsBsr lo b w' :=
 h.step hb.size (fun g _ hg o => hb.cell (p := ⟨g, o, none⟩) hg)
theorem bsr_made (w : World) (c1 c2 : Nat) (C1 C2 : Array Value) (fr1 fr2 : Nat × Nat) (hC10 : C1[0]? = some (.int .u8 92)) (hC11 : C1[1]? = some (.int .u8 110)) (hC20 : C2[0]? = some (.int .u8 92)) (hC21 : C2[1]? = some (.int .u8 92)) :
  IsBsr w.heap.size (w.heap.size + 1) (((((((((w.alloc (.cells #[.string ⟨#[10]⟩, .string ⟨#[92]⟩] 9)).alloc (.cells (((((Zr w.heap.size).setIfInBounds 256 (.slice (some ⟨w.heap.size, 0, none⟩) 1 2)).setIfInBounds 10 (.slice (some ⟨w.heap.size + 1 + 1 + 1 + 1, 0, none⟩) 2 c1)).setIfInBounds 256 (.slice (some ⟨w.heap.size, 0, none⟩) 2 2)).setIfInBounds 92 (.slice (some ⟨w.heap.size + 1 + 1 + 1 + 1 + 1 + 1 + 1, 0, none⟩) 2 c2)) 228)).alloc (.cells #[.int .u8 10] 5)).alloc (.cells #[.string ⟨#[10]⟩] 9)).alloc (.cells C1 5 fr1)).alloc (.cells #[.int .u8 92] 5)).alloc (.cells #[.string ⟨#[92]⟩] 9)).alloc (.cells C2 5 fr2)).drew.drew) := by
 have hz : (((((((((w.alloc (.cells #[.string ⟨#[10]⟩, .string ⟨#[92]⟩] 9)).alloc (.cells (((((Zr w.heap.size).setIfInBounds 256 (.slice (some ⟨w.heap.size, 0, none⟩) 1 2)).setIfInBounds 10 (.slice (some ⟨w.heap.size + 1 + 1 + 1 + 1, 0, none⟩) 2 c1)).setIfInBounds 256 (.slice (some ⟨w.heap.size, 0, none⟩) 2 2)).setIfInBounds 92 (.slice (some ⟨w.heap.size + 1 + 1 + 1 + 1 + 1 + 1 + 1, 0, none⟩) 2 c2)) 228)).alloc (.cells #[.int .u8 10] 5)).alloc (.cells #[.string ⟨#[10]⟩] 9)).alloc (.cells C1 5 fr1)).alloc (.cells #[.int .u8 92] 5)).alloc (.cells #[.string ⟨#[92]⟩] 9)).alloc (.cells C2 5 fr2)).drew.drew).heap.size = w.heap.size + 1 + 1 + 1 + 1 + 1 + 1 + 1 + 1 := by simp
 refine ⟨w.heap.size + 1 + 1 + 1 + 1, w.heap.size + 1 + 1 + 1 + 1 + 1 + 1 + 1, w.heap.size, c1, c2, ⟨by omega, by rw [hz]; omega⟩, ⟨by omega, by rw [hz]; omega⟩, ⟨by omega, by rw [hz]; omega⟩, ⟨by omega, by rw [hz]; omega⟩, ?_, ?_, ⟨?_, ?_⟩, ⟨?_, ?_⟩, ?_, ?_⟩
 ·
  intro j hj
  have e : (((((((((w.alloc (.cells #[.string ⟨#[10]⟩, .string ⟨#[92]⟩] 9)).alloc (.cells (((((Zr w.heap.size).setIfInBounds 256 (.slice (some ⟨w.heap.size, 0, none⟩) 1 2)).setIfInBounds 10 (.slice (some ⟨w.heap.size + 1 + 1 + 1 + 1, 0, none⟩) 2 c1)).setIfInBounds 256 (.slice (some ⟨w.heap.size, 0, none⟩) 2 2)).setIfInBounds 92 (.slice (some ⟨w.heap.size + 1 + 1 + 1 + 1 + 1 + 1 + 1, 0, none⟩) 2 c2)) 228)).alloc (.cells #[.int .u8 10] 5)).alloc (.cells #[.string ⟨#[10]⟩] 9)).alloc (.cells C1 5 fr1)).alloc (.cells #[.int .u8 92] 5)).alloc (.cells #[.string ⟨#[92]⟩] 9)).alloc (.cells C2 5 fr2)).drew.drew).cell? ⟨w.heap.size + 1, j, none⟩ = (((((Zr w.heap.size).setIfInBounds 256 (.slice (some ⟨w.heap.size, 0, none⟩) 1 2)).setIfInBounds 10 (.slice (some ⟨w.heap.size + 1 + 1 + 1 + 1, 0, none⟩) 2 c1)).setIfInBounds 256 (.slice (some ⟨w.heap.size, 0, none⟩) 2 2)).setIfInBounds 92 (.slice (some ⟨w.heap.size + 1 + 1 + 1 + 1 + 1 + 1 + 1, 0, none⟩) 2 c2))[j]? := by go_simp
  have zl := Zr_low w.heap.size j hj
  rw [e]
  unfold repAt
  by_cases h1 : j = 10
  ·
   subst h1; rw [if_pos rfl, Array.getElem?_setIfInBounds_ne (by omega), Array.getElem?_setIfInBounds_ne (by omega), Array.getElem?_setIfInBounds_self]; simp [Zr_size]
  ·
   by_cases h2 : j = 92
   ·
    subst h2; rw [if_neg h1, if_pos rfl, Array.getElem?_setIfInBounds_self]; simp [Zr_size]
   ·
    rw [if_neg h1, if_neg h2, Array.getElem?_setIfInBounds_ne (by omega), Array.getElem?_setIfInBounds_ne (by omega), Array.getElem?_setIfInBounds_ne (by omega), Array.getElem?_setIfInBounds_ne (by omega)]; exact zl
 ·
  have e : (((((((((w.alloc (.cells #[.string ⟨#[10]⟩, .string ⟨#[92]⟩] 9)).alloc (.cells (((((Zr w.heap.size).setIfInBounds 256 (.slice (some ⟨w.heap.size, 0, none⟩) 1 2)).setIfInBounds 10 (.slice (some ⟨w.heap.size + 1 + 1 + 1 + 1, 0, none⟩) 2 c1)).setIfInBounds 256 (.slice (some ⟨w.heap.size, 0, none⟩) 2 2)).setIfInBounds 92 (.slice (some ⟨w.heap.size + 1 + 1 + 1 + 1 + 1 + 1 + 1, 0, none⟩) 2 c2)) 228)).alloc (.cells #[.int .u8 10] 5)).alloc (.cells #[.string ⟨#[10]⟩] 9)).alloc (.cells C1 5 fr1)).alloc (.cells #[.int .u8 92] 5)).alloc (.cells #[.string ⟨#[92]⟩] 9)).alloc (.cells C2 5 fr2)).drew.drew).cell? ⟨w.heap.size + 1, 256, none⟩ = (((((Zr w.heap.size).setIfInBounds 256 (.slice (some ⟨w.heap.size, 0, none⟩) 1 2)).setIfInBounds 10 (.slice (some ⟨w.heap.size + 1 + 1 + 1 + 1, 0, none⟩) 2 c1)).setIfInBounds 256 (.slice (some ⟨w.heap.size, 0, none⟩) 2 2)).setIfInBounds 92 (.slice (some ⟨w.heap.size + 1 + 1 + 1 + 1 + 1 + 1 + 1, 0, none⟩) 2 c2))[256]? := by go_simp
  rw [e, Array.getElem?_setIfInBounds_ne (by omega), Array.getElem?_setIfInBounds_self]; simp [Zr_size]
 all_goals first | (go_simp; done) | (go_simp; rw [Joins.cell_alloc_mark_at _ _ _ _ _ _ (by simp)]; assumption)
set_option maxRecDepth 100000 in
set_option maxHeartbeats 4000000 in
theorem build_calls (R O c : Nat) (w : World) (h4 : w.cell? ⟨R, 4, none⟩ = some (.slice (some ⟨O, 0, none⟩) 4 c)) (hO : O < w.heap.size)
   (o0 : w.cell? ⟨O, 0, none⟩ = some (.string ⟨#[92]⟩)) (o1 : w.cell? ⟨O, 1, none⟩ = some (.string ⟨#[92, 92]⟩))
   (o2 : w.cell? ⟨O, 2, none⟩ = some (.string ⟨#[10]⟩)) (o3 : w.cell? ⟨O, 3, none⟩ = some (.string ⟨#[92, 110]⟩)) :
   Calls Tryz.prog 148 #[.pointer (some ⟨R, 0, none⟩)] w fun e w' => e = .returned (.iface 229 (.pointer (some ⟨w.heap.size + 1, 0, none⟩))) ∧ IsBsr w.heap.size (w.heap.size + 1) w' ∧ Below w.heap.size w w' := by
  have hmk : ∀ w, (Instr.makeSlice 23 (.int .i64 0) (.int .i64 2)).run Tryz.prog w = .ok (.slice (some ⟨w.heap.size, 0, none⟩) 0 2) (w.alloc (.cells #[.string ⟨#[]⟩, .string ⟨#[]⟩] 9)) := fun _ => by kernel_rfl
  have hst : (storeCells ⟨w.heap.size + 1, 0, none⟩ (Tryz.zeroCells228.toList.set 256 (.slice (some ⟨w.heap.size, 0, none⟩) 0 2)) 0).run Tryz.prog ((w.alloc (.cells #[.string ⟨#[]⟩, .string ⟨#[]⟩] 9)).alloc (.cells Tryz.zeroCells228 228)) = .ok () ((w.alloc (.cells #[.string ⟨#[]⟩, .string ⟨#[]⟩] 9)).alloc (.cells (Zr w.heap.size) 228)) := by
    have h := run_storeCells_new (P := Tryz.prog) (w.alloc (.cells #[.string ⟨#[]⟩, .string ⟨#[]⟩] 9)) 228 Tryz.zeroCells228 (Zr w.heap.size) (by rw [Zr_size]; kernel_rfl) (by rw [Zr_size]; kernel_rfl) (Zr_one _)
    rw [Zr_toList] at h
    have e : (w.alloc (.cells #[.string ⟨#[]⟩, .string ⟨#[]⟩] 9)).heap.size = w.heap.size + 1 := by simp
    rw [e] at h
    exact h
  obtain ⟨i9, hi9, hz9, hs9, hb9⟩ := info_parts (P := Tryz.prog) (e := 9) (z := .string ⟨#[]⟩) (size := 1) (bytes := 16) (by kernel_rfl)
  have hcv : (convert 110 9 (.slice (some ⟨w.heap.size + 1 + 1, 0, none⟩) 1 1)).run Tryz.prog (((w.alloc (.cells #[.string ⟨#[]⟩, .string ⟨#[]⟩] 9)).alloc (.cells (Zr w.heap.size) 228)).alloc (.cells #[.int .u8 10] 5)) = .ok (.string ⟨#[10]⟩) (((w.alloc (.cells #[.string ⟨#[]⟩, .string ⟨#[]⟩] 9)).alloc (.cells (Zr w.heap.size) 228)).alloc (.cells #[.int .u8 10] 5)) :=
    run_convert_bytes_back (P := Tryz.prog) (((w.alloc (.cells #[.string ⟨#[]⟩, .string ⟨#[]⟩] 9)).alloc (.cells (Zr w.heap.size) 228)).alloc (.cells #[.int .u8 10] 5)) 110 9 5 ⟨w.heap.size + 1 + 1, 0, none⟩ 1 [10] Tryz.underlying110 Tryz.underlying5 Tryz.underlying9 (fun j hj => by
      obtain rfl : j = 0 := by simp at hj; omega
      rw [Addr.add_zero']
      go_simp)
  have hv4 : (((((w.alloc (.cells #[.string ⟨#[]⟩, .string ⟨#[]⟩] 9)).alloc (.cells (Zr w.heap.size) 228)).alloc (.cells #[.int .u8 10] 5)).alloc (.cells #[.string ⟨#[10]⟩] 9))).cell? ⟨w.heap.size + 1 + 1 + 1, 0, none⟩ = some (.string ⟨#[10]⟩) := by go_simp
  have hw4 : ((((((w.alloc (.cells #[.string ⟨#[]⟩, .string ⟨#[]⟩] 9)).alloc (.cells (Zr w.heap.size) 228)).alloc (.cells #[.int .u8 10] 5)).alloc (.cells #[.string ⟨#[10]⟩] 9))).cell? ⟨w.heap.size, 0, none⟩).isSome = true := by go_simp
  have hf4 : (((((w.alloc (.cells #[.string ⟨#[]⟩, .string ⟨#[]⟩] 9)).alloc (.cells (Zr w.heap.size) 228)).alloc (.cells #[.int .u8 10] 5)).alloc (.cells #[.string ⟨#[10]⟩] 9))).frozen? ⟨w.heap.size, 0, none⟩ = false := by go_simp
  have hap : (Builtin.append_ #[23, 23] 23 #[.slice (some ⟨w.heap.size, 0, none⟩) 0 2, .slice (some ⟨w.heap.size + 1 + 1 + 1, 0, none⟩) 1 1]).run Tryz.prog ((((w.alloc (.cells #[.string ⟨#[]⟩, .string ⟨#[]⟩] 9)).alloc (.cells (Zr w.heap.size) 228)).alloc (.cells #[.int .u8 10] 5)).alloc (.cells #[.string ⟨#[10]⟩] 9)) = .ok (.slice (some ⟨w.heap.size, 0, none⟩) 1 2) ((((w.alloc (.cells #[.string ⟨#[10]⟩, .string ⟨#[]⟩] 9)).alloc (.cells (Zr w.heap.size) 228)).alloc (.cells #[.int .u8 10] 5)).alloc (.cells #[.string ⟨#[10]⟩] 9)) := by
    rw [append_one Tryz.prog 23 23 9 i9 Tryz.underlying23 hi9 hs9 ((((w.alloc (.cells #[.string ⟨#[]⟩, .string ⟨#[]⟩] 9)).alloc (.cells (Zr w.heap.size) 228)).alloc (.cells #[.int .u8 10] 5)).alloc (.cells #[.string ⟨#[10]⟩] 9)) w.heap.size 0 2 1 ⟨w.heap.size + 1 + 1 + 1, 0, none⟩ (.string ⟨#[10]⟩) hv4 rfl (by omega) hw4 hf4]
    go_simp
  clear hv4 hw4 hf4
  obtain ⟨c1, C1, fr1, hsb1, hC10, hC11⟩ := bytes_two Tryz.prog 9 110 5 Tryz.underlying9 Tryz.underlying110 Tryz.underlying5 ((((w.alloc (.cells #[.string ⟨#[10]⟩, .string ⟨#[]⟩] 9)).alloc (.cells ((Zr w.heap.size).setIfInBounds 256 (.slice (some ⟨w.heap.size, 0, none⟩) 1 2)) 228)).alloc (.cells #[.int .u8 10] 5)).alloc (.cells #[.string ⟨#[10]⟩] 9)) 92 110
  have q1 : ((((w.alloc (.cells #[.string ⟨#[10]⟩, .string ⟨#[]⟩] 9)).alloc (.cells ((Zr w.heap.size).setIfInBounds 256 (.slice (some ⟨w.heap.size, 0, none⟩) 1 2)) 228)).alloc (.cells #[.int .u8 10] 5)).alloc (.cells #[.string ⟨#[10]⟩] 9)).heap.size = w.heap.size + 1 + 1 + 1 + 1 := by simp
  rw [q1] at hsb1
  clear q1
  have hcv2 : (convert 110 9 (.slice (some ⟨w.heap.size + 1 + 1 + 1 + 1 + 1, 0, none⟩) 1 1)).run Tryz.prog ((((((w.alloc (.cells #[.string ⟨#[10]⟩, .string ⟨#[]⟩] 9)).alloc (.cells (((Zr w.heap.size).setIfInBounds 256 (.slice (some ⟨w.heap.size, 0, none⟩) 1 2)).setIfInBounds 10 (.slice (some ⟨w.heap.size + 1 + 1 + 1 + 1, 0, none⟩) 2 c1)) 228)).alloc (.cells #[.int .u8 10] 5)).alloc (.cells #[.string ⟨#[10]⟩] 9)).alloc (.cells C1 5 fr1)).alloc (.cells #[.int .u8 92] 5)).drew = .ok (.string ⟨#[92]⟩) ((((((w.alloc (.cells #[.string ⟨#[10]⟩, .string ⟨#[]⟩] 9)).alloc (.cells (((Zr w.heap.size).setIfInBounds 256 (.slice (some ⟨w.heap.size, 0, none⟩) 1 2)).setIfInBounds 10 (.slice (some ⟨w.heap.size + 1 + 1 + 1 + 1, 0, none⟩) 2 c1)) 228)).alloc (.cells #[.int .u8 10] 5)).alloc (.cells #[.string ⟨#[10]⟩] 9)).alloc (.cells C1 5 fr1)).alloc (.cells #[.int .u8 92] 5)).drew :=
    run_convert_bytes_back (P := Tryz.prog) ((((((w.alloc (.cells #[.string ⟨#[10]⟩, .string ⟨#[]⟩] 9)).alloc (.cells (((Zr w.heap.size).setIfInBounds 256 (.slice (some ⟨w.heap.size, 0, none⟩) 1 2)).setIfInBounds 10 (.slice (some ⟨w.heap.size + 1 + 1 + 1 + 1, 0, none⟩) 2 c1)) 228)).alloc (.cells #[.int .u8 10] 5)).alloc (.cells #[.string ⟨#[10]⟩] 9)).alloc (.cells C1 5 fr1)).alloc (.cells #[.int .u8 92] 5)).drew 110 9 5 ⟨w.heap.size + 1 + 1 + 1 + 1 + 1, 0, none⟩ 1 [92] Tryz.underlying110 Tryz.underlying5 Tryz.underlying9 (fun j hj => by
      obtain rfl : j = 0 := by simp at hj; omega
      rw [Addr.add_zero']
      go_simp)
  have hv7 : ((((((((w.alloc (.cells #[.string ⟨#[10]⟩, .string ⟨#[]⟩] 9)).alloc (.cells (((Zr w.heap.size).setIfInBounds 256 (.slice (some ⟨w.heap.size, 0, none⟩) 1 2)).setIfInBounds 10 (.slice (some ⟨w.heap.size + 1 + 1 + 1 + 1, 0, none⟩) 2 c1)) 228)).alloc (.cells #[.int .u8 10] 5)).alloc (.cells #[.string ⟨#[10]⟩] 9)).alloc (.cells C1 5 fr1)).alloc (.cells #[.int .u8 92] 5)).alloc (.cells #[.string ⟨#[92]⟩] 9)).drew).cell? ⟨w.heap.size + 1 + 1 + 1 + 1 + 1 + 1, 0, none⟩ = some (.string ⟨#[92]⟩) := by go_simp
  have hw7 : (((((((((w.alloc (.cells #[.string ⟨#[10]⟩, .string ⟨#[]⟩] 9)).alloc (.cells (((Zr w.heap.size).setIfInBounds 256 (.slice (some ⟨w.heap.size, 0, none⟩) 1 2)).setIfInBounds 10 (.slice (some ⟨w.heap.size + 1 + 1 + 1 + 1, 0, none⟩) 2 c1)) 228)).alloc (.cells #[.int .u8 10] 5)).alloc (.cells #[.string ⟨#[10]⟩] 9)).alloc (.cells C1 5 fr1)).alloc (.cells #[.int .u8 92] 5)).alloc (.cells #[.string ⟨#[92]⟩] 9)).drew).cell? ⟨w.heap.size, 1, none⟩).isSome = true := by go_simp
  have hf7 : ((((((((w.alloc (.cells #[.string ⟨#[10]⟩, .string ⟨#[]⟩] 9)).alloc (.cells (((Zr w.heap.size).setIfInBounds 256 (.slice (some ⟨w.heap.size, 0, none⟩) 1 2)).setIfInBounds 10 (.slice (some ⟨w.heap.size + 1 + 1 + 1 + 1, 0, none⟩) 2 c1)) 228)).alloc (.cells #[.int .u8 10] 5)).alloc (.cells #[.string ⟨#[10]⟩] 9)).alloc (.cells C1 5 fr1)).alloc (.cells #[.int .u8 92] 5)).alloc (.cells #[.string ⟨#[92]⟩] 9)).drew).frozen? ⟨w.heap.size, 1, none⟩ = false := by go_simp
  have hap2 : (Builtin.append_ #[23, 23] 23 #[.slice (some ⟨w.heap.size, 0, none⟩) 1 2, .slice (some ⟨w.heap.size + 1 + 1 + 1 + 1 + 1 + 1, 0, none⟩) 1 1]).run Tryz.prog ((((((((w.alloc (.cells #[.string ⟨#[10]⟩, .string ⟨#[]⟩] 9)).alloc (.cells (((Zr w.heap.size).setIfInBounds 256 (.slice (some ⟨w.heap.size, 0, none⟩) 1 2)).setIfInBounds 10 (.slice (some ⟨w.heap.size + 1 + 1 + 1 + 1, 0, none⟩) 2 c1)) 228)).alloc (.cells #[.int .u8 10] 5)).alloc (.cells #[.string ⟨#[10]⟩] 9)).alloc (.cells C1 5 fr1)).alloc (.cells #[.int .u8 92] 5)).alloc (.cells #[.string ⟨#[92]⟩] 9)).drew) = .ok (.slice (some ⟨w.heap.size, 0, none⟩) 2 2) ((((((((w.alloc (.cells #[.string ⟨#[10]⟩, .string ⟨#[92]⟩] 9)).alloc (.cells (((Zr w.heap.size).setIfInBounds 256 (.slice (some ⟨w.heap.size, 0, none⟩) 1 2)).setIfInBounds 10 (.slice (some ⟨w.heap.size + 1 + 1 + 1 + 1, 0, none⟩) 2 c1)) 228)).alloc (.cells #[.int .u8 10] 5)).alloc (.cells #[.string ⟨#[10]⟩] 9)).alloc (.cells C1 5 fr1)).alloc (.cells #[.int .u8 92] 5)).alloc (.cells #[.string ⟨#[92]⟩] 9)).drew) := by
    rw [append_one Tryz.prog 23 23 9 i9 Tryz.underlying23 hi9 hs9 ((((((((w.alloc (.cells #[.string ⟨#[10]⟩, .string ⟨#[]⟩] 9)).alloc (.cells (((Zr w.heap.size).setIfInBounds 256 (.slice (some ⟨w.heap.size, 0, none⟩) 1 2)).setIfInBounds 10 (.slice (some ⟨w.heap.size + 1 + 1 + 1 + 1, 0, none⟩) 2 c1)) 228)).alloc (.cells #[.int .u8 10] 5)).alloc (.cells #[.string ⟨#[10]⟩] 9)).alloc (.cells C1 5 fr1)).alloc (.cells #[.int .u8 92] 5)).alloc (.cells #[.string ⟨#[92]⟩] 9)).drew) w.heap.size 1 2 1 ⟨w.heap.size + 1 + 1 + 1 + 1 + 1 + 1, 0, none⟩ (.string ⟨#[92]⟩) hv7 rfl (by omega) hw7 hf7]
    go_simp
  clear hv7 hw7 hf7
  obtain ⟨c2, C2, fr2, hsb2, hC20, hC21⟩ := bytes_two Tryz.prog 9 110 5 Tryz.underlying9 Tryz.underlying110 Tryz.underlying5 ((((((((w.alloc (.cells #[.string ⟨#[10]⟩, .string ⟨#[92]⟩] 9)).alloc (.cells ((((Zr w.heap.size).setIfInBounds 256 (.slice (some ⟨w.heap.size, 0, none⟩) 1 2)).setIfInBounds 10 (.slice (some ⟨w.heap.size + 1 + 1 + 1 + 1, 0, none⟩) 2 c1)).setIfInBounds 256 (.slice (some ⟨w.heap.size, 0, none⟩) 2 2)) 228)).alloc (.cells #[.int .u8 10] 5)).alloc (.cells #[.string ⟨#[10]⟩] 9)).alloc (.cells C1 5 fr1)).alloc (.cells #[.int .u8 92] 5)).alloc (.cells #[.string ⟨#[92]⟩] 9)).drew) 92 92
  have q2 : ((((((((w.alloc (.cells #[.string ⟨#[10]⟩, .string ⟨#[92]⟩] 9)).alloc (.cells ((((Zr w.heap.size).setIfInBounds 256 (.slice (some ⟨w.heap.size, 0, none⟩) 1 2)).setIfInBounds 10 (.slice (some ⟨w.heap.size + 1 + 1 + 1 + 1, 0, none⟩) 2 c1)).setIfInBounds 256 (.slice (some ⟨w.heap.size, 0, none⟩) 2 2)) 228)).alloc (.cells #[.int .u8 10] 5)).alloc (.cells #[.string ⟨#[10]⟩] 9)).alloc (.cells C1 5 fr1)).alloc (.cells #[.int .u8 92] 5)).alloc (.cells #[.string ⟨#[92]⟩] 9)).drew).heap.size = w.heap.size + 1 + 1 + 1 + 1 + 1 + 1 + 1 := by go_simp
  rw [q2] at hsb2
  clear q2
  have HF := Lib.hid (bsr_made w c1 c2 C1 C2 fr1 fr2 hC10 hC11 hC20 hC21)
  have z10 := Zr_at w.heap.size 10 (by omega)
  have z92 := Zr_at w.heap.size 92 (by omega)
  have z256 : ∀ h, (Zr w.heap.size)[256]'h = .slice (some ⟨w.heap.size, 0, none⟩) 0 2 := fun h => by have := Zr_high w.heap.size; rw [Array.getElem?_eq_getElem h] at this; exact Option.some.inj this
  have zs := Zr_size w.heap.size
  have hnil := fun w a l c => Lib.run_eql_slice_nil (P := Tryz.prog) w 110 5 a l c 0 0 Tryz.underlying110
  have b10 : ∀ h, ((⟨#[10]⟩ : ByteArray)[0]'h).toNat = 10 := fun _ => rfl
  have b92 : ∀ h, ((⟨#[92]⟩ : ByteArray)[0]'h).toNat = 92 := fun _ => rfl
  have hO1 : O < w.heap.size + 1 := by omega
  have hO2 : O < w.heap.size + 1 + 1 := by omega
  have hO3 : O < w.heap.size + 1 + 1 + 1 := by omega
  have hO4 : O < w.heap.size + 1 + 1 + 1 + 1 := by omega
  have hO5 : O < w.heap.size + 1 + 1 + 1 + 1 + 1 := by omega
  have hO6 : O < w.heap.size + 1 + 1 + 1 + 1 + 1 + 1 := by omega
  have hO7 : O < w.heap.size + 1 + 1 + 1 + 1 + 1 + 1 + 1 := by omega
  clear hC10 hC11 hC20 hC21 hi9 hz9 hs9 hb9
  go_enter Tryz.func148, Tryz.ntmps148
  go_wp2_with fail
  refine wp_loop_rounds 3 ?_
  rw [rounds_succ]
  go_wp2_with fail
  rw [rounds_succ]
  go_wp2_with fail
  rw [rounds_succ]
  go_wp2_with fail
  refine wp_loop_rounds 3 ?_
  rw [rounds_succ]
  go_wp2_with fail
  rw [rounds_succ]
  go_wp2_with fail
  rw [rounds_succ]
  go_wp2_with fail
  go_ret
  refine ⟨rfl, HF.out, ?_⟩
  exact (((((((((Below.refl _ _).alloc (Nat.le_refl _) _).alloc (by simp) _).alloc (by simp; omega) _).alloc (by simp; omega) _).alloc (by simp; omega) _).alloc (by simp; omega) _).alloc (by simp; omega) _).alloc (by simp; omega) _).drew.drew
end Go.Proofs.YtkblmomfiimkiaaGreatDoor.P
end

section
namespace Go.Proofs.YtkblmomfiimkiaaGreatDoor.P
open Go.RowKit
theorem disable (w : World) : (callFunc 182 #[]).run Tryz.prog w = .ok (.value (.tuple #[])) w := run_call_mark0 Tryz.func182 (by kernel_rfl) (by kernel_rfl) (by kernel_rfl) .disable (by kernel_rfl) w
theorem enable (w : World) : (callFunc 184 #[]).run Tryz.prog w = .ok (.value (.tuple #[])) w := run_call_mark0 Tryz.func184 (by kernel_rfl) (by kernel_rfl) (by kernel_rfl) .enable (by kernel_rfl) w
theorem acquire (a : Addr) (w : World) : (callFunc 185 #[.pointer (some a)]).run Tryz.prog w = .ok (.value (.tuple #[])) w := run_call_marked Tryz.func185 (by kernel_rfl) (by kernel_rfl) (by kernel_rfl) .acquire (by kernel_rfl) a w
theorem releaseMerge (a : Addr) (w : World) : (callFunc 187 #[.pointer (some a)]).run Tryz.prog w = .ok (.value (.tuple #[])) w := run_call_marked Tryz.func187 (by kernel_rfl) (by kernel_rfl) (by kernel_rfl) .releaseMerge (by kernel_rfl) a w
theorem store_deferred (a : Addr) (x : Value) (u : FrameMode) (w : World) (hc : w.cell? a = some x) (hz : w.frozen? a = false) :
  CallsD Tryz.prog 169 #[.pointer (some a), .bool true] u w fun e u' w' => u' = u ∧ (e = .returned (.tuple #[]) ∧ w' = w.drew.setCell a (.int .u32 1)) := by
 have hc' : w.drew.cell? a = some x := by go_simp
 have hz' : w.drew.frozen? a = false := by go_simp
 have hst := run_call_store (P := Tryz.prog) Tryz.func178 (by kernel_rfl) (by kernel_rfl) (by kernel_rfl) (by kernel_rfl) (k := .u32) (y := 1) hc' hz'
 go_enter_d Tryz.func169, Tryz.ntmps169
 go_wp2
 go_region_calls
 all_goals (go_end0; exact ⟨rfl, rfl⟩)
set_option maxRecDepth 100000 in
theorem unlock_in (a : Addr) (w : World) (hc : w.cell? a = some (.int .i32 1)) (hz : w.frozen? a = false) :
  Calls Tryz.prog 177 #[.pointer (some a)] w fun e w' => e = .returned (.tuple #[]) ∧ w' = w.setCell a (.int .i32 0) := by
 have hd := disable
 have he := enable
 have hr := releaseMerge
 have hadd := run_call_add (P := Tryz.prog) Tryz.func188 (by kernel_rfl) (by kernel_rfl) (by kernel_rfl) .i32 (by kernel_rfl) (y := -1) (s := 0) hc hz (by simp [go_sem]; rfl)
 have hcv := run_convert_to_unsafe (P := Tryz.prog) (src := 251) (dst := 148) Tryz.underlying251 Tryz.underlying148 (by kernel_rfl) hc
 go_enter Tryz.func177, Tryz.ntmps177
 go_wp2
 go_end0
 exact ⟨rfl, rfl⟩
theorem unlock_deferred (a : Addr) (u : FrameMode) (w : World) (hc : w.cell? a = some (.int .i32 1)) (hz : w.frozen? a = false) :
  CallsD Tryz.prog 168 #[.pointer (some a)] u w fun e u' w' => u' = u ∧ (e = .returned (.tuple #[]) ∧ w' = w.setCell a (.int .i32 0)) := by
 go_enter_d Tryz.func168, Tryz.ntmps168
 go_wp2_with (go_at_call 177; refine (unlock_in a _ hc hz).mono ?_; rintro e w' ⟨rfl, rfl⟩)
 go_end0
 exact ⟨rfl, rfl⟩
set_option maxRecDepth 100000 in
theorem lock_in (a : Addr) (w : World) (hc : w.cell? a = some (.int .i32 0)) (hz : w.frozen? a = false) :
  Calls Tryz.prog 176 #[.pointer (some a)] w fun e w' => e = .returned (.tuple #[]) ∧ w' = w.setCell a (.int .i32 1) := by
 have hd := disable
 have he := enable
 have ha := acquire
 have hcas := run_call_cas_hit (P := Tryz.prog) Tryz.func183 (by kernel_rfl) (by kernel_rfl) (by kernel_rfl) .i32 (by kernel_rfl) (y := 1) hc hz
 have hc' : (w.setCell a (.int .i32 1)).cell? a = some (.int .i32 1) := World.cell?_setCell_same w a _ hc
 have hcv := run_convert_to_unsafe (P := Tryz.prog) (src := 251) (dst := 148) Tryz.underlying251 Tryz.underlying148 (by kernel_rfl) hc'
 go_enter Tryz.func176, Tryz.ntmps176
 go_wp2
 first | go_end0 | (simp only [Exit.inBlock, Exit.then]; refine bodyPost_ret (results_none rfl _ _ _) rfl ?_) | refine bodyPost_ret (results_none rfl _ _ _) rfl ?_
 exact ⟨rfl, rfl⟩
theorem lock_free (a : Addr) (w : World) (hc : w.cell? a = some (.int .i32 0)) (hz : w.frozen? a = false) :
  Calls Tryz.prog 167 #[.pointer (some a)] w fun e w' => e = .returned (.tuple #[]) ∧ w' = w.setCell a (.int .i32 1) := by
 go_enter Tryz.func167, Tryz.ntmps167
 go_wp2_with (go_at_call 176; refine (lock_in a _ hc hz).mono ?_; rintro e w' ⟨rfl, rfl⟩)
 go_end0
 exact ⟨rfl, rfl⟩
set_option maxRecDepth 100000 in
set_option maxHeartbeats 2000000 in
theorem buildOnce_calls (R O c : Nat) (q0 q1 q2 : Value) (w : World) (hR : w.heap[R]? = some (.cells #[q0, q1, q2, .nilIface, .slice (some ⟨O, 0, none⟩) 4 c] 164 (0, 0))) (hO : O < w.heap.size)
   (o0 : w.cell? ⟨O, 0, none⟩ = some (.string ⟨#[92]⟩)) (o1 : w.cell? ⟨O, 1, none⟩ = some (.string ⟨#[92, 92]⟩))
   (o2 : w.cell? ⟨O, 2, none⟩ = some (.string ⟨#[10]⟩)) (o3 : w.cell? ⟨O, 3, none⟩ = some (.string ⟨#[92, 110]⟩)) :
   Calls Tryz.prog 127 #[.pointer (some ⟨R, 0, none⟩)] w fun e w' => e = .returned (.tuple #[]) ∧ ∃ W1, Below w.heap.size w W1 ∧ IsBsr w.heap.size (w.heap.size + 1) W1 ∧ w' = (W1.setCell ⟨R, 3, none⟩ (.iface 229 (.pointer (some ⟨w.heap.size + 1, 0, none⟩)))).setCell ⟨R, 4, none⟩ (.slice none 0 0) := by
  have hRl : R < w.heap.size := (Array.getElem?_eq_some_iff.1 hR).1
  have h4 : w.cell? ⟨R, 4, none⟩ = some (.slice (some ⟨O, 0, none⟩) 4 c) := by simp [World.cell?, hR]
  have HB := Lib.hid (build_calls R O c w h4 hO o0 o1 o2 o3)
  have HR := Lib.hid hR
  clear hR h4 o0 o1 o2 o3 hO
  go_enter Tryz.func127, Tryz.ntmps127
  go_wp2_with fail
  refine HB.out.mono ?_
  rintro e W1 ⟨rfl, hbsr, hbel⟩
  have HW := Lib.hid hbsr
  have HL := Lib.hid hbel
  have e3 : W1.cell? ⟨R, 3, none⟩ = some .nilIface := by rw [hbel.cell (p := ⟨R, 3, none⟩) hRl]; simp [World.cell?, HR.out]
  have f3 : W1.frozen? ⟨R, 3, none⟩ = false := by rw [hbel.frozen (p := ⟨R, 3, none⟩) hRl]; simp [World.frozen?, HR.out]
  have e4 : W1.cell? ⟨R, 4, none⟩ = some (.slice (some ⟨O, 0, none⟩) 4 c) := by rw [hbel.cell (p := ⟨R, 4, none⟩) hRl]; simp [World.cell?, HR.out]
  have f4 : W1.frozen? ⟨R, 4, none⟩ = false := by rw [hbel.frozen (p := ⟨R, 4, none⟩) hRl]; simp [World.frozen?, HR.out]
  clear hbsr hbel
  go_wp2_with fail
  go_end0
  exact ⟨rfl, W1, HL.out, HW.out, rfl⟩
structure Done (R : Nat) (w w' : World) : Prop where
 below : Below R w w'
 size : w.heap.size ≤ w'.heap.size
 keep : ∀ g, g < w.heap.size → g ≠ R → w'.heap[g]? = w.heap[g]?
 r : w'.cell? ⟨R, 3, none⟩ = some (.iface 229 (.pointer (some ⟨w.heap.size + 1, 0, none⟩)))
 bsr : IsBsr w.heap.size (w.heap.size + 1) w'
theorem heap_set_ne (w : World) (a : Addr) (v : Value) (g : Nat) (h : g ≠ a.block) : (w.setCell a v).heap[g]? = w.heap[g]? := Below.heap_setCell w a v g h
theorem size_set (w : World) (a : Addr) (v : Value) : (w.setCell a v).heap.size = w.heap.size := by simp
theorem done_made (R O c : Nat) (q2 : Value) (w W1 : World) (hR : w.heap[R]? = some (.cells #[.int .u32 0, .int .i32 0, q2, .nilIface, .slice (some ⟨O, 0, none⟩) 4 c] 164 (0, 0)))
  (hb : Below w.heap.size (w.setCell ⟨R, 1, none⟩ (.int .i32 1)) W1) (hbsr : IsBsr w.heap.size (w.heap.size + 1) W1) :
  Done R w ((((W1.setCell ⟨R, 3, none⟩ (.iface 229 (.pointer (some ⟨w.heap.size + 1, 0, none⟩)))).setCell ⟨R, 4, none⟩ (.slice none 0 0)).drew.setCell ⟨R, 0, none⟩ (.int .u32 1)).setCell ⟨R, 1, none⟩ (.int .i32 0)) := by
 have hRl : R < w.heap.size := (Array.getElem?_eq_some_iff.1 hR).1
 have h1 : W1.heap[R]? = some (.cells #[.int .u32 0, .int .i32 1, q2, .nilIface, .slice (some ⟨O, 0, none⟩) 4 c] 164 (0, 0)) := by
  rw [hb.block R hRl]
  simp [World.setCell, Array.getElem?_modify, hR]
 have hne : ∀ g (o : Nat), g ≠ R → g ≠ (⟨R, o, none⟩ : Addr).block := fun g o h => h
 have hk : ∀ g, g < w.heap.size → g ≠ R → W1.heap[g]? = w.heap[g]? := fun g hg h => (hb.block g hg).trans (heap_set_ne w _ _ g (hne g 1 h))
 refine ⟨?_, ?_, ?_, ?_, ?_⟩
 ·
  refine ⟨hb.os, hb.tape, hb.output, ?_, fun g hg => ?_⟩
  ·
   simpa using hb.size
  ·
   have hgR : g ≠ R := by omega
   rw [heap_set_ne _ _ _ g (hne g _ hgR), heap_set_ne _ _ _ g (hne g _ hgR)]
   show ((W1.setCell _ _).setCell _ _).heap[g]? = _
   rw [heap_set_ne _ _ _ g (hne g _ hgR), heap_set_ne _ _ _ g (hne g _ hgR)]
   exact hk g (by omega) hgR
 ·
  simpa using hb.size
 ·
  intro g hg hgR
  rw [heap_set_ne _ _ _ g (hne g _ hgR), heap_set_ne _ _ _ g (hne g _ hgR)]
  show ((W1.setCell _ _).setCell _ _).heap[g]? = _
  rw [heap_set_ne _ _ _ g (hne g _ hgR), heap_set_ne _ _ _ g (hne g _ hgR)]
  exact hk g hg hgR
 ·
  rw [World.cell?_setCell_other _ _ _ _ (by simp), World.cell?_setCell_other _ _ _ _ (by simp), World.cell?_drew, World.cell?_setCell_other _ _ _ _ (by simp)]
  exact World.cell?_setCell_same _ _ _ (u := .nilIface) (by simp [World.cell?, h1])
 ·
  refine hbsr.step ?_ fun g hg hg2 o => ?_
  ·
   simp
  ·
   have hgR : g ≠ R := by omega
   have na : ∀ k : Nat, (⟨R, k, none⟩ : Addr) ≠ ⟨g, o, none⟩ := fun k h => hgR (congrArg Addr.block h).symm
   rw [World.cell?_setCell_other _ _ _ _ (na _), World.cell?_setCell_other _ _ _ _ (na _), World.cell?_drew, World.cell?_setCell_other _ _ _ _ (na _), World.cell?_setCell_other _ _ _ _ (na _)]
set_option maxRecDepth 100000 in
set_option maxHeartbeats 2000000 in
theorem doSlow_calls (R O c : Nat) (q2 : Value) (w : World) (hR : w.heap[R]? = some (.cells #[.int .u32 0, .int .i32 0, q2, .nilIface, .slice (some ⟨O, 0, none⟩) 4 c] 164 (0, 0))) (hO : O < w.heap.size) (hOR : O ≠ R)
   (o0 : w.cell? ⟨O, 0, none⟩ = some (.string ⟨#[92]⟩)) (o1 : w.cell? ⟨O, 1, none⟩ = some (.string ⟨#[92, 92]⟩))
   (o2 : w.cell? ⟨O, 2, none⟩ = some (.string ⟨#[10]⟩)) (o3 : w.cell? ⟨O, 3, none⟩ = some (.string ⟨#[92, 110]⟩)) :
   Calls Tryz.prog 147 #[.pointer (some ⟨R, 0, none⟩), .func (.func 127) #[.pointer (some ⟨R, 0, none⟩)] #[]] w fun e w' => e = .returned (.tuple #[]) ∧ Done R w w' := by
  have hRl : R < w.heap.size := (Array.getElem?_eq_some_iff.1 hR).1
  have na : ∀ (k : Nat) (o : Nat), (⟨R, k, none⟩ : Addr) ≠ ⟨O, o, none⟩ := fun k o h => hOR (congrArg Addr.block h).symm
  have hB := buildOnce_calls R O c (.int .u32 0) (.int .i32 1) q2 (w.setCell ⟨R, 1, none⟩ (.int .i32 1)) (by simp [World.setCell, Array.getElem?_modify, hR]) (by simpa using hO)
    (by rw [World.cell?_setCell_other _ _ _ _ (na _ _)]; exact o0) (by rw [World.cell?_setCell_other _ _ _ _ (na _ _)]; exact o1) (by rw [World.cell?_setCell_other _ _ _ _ (na _ _)]; exact o2) (by rw [World.cell?_setCell_other _ _ _ _ (na _ _)]; exact o3)
  have HB := Lib.hid hB
  have HR := Lib.hid hR
  have c0 : w.cell? ⟨R, 0, none⟩ = some (.int .u32 0) := by simp [World.cell?, hR]
  have c1 : w.cell? ⟨R, 1, none⟩ = some (.int .i32 0) := by simp [World.cell?, hR]
  have f0 : ∀ k, w.frozen? ⟨R, k, none⟩ = false := fun k => by simp [World.frozen?, hR]
  have hl := run_call_load (P := Tryz.prog) Tryz.func166 (by kernel_rfl) (by kernel_rfl) (by kernel_rfl) .u32 (by kernel_rfl) (w := w.setCell ⟨R, 1, none⟩ (.int .i32 1)) (a := ⟨R, 0, none⟩) (x := 0) ((World.cell?_setCell_other _ ⟨R, 1, none⟩ ⟨R, 0, none⟩ _ (by simp)).trans c0)
  have hnot : ∀ (x : Bool) (w : World), (Op.unary .not (.bool x)).run Tryz.prog w = .ok (.bool (!x)) w := fun _ _ => rfl
  have C0 := Lib.hid c0
  clear hB hR o0 o1 o2 o3 hO c0
  go_enter_defers Tryz.func147, Tryz.ntmps147
  go_wp2_with (first | (go_at_call 167; refine (lock_free ⟨R, 1, none⟩ _ c1 (f0 1)).mono ?_; rintro e w' ⟨rfl, rfl⟩) | (go_at_call 146; go_in))
  refine HB.out.mono ?_
  rintro e W' ⟨rfl, W1, hb, hbsr, rfl⟩
  rw [size_set] at hb hbsr
  have HD := done_made R O c q2 w W1 HR.out (by simpa using hb) (by simpa using hbsr)
  have h1 : W1.heap[R]? = some (.cells #[.int .u32 0, .int .i32 1, q2, .nilIface, .slice (some ⟨O, 0, none⟩) 4 c] 164 (0, 0)) := by
    rw [hb.block R (by simpa using hRl)]
    simp [World.setCell, Array.getElem?_modify, HR.out]
  have d0 : W1.cell? ⟨R, 0, none⟩ = some (.int .u32 0) := by simp [World.cell?, h1]
  have d1 : W1.cell? ⟨R, 1, none⟩ = some (.int .i32 1) := by simp [World.cell?, h1]
  have g0 : ∀ k, W1.frozen? ⟨R, k, none⟩ = false := fun k => by simp [World.frozen?, h1]
  have H1 := Lib.hid h1
  have HDD := Lib.hid HD
  clear hb hbsr h1 HD
  rw [size_set]
  go_wp2
  -- the door: two deferred calls, the last laid first
  refine leaves_cons (f := 169) (args := #[.pointer (some ⟨R, 0, none⟩), .bool true]) (by simp) (by simp [go_sem]) ?_
  refine (store_deferred ⟨R, 0, none⟩ (.int .u32 0) .returning _ ?_ (by simp [g0])).mono ?_
  · rw [World.cell?_setCell_other _ _ _ _ (by simp), World.cell?_setCell_other _ _ _ _ (by simp)]; exact d0
  rintro e u' w'' ⟨rfl, rfl, rfl⟩
  refine leaves_cons (f := 168) (args := #[.pointer (some ⟨R, 1, none⟩)]) (by simp [settle]) (by simp [go_sem]) ?_
  refine (unlock_deferred ⟨R, 1, none⟩ _ _ ?_ (by simp [g0])).mono ?_
  · rw [World.cell?_setCell_other _ _ _ _ (by simp), World.cell?_drew, World.cell?_setCell_other _ _ _ _ (by simp), World.cell?_setCell_other _ _ _ _ (by simp)]; exact d1
  rintro e u' w'' ⟨rfl, rfl, rfl⟩
  exact ⟨_, results_none rfl _ _ _, rfl, HDD.out⟩
theorem do_calls (R O c : Nat) (q2 : Value) (w : World) (hR : w.heap[R]? = some (.cells #[.int .u32 0, .int .i32 0, q2, .nilIface, .slice (some ⟨O, 0, none⟩) 4 c] 164 (0, 0))) (hO : O < w.heap.size) (hOR : O ≠ R)
   (o0 : w.cell? ⟨O, 0, none⟩ = some (.string ⟨#[92]⟩)) (o1 : w.cell? ⟨O, 1, none⟩ = some (.string ⟨#[92, 92]⟩))
   (o2 : w.cell? ⟨O, 2, none⟩ = some (.string ⟨#[10]⟩)) (o3 : w.cell? ⟨O, 3, none⟩ = some (.string ⟨#[92, 110]⟩)) :
   Calls Tryz.prog 126 #[.pointer (some ⟨R, 0, none⟩), .func (.func 127) #[.pointer (some ⟨R, 0, none⟩)] #[]] w fun e w' => e = .returned (.tuple #[]) ∧ Done R w w' := by
  have HS := Lib.hid (doSlow_calls R O c q2 w hR hO hOR o0 o1 o2 o3)
  have c0 : w.cell? ⟨R, 0, none⟩ = some (.int .u32 0) := by simp [World.cell?, hR]
  have hl := run_call_load (P := Tryz.prog) Tryz.func166 (by kernel_rfl) (by kernel_rfl) (by kernel_rfl) .u32 (by kernel_rfl) c0
  have hnot : ∀ (x : Bool) (w : World), (Op.unary .not (.bool x)).run Tryz.prog w = .ok (.bool (!x)) w := fun _ _ => rfl
  clear hR o0 o1 o2 o3 hO hOR c0
  go_enter Tryz.func126, Tryz.ntmps126
  go_wp2_with (first | (go_at_call 147; refine HS.out.mono ?_; rintro e w' ⟨rfl, hd⟩; have HD := Lib.hid hd; clear hd) | (go_at_call 146; go_in))
  go_end0
  exact ⟨rfl, HD.out⟩
end Go.Proofs.YtkblmomfiimkiaaGreatDoor.P
end
