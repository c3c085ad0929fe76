/- Joined out of the texts Kinds PureNames LaidRow RowNames by merge.py. Conditions: none. -/
import Derived.Test.YtkblmomfiimkiaaGreatDoorMayB
import Derived.Test.YtkblmomfiimkiaaGreatDoorPx18
import Derived.Test.YtkblmomfiimkiaaGreatDoorPx17
import Derived.Test.YtkblmomfiimkiaaGreatDoorRows
import Derived.Test.YtkblmomfiimkiaaGreatDoorLaidB
import Derived.Lib.LaidTab
import Derived.Lib.LaidU8
import Derived.LaidHandle
import Derived.Stop.LaidErr
import Derived.Test.YtkblmomfiimkiaaGreatDoorCards
import Derived.Test.YtkblmomfiimkiaaGreatDoorTie
import Derived.WalkKit
import Derived.ProofKit
import Derived.OpenShut
import Derived.ShutString
import Derived.ChangeOld
import Derived.Below
import Derived.SizedLaws
import Derived.Lay
import Derived.SevenTiedAt
import Derived.MakeChecks
section
/- The letters' kinds by number and by name, as the program tells them; the chapter's example. Conditions: none; no program stands here. -/
namespace Go.Proofs.YtkblmomfiimkiaaGreatDoor.P
open Go.RowKit Go.Proofs.YtkblmomfiimkiaaGreatDoorW.PrintWords Go.Proofs.YtkblmomfiimkiaaGreatDoorW.PrintLast Go.Proofs.YtkblmomfiimkiaaGreatDoorW.PrintMore
open Go.Proofs.YtkblmomfiimkiaaGreatDoor.Fp
open Go.Lib (itoa decDigits)

theorem Names_f : supercargoref09_Names.f = some namesB := rfl
theorem names_len : namesB.length = 29 := rfl
theorem names_nodup : ∀ i j, i < 29 → j < 29 → namesB.getD i ByteArray.empty = namesB.getD j ByteArray.empty → i = j := by
  have h : ∀ i : Fin 29, ∀ j : Fin 29, namesB.getD i.1 ByteArray.empty = namesB.getD j.1 ByteArray.empty → i = j := by decide +kernel
  intro i j hi hj e
  have := h ⟨i, hi⟩ ⟨j, hj⟩ e
  exact congrArg Fin.val this
/-- a kind's name -/
def nameK (n : Int) : ByteArray := if 0 ≤ n ∧ n ≤ 28 then namesB.getD n.toNat ByteArray.empty else ⟨#[]⟩
theorem Name_f' (n : Int) : post_Name.f n = some (nameK n) := by
  unfold post_Name.f post_names.f
  rw [Option.bind_some, names_len, show wrap64 (((29 : Nat) : Int) - 1) = 28 by kernel_rfl, within_f, Option.bind_some]
  unfold nameK btwB
  by_cases h0 : 0 ≤ n
  · by_cases h1 : n ≤ 28
    · rw [decide_eq_true h0, decide_eq_true h1, if_pos (show (true && true) = true from rfl), if_pos h0, if_pos (by omega), if_pos ⟨h0, h1⟩]; rfl
    · rw [decide_eq_true h0, decide_eq_false h1, if_neg (by simp), if_neg (by omega)]
  · rw [decide_eq_false h0, if_neg (by simp), if_neg (by omega)]
theorem index_hit (l : List ByteArray) (x : ByteArray) (j : Nat) (hj : j < l.length) (hs : l.length ≤ 4611686018427387904) (hx : l[j] = x) (hn : ∀ t (h : t < l.length), t < j → l[t] ≠ x) :
    ∀ (d i k : Nat), i + d = j → d < k → slices_Index_string_string.l0 k l x (l.length : Int) (i : Int) = some (j : Int) := by
  intro d
  induction d with
  | zero =>
    intro i k h1 h2
    obtain ⟨k, rfl⟩ : ∃ m, k = m + 1 := ⟨k - 1, by omega⟩
    obtain rfl : i = j := by omega
    simp only [slices_Index_string_string.l0]
    rw [if_pos (by omega), if_pos (by omega), if_pos (by omega), rdOf_nat l i hj, hx, if_pos rfl]
  | succ d ih =>
    intro i k h1 h2
    obtain ⟨k, rfl⟩ : ∃ m, k = m + 1 := ⟨k - 1, by omega⟩
    have hi : i < l.length := by omega
    simp only [slices_Index_string_string.l0]
    rw [if_pos (by omega), if_pos (by omega), if_pos (by omega), rdOf_nat l i hi, if_neg (fun e => hn i hi (by omega) (bytes_eq.1 e).symm), wr_nat i (by omega)]
    exact ih (i + 1) k (by omega) (by omega)
theorem index_miss (l : List ByteArray) (x : ByteArray) (hs : l.length ≤ 4611686018427387904) (hn : ∀ t (h : t < l.length), l[t] ≠ x) :
    ∀ (d i k : Nat), i + d = l.length → d < k → slices_Index_string_string.l0 k l x (l.length : Int) (i : Int) = some (-1) := by
  intro d
  induction d with
  | zero =>
    intro i k h1 h2
    obtain ⟨k, rfl⟩ : ∃ m, k = m + 1 := ⟨k - 1, by omega⟩
    simp only [slices_Index_string_string.l0]
    rw [if_neg (by omega)]
  | succ d ih =>
    intro i k h1 h2
    obtain ⟨k, rfl⟩ : ∃ m, k = m + 1 := ⟨k - 1, by omega⟩
    have hi : i < l.length := by omega
    simp only [slices_Index_string_string.l0]
    rw [if_pos (by omega), if_pos (by omega), if_pos (by omega), rdOf_nat l i hi, if_neg (fun e => hn i hi (bytes_eq.1 e).symm), wr_nat i (by omega)]
    exact ih (i + 1) k (by omega) (by omega)
theorem name_at (j : Nat) (h : j < namesB.length) : namesB[j] = namesB.getD j ByteArray.empty := by rw [List.getD_eq_getElem?_getD, List.getElem?_eq_getElem h]; rfl
theorem names_other (j : Nat) (hj : j < namesB.length) (x : ByteArray) (hx : namesB[j] = x) (t : Nat) (h : t < namesB.length) (ht : t ≠ j) : namesB[t] ≠ x := by
  intro e
  apply ht
  rw [name_at] at e hx
  exact names_nodup t j h hj (e.trans hx.symm)
theorem Kind_hit (x : ByteArray) (j : Nat) (hj : j < namesB.length) (hx : namesB[j] = x) (k : Nat) (hk : 40 < k) : post_Kind.f k x = some ((j : Int), true) := by
  unfold post_Kind.f post_names.f slices_Index_string_string.f
  have hh := index_hit namesB x j hj (by rw [names_len]; omega) hx (fun t h ht => names_other j hj x hx t h (by omega)) j 0 k (by omega) (by rw [names_len] at hj; omega)
  rw [show ((0 : Nat) : Int) = 0 from rfl] at hh
  rw [Option.bind_some, hh, Option.bind_some]
  have e : mx (j : Int) 0 = (j : Int) := by unfold mx; omega
  rw [e, decide_eq_true (by omega)]
theorem Kind_miss (x : ByteArray) (hn : ∀ t (h : t < namesB.length), namesB[t] ≠ x) (k : Nat) (hk : 40 < k) : post_Kind.f k x = some (0, false) := by
  unfold post_Kind.f post_names.f slices_Index_string_string.f
  have hh := index_miss namesB x (by rw [names_len]; omega) hn 29 0 k (by rw [names_len]) (by omega)
  rw [show ((0 : Nat) : Int) = 0 from rfl] at hh
  rw [Option.bind_some, hh, Option.bind_some]
  rfl

theorem itoa_small (n : Nat) (h : n < 10) : itoa (n : Int) = [UInt8.ofNat (48 + n)] := by
  unfold itoa
  rw [if_neg (by omega), Int.toNat_natCast, dec_small h]
theorem Itoa_f (n : Int) (h0 : -9223372036854775808 ≤ n) (h1 : n ≤ 9223372036854775807) : strconv_Itoa.f n = some (bs (itoa n)) := by
  unfold strconv_Itoa.f
  rw [if_pos ⟨h0, h1⟩]; rfl
theorem may_ack : post_May.f ⟨#[97]⟩ ⟨#[98]⟩ 0 28 3 ⟨#[]⟩ ⟨#[]⟩ ⟨#[]⟩ 0 0 ⟨#[]⟩ 0 [] [] = some true := by
  unfold post_May.f
  rw [if_pos ⟨by simp, by simp, (fun x h => by cases h), (fun x h => by cases h), by decide⟩]
  have h1 : btwB 28 0 28 = true := by decide
  have h2 : numbersB 0 3 0 0 = true := by decide
  have h3 : textsB ⟨#[97]⟩ ⟨#[98]⟩ ⟨#[]⟩ ⟨#[]⟩ ⟨#[]⟩ = true := by
    unfold textsB
    simp only [Lib.toList_data]
    decide +kernel
  have h4 : sumB ⟨#[]⟩ 0 = true := by
    unfold sumB
    rw [Lib.toList_data]
    rfl
  unfold mayLB kindB plainB
  rw [eqB_of rfl, h1, h2, h3, h4]
  simp
theorem record_ack (k : Nat) : post_record.f (k + 2) ⟨#[97]⟩ ⟨#[98]⟩ 0 28 3 ⟨#[]⟩ ⟨#[]⟩ ⟨#[]⟩ 0 0 ⟨#[]⟩ 0 [] [] = some [⟨⟨#[102, 114, 111, 109]⟩, ⟨#[97]⟩⟩, ⟨⟨#[116, 111]⟩, ⟨#[98]⟩⟩, ⟨⟨#[110, 117, 109, 98, 101, 114]⟩, bs [48]⟩, ⟨⟨#[107, 105, 110, 100]⟩, ⟨#[97, 99, 107]⟩⟩, ⟨⟨#[97, 99, 107]⟩, bs [51]⟩, ⟨⟨#[100, 101, 97, 108]⟩, ⟨#[]⟩⟩, ⟨⟨#[116, 101, 120, 116]⟩, ⟨#[]⟩⟩, ⟨⟨#[112, 97, 114, 116, 121]⟩, ⟨#[]⟩⟩, ⟨⟨#[105, 110, 100, 101, 120]⟩, bs [48]⟩, ⟨⟨#[100, 97, 121]⟩, bs [48]⟩, ⟨⟨#[115, 117, 109]⟩, ⟨#[]⟩⟩] := by
  have i0 : itoa 0 = [48] := itoa_small 0 (by omega)
  have i3 : itoa 3 = [51] := itoa_small 3 (by omega)
  have n28 : nameK 28 = ⟨#[97, 99, 107]⟩ := by rfl
  unfold post_record.f
  rw [Itoa_f 0 (by omega) (by omega), Itoa_f 3 (by omega) (by omega), Name_f', i0, i3, n28]
  rfl
theorem awakeL (k : Nat) (hk : 50 < k) : supercargolaw09_awake.f k = some true := by
  obtain ⟨k, rfl⟩ : ∃ m, k = m + 2 := ⟨k - 2, by omega⟩
  have hack : post_Kind.f (k + 2) ⟨#[97, 99, 107]⟩ = some (28, true) := Kind_hit ⟨#[97, 99, 107]⟩ 28 (by rw [names_len]; omega) rfl (k + 2) (by omega)
  have hT : post_Text.f (k + 2) ⟨#[97]⟩ ⟨#[98]⟩ 0 28 3 ⟨#[]⟩ ⟨#[]⟩ ⟨#[]⟩ 0 0 ⟨#[]⟩ 0 [] [] = some (⟨#[102, 114, 111, 109, 61, 97, 10, 116, 111, 61, 98, 10, 110, 117, 109, 98, 101, 114, 61, 48, 10, 107, 105, 110, 100, 61, 97, 99, 107, 10, 97, 99, 107, 61, 51, 10, 100, 101, 97, 108, 61, 10, 116, 101, 120, 116, 61, 10, 112, 97, 114, 116, 121, 61, 10, 105, 110, 100, 101, 120, 61, 48, 10, 100, 97, 121, 61, 48, 10, 115, 117, 109, 61, 10]⟩, 0) := by
    unfold post_Text.f
    rw [may_ack, Option.bind_some, if_pos rfl, record_ack, Option.bind_some]
    rfl
  have h0 : post_Name.f 0 = some ⟨#[111, 114, 100, 101, 114]⟩ := by rw [Name_f']; rfl
  unfold supercargolaw09_awake.f
  rw [hT, Option.bind_some, hack, Option.bind_some, h0]
  rw [if_pos rfl, if_pos (by decide), if_pos (by decide), if_pos (by decide), if_pos (by rw [Lib.toList_data]; rfl), Option.bind_some, if_pos (by rw [Lib.toList_data]), if_pos rfl]
end Go.Proofs.YtkblmomfiimkiaaGreatDoor.P
end

section
/- PostNames answers true at every number and every text. Conditions: none; no program stands here. -/
namespace Go.Proofs.YtkblmomfiimkiaaGreatDoor.P
open Go.RowKit Go.Proofs.YtkblmomfiimkiaaGreatDoorW.PrintWords Go.Proofs.YtkblmomfiimkiaaGreatDoorW.PrintLast Go.Proofs.YtkblmomfiimkiaaGreatDoorW.PrintMore
open Go.Proofs.YtkblmomfiimkiaaGreatDoor.Fp

theorem names_end (x0 : Int) (x1 x6 : ByteArray) (x7 : Int) (x8 : Bool) (x9 : Int) (h6 : x6 = nameK x0) (h8 : x8 = decide (x9 ≥ 0)) (h7 : x7 = mx x9 0) (k : Nat) (hk : 60 < k) :
    supercargolaw09_PostNames.l0 k x0 x1 x6 x7 x8 x9 namesB (namesB.length : Int) ((29 : Nat) : Int) = some true := by
  obtain ⟨k, rfl⟩ : ∃ m, k = m + 1 := ⟨k - 1, by omega⟩
  simp only [supercargolaw09_PostNames.l0]
  rw [if_neg (by rw [names_len]; omega), Name_f', Option.bind_some, if_pos (by rw [h6]), if_pos (by rw [h8]; simp), if_pos h7, awakeL k (by omega)]
  rfl
theorem names_miss (x0 : Int) (x1 x6 : ByteArray) (x7 : Int) (x8 : Bool) (x9 : Int) (h6 : x6 = nameK x0) (h8 : x8 = decide (x9 ≥ 0)) (h7 : x7 = mx x9 0) : ∀ (d i k : Nat), i + d = 29 → d + 60 < k → (∀ t (h : t < namesB.length), i ≤ t → namesB[t] ≠ x1) →
    supercargolaw09_PostNames.l0 k x0 x1 x6 x7 x8 x9 namesB (namesB.length : Int) (i : Int) = some true := by
  intro d
  induction d with
  | zero => intro i k h1 h2 _; obtain rfl : i = 29 := by omega
            exact names_end x0 x1 x6 x7 x8 x9 h6 h8 h7 k (by omega)
  | succ d ih =>
    intro i k h1 h2 hn
    obtain ⟨k, rfl⟩ : ∃ m, k = m + 1 := ⟨k - 1, by omega⟩
    have hi : i < namesB.length := by rw [names_len]; omega
    simp only [supercargolaw09_PostNames.l0]
    rw [if_pos (by omega), if_pos (by omega), if_pos (by omega), rdOf_nat namesB i hi, if_neg (fun e => hn i hi (Nat.le_refl _) (bytes_eq.1 e)), wr_nat i (by omega)]
    exact ih (i + 1) k (by omega) (by omega) (fun t h ht => hn t h (by omega))
theorem names_hit (x0 : Int) (x1 x6 : ByteArray) (x7 : Int) (x8 : Bool) (j : Nat) (hj : j < namesB.length) (hx : namesB[j] = x1) (h6 : x6 = nameK x0) (h8 : x8 = decide ((j : Int) ≥ 0)) (h7 : x7 = mx (j : Int) 0) : ∀ (d i k : Nat) (x9 : Int), i + d = j → d + 100 < k →
    supercargolaw09_PostNames.l0 k x0 x1 x6 x7 x8 x9 namesB (namesB.length : Int) (i : Int) = some true := by
  intro d
  induction d with
  | zero =>
    intro i k x9 h1 h2
    obtain ⟨k, rfl⟩ : ∃ m, k = m + 1 := ⟨k - 1, by omega⟩
    obtain rfl : i = j := by omega
    have hj' := hj
    rw [names_len] at hj'
    simp only [supercargolaw09_PostNames.l0]
    rw [if_pos (by omega), if_pos (by omega), if_pos (by omega), rdOf_nat namesB i hj, if_pos (bytes_eq.2 hx), wr_nat i (by omega)]
    exact names_miss x0 x1 x6 x7 x8 i h6 h8 h7 (28 - i) (i + 1) k (by omega) (by omega) (fun t h ht => names_other i hj x1 hx t h (by omega))
  | succ d ih =>
    intro i k x9 h1 h2
    obtain ⟨k, rfl⟩ : ∃ m, k = m + 1 := ⟨k - 1, by omega⟩
    have hi : i < namesB.length := by omega
    simp only [supercargolaw09_PostNames.l0]
    rw [if_pos (by omega), if_pos (by omega), if_pos (by omega), rdOf_nat namesB i hi, if_neg (fun e => names_other j hj x1 hx i hi (by omega) (bytes_eq.1 e)), wr_nat i (by rw [names_len] at hi; omega)]
    exact ih (i + 1) k x9 (by omega) (by omega)
theorem pure_PostNames : supercargolaw09_PostNames.Pure := by
  intro n s hn hs
  refine ⟨300, ?_⟩
  have key : ∀ x6 : ByteArray, x6 = nameK n → supercargolaw09_PostNames.j1 299 n s namesB x6 = some true := by
    intro x6 h6
    simp only [supercargolaw09_PostNames.j1]
    by_cases hex : ∃ j, ∃ h : j < namesB.length, namesB[j] = s
    · obtain ⟨j, hj, hx⟩ := hex
      have hj' := hj
      rw [names_len] at hj'
      rw [Kind_hit s j hj hx _ (by omega), Option.bind_some]
      exact names_hit n s x6 j true j hj hx h6 (by rw [decide_eq_true (by omega)]) (by unfold mx; omega) j 0 _ _ (by omega) (by omega)
    · have hm : ∀ t (h : t < namesB.length), namesB[t] ≠ s := fun t h e => hex ⟨t, h, e⟩
      rw [Kind_miss s hm _ (by omega), Option.bind_some]
      exact names_miss n s x6 0 false (-1) h6 rfl rfl 29 0 _ (by omega) (by omega) (fun t h _ => hm t h)
  unfold supercargolaw09_PostNames.f
  by_cases h100 : (s.size : Int) > 100
  · rw [if_pos h100, awakeL _ (by omega)]; rfl
  · rw [if_neg h100, Names_f, Option.bind_some, names_len]
    by_cases h0 : n ≥ 0
    · rw [if_pos h0]
      by_cases h1 : n < ((29 : Nat) : Int)
      · rw [decide_eq_true h1]
        simp only [supercargolaw09_PostNames.j0]
        rw [if_pos trivial, if_pos h0, names_len, if_pos h1]
        exact key _ (by unfold nameK; rw [if_pos ⟨h0, by omega⟩]; rfl)
      · rw [decide_eq_false h1]
        simp only [supercargolaw09_PostNames.j0]
        rw [if_neg (by simp)]
        exact key _ (by unfold nameK; rw [if_neg (by omega)])
    · rw [if_neg h0]
      simp only [supercargolaw09_PostNames.j0]
      rw [if_neg (by simp)]
      exact key _ (by unfold nameK; rw [if_neg (by omega)])
end Go.Proofs.YtkblmomfiimkiaaGreatDoor.P
end

section
/- What the rows of PostNames, PostSames, PostMays list of the library's variables is what the walks lean on. Conditions: the row's own. -/
namespace Go.Proofs.YtkblmomfiimkiaaGreatDoor.LaidRow
open Go.RowKit
theorem gP : Tryz.prog.globalNamed "internal/strconv.uint64pow10" = some 3 := by kernel_rfl
theorem gA : Tryz.prog.globalNamed "strings.asciiSpace" = some 0 := by kernel_rfl
set_option maxRecDepth 100000 in
theorem laid_glob {W : World} (hL : laidMet Tryz.prog Rows.postNamesRow.laid W) : P.Glob W := by
  have h3 := laidMet.tail (laidMet.tail hL)
  have h5 := laidMet.tail (laidMet.tail h3)
  refine ⟨?_, ?_⟩
  · exact Lib.tabIs_of_head (zs := Lib.pow10Tab) (k := .u64) (t := 200) (e := 178) (n := 20) gP (by kernel_rfl) Tryz.underlying200 Tryz.underlying178 (by kernel_rfl) (by kernel_rfl) h3
  · exact Lib.tabIs_of_head (zs := Lib.asciiSpaceTab) (k := .u8) (t := 123) (e := 5) (n := 256) gA (by kernel_rfl) Tryz.underlying123 Tryz.underlying5 (by kernel_rfl) (by kernel_rfl) h5
end Go.Proofs.YtkblmomfiimkiaaGreatDoor.LaidRow
end

section
/- The row of the law PostNames, where the library's variables stand as laid, and its tied card. Conditions: none beyond the row's own. -/
namespace Go.Proofs.YtkblmomfiimkiaaGreatDoor.postNames
open Go.ChangeShapes Go.WideShapes Go.ChangeAt Go.RowKit
open Go.ChangeMaps (open_string shut_string)
theorem own : ownKnob Tryz.prog.godebug = none := by kernel_rfl
set_option maxRecDepth 100000 in
theorem lifted (os : Os) (started : os.Started) (H : Type) (enc : TypeId × Value → H) :
    ReturnsInHanded {} Tryz.checked os 3 .any (fun w args => (Rows.postNamesSpec.pre enc Tryz.prog Tryz.f3 [] false w args ∧ laidMetH Tryz.prog Rows.postNamesRow.laid w) ∧ sizedMet enc Tryz.prog Tryz.f3 (OpenSpec.ofChange Rows.postNamesSpec) false w args)
      (Rows.postNamesSpec.post enc Tryz.prog Tryz.f3 false true false false) := by
  refine returnsInHanded_of_change_and (C := Tryz.checked) (X := fun w _ => laidMetH Tryz.prog Rows.postNamesRow.laid w) (fun _ _ _ hh h => h.of_heap hh) own started (by kernel_rfl) Tryz.func3
    (ChangeSpec.witness_shaped (enc := enc) (C := Tryz.checked) (os := os) (X := fun w _ => laidMetH Tryz.prog Rows.postNamesRow.laid w) false (World.laidAll Tryz.prog os Rows.postNamesRow.laid) #[.int .i64 0, .string ByteArray.empty] 8 (World.laidAll_os _ _ _)
      (World.shaped_of_ZipB (by kernel_rfl) (by kernel_rfl)) (by kernel_rfl) (by kernel_rfl) (by kernel_rfl)
      (by rw [MakeChecks.laidMetH_plain _ _ _ (by kernel_rfl)]; exact laidMet_laidAll _ (by kernel_rfl) (by kernel_rfl))) ?_
  intro W base args ds gs before hval0 hW _ hsz0 hL _
  have hsz : (DataW.weightsEach Tryz.prog (Tryz.f3.params.toList ++ Rows.postNamesSpec.plain.varTypes Tryz.prog) (ds ++ gs)).all (· ≤ reachBytes) = true := hsz0
  have hval : ∀ (j : Nat) t v, Tryz.f3.params[j]? = some t → args[j]? = some v → Value.okWide Tryz.prog W .any base t v := hval0
  have hW' := hW
  obtain ⟨p, q, hA0, hV, rfl, hfz, hnd⟩ := hW
  have hA : DataW.TrodAll enc Tryz.prog W 0 (fun _ => true) true Tryz.f3.params.toList args.toList ds p := hA0
  rw [Tryz.params3] at hA hval hsz
  obtain ⟨v0, vs0, d0, ds0, p0, q0, hargs, rfl, rfl, h0, r0⟩ := trodAll_cons hA
  obtain ⟨v1, vs1, d1, ds1, p1, q1, rfl, rfl, rfl, h1, r1⟩ := trodAll_cons r0
  obtain ⟨rfl, rfl, rfl⟩ := trodAll_nil r1
  obtain rfl : args = #[v0, v1] := by cases args; simp_all
  obtain ⟨rfl, rfl⟩ := trodVars_none hV
  obtain ⟨a0, rfl, rfl, rfl, w0⟩ := open_int Tryz.underlying3 (hval 0 3 v0 rfl rfl) h0
  obtain ⟨a1, rfl, rfl, rfl, y1⟩ := open_string Tryz.underlying9 (hval 1 9 v1 rfl rfl) h1
  have w1 : a1.size ≤ 140737488351232 := by
    have z := sized_string hsz (j := 1) (t := 9) rfl rfl
    rw [Array.length_toList] at z
    exact z
  clear hA0 hval0 hsz0 hsz
  rw [MakeChecks.laidMetH_plain _ _ _ (by kernel_rfl)] at hL
  refine (P.supercargolaw09_PostNames.walk P.pure_PostNames a0 a1 W (LaidRow.laid_glob hL) w0 w1).mono fun e W' ⟨he, bel⟩ => ?_
  subst he
  exact ⟨_, rfl, _, _, _, [], _, [], hW', trodAll_mk1 (shut_bool Tryz.underlying4 _), (trodAll_cons_mk (shut_int Tryz.underlying3 w0) (trodAll_cons_mk (shut_string Tryz.underlying9 y1) trodAll_mk0)), rfl, bel.frame _, fun h => by cases h⟩
theorem over : Rows.postNamesRow.holds Tryz.pinned (OpenSpec.ofChange Rows.postNamesSpec) :=
  OpenClaim.holds_of_wide 3 Tryz.f3 rfl rfl rfl rfl rfl rfl rfl ⟨rfl, rfl, rfl, rfl, rfl⟩ rfl rfl rfl rfl rfl (by kernel_rfl) Tryz.func3 (by kernel_rfl)
    (of_decide_eq_true (by kernel_rfl)) (by unfold Func.isWrapper; first | (rw [if_pos (by decide +kernel)]; kernel_rfl) | (rw [if_neg (by decide +kernel)]; exact ⟨rfl, rfl⟩))
    (fun os started H enc _ => lifted os started H enc)
theorem card_holds : Rows.PostNamesCardSaid :=
  Claim7.holds_tied_plain_at .later [] [.data, .data, .data, .listed, .data] true (true, "41138f73425698ce78896b7d647c5c9cb67ae76de2fdbde88d13e2b61f4abe3a") true over (fun _ h => by cases h) (by kernel_rfl) (fun _ h => by cases h) postNames_row_tie rfl ⟨rfl, rfl⟩ (by kernel_rfl) rfl
    (fun f fn hf hfn => by
      obtain rfl : f = 3 := Option.some.inj ((show Tryz.prog.funcNamed "supercargo/supercargolaw09.PostNames" = some 3 by kernel_rfl).symm.trans hf) |>.symm
      obtain rfl : fn = Tryz.f3 := (Option.some.inj (Tryz.func3.symm.trans hfn)).symm
      exact ⟨by kernel_rfl, fun j t ht => by
        rw [Tryz.params3] at ht
        have hm : t ∈ [3, 9] := by simpa using Array.mem_of_getElem? ht
        have hall : ([3, 9].all fun u => !Tryz.prog.wantsStandIn u) = true := by kernel_rfl
        exact (show Tryz.prog.wantsStandIn t = false by simpa using List.all_eq_true.1 hall t hm)⟩)
    (by kernel_rfl)
end Go.Proofs.YtkblmomfiimkiaaGreatDoor.postNames
namespace Go.Proofs.YtkblmomfiimkiaaGreatDoor
/-- The tied card, under a short name, for the claim. -/
theorem postNames_holds : Rows.PostNamesCardSaid := postNames.card_holds
end Go.Proofs.YtkblmomfiimkiaaGreatDoor
end
