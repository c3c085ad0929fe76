/- money.Text: a currency and an amount as text, or nothing where they may not be. Conditions: the library's table of powers stands as laid. -/
import Derived.Test.YtkblmomfiimkiaaGreatDoorLaidB
import Derived.Test.YtkblmomfiimkiaaGreatDoorNameB
import Derived.Test.YtkblmomfiimkiaaGreatDoorPx12
import Derived.Test.YtkblmomfiimkiaaGreatDoorPx16
import Derived.WalkKit
import Derived.WalkMore
import Derived.Deep.DeepCutAuto
import Derived.Lib.Repeat
namespace Go.Proofs.YtkblmomfiimkiaaGreatDoor.P
open Go.RowKit Go.Proofs.YtkblmomfiimkiaaGreatDoorW.PrintWords Go.Proofs.YtkblmomfiimkiaaGreatDoorW.PrintLast Go.Proofs.YtkblmomfiimkiaaGreatDoorW.PrintMore
open Go.Proofs.YtkblmomfiimkiaaGreatDoor.Fp
open Go.Lib (itoa decDigits)

def money_Text.f (a0 : ByteArray) (a1 : Int) : Option ByteArray := some ⟨(moneyT a0.data.toList a1).toArray⟩

theorem money_May_f (a : ByteArray) (n : Int) : money_May.f a n = some (moneyMay a.data.toList n) := by
  unfold money_May.f money_currency.f money_within.f moneyMay
  cases curB a.data.toList with
  | false => rfl
  | true =>
    rw [Option.bind_some, if_pos rfl]
    by_cases h : n ≥ -1099511627776
    · rw [if_pos h, Option.bind_some, Bool.true_and, decide_eq_true h, Bool.true_and]
    · rw [if_neg h, Option.bind_some, Bool.true_and, decide_eq_false h, Bool.false_and]
theorem money_digits_f (a : ByteArray) : money_digits.f 1 a = some (scaleN a.data.toList : Int) := by
  unfold money_digits.f scaleN
  simp only [money_digits.j0, Lib.toList_data]
  generalize a.data.toList = l
  by_cases h1 : l = [74, 80, 89]
  · subst h1; rfl
  · rw [if_neg h1]
    by_cases h2 : l = [75, 82, 87]
    · subst h2; rfl
    · have e : (l == [75, 82, 87]) = false := beq_eq_false_iff_ne.2 h2
      rw [e, if_neg (by simp), if_neg (show ¬ (l = [74, 80, 89] ∨ l = [75, 82, 87]) from fun h => h.elim h1 h2)]
      by_cases h3 : l = [66, 72, 68]
      · subst h3; rfl
      · rw [if_neg h3]
        by_cases h4 : l = [75, 87, 68]
        · subst h4; rfl
        · rw [if_neg h4]
          by_cases h5 : l = [84, 78, 68]
          · subst h5; rfl
          · rw [if_neg h5, if_neg (show ¬ (l = [66, 72, 68] ∨ l = [75, 87, 68] ∨ l = [84, 78, 68]) from fun h => h.elim h3 fun h => h.elim h4 h5)]; rfl
theorem scale_le (l : List UInt8) : scaleN l ≤ 3 := by unfold scaleN; split <;> (try split) <;> omega
theorem repeat_zeros (c : Nat) : Lib.repeatL [48] c = List.replicate c 48 := by
  induction c with
  | zero => rfl
  | succ c ih => rw [Lib.repeatL, ih, List.replicate_succ]; rfl
theorem dec_len_le : ∀ (d u : Nat), u < 10 ^ (d + 1) → (decDigits u).length ≤ d + 1 := by
  intro d
  induction d with
  | zero => intro u h; rw [dec_small (by simpa using h)]; simp
  | succ d ih =>
    intro u h
    by_cases hlt : u < 10
    · rw [dec_small hlt]; simp
    · rw [dec_big hlt, List.length_append, List.length_singleton]
      have := ih (u / 10) (by rw [Nat.pow_succ] at h; omega)
      omega
def bs (l : List UInt8) : ByteArray := ⟨l.toArray⟩
theorem bs_size (l : List UInt8) : (bs l).size = l.length := by simp [bs, ByteArray.size]
theorem bs_app (a b : List UInt8) : bs a ++ bs b = bs (a ++ b) := by apply ByteArray.ext; simp [bs]
theorem bs_list (s : ByteArray) : bs s.data.toList = s := by apply ByteArray.ext; simp [bs]
theorem bs_extract (l : List UInt8) (i j : Nat) : (bs l).extract i j = bs ((l.drop i).take (j - i)) := by
  apply ByteArray.ext
  rw [ByteArray.data_extract]
  apply Array.ext'
  simp [bs, List.extract]

theorem money_glue (a : ByteArray) (n : Int) (d q : Nat) (SG P : ByteArray) (hS : bs (signL n) = SG) (hP : bs (padded d (decDigits n.natAbs)) = P) (hq : q = P.size - d) :
    ((((a ++ (⟨#[32]⟩ : ByteArray)) ++ SG) ++ P.extract 0 q) ++ (⟨#[46]⟩ : ByteArray)) ++ P.extract q P.size = bs (a.data.toList ++ 32 :: (signL n ++ (decDigits (n.natAbs / 10 ^ d) ++ 46 :: digs d n.natAbs))) := by
  have hl : (padded d (decDigits n.natAbs)).length = (decDigits (n.natAbs / 10 ^ d)).length + d := by rw [padded_dec, List.length_append, digs_length]
  have hz : P.size = (decDigits (n.natAbs / 10 ^ d)).length + d := by rw [← hP, bs_size, hl]
  have hq' : q = (decDigits (n.natAbs / 10 ^ d)).length := by omega
  have e1 : P.extract 0 q = bs (decDigits (n.natAbs / 10 ^ d)) := by
    rw [← hP, bs_extract, padded_dec, List.drop_zero, Nat.sub_zero, hq', List.take_left']
    rfl
  have e2 : P.extract q P.size = bs (digs d n.natAbs) := by
    rw [← hP, bs_extract, bs_size, hl, padded_dec, hq', List.drop_left' rfl, List.take_of_length_le (by rw [digs_length]; omega)]
  rw [e1, e2, ← hS]
  conv => lhs; rw [← bs_list a]
  show bs _ ++ bs [32] ++ bs _ ++ bs _ ++ bs [46] ++ bs _ = bs _
  rw [bs_app, bs_app, bs_app, bs_app, bs_app]
  congr 1
  simp
theorem str_of {a b : ByteArray} (h : a = b) : Value.string a = .string b := by rw [h]
theorem int_of {a b : Int} (h : a = b) : Value.int .i64 a = .int .i64 b := by rw [h]
theorem ret_of {a b : ByteArray} (h : a = b) : Ending.returned (.string a) = .returned (.string b) := by rw [h]
theorem below_onto {B : Nat} {w w1 w2 : World} (h : Below B w w1) (hs : B ≤ w1.heap.size) (h2 : Below w1.heap.size w1 w2) : Below B w w2 := h.trans (h2.mono hs)

set_option maxRecDepth 100000 in
set_option maxHeartbeats 4000000 in
theorem money_Text.calls (a0_0 : ByteArray) (a0_1 : Int) (r : ByteArray) (w : World) (hG : Glob w) (h : money_Text.f a0_0 a0_1 = some r) :
    Calls Tryz.prog 104 #[.agg #[.string a0_0, .int .i64 a0_1]] w fun e w' => e = .returned (.string r) ∧ Below w.heap.size w w' := by
  obtain rfl := Option.some.inj h
  clear h
  have HG := Lib.hid hG
  clear hG
  cases hm : moneyMay a0_0.data.toList a0_1 with
  | false =>
    have HM := Lib.hid hm
    clear hm
    go_enter Tryz.func104, Tryz.ntmps104
    go_wp2_with fail
    refine (money_May.calls a0_0 a0_1 false _ (by rw [money_May_f, HM.out])).mono ?_
    rintro e w1 ⟨rfl, hb⟩
    have HB := Lib.hid (((Below.refl _ w).alloc (Nat.le_refl _) (.cells #[.string a0_0, .int .i64 a0_1] 30)).trans (hb.mono (by simp)))
    clear hb
    go_wp2_with fail
    go_ret
    exact ⟨by unfold moneyT; rw [HM.out]; rfl, HB.out⟩
  | true =>
    obtain ⟨hl, _, hn0, hn1⟩ := money_cur hm
    have hcs : a0_0.size ≤ 3 := by rw [← hl]; simp
    have HM := Lib.hid hm
    have HL := Lib.hid hl
    have hd3 := scale_le a0_0.data.toList
    obtain ⟨d, hd⟩ : ∃ d, scaleN a0_0.data.toList = d := ⟨_, rfl⟩
    rw [hd] at hd3
    have HD := Lib.hid hd
    obtain ⟨T, hT⟩ : ∃ T, bs (decDigits a0_1.natAbs) = T := ⟨_, rfl⟩
    have HT := Lib.hid hT
    have hten : (10 : Nat) ^ (12 + 1) = 10000000000000 := by decide
    have hTs : T.size ≤ 13 := by rw [← hT, bs_size]; exact dec_len_le 12 _ (by rw [hten]; omega)
    clear hten
    have hTp : 1 ≤ T.size := by rw [← hT, bs_size]; exact List.length_pos_iff.2 (dec_ne _)
    obtain ⟨SG, hSG⟩ : ∃ SG, bs (signL a0_1) = SG := ⟨_, rfl⟩
    have HSG := Lib.hid hSG
    have hSs : SG.size ≤ 1 := by rw [← hSG, bs_size]; unfold signL; split <;> simp
    have hMb : (a0_1.natAbs : Int) ≤ 1099511627776 := by omega
    obtain ⟨M, hM⟩ : ∃ M : Int, (a0_1.natAbs : Int) = M := ⟨_, rfl⟩
    have hM0 : 0 ≤ M := by omega
    rw [hM] at hMb
    have HMM := Lib.hid hM
    have hF : strconv_FormatInt.f M 10 = some T := by
      unfold strconv_FormatInt.f
      rw [if_pos ⟨rfl, by omega, by omega⟩, ← hT, ← hM]
      unfold itoa bs
      rw [if_neg (by omega)]; rfl
    have HF := Lib.hid hF
    clear hm hl hd hT hSG hM hF
    go_enter Tryz.func104, Tryz.ntmps104
    go_wp2_with fail
    refine (money_May.calls a0_0 a0_1 true _ (by rw [money_May_f, HM.out])).mono ?_
    rintro e w1 ⟨rfl, hb⟩
    have hk := hb.block w.heap.size (by simp)
    have hk2 : w1.heap[w.heap.size]? = some (.cells #[.string a0_0, .int .i64 a0_1] 30 (0, 0)) := hk.trans (by show (w.heap.push _)[w.heap.size]? = _; rw [Array.getElem?_push_size])
    have HK := Lib.hid hk2
    have k0 : w1.cell? ⟨w.heap.size, 0, none⟩ = some (.string a0_0) := (blk_cell hk2 0).trans rfl
    have k1 : w1.cell? ⟨w.heap.size, 1, none⟩ = some (.int .i64 a0_1) := (blk_cell hk2 1).trans rfl
    have HB := Lib.hid (((Below.refl _ w).alloc (Nat.le_refl _) (.cells #[.string a0_0, .int .i64 a0_1] 30)).trans (hb.mono (by simp)))
    clear hb hk hk2
    go_wp2_with fail
    go_quiet (fail)
    have HK3 := Lib.hid (show (w1.drewN nq).heap[w.heap.size]? = some (.cells #[.string a0_0, .int .i64 a0_1] 30 (0, 0)) from HK.out)
    have HB3 := Lib.hid (pw_below_drewN HB.out nq)
    clear HK HB
    go_upto_if 15 with (fail)
    go_cut [3, 4] (fun v3 v4 wc => v3 = .string SG ∧ v4 = .int .i64 M ∧ Hid (wc.heap[w.heap.size]? = some (.cells #[.string a0_0, .int .i64 a0_1] 30 (0, 0))) ∧ Hid (Below w.heap.size w wc))
    case first =>
      by_cases hn : a0_1 < 0
      · go_wp2_with fail
        go_meet
        case rel => exact ⟨str_of (by rw [← HSG.out]; unfold signL; rw [if_pos hn]; rfl), int_of (by have := HMM.out; omega), HK3, HB3⟩
      · go_wp2_with fail
        go_meet
        case rel => exact ⟨str_of (by rw [← HSG.out]; unfold signL; rw [if_neg (by omega)]; rfl), int_of (by have := HMM.out; omega), HK3, HB3⟩
    case rest =>
      obtain ⟨rfl, rfl, HK4, HB4⟩ := hcut
      clear HK3 HB3 k0 k1
      have k0 : wc.cell? ⟨w.heap.size, 0, none⟩ = some (.string a0_0) := (blk_cell HK4.out 0).trans rfl
      have k1 : wc.cell? ⟨w.heap.size, 1, none⟩ = some (.int .i64 a0_1) := (blk_cell HK4.out 1).trans rfl
      go_wp2_with fail
      refine (money_digits.calls 1 a0_0 d _ (by rw [money_digits_f, HD.out])).mono ?_
      rintro e w2 ⟨rfl, ⟨nd, rfl⟩⟩
      have HB5 := Lib.hid (pw_below_drewN HB4.out nd)
      have HK5 := Lib.hid (show (wc.drewN nd).heap[w.heap.size]? = some (.cells #[.string a0_0, .int .i64 a0_1] 30 (0, 0)) from HK4.out)
      clear HB4 HK4
      go_wp2_with fail
      refine (strconv_FormatInt.calls M 10 T _ (glob_below HG.out HB5.out) HF.out).mono ?_
      rintro e w3 ⟨rfl, hb⟩
      have HB6 := Lib.hid (below_onto HB5.out (by have := HB5.out.size; exact this) hb)
      have HK6 := Lib.hid ((hb.block w.heap.size (blk_lt HK5.out)).trans HK5.out)
      clear hb HB5 HK5 k0 k1
      have k0 : w3.cell? ⟨w.heap.size, 0, none⟩ = some (.string a0_0) := (blk_cell HK6.out 0).trans rfl
      have k1 : w3.cell? ⟨w.heap.size, 1, none⟩ = some (.int .i64 a0_1) := (blk_cell HK6.out 1).trans rfl
      by_cases hd0 : d = 0
      · subst hd0
        go_wp2_with fail
        go_ret
        exact ⟨ret_of (by unfold moneyT; rw [if_pos HM.out, HD.out, ← HSG.out, ← HT.out, ← bs_list a0_0]; unfold amountL; rw [if_pos rfl, Nat.pow_zero, Nat.div_one, List.append_nil]; show bs _ ++ bs [32] ++ bs _ ++ bs _ = bs _; rw [bs_app, bs_app, bs_app]; congr 1; simp [bs]), HB6.out⟩
      · have hd1 : ¬ (d : Int) = 0 := by omega
        have hdb : ((d : Int) == 0) = false := by simpa using hd1
        obtain ⟨P, hP⟩ : ∃ P, bs (padded d (decDigits a0_1.natAbs)) = P := ⟨_, rfl⟩
        have HP := Lib.hid hP
        have hTl : T.size = (decDigits a0_1.natAbs).length := by rw [← HT.out, bs_size]
        have hPs : P.size = d + 1 - T.size + T.size := by rw [← hP, bs_size]; unfold padded; rw [List.length_append, List.length_replicate, hTl]
        have HTl := Lib.hid hTl
        have hPd : d + 1 ≤ P.size := by omega
        have hPm : P.size ≤ 17 := by omega
        clear hP hPs hTl
        go_upto_if 38 with (fail)
        go_cut [6] (fun v6 wc => v6 = .string P ∧ Hid (wc.heap[w.heap.size]? = some (.cells #[.string a0_0, .int .i64 a0_1] 30 (0, 0))) ∧ Hid (Below w.heap.size w wc))
        case first =>
          by_cases hlt : T.size < d + 1
          · obtain ⟨c, hc⟩ : ∃ c : Nat, (d : Int) + 1 - T.size = c := ⟨d + 1 - T.size, by omega⟩
            have hcn : c = d + 1 - T.size := by omega
            have hR : strings_Repeat.f ⟨#[48]⟩ ((d : Int) + 1 - T.size) = some (bs (List.replicate c 48)) := by
              unfold strings_Repeat.f
              rw [hc, if_pos ⟨by omega, by omega, by show 1 * _ ≤ _; simp; omega⟩, Int.toNat_natCast]
              show some (bs (Lib.repeatL [48] c)) = _
              rw [repeat_zeros]
            have HR := Lib.hid hR
            have HC := Lib.hid hcn
            have hrs : (bs (List.replicate c 48)).size ≤ 4 := by rw [bs_size, List.length_replicate]; omega
            generalize hRR : bs (List.replicate c 48) = RR at HR hrs
            have HRR := Lib.hid hRR
            have hlt' : (T.size : Int) < (d : Int) + 1 := by omega
            clear hc hR hcn hRR hlt
            go_wp2_with fail
            refine (strings_Repeat.calls _ _ RR _ HR.out).mono ?_
            rintro e w4 ⟨rfl, hb⟩
            have HB7 := Lib.hid (below_onto HB6.out HB6.out.size hb)
            have HK7 := Lib.hid ((hb.block w.heap.size (blk_lt HK6.out)).trans HK6.out)
            clear hb
            go_wp2_with fail
            go_meet
            case rel => exact ⟨str_of (by rw [← HP.out, ← HRR.out, ← HT.out, bs_app, HC.out, HTl.out]; rfl), HK7, HB7⟩
          · have hlt' : ¬ (T.size : Int) < (d : Int) + 1 := by omega
            have H0 := Lib.hid (show d + 1 - T.size = 0 by omega)
            go_wp2_with fail
            go_meet
            case rel => exact ⟨str_of (by rw [← HP.out, ← HT.out]; unfold padded; rw [← HTl.out, H0.out]; rfl), HK6, HB6⟩
        case rest =>
          obtain ⟨rfl, HK8, HB8⟩ := hcut
          clear HK6 HB6 k0 k1
          have k0 : wc.cell? ⟨w.heap.size, 0, none⟩ = some (.string a0_0) := (blk_cell HK8.out 0).trans rfl
          have k1 : wc.cell? ⟨w.heap.size, 1, none⟩ = some (.int .i64 a0_1) := (blk_cell HK8.out 1).trans rfl
          obtain ⟨q, hq⟩ : ∃ q : Nat, (P.size : Int) - d = q := ⟨P.size - d, by omega⟩
          have HQ := Lib.hid (show q = P.size - d by omega)
          have hq1 : (0 : Int) ≤ (q : Int) := by omega
          have hq2 : (q : Int) ≤ (P.size : Int) := by omega
          have hq3 : q ≤ P.size := by omega
          go_upto_region 14 with (fail)
          clear hq
          go_quiet (fail)
          go_wp2_with fail
          go_ret
          refine ⟨ret_of ?_, pw_below_drewN HB8.out nq⟩
          have e := money_glue a0_0 a0_1 d q SG P HSG.out HP.out HQ.out
          rw [e]
          unfold moneyT amountL
          rw [if_pos HM.out, HD.out, if_neg hd0]
          rfl
end Go.Proofs.YtkblmomfiimkiaaGreatDoor.P
