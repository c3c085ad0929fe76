/- What the claim's theorem leans on. Conditions: none of its own. (Written by prune.py out of the texts May9, without what the claim doesn't lean on.) -/
import Derived.Lib.Hide
import Derived.Test.YtkblmomfiimkiaaGreatDoorM2
import Derived.Test.YtkblmomfiimkiaaGreatDoorM4
section
namespace Go.Proofs.YtkblmomfiimkiaaGreatDoor.P
open Go.RowKit Go.Proofs.YtkblmomfiimkiaaGreatDoorW.PrintWords Go.Proofs.YtkblmomfiimkiaaGreatDoorW.PrintLast Go.Proofs.YtkblmomfiimkiaaGreatDoorW.PrintMore
attribute [local go_sem] lb0 lb1 lb2 lb3 lb4 lb5 lb6 lb7 lb8 lb9 lb10 lb11 lb12 lb13
def bad1V (x : S33) (bt : Int → Int → Int → Bool) (nm : ByteArray → Bool) : Bool := !nm x.f0 || (!nm x.f1 || (x.f0.toList == x.f1.toList || (!bt x.f3 0 28 || (!bt x.f2 0 1048576 || !bt x.f4 0 1048576))))
def bad2V (x : S33) (bt : Int → Int → Int → Bool) (sm : ByteArray → Bool) (no mm : ByteArray → Int → Bool) : Bool := !sm x.f5 || (!sm x.f7 || (decide (4096 < (x.f6.size : Int)) || (!bt x.f8 (-1) 2 || (!bt x.f9 0 1048576 || (!no x.f10.f0 x.f10.f1 && !mm x.f10.f0 x.f10.f1)))))
def bad3V (x : S33) : Bool := decide (8 < (x.f11.length : Int)) || decide (32 < (x.f12.length : Int))
def ackV (x : S33) (no : ByteArray → Int → Bool) : Bool := x.f2 == 0 && (x.f5.toList.isEmpty && (x.f6.toList.isEmpty && (x.f7.toList.isEmpty && (x.f8 == 0 && (x.f9 == 0 && (no x.f10.f0 x.f10.f1 && ((x.f11.length : Int) + (x.f12.length : Int) == 0)))))))
def mayV (x : S33) (bt : Int → Int → Int → Bool) (nm sm : ByteArray → Bool) (no mm : ByteArray → Int → Bool) (pv tv : S38 → Bool) : Bool :=
 !bad1V x bt nm && (!bad2V x bt sm no mm && (!bad3V x && (x.f11.all (fun y => pv y && tv y) && (x.f12.all nm && (!(x.f3 == 28) || ackV x no)))))
theorem all_step {α : Type} (p : α → Bool) {l : List α} {i : Nat} (h : i < l.length) (h0 : (l.take i).all p = true) (hp : p l[i] = true) : (l.take (i + 1)).all p = true := by
 rw [List.take_succ_eq_append_getElem h, List.all_append, h0]; simp [hp]
theorem all_miss {α : Type} (p : α → Bool) {l : List α} {i : Nat} (h : i < l.length) (hp : p l[i] = false) : l.all p = false := by
 rw [← Bool.not_eq_true, List.all_eq_true]; intro g; rw [g _ (List.getElem_mem h)] at hp; cases hp
theorem retB {a b : Bool} (h : a = b) : Ending.returned (.bool a) = .returned (.bool b) := by rw [h]
set_option maxRecDepth 100000 in
set_option maxHeartbeats 4000000 in
theorem may9_walk (x : S33) (A : Option Addr) (c : Nat) (B : Option Addr) (d : Nat) (w : World) (hR : LetR w x A c B d) (hz : x.f11.length ≤ 4398046511104 ∧ x.f12.length ≤ 4398046511104) (bt : Int → Int → Int → Bool) (nm sm : ByteArray → Bool) (no mm : ByteArray → Int → Bool) (pv tv : S38 → Bool)
  (hbt : ∀ (p : CBox w.heap.size (letC x A c B d) w) (a lo hi : Int), Calls Tryz.prog 45 #[.int .i64 a, .int .i64 lo, .int .i64 hi] p.W fun e w' => e = .returned (.bool (bt a lo hi)) ∧ ∃ q : CBox w.heap.size (letC x A c B d) w, w' = q.W)
  (hnm : ∀ (p : CBox w.heap.size (letC x A c B d) w) (s : ByteArray), s ∈ x.f0 :: x.f1 :: x.f12 → Calls Tryz.prog 44 #[.string s] p.W fun e w' => e = .returned (.bool (nm s)) ∧ ∃ q : CBox w.heap.size (letC x A c B d) w, w' = q.W)
  (hsm : ∀ (p : CBox w.heap.size (letC x A c B d) w) (s : ByteArray), s ∈ [x.f5, x.f7] → Calls Tryz.prog 46 #[.string s] p.W fun e w' => e = .returned (.bool (sm s)) ∧ ∃ q : CBox w.heap.size (letC x A c B d) w, w' = q.W)
  (hno : ∀ (p : CBox w.heap.size (letC x A c B d) w), Calls Tryz.prog 47 #[.agg #[.string x.f10.f0, .int .i64 x.f10.f1]] p.W fun e w' => e = .returned (.bool (no x.f10.f0 x.f10.f1)) ∧ ∃ q : CBox w.heap.size (letC x A c B d) w, w' = q.W)
  (hmm : ∀ (p : CBox w.heap.size (letC x A c B d) w), Calls Tryz.prog 48 #[.agg #[.string x.f10.f0, .int .i64 x.f10.f1]] p.W fun e w' => e = .returned (.bool (mm x.f10.f0 x.f10.f1)) ∧ ∃ q : CBox w.heap.size (letC x A c B d) w, w' = q.W)
  (hpv : ∀ (p : CBox w.heap.size (letC x A c B d) w) (y : S38) (D : Option Addr) (n : Nat), y ∈ x.f11 → y.f3.length ≤ n → Kd.C k43 p.W D y.f3.length y.f3 → Calls Tryz.prog 49 #[.agg #[.int .i64 y.f0, .string y.f1, .string y.f2, .slice D y.f3.length n]] p.W fun e w' => e = .returned (.bool (pv y)) ∧ ∃ q : CBox w.heap.size (letC x A c B d) w, w' = q.W)
  (hrv : ∀ (p : CBox w.heap.size (letC x A c B d) w) (y : S38) (D : Option Addr) (n : Nat), y ∈ x.f11 → pv y = true → y.f3.length ≤ n → Kd.C k43 p.W D y.f3.length y.f3 → Calls Tryz.prog 50 #[.agg #[.int .i64 y.f0, .string y.f1, .string y.f2, .slice D y.f3.length n]] p.W fun e w' => ∃ (D2 : Option Addr) (m n2 : Nat) (q : CBox w.heap.size (letC x A c B d) w), (e = .returned (.slice D2 m n2) ∧ w' = q.W) ∧ Hid (Calls Tryz.prog 24 #[.slice D2 m n2] q.W fun e w' => ∃ s : ByteArray, e = .returned (.tuple #[.string s, .int .i64 0]) ∧ Hid (tv y = decide ((s.size : Int) ≤ 4096)) ∧ ∃ q : CBox w.heap.size (letC x A c B d) w, w' = q.W)) :
  Calls Tryz.prog 17 #[.agg (letC x A c B d)] w fun e w' => e = .returned (.bool (mayV x bt nm sm no mm pv tv)) ∧ Below w.heap.size w w' := by
 have HBT := Lib.hid hbt
 have HNM := Lib.hid hnm
 have HSM := Lib.hid hsm
 have HNO := Lib.hid hno
 have HMM := Lib.hid hmm
 have HPV := Lib.hid hpv
 have HRV := Lib.hid hrv
 have HR := Lib.hid hR
 have HZ := Lib.hid hz
 clear hbt hnm hsm hno hmm hpv hrv hR hz
 have HN := Lib.hid (cbox_new w (letC x A c B d))
 go_enter Tryz.func17, Tryz.ntmps17
 go_upto_region 1 with (fail)
 obtain ⟨p0, hp0⟩ := HN.out
 rw [hp0]
 clear HN hp0
 go_cut [41] (fun v41 wc => v41 = .bool (bad1V x bt nm) ∧ ∃ p : CBox w.heap.size (letC x A c B d) w, wc = p.W)
 case first =>
  go_wp2_with (first | (go_at_call 44; (with_reducible refine (HNM.out _ _ ?_).mono ?_); (case refine_1 => simp); rintro e w' ⟨rfl, q, rfl⟩) | (go_at_call 45; (with_reducible refine (HBT.out _ _ _ _).mono ?_); rintro e w' ⟨rfl, q, rfl⟩))
  all_goals (go_meet; try (case rel => exact ⟨by simp [bad1V, *], _, rfl⟩))
 case rest =>
  obtain ⟨rfl, p1, rfl⟩ := hcut
  cases hb1 : bad1V x bt nm with
  | true =>
   have hv : mayV x bt nm sm no mm pv tv = false := by unfold mayV; rw [hb1]; rfl
   have HV := Lib.hid hv
   clear hv hb1
   go_wp2_with fail
   go_ret
   exact ⟨retB HV.out.symm, p1.below⟩
  | false =>
   have HB1 := Lib.hid hb1
   clear hb1
   go_upto_region 3 with (fail)
   go_cut [81] (fun v81 wc => v81 = .bool (bad2V x bt sm no mm) ∧ ∃ p : CBox w.heap.size (letC x A c B d) w, wc = p.W)
   case first =>
    go_wp2_with (first | (go_at_call 46; (with_reducible refine (HSM.out _ _ ?_).mono ?_); (case refine_1 => simp); rintro e w' ⟨rfl, q, rfl⟩) | (go_at_call 45; (with_reducible refine (HBT.out _ _ _ _).mono ?_); rintro e w' ⟨rfl, q, rfl⟩) | (go_at_call 47; (with_reducible refine (HNO.out _).mono ?_); rintro e w' ⟨rfl, q, rfl⟩) | (go_at_call 48; (with_reducible refine (HMM.out _).mono ?_); rintro e w' ⟨rfl, q, rfl⟩))
    all_goals (go_meet; try (case rel => exact ⟨by simp [bad2V, *], _, rfl⟩))
   case rest =>
    obtain ⟨rfl, p2, rfl⟩ := hcut
    cases hb2 : bad2V x bt sm no mm with
    | true =>
     have hv : mayV x bt nm sm no mm pv tv = false := by unfold mayV; rw [HB1.out, hb2]; rfl
     have HV := Lib.hid hv
     clear hv hb2
     go_wp2_with fail
     go_ret
     exact ⟨retB HV.out.symm, p2.below⟩
    | false =>
     have HB2 := Lib.hid hb2
     clear hb2
     go_upto_region 5 with (fail)
     go_cut [91] (fun v91 wc => v91 = .bool (bad3V x) ∧ ∃ p : CBox w.heap.size (letC x A c B d) w, wc = p.W)
     case first =>
      go_wp2_with fail
      all_goals (go_meet; try (case rel => exact ⟨by simp [bad3V, *], _, rfl⟩))
     case rest =>
      obtain ⟨rfl, p3, rfl⟩ := hcut
      cases hb3 : bad3V x with
      | true =>
       have hv : mayV x bt nm sm no mm pv tv = false := by unfold mayV; rw [HB1.out, HB2.out, hb3]; rfl
       have HV := Lib.hid hv
       clear hv hb3
       go_wp2_with fail
       go_ret
       exact ⟨retB HV.out.symm, p3.below⟩
      | false =>
       have hv : mayV x bt nm sm no mm pv tv = (x.f11.all (fun y => pv y && tv y) && (x.f12.all nm && (!(x.f3 == 28) || ackV x no))) := by unfold mayV; rw [HB1.out, HB2.out, hb3]; rfl
       have HV := Lib.hid hv
       clear hv hb3 HB1 HB2
       go_wp2_with fail
       go_loopg [3] x.f11.length (fun g v3 wr => ∃ (i : Nat) (q : CBox w.heap.size (letC x A c B d) w), v3 = .int .i64 i ∧ wr = q.W ∧ i ≤ x.f11.length ∧ x.f11.length - i ≤ g ∧ Hid ((x.f11.take i).all (fun y => pv y && tv y) = true))
       case atStart => exact ⟨0, p3, rfl, rfl, Nat.zero_le _, by omega, Lib.hid rfl⟩
       case round =>
        rename Nat => G
        obtain ⟨i, q, rfl, rfl, hi, hg, HE⟩ := hrel
        have hz1 := HZ.out.1
        have hz2 := HZ.out.2
        by_cases hlt : i < x.f11.length
        ·
         obtain ⟨ad0, D, n, hA0, k0, k1, k2, k3, k4, k5⟩ := at_T38 HR.out.rA (i : Int) (by omega) (by omega)
         rw [Int.toNat_natCast] at k0 k1 k2 k3
         rw [rdD_nat x.f11 i hlt] at k0 k1 k2 k3 k4 k5
         obtain ⟨y, hy⟩ : ∃ y, x.f11[i] = y := ⟨_, rfl⟩
         have hym : y ∈ x.f11 := by rw [← hy]; exact List.getElem_mem hlt
         rw [hy] at k0 k1 k2 k3 k4 k5
         have e0 := fun p : CBox w.heap.size (letC x A c B d) w => pw_cell_below p.below k0
         have e1 := fun p : CBox w.heap.size (letC x A c B d) w => pw_cell_below p.below k1
         have e2 := fun p : CBox w.heap.size (letC x A c B d) w => pw_cell_below p.below k2
         have e3 := fun p : CBox w.heap.size (letC x A c B d) w => pw_cell_below p.below k3
         have hc := fun p : CBox w.heap.size (letC x A c B d) w => HPV.out p y D n hym k4 (Kd.C_below k5 p.below)
         have HX := Lib.hid hy
         subst hA0
         clear hy k0 k1 k2 k3
         cases hq : pv y with
         | false =>
          rw [hq] at hc
          have HC := Lib.hid hc
          have hv : mayV x bt nm sm no mm pv tv = false := by rw [HV.out, all_miss _ hlt (by show (pv x.f11[i] && tv x.f11[i]) = false; rw [HX.out, hq]; rfl)]; rfl
          have HV2 := Lib.hid hv
          clear hc hq hv k4 k5 HV HE
          go_wp2_with (go_at_call 49; (with_reducible refine (HC.out _).mono ?_); rintro e w' ⟨rfl, q1, rfl⟩)
          go_ret
          exact ⟨retB HV2.out.symm, q1.below⟩
         | true =>
          have hc2 := fun p => HRV.out p y D n hym hq k4 (Kd.C_below k5 p.below)
          rw [hq] at hc
          have HC := Lib.hid hc
          have HC2 := Lib.hid hc2
          have HQ := Lib.hid hq
          clear hc hc2 hq k4 k5
          cases ht : tv y with
          | true =>
           have HT := Lib.hid ht
           clear ht
           go_wp2_with (first | (go_at_call 49; (with_reducible refine (HC.out _).mono ?_); rintro e w' ⟨rfl, q1, rfl⟩) | (go_at_call 50; (with_reducible refine (HC2.out _).mono ?_); rintro e w' ⟨D2, m, n2, q2, ⟨rfl, rfl⟩, HTX⟩) | (go_at_call 24; (with_reducible refine HTX.out.mono ?_); rintro e w' ⟨s, rfl, HS, q3, rfl⟩; have hs4 := HS.out; rw [HT.out] at hs4; have hs5 := of_decide_eq_true hs4.symm; clear hs4))
           go_roundg (x.f11.length - (i + 1))
           case measure => omega
           case rel => exact ⟨i + 1, _, by go_num, rfl, by omega, by omega, Lib.hid (all_step _ hlt HE.out (by show (pv x.f11[i] && tv x.f11[i]) = true; rw [HX.out, HQ.out, HT.out]; rfl))⟩
          | false =>
           have hv : mayV x bt nm sm no mm pv tv = false := by rw [HV.out, all_miss _ hlt (by show (pv x.f11[i] && tv x.f11[i]) = false; rw [HX.out, HQ.out, ht]; rfl)]; rfl
           have HV2 := Lib.hid hv
           have HT := Lib.hid ht
           clear ht hv HV HE
           go_wp2_with (first | (go_at_call 49; (with_reducible refine (HC.out _).mono ?_); rintro e w' ⟨rfl, q1, rfl⟩) | (go_at_call 50; (with_reducible refine (HC2.out _).mono ?_); rintro e w' ⟨D2, m, n2, q2, ⟨rfl, rfl⟩, HTX⟩) | (go_at_call 24; (with_reducible refine HTX.out.mono ?_); rintro e w' ⟨s, rfl, HS, q3, rfl⟩; have hs4 := HS.out; rw [HT.out] at hs4; have hs5 := of_decide_eq_false hs4.symm; clear hs4))
           go_ret
           exact ⟨retB HV2.out.symm, CBox.below _⟩
        ·
         obtain rfl : i = x.f11.length := by omega
         have h1 := HE.out
         rw [List.take_length] at h1
         have hv2 := HV.out
         rw [h1, Bool.true_and] at hv2
         have HV2 := Lib.hid hv2
         clear h1 HE HV hv2
         go_wp2_with fail
         go_loopg [6] x.f12.length (fun g v6 wr => ∃ (i : Nat) (q : CBox w.heap.size (letC x A c B d) w), v6 = .int .i64 i ∧ wr = q.W ∧ i ≤ x.f12.length ∧ x.f12.length - i ≤ g ∧ Hid ((x.f12.take i).all nm = true))
         case atStart => exact ⟨0, q, rfl, rfl, Nat.zero_le _, by omega, Lib.hid rfl⟩
         case round =>
          rename Nat => G2
          obtain ⟨i, q, rfl, rfl, hi2, hg2, HE⟩ := hrel
          by_cases hlt2 : i < x.f12.length
          ·
           obtain ⟨ad0, hA0, k0⟩ := Kd.at_string HR.out.rB (i : Int) (by omega) (by omega)
           rw [Int.toNat_natCast, rdOf_nat x.f12 i hlt2] at k0
           obtain ⟨y, hy⟩ : ∃ y, x.f12[i] = y := ⟨_, rfl⟩
           have hym : y ∈ x.f0 :: x.f1 :: x.f12 := by rw [← hy]; exact List.mem_cons_of_mem _ (List.mem_cons_of_mem _ (List.getElem_mem hlt2))
           rw [hy] at k0
           have e0 := fun p : CBox w.heap.size (letC x A c B d) w => pw_cell_below p.below k0
           have hc := fun p : CBox w.heap.size (letC x A c B d) w => HNM.out p y hym
           have HX := Lib.hid hy
           subst hA0
           clear hy k0 hym
           cases hq : nm y with
           | true =>
            rw [hq] at hc
            have HC := Lib.hid hc
            have HQ := Lib.hid hq
            clear hc hq
            go_wp2_with (go_at_call 44; (with_reducible refine (HC.out _).mono ?_); rintro e w' ⟨rfl, q1, rfl⟩)
            go_roundg (x.f12.length - (i + 1))
            case measure => omega
            case rel => exact ⟨i + 1, _, by go_num, rfl, by omega, by omega, Lib.hid (all_step _ hlt2 HE.out (by rw [HX.out, HQ.out]))⟩
           | false =>
            rw [hq] at hc
            have HC := Lib.hid hc
            have hv : mayV x bt nm sm no mm pv tv = false := by rw [HV2.out, all_miss _ hlt2 (by rw [HX.out, hq])]; rfl
            have HV3 := Lib.hid hv
            clear hc hq hv HV2 HE
            go_wp2_with (go_at_call 44; (with_reducible refine (HC.out _).mono ?_); rintro e w' ⟨rfl, q1, rfl⟩)
            go_ret
            exact ⟨retB HV3.out.symm, q1.below⟩
          ·
           obtain rfl : i = x.f12.length := by omega
           have h1 := HE.out
           rw [List.take_length] at h1
           have hv2 := HV2.out
           rw [h1, Bool.true_and] at hv2
           have HV3 := Lib.hid hv2
           clear h1 HE HV2 hv2
           by_cases h28 : x.f3 = 28
           ·
            have hb28 : (x.f3 == 28) = true := beq_iff_eq.2 h28
            have hv3 := HV3.out
            rw [hb28] at hv3
            have HV4 := Lib.hid (hv3.trans (Bool.false_or _))
            have hl0 : (0 : Int) ≤ (x.f11.length : Int) := by omega
            have hl1 : (0 : Int) ≤ (x.f12.length : Int) := by omega
            clear hv3 HV3 h28
            go_wp2_with (go_at_call 47; (with_reducible refine (HNO.out _).mono ?_); rintro e w' ⟨rfl, q, rfl⟩)
            all_goals (go_ret; exact ⟨by rw [HV4.out]; first | (simp [ackV, *]; done) | exact retB (by simp [ackV, *]), CBox.below _⟩)
           ·
            have hb28 : (x.f3 == 28) = false := beq_eq_false_iff_ne.2 h28
            have hv3 := HV3.out
            rw [hb28] at hv3
            have HV4 := Lib.hid hv3
            clear hv3 HV3 h28
            go_wp2_with fail
            go_ret
            exact ⟨retB HV4.out.symm, CBox.below _⟩
end Go.Proofs.YtkblmomfiimkiaaGreatDoor.P
end
