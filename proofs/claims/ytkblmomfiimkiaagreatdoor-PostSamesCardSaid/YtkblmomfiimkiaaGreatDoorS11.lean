/- What the claim's theorem leans on. Conditions: none of its own. (Written by prune.py out of the texts MayB, without what the claim doesn't lean on.) -/
import Derived.Deep.RegionWith
import Derived.Test.YtkblmomfiimkiaaGreatDoorS8
import Derived.Test.YtkblmomfiimkiaaGreatDoorS9
import Derived.Test.YtkblmomfiimkiaaGreatDoorS10
section
namespace Go.Proofs.YtkblmomfiimkiaaGreatDoor.P
open Go.RowKit Go.Proofs.YtkblmomfiimkiaaGreatDoorW.PrintWords Go.Proofs.YtkblmomfiimkiaaGreatDoorW.PrintLast Go.Proofs.YtkblmomfiimkiaaGreatDoorW.PrintMore
open Go.Proofs.YtkblmomfiimkiaaGreatDoor.Fp
attribute [local go_sem high] eqMoney
def btwB (a lo hi : Int) : Bool := decide (lo ≤ a) && decide (a ≤ hi)
theorem within_f (a lo hi : Int) : post_within.f a lo hi = some (btwB a lo hi) := by
 unfold post_within.f btwB
 by_cases h : a ≥ lo
 ·
  rw [if_pos h, decide_eq_true h, Bool.true_and]
 ·
  rw [if_neg h, decide_eq_false h, Bool.false_and]
attribute [local go_sem] lb0 lb1 lb2 lb3 lb4 lb5 lb6 lb7 lb8 lb9 lb10 lb11 lb12 lb13
theorem within_class {g : Nat} {C : Array Value} {w : World} (p : CBox g C w) (a lo hi : Int) : Calls Tryz.prog 29 #[.int .i64 a, .int .i64 lo, .int .i64 hi] p.W fun e w' => e = .returned (.bool (btwB a lo hi)) ∧ ∃ q : CBox g C w, w' = q.W :=
 (post_within.calls a lo hi _ p.W (within_f a lo hi)).mono fun _ _ hq => ⟨hq.1, cbox_drawn p hq.2⟩
theorem name_class {g : Nat} {C : Array Value} {w : World} (p : CBox g C w) (s : ByteArray) : Calls Tryz.prog 37 #[.string s] p.W fun e w' => e = .returned (.bool (nameB s.data.toList)) ∧ ∃ q : CBox g C w, w' = q.W :=
 (post_name.calls s _ p.W rfl).mono fun _ _ hq => ⟨hq.1, cbox_below p hq.2⟩
theorem money_class {g : Nat} {C : Array Value} {w : World} (p : CBox g C w) (s : ByteArray) (n : Int) : Calls Tryz.prog 38 #[.agg #[.string s, .int .i64 n]] p.W fun e w' => e = .returned (.bool (moneyMay s.data.toList n)) ∧ ∃ q : CBox g C w, w' = q.W :=
 (money_May.calls s n _ p.W (money_May_f s n)).mono fun _ _ hq => ⟨hq.1, cbox_below p hq.2⟩
theorem names_class {g : Nat} {C : Array Value} {w : World} (hG : Glob w) (p : CBox g C w) : Calls Tryz.prog 28 #[] p.W fun e w' => (∃ a c, e = .returned (.slice a 29 c)) ∧ ∃ q : CBox g C w, w' = q.W :=
 (post_names.calls namesB p.W (glob_below hG p.below) rfl).mono fun e w' hq => by
  obtain ⟨v, rfl, hr, hb⟩ := hq
  obtain ⟨a, c, rfl⟩ := Kd.R_slice hr
  exact ⟨⟨a, c, rfl⟩, cbox_below p hb⟩
theorem cbox_drew {g : Nat} {C : Array Value} {w : World} (p : CBox g C w) : ∃ q : CBox g C w, p.W.drew = q.W := cbox_below p (pw_below_drewN (Below.refl _ p.W) 1)
noncomputable def plainB (a0 : ByteArray) (a1 : ByteArray) (a2 : Int) (a3 : Int) (a4 : Int) (a5 : ByteArray) (a6 : ByteArray) (a7 : ByteArray) (a8 : Int) (a9 : Int) (a10 : ByteArray) (a11 : Int) (al12 : List S38) (al13 : List ByteArray) : Bool := eqB (⟨a0, a1, a2, a3, a4, a5, a6, a7, a8, a9, ⟨a10, a11⟩, al12, al13⟩ : S33) (⟨a0, a1, 0, a3, a4, ⟨#[]⟩, ⟨#[]⟩, ⟨#[]⟩, 0, 0, ⟨⟨#[]⟩, 0⟩, [], []⟩ : S33)
theorem plain_f (a0 : ByteArray) (a1 : ByteArray) (a2 : Int) (a3 : Int) (a4 : Int) (a5 : ByteArray) (a6 : ByteArray) (a7 : ByteArray) (a8 : Int) (a9 : Int) (a10 : ByteArray) (a11 : Int) (al12 : List S38) (al13 : List ByteArray) (h1 : al12.length ≤ 4398046511104) (h2 : al13.length ≤ 4398046511104) (h3 : ∀ x ∈ al12, x.f3.length ≤ 4398046511104) : post_plain.f a0 a1 a2 a3 a4 a5 a6 a7 a8 a9 a10 a11 al12 al13 = some (plainB a0 a1 a2 a3 a4 a5 a6 a7 a8 a9 a10 a11 al12 al13) := by
 unfold post_plain.f post_Same.f
 rw [if_pos ⟨h1, by simp, h2, by simp, h3⟩]
 rfl
noncomputable def kindB (a0 : ByteArray) (a1 : ByteArray) (a2 : Int) (a3 : Int) (a4 : Int) (a5 : ByteArray) (a6 : ByteArray) (a7 : ByteArray) (a8 : Int) (a9 : Int) (a10 : ByteArray) (a11 : Int) (al12 : List S38) (al13 : List ByteArray) : Bool := btwB a3 0 28 && (!decide (a3 = 28) || plainB a0 a1 a2 a3 a4 a5 a6 a7 a8 a9 a10 a11 al12 al13)
def numbersB (a2 a4 a8 a9 : Int) : Bool := btwB a2 0 1048576 && (btwB a4 0 1048576 && (btwB a8 (-1) 2 && btwB a9 0 1048576))
def textsB (a0 a1 a5 a6 a7 : ByteArray) : Bool := nameB a0.data.toList && (nameB a1.data.toList && (!(a0.toList == a1.toList) && ((a5.toList.isEmpty || nameB a5.data.toList) && ((a7.toList.isEmpty || nameB a7.data.toList) && decide ((a6.size : Int) ≤ 4096)))))
def sumB (a10 : ByteArray) (a11 : Int) : Bool := (a10.toList.isEmpty && (a11 == 0)) || moneyMay a10.data.toList a11
noncomputable def mayLB (a0 : ByteArray) (a1 : ByteArray) (a2 : Int) (a3 : Int) (a4 : Int) (a5 : ByteArray) (a6 : ByteArray) (a7 : ByteArray) (a8 : Int) (a9 : Int) (a10 : ByteArray) (a11 : Int) (al12 : List S38) (al13 : List ByteArray) : Bool := kindB a0 a1 a2 a3 a4 a5 a6 a7 a8 a9 a10 a11 al12 al13 && (numbersB a2 a4 a8 a9 && (textsB a0 a1 a5 a6 a7 && (sumB a10 a11 && (decide ((al12.length : Int) ≤ 8) && (decide ((al13.length : Int) ≤ 32) && (!(al12.any fun x => !paperB x) && !(al13.any fun x => !nameB x.data.toList)))))))
noncomputable def post_May.f (a0 : ByteArray) (a1 : ByteArray) (a2 : Int) (a3 : Int) (a4 : Int) (a5 : ByteArray) (a6 : ByteArray) (a7 : ByteArray) (a8 : Int) (a9 : Int) (a10 : ByteArray) (a11 : Int) (al12 : List S38) (al13 : List ByteArray) : Option Bool := @ite _ (al12.length ≤ 4398046511104 ∧ al13.length ≤ 4398046511104 ∧ (∀ x ∈ al12, x.f3.length ≤ 4398046511104) ∧ (∀ x ∈ al12, PaperTold x)) (Classical.propDecidable _) (some (mayLB a0 a1 a2 a3 a4 a5 a6 a7 a8 a9 a10 a11 al12 al13)) none
noncomputable def mayP (x : S33) : Bool := mayLB x.f0 x.f1 x.f2 x.f3 x.f4 x.f5 x.f6 x.f7 x.f8 x.f9 x.f10.f0 x.f10.f1 x.f11 x.f12
set_option maxRecDepth 100000 in
set_option maxHeartbeats 8000000 in
theorem mayL_calls (x : S33) (A : Option Addr) (c : Nat) (B : Option Addr) (d : Nat) (w : World) (hR : LetR w x A c B d) (hG : Glob w) (hz : x.f11.length ≤ 4398046511104 ∧ x.f12.length ≤ 4398046511104 ∧ (∀ y ∈ x.f11, y.f3.length ≤ 4398046511104) ∧ (∀ y ∈ x.f11, PaperTold y)) :
  Calls Tryz.prog 16 #[.agg (letC x A c B d)] w fun e w' => e = .returned (.bool (mayP x)) ∧ Below w.heap.size w w' := by
 have HR := Lib.hid hR
 have HZ := Lib.hid hz
 have HG := Lib.hid hG
 clear hz hG hR
 have HN := Lib.hid (cbox_new w (letC x A c B d))
 have hpl := fun (p : CBox w.heap.size (letC x A c B d) w) => ((post_plain.calls x.f0 x.f1 x.f2 x.f3 x.f4 x.f5 x.f6 x.f7 x.f8 x.f9 x.f10.f0 x.f10.f1 A c x.f11 B d x.f12 (plainB x.f0 x.f1 x.f2 x.f3 x.f4 x.f5 x.f6 x.f7 x.f8 x.f9 x.f10.f0 x.f10.f1 x.f11 x.f12) p.W (Kd.C_below HR.out.rA p.below) HR.out.lA (Kd.C_below HR.out.rB p.below) HR.out.lB (plain_f x.f0 x.f1 x.f2 x.f3 x.f4 x.f5 x.f6 x.f7 x.f8 x.f9 x.f10.f0 x.f10.f1 x.f11 x.f12 HZ.out.1 HZ.out.2.1 HZ.out.2.2.1)).mono fun e w' hq => (show e = Ending.returned (.bool (plainB x.f0 x.f1 x.f2 x.f3 x.f4 x.f5 x.f6 x.f7 x.f8 x.f9 x.f10.f0 x.f10.f1 x.f11 x.f12)) ∧ ∃ q : CBox w.heap.size (letC x A c B d) w, w' = q.W from ⟨hq.1, cbox_below p hq.2⟩))
 have HPL := Lib.hid hpl
 clear hpl
 go_enter Tryz.func16, Tryz.ntmps16
 go_upto_region 1 with (fail)
 obtain ⟨p0, hp0⟩ := HN.out
 rw [hp0]
 clear HN hp0
 go_cut [3] (fun v3 wc => v3 = .bool (kindB x.f0 x.f1 x.f2 x.f3 x.f4 x.f5 x.f6 x.f7 x.f8 x.f9 x.f10.f0 x.f10.f1 x.f11 x.f12) ∧ ∃ p : CBox w.heap.size (letC x A c B d) w, wc = p.W)
 case first =>
  have HD := Lib.hid (cbox_drew p0)
  have c0 := lb3 p0
  have hwi := fun (p : CBox w.heap.size (letC x A c B d) w) => within_class p x.f3 0 28
  cases hb : btwB x.f3 0 28 with
  | true =>
   rw [hb] at hwi
   have HW := Lib.hid hwi
   by_cases h28 : x.f3 = 28
   ·
    have hn28 : (x.f3 != 28) = false := by rw [h28]; rfl
    have hk : (kindB x.f0 x.f1 x.f2 x.f3 x.f4 x.f5 x.f6 x.f7 x.f8 x.f9 x.f10.f0 x.f10.f1 x.f11 x.f12) = plainB x.f0 x.f1 x.f2 x.f3 x.f4 x.f5 x.f6 x.f7 x.f8 x.f9 x.f10.f0 x.f10.f1 x.f11 x.f12 := by unfold kindB; rw [hb, decide_eq_true h28]; rfl
    have HK := Lib.hid hk
    clear hk hb hwi h28
    go_region_with (first | (go_at_call 28; obtain ⟨pd, hpd⟩ := HD.out; rw [hpd]; refine (names_class HG.out pd).mono ?_; rintro e w1 ⟨⟨na, nc, rfl⟩, q, rfl⟩) | (go_at_call 29; (refine (HW.out _).mono ?_); rintro e w' ⟨rfl, q, rfl⟩) | (go_at_call 36; refine (HPL.out _).mono ?_; rintro e w' ⟨rfl, q, rfl⟩))
    all_goals (go_wp2_with fail; go_meet; case rel => exact ⟨by rw [HK.out], _, rfl⟩)
   ·
    have hn28 : (x.f3 != 28) = true := bne_iff_ne.2 h28
    have hk : (kindB x.f0 x.f1 x.f2 x.f3 x.f4 x.f5 x.f6 x.f7 x.f8 x.f9 x.f10.f0 x.f10.f1 x.f11 x.f12) = true := by unfold kindB; rw [hb, decide_eq_false h28]; rfl
    have HK := Lib.hid hk
    clear hk hb hwi h28
    go_region_with (first | (go_at_call 28; obtain ⟨pd, hpd⟩ := HD.out; rw [hpd]; refine (names_class HG.out pd).mono ?_; rintro e w1 ⟨⟨na, nc, rfl⟩, q, rfl⟩) | (go_at_call 29; (refine (HW.out _).mono ?_); rintro e w' ⟨rfl, q, rfl⟩))
    all_goals (go_wp2_with fail; go_meet; case rel => exact ⟨by rw [HK.out], _, rfl⟩)
  | false =>
   rw [hb] at hwi
   have HW := Lib.hid hwi
   have hk : (kindB x.f0 x.f1 x.f2 x.f3 x.f4 x.f5 x.f6 x.f7 x.f8 x.f9 x.f10.f0 x.f10.f1 x.f11 x.f12) = false := by unfold kindB; rw [hb]; rfl
   have HK := Lib.hid hk
   clear hk hb hwi
   refine wp_region_any (by kernel_rfl) ?_
   change wpAny _ _ _ _ _ _ _ (World.drew _)
   refine wpAny_take (i := 0) (v := ?_) rfl (by kernel_rfl) (by kernel_rfl) (by kernel_rfl) (fun _ _ _ h => h) (Or.inl ⟨by rfl, ?_⟩) ?_
   rotate_left
   ·
    (intro w; go_simp); all_goals (with_reducible rfl)
   refine wpAny_ready (rs := [1, 2]) (by kernel_rfl) (by simp) ?_
   refine AllReady.cons rfl (fun K hK => ?_) (AllReady.cons rfl (fun K hK => ?_) AllReady.nil)
   ·
    go_simp
    refine hK _ _ ?_
    clear hK K
    refine wpAny_ready (rs := [2]) (by kernel_rfl) (by simp) ?_
    refine AllReady.cons rfl (fun K hK => ?_) AllReady.nil
    go_simp
    go_wp2_with (go_at_call 28; obtain ⟨pd, hpd⟩ := HD.out; rw [hpd]; refine (names_class HG.out pd).mono ?_; rintro e w1 ⟨⟨na, nc, rfl⟩, q, rfl⟩)
    try (refine hK _ _ ?_; clear hK K)
    refine wpAny_take (i := 3) (v := ?_) rfl (by kernel_rfl) (by kernel_rfl) (by kernel_rfl) (fun _ _ _ h => h) (Or.inl ⟨by rfl, ?_⟩) ?_
    rotate_left
    ·
     (intro w; go_simp); all_goals (with_reducible rfl)
    refine wpAny_take (i := 4) (v := ?_) rfl (by kernel_rfl) (by kernel_rfl) (by kernel_rfl) (fun _ _ _ h => h) (Or.inl ⟨by rfl, ?_⟩) ?_
    rotate_left
    ·
     (intro w; go_simp); all_goals (with_reducible rfl)
    refine wpAny_ready (rs := [5]) (by kernel_rfl) (by simp) ?_
    refine AllReady.cons rfl (fun K hK => ?_) AllReady.nil
    go_simp
    go_wp2_with (go_at_call 29; (refine (HW.out _).mono ?_); rintro e w' ⟨rfl, q, rfl⟩)
    try (refine hK _ _ ?_; clear hK K)
    refine wpAny_take (i := 6) (v := ?_) rfl (by kernel_rfl) (by kernel_rfl) (by kernel_rfl) (fun _ _ _ h => h) (Or.inl ⟨by rfl, ?_⟩) ?_
    rotate_left
    ·
     (intro w; go_simp); all_goals (with_reducible rfl)
    refine wpAny_take (i := 7) (v := undef) rfl (by kernel_rfl) (by kernel_rfl) (by kernel_rfl) (fun _ _ _ h => h) (Or.inr ⟨?_, rfl⟩) ?_
    ·
     first | (go_simp; done) | (simp [Region.wanted, yielded, go_sem, undef]; done)
    refine wpAny_take (i := 8) (v := undef) rfl (by kernel_rfl) (by kernel_rfl) (by kernel_rfl) (fun _ _ _ h => h) (Or.inr ⟨?_, rfl⟩) ?_
    ·
     first | (go_simp; done) | (simp [Region.wanted, yielded, go_sem, undef]; done)
    refine wpAny_take (i := 9) (v := undef) rfl (by kernel_rfl) (by kernel_rfl) (by kernel_rfl) (fun _ _ _ h => h) (Or.inr ⟨?_, rfl⟩) ?_
    ·
     first | (go_simp; done) | (simp [Region.wanted, yielded, go_sem, undef]; done)
    refine wpAny_take (i := 10) (v := undef) rfl (by kernel_rfl) (by kernel_rfl) (by kernel_rfl) (fun _ _ _ h => h) (Or.inr ⟨?_, rfl⟩) ?_
    ·
     first | (go_simp; done) | (simp [Region.wanted, yielded, go_sem, undef]; done)
    refine wpAny_take (i := 11) (v := undef) rfl (by kernel_rfl) (by kernel_rfl) (by kernel_rfl) (fun _ _ _ h => h) (Or.inr ⟨?_, rfl⟩) ?_
    ·
     first | (go_simp; done) | (simp [Region.wanted, yielded, go_sem, undef]; done)
    refine wpAny_take (i := 12) (v := undef) rfl (by kernel_rfl) (by kernel_rfl) (by kernel_rfl) (fun _ _ _ h => h) (Or.inr ⟨?_, rfl⟩) ?_
    ·
     first | (go_simp; done) | (simp [Region.wanted, yielded, go_sem, undef]; done)
    refine wpAny_take (i := 13) (v := undef) rfl (by kernel_rfl) (by kernel_rfl) (by kernel_rfl) (fun _ _ _ h => h) (Or.inr ⟨?_, rfl⟩) ?_
    ·
     first | (go_simp; done) | (simp [Region.wanted, yielded, go_sem, undef]; done)
    refine wpAny_take (i := 14) (v := ?_) rfl (by kernel_rfl) (by kernel_rfl) (by kernel_rfl) (fun _ _ _ h => h) (Or.inl ⟨by rfl, ?_⟩) ?_
    rotate_left
    ·
     (intro w; go_simp); all_goals (with_reducible rfl)
    refine wpAny_take (i := 15) (v := ?_) rfl (by kernel_rfl) (by kernel_rfl) (by kernel_rfl) (fun _ _ _ h => h) (Or.inl ⟨by rfl, ?_⟩) ?_
    rotate_left
    ·
     (intro w; go_simp); all_goals (with_reducible rfl)
    refine wpAny_done (by kernel_rfl) ?_ _
    go_simp
    go_wp2_with fail
    go_meet
    case rel => exact ⟨by rw [HK.out], _, rfl⟩
   ·
    go_simp
    go_wp2_with (go_at_call 28; obtain ⟨pd, hpd⟩ := HD.out; rw [hpd]; refine (names_class HG.out pd).mono ?_; rintro e w1 ⟨⟨na, nc, rfl⟩, q, rfl⟩)
    try (refine hK _ _ ?_; clear hK K)
    refine wpAny_take (i := 3) (v := ?_) rfl (by kernel_rfl) (by kernel_rfl) (by kernel_rfl) (fun _ _ _ h => h) (Or.inl ⟨by rfl, ?_⟩) ?_
    rotate_left
    ·
     (intro w; go_simp); all_goals (with_reducible rfl)
    refine wpAny_take (i := 4) (v := ?_) rfl (by kernel_rfl) (by kernel_rfl) (by kernel_rfl) (fun _ _ _ h => h) (Or.inl ⟨by rfl, ?_⟩) ?_
    rotate_left
    ·
     (intro w; go_simp); all_goals (with_reducible rfl)
    refine wpAny_ready (rs := [1]) (by kernel_rfl) (by simp) ?_
    refine AllReady.cons rfl (fun K hK => ?_) AllReady.nil
    go_simp
    refine hK _ _ ?_
    clear hK K
    refine wpAny_ready (rs := [5]) (by kernel_rfl) (by simp) ?_
    refine AllReady.cons rfl (fun K hK => ?_) AllReady.nil
    go_simp
    go_wp2_with (go_at_call 29; (refine (HW.out _).mono ?_); rintro e w' ⟨rfl, q, rfl⟩)
    try (refine hK _ _ ?_; clear hK K)
    refine wpAny_take (i := 6) (v := ?_) rfl (by kernel_rfl) (by kernel_rfl) (by kernel_rfl) (fun _ _ _ h => h) (Or.inl ⟨by rfl, ?_⟩) ?_
    rotate_left
    ·
     (intro w; go_simp); all_goals (with_reducible rfl)
    refine wpAny_take (i := 7) (v := undef) rfl (by kernel_rfl) (by kernel_rfl) (by kernel_rfl) (fun _ _ _ h => h) (Or.inr ⟨?_, rfl⟩) ?_
    ·
     first | (go_simp; done) | (simp [Region.wanted, yielded, go_sem, undef]; done)
    refine wpAny_take (i := 8) (v := undef) rfl (by kernel_rfl) (by kernel_rfl) (by kernel_rfl) (fun _ _ _ h => h) (Or.inr ⟨?_, rfl⟩) ?_
    ·
     first | (go_simp; done) | (simp [Region.wanted, yielded, go_sem, undef]; done)
    refine wpAny_take (i := 9) (v := undef) rfl (by kernel_rfl) (by kernel_rfl) (by kernel_rfl) (fun _ _ _ h => h) (Or.inr ⟨?_, rfl⟩) ?_
    ·
     first | (go_simp; done) | (simp [Region.wanted, yielded, go_sem, undef]; done)
    refine wpAny_take (i := 10) (v := undef) rfl (by kernel_rfl) (by kernel_rfl) (by kernel_rfl) (fun _ _ _ h => h) (Or.inr ⟨?_, rfl⟩) ?_
    ·
     first | (go_simp; done) | (simp [Region.wanted, yielded, go_sem, undef]; done)
    refine wpAny_take (i := 11) (v := undef) rfl (by kernel_rfl) (by kernel_rfl) (by kernel_rfl) (fun _ _ _ h => h) (Or.inr ⟨?_, rfl⟩) ?_
    ·
     first | (go_simp; done) | (simp [Region.wanted, yielded, go_sem, undef]; done)
    refine wpAny_take (i := 12) (v := undef) rfl (by kernel_rfl) (by kernel_rfl) (by kernel_rfl) (fun _ _ _ h => h) (Or.inr ⟨?_, rfl⟩) ?_
    ·
     first | (go_simp; done) | (simp [Region.wanted, yielded, go_sem, undef]; done)
    refine wpAny_take (i := 13) (v := undef) rfl (by kernel_rfl) (by kernel_rfl) (by kernel_rfl) (fun _ _ _ h => h) (Or.inr ⟨?_, rfl⟩) ?_
    ·
     first | (go_simp; done) | (simp [Region.wanted, yielded, go_sem, undef]; done)
    refine wpAny_take (i := 14) (v := ?_) rfl (by kernel_rfl) (by kernel_rfl) (by kernel_rfl) (fun _ _ _ h => h) (Or.inl ⟨by rfl, ?_⟩) ?_
    rotate_left
    ·
     (intro w; go_simp); all_goals (with_reducible rfl)
    refine wpAny_take (i := 15) (v := ?_) rfl (by kernel_rfl) (by kernel_rfl) (by kernel_rfl) (fun _ _ _ h => h) (Or.inl ⟨by rfl, ?_⟩) ?_
    rotate_left
    ·
     (intro w; go_simp); all_goals (with_reducible rfl)
    refine wpAny_done (by kernel_rfl) ?_ _
    go_simp
    go_wp2_with fail
    go_meet
    case rel => exact ⟨by rw [HK.out], _, rfl⟩
 case rest =>
  obtain ⟨rfl, p1, rfl⟩ := hcut
  go_upto_region 2 with (fail)
  go_cut [4] (fun v4 wc => v4 = .bool (numbersB x.f2 x.f4 x.f8 x.f9) ∧ ∃ p : CBox w.heap.size (letC x A c B d) w, wc = p.W)
  case first =>
   go_wp2_with (first | (go_at_call 29; (with_reducible refine (within_class _ _ _ _).mono ?_); rintro e w' ⟨rfl, q, rfl⟩))
   all_goals (go_meet; try (case rel => exact ⟨by simp [numbersB, *], _, rfl⟩))
  case rest =>
   obtain ⟨rfl, p2, rfl⟩ := hcut
   go_upto_region 3 with (fail)
   go_cut [5] (fun v5 wc => v5 = .bool (textsB x.f0 x.f1 x.f5 x.f6 x.f7) ∧ ∃ p : CBox w.heap.size (letC x A c B d) w, wc = p.W)
   case first =>
    go_wp2_with (first | (go_at_call 37; (with_reducible refine (name_class _ _).mono ?_); rintro e w' ⟨rfl, q, rfl⟩))
    all_goals (go_meet; try (case rel => exact ⟨by simp [textsB, *], _, rfl⟩))
   case rest =>
    obtain ⟨rfl, p3, rfl⟩ := hcut
    go_upto_region 4 with (fail)
    go_cut [6] (fun v6 wc => v6 = .bool (sumB x.f10.f0 x.f10.f1) ∧ ∃ p : CBox w.heap.size (letC x A c B d) w, wc = p.W)
    case first =>
     by_cases h1 : x.f10.f0.toList = []
     ·
      by_cases h2 : x.f10.f1 = 0
      ·
       have e : sumB x.f10.f0 x.f10.f1 = true := by simp [sumB, h1, h2]
       have E := Lib.hid e
       have hb2 : (x.f10.f1 == 0) = true := beq_iff_eq.2 h2
       clear e h2
       go_wp2_with fail
       go_meet
       case rel => exact ⟨by rw [E.out], _, rfl⟩
      ·
       have hb2 : (x.f10.f1 == 0) = false := beq_eq_false_iff_ne.2 h2
       have e : sumB x.f10.f0 x.f10.f1 = moneyMay x.f10.f0.data.toList x.f10.f1 := by unfold sumB; rw [hb2, Bool.and_false, Bool.false_or]
       have E := Lib.hid e
       clear e h2
       go_wp2_with (first | (go_at_call 38; (with_reducible refine (money_class _ _ _).mono ?_); rintro e w' ⟨rfl, q, rfl⟩))
       go_meet
       case rel => exact ⟨by rw [E.out], _, rfl⟩
     ·
      have h1' : x.f10.f0.toList.isEmpty = false := by simpa using h1
      have h1b : (x.f10.f0.toList == []) = false := by simpa using h1
      have e : sumB x.f10.f0 x.f10.f1 = moneyMay x.f10.f0.data.toList x.f10.f1 := by unfold sumB; rw [h1', Bool.false_and, Bool.false_or]
      have E := Lib.hid e
      clear e
      go_wp2_with (first | (go_at_call 38; (with_reducible refine (money_class _ _ _).mono ?_); rintro e w' ⟨rfl, q, rfl⟩))
      go_meet
      case rel => exact ⟨by rw [E.out], _, rfl⟩
    case rest =>
     obtain ⟨rfl, p4, rfl⟩ := hcut
     have hdc := fun (p : CBox w.heap.size (letC x A c B d) w) => ((containsDocs A c x.f11 p.W (Kd.C_below HR.out.rA p.below) HZ.out.1 HZ.out.2.2.2).mono fun e w' hq => (show e = Ending.returned (.bool (x.f11.any fun x => !paperB x)) ∧ ∃ q : CBox w.heap.size (letC x A c B d) w, w' = q.W from ⟨hq.1, cbox_below p hq.2⟩))
     have hbc := fun (p : CBox w.heap.size (letC x A c B d) w) => ((containsTexts B d x.f12 p.W (Kd.C_below HR.out.rB p.below) HZ.out.2.1).mono fun e w' hq => (show e = Ending.returned (.bool (x.f12.any fun x => !nameB x.data.toList)) ∧ ∃ q : CBox w.heap.size (letC x A c B d) w, w' = q.W from ⟨hq.1, cbox_below p hq.2⟩))
     have HDC := Lib.hid hdc
     have HBC := Lib.hid hbc
     clear hdc hbc
     go_upto_region 7 with (fail)
     generalize hk : (kindB x.f0 x.f1 x.f2 x.f3 x.f4 x.f5 x.f6 x.f7 x.f8 x.f9 x.f10.f0 x.f10.f1 x.f11 x.f12) = KB
     generalize hn : numbersB x.f2 x.f4 x.f8 x.f9 = NB
     generalize ht : textsB x.f0 x.f1 x.f5 x.f6 x.f7 = TB
     generalize hs : sumB x.f10.f0 x.f10.f1 = SB
     generalize hd : (x.f11.any fun x => !paperB x) = DB at HDC
     generalize hx : (x.f12.any fun x => !nameB x.data.toList) = XB at HBC
     have hR : mayLB x.f0 x.f1 x.f2 x.f3 x.f4 x.f5 x.f6 x.f7 x.f8 x.f9 x.f10.f0 x.f10.f1 x.f11 x.f12 = mayP x := rfl
     unfold mayLB at hR
     rw [hk, hn, ht, hs, hd, hx] at hR
     have HRR := Lib.hid hR
     clear hR hk hn ht hs hd hx
     go_wp2_with (first | (go_at_call 42; (with_reducible refine (HDC.out _).mono ?_); rintro e w' ⟨rfl, q, rfl⟩) | (go_at_call 43; (with_reducible refine (HBC.out _).mono ?_); rintro e w' ⟨rfl, q, rfl⟩))
     all_goals (go_ret; exact ⟨by rw [← HRR.out]; first | (simp [*]; done) | (simp [*]; intros; omega), CBox.below _⟩)
theorem post_May.calls (a0 : ByteArray) (a1 : ByteArray) (a2 : Int) (a3 : Int) (a4 : Int) (a5 : ByteArray) (a6 : ByteArray) (a7 : ByteArray) (a8 : Int) (a9 : Int) (a10 : ByteArray) (a11 : Int) (aA12 : Option Addr) (ac12 : Nat) (al12 : List S38) (aA13 : Option Addr) (ac13 : Nat) (al13 : List ByteArray) (r : Bool) (w : World) (ah12 : Kd.C k38 w aA12 al12.length al12) (ac12h : al12.length ≤ ac12) (ah13 : Kd.C Kd.string w aA13 al13.length al13) (ac13h : al13.length ≤ ac13) (hG : Glob w) (h : post_May.f a0 a1 a2 a3 a4 a5 a6 a7 a8 a9 a10 a11 al12 al13 = some r) :
  Calls Tryz.prog 16 #[.agg #[.string a0, .string a1, .int .i64 a2, .int .i64 a3, .int .i64 a4, .string a5, .string a6, .string a7, .int .i64 a8, .int .i64 a9, .string a10, .int .i64 a11, .slice aA12 al12.length ac12, .slice aA13 al13.length ac13]] w fun e w' => e = .returned (.bool r) ∧ Below w.heap.size w w' := by
 unfold post_May.f at h
 by_cases hz : al12.length ≤ 4398046511104 ∧ al13.length ≤ 4398046511104 ∧ (∀ x ∈ al12, x.f3.length ≤ 4398046511104) ∧ (∀ x ∈ al12, PaperTold x)
 ·
  rw [if_pos hz] at h
  obtain rfl := Option.some.inj h
  exact mayL_calls ⟨a0, a1, a2, a3, a4, a5, a6, a7, a8, a9, ⟨a10, a11⟩, al12, al13⟩ aA12 ac12 aA13 ac13 w ⟨ah12, ac12h, ah13, ac13h⟩ hG hz
 ·
  rw [if_neg hz] at h; cases h
end Go.Proofs.YtkblmomfiimkiaaGreatDoor.P
end
