/- What the claim's theorem leans on. Conditions: none of its own. (Written by prune.py out of the texts MayR, without what the claim doesn't lean on.) -/
import Derived.Test.YtkblmomfiimkiaaGreatDoorM4
import Derived.Test.YtkblmomfiimkiaaGreatDoorM5
import Derived.Test.YtkblmomfiimkiaaGreatDoorM14
import Derived.Test.YtkblmomfiimkiaaGreatDoorM15
import Derived.Test.YtkblmomfiimkiaaGreatDoorM16
section
namespace Go.Proofs.YtkblmomfiimkiaaGreatDoor.P
open Go.RowKit Go.Proofs.YtkblmomfiimkiaaGreatDoorW.PrintWords Go.Proofs.YtkblmomfiimkiaaGreatDoorW.PrintLast Go.Proofs.YtkblmomfiimkiaaGreatDoorW.PrintMore
set_option linter.unusedSimpArgs false
set_option linter.unusedVariables false
open Go.Proofs.YtkblmomfiimkiaaGreatDoor.Fp
theorem between_f (a lo hi : Int) : supercargoref09_between.f a lo hi = some (btwB a lo hi) := by
 unfold supercargoref09_between.f btwB
 by_cases h : a ≥ lo
 ·
  rw [if_pos h, decide_eq_true h, Bool.true_and]
 ·
  rw [if_neg h, decide_eq_false h, Bool.false_and]
def someV (s : ByteArray) : Bool := s.toList.isEmpty || nameB s.data.toList
theorem some_f (s : ByteArray) (hs : s.size ≤ 9223372036854775807) (k : Nat) (hk : s.size < k) : supercargoref09_some.f k s = some (someV s) := by
 unfold supercargoref09_some.f someV
 by_cases h : s.toList = []
 ·
  rw [if_pos h, h]; rfl
 ·
  have e : s.toList.isEmpty = false := by simpa using h
  rw [if_neg h, Name_f s hs k hk, Option.bind_some, e, Bool.false_or]
def noneV (s : ByteArray) (n : Int) : Bool := s.toList.isEmpty && (n == 0)
theorem none_f (s : ByteArray) (n : Int) : supercargoref09_none.f s n = some (noneV s n) := by
 unfold supercargoref09_none.f noneV
 by_cases h : s.toList = []
 ·
  rw [if_pos h, h]; rfl
 ·
  have e : s.toList.isEmpty = false := by simpa using h
  rw [if_neg h, e, Bool.false_and]
theorem Currency_l0 (s : ByteArray) (hs : s.size = 3) : ∀ (d i k : Nat), i + d = 3 → d < k → supercargoref01_Currency.l0 k s (i : Int) = some ((s.data.toList.drop i).all capB) := by
 have hl : s.data.toList.length = 3 := by rw [size_list, hs]
 intro d
 induction d with
 | zero =>
  intro i k h1 h2
  obtain ⟨k, rfl⟩ : ∃ m, k = m + 1 := ⟨k - 1, by omega⟩
  simp only [supercargoref01_Currency.l0]
  rw [if_neg (by omega), List.drop_eq_nil_of_le (by omega)]; rfl
 | succ d ih =>
  intro i k h1 h2
  obtain ⟨k, rfl⟩ : ∃ m, k = m + 1 := ⟨k - 1, by omega⟩
  have hi : i < s.data.toList.length := by omega
  simp only [supercargoref01_Currency.l0]
  rw [if_pos (by omega), if_pos (by omega), if_pos (by omega), bt_nat s i hi, wrap_nat i (by omega), ih (i + 1) k (by omega) (by omega), List.drop_eq_getElem_cons hi, List.all_cons]
  generalize s.data.toList[i] = c
  unfold capB
  by_cases c1 : (c.toNat : Int) < 65
  ·
   rw [if_pos c1, decide_eq_false (show ¬ 65 ≤ c.toNat by omega)]; simp
  ·
   rw [if_neg c1]
   by_cases c2 : (c.toNat : Int) > 90
   ·
    rw [if_pos c2, decide_eq_false (show ¬ c.toNat ≤ 90 by omega)]; simp
   ·
    rw [if_neg c2, decide_eq_true (show 65 ≤ c.toNat by omega), decide_eq_true (show c.toNat ≤ 90 by omega)]; simp
theorem may01_f (s : ByteArray) (n : Int) (k : Nat) (hk : 4 ≤ k) : supercargoref01_May.f k s n = some (moneyMay s.data.toList n) := by
 have hc : supercargoref01_Currency.f k s = some (curB s.data.toList) := by
  unfold supercargoref01_Currency.f curB
  by_cases h : s.size = 3
  ·
   have := Currency_l0 s h 3 0 k (by omega) (by omega)
   rw [List.drop_zero, show ((0 : Nat) : Int) = 0 from rfl] at this
   rw [if_pos (by omega), this, size_list, decide_eq_true h, Bool.true_and]
  ·
   rw [if_neg (by omega), size_list, decide_eq_false h, Bool.false_and]
 unfold supercargoref01_May.f moneyMay
 rw [hc, Option.bind_some]
 cases curB s.data.toList
 ·
  rw [if_neg (by simp)]; simp
 ·
  rw [if_pos rfl]
  by_cases h : n ≥ -1099511627776
  ·
   rw [if_pos h, decide_eq_true (show -1099511627776 ≤ n from h)]; simp
  ·
   rw [if_neg h, decide_eq_false (show ¬ -1099511627776 ≤ n by omega)]; simp
structure Told (x : S33) : Prop where
 l11 : x.f11.length ≤ 4294967296
 l12 : x.f12.length ≤ 4294967296
 s0 : x.f0.size ≤ 140737488351232
 s1 : x.f1.size ≤ 140737488351232
 s5 : x.f5.size ≤ 140737488351232
 s7 : x.f7.size ≤ 140737488351232
 s12 : ∀ s ∈ x.f12, s.size ≤ 140737488351232
 docs : ∀ y ∈ x.f11, Few y
theorem mayV_P (x : S33) (hx : Told x) : mayV x btwB (fun s => nameB s.data.toList) someV noneV (fun s n => moneyMay s.data.toList n) pv tv = mayP x := by
 have hd : (x.f11.any fun y => !paperB y) = !(x.f11.all fun y => pv y && tv y) := by
  rw [List.all_eq_not_any_not, Bool.not_not]
  have : ∀ l : List S38, (∀ y ∈ l, Few y) → (l.any fun y => !paperB y) = l.any fun y => !(pv y && tv y) := by
   intro l
   induction l with
   | nil => intro _; rfl
   | cons y r ih => intro h; rw [List.any_cons, List.any_cons, ih fun z hz => h z (List.mem_cons_of_mem _ hz), paperB_eq y (h y List.mem_cons_self).1]
  exact this _ hx.docs
 have hb : (x.f12.any fun s => !nameB s.data.toList) = !(x.f12.all fun s => nameB s.data.toList) := by rw [List.all_eq_not_any_not, Bool.not_not]
 unfold mayV mayP mayLB
 rw [hd, hb, Bool.not_not, Bool.not_not]
 generalize (x.f11.all fun y => pv y && tv y) = D
 generalize (x.f12.all fun s => nameB s.data.toList) = E
 have hk : kindB x.f0 x.f1 x.f2 x.f3 x.f4 x.f5 x.f6 x.f7 x.f8 x.f9 x.f10.f0 x.f10.f1 x.f11 x.f12 = (btwB x.f3 0 28 && (!(x.f3 == 28) || ackV x noneV)) := by
  unfold kindB
  by_cases h28 : x.f3 = 28
  ·
   have h28b : (x.f3 == 28) = true := beq_iff_eq.2 h28
   rw [decide_eq_true h28, h28b]
   congr 2
   unfold plainB ackV noneV
   rw [Bool.eq_iff_iff, eqB_true]
   have e0 : ∀ s : ByteArray, s.toList.isEmpty = true ↔ s = ⟨#[]⟩ := fun s => by
    rw [List.isEmpty_iff]
    exact ⟨fun h => bytes_eq.1 (h.trans (by rw [Lib.toList_data])), fun h => by rw [h, Lib.toList_data]⟩
   have e1 : ∀ n : Int, (n == 0) = true ↔ n = 0 := fun n => beq_iff_eq
   simp only [Bool.and_eq_true, e0, e1]
   have e2 : ((x.f11.length : Int) + (x.f12.length : Int) = 0) ↔ x.f11 = [] ∧ x.f12 = [] := by
    constructor
    ·
     intro h; exact ⟨List.length_eq_zero_iff.1 (by omega), List.length_eq_zero_iff.1 (by omega)⟩
    ·
     rintro ⟨h1, h2⟩; rw [h1, h2]; rfl
   rw [e2]
   constructor
   ·
    intro h
    injection h with g0 g1 g2 g3 g4 g5 g6 g7 g8 g9 g10 g11 g12
    injection g10 with g13 g14
    exact ⟨g2, g5, g6, g7, g8, g9, ⟨g13, g14⟩, g11, g12⟩
   ·
    rintro ⟨g2, g5, g6, g7, g8, g9, ⟨g13, g14⟩, g11, g12⟩
    obtain ⟨a0, a1, a2, a3, a4, a5, a6, a7, a8, a9, ⟨a10, a11⟩, a12, a13⟩ := x
    dsimp only at g2 g5 g6 g7 g8 g9 g13 g14 g11 g12 ⊢
    subst g2 g5 g6 g7 g8 g9 g13 g14 g11 g12
    rfl
  ·
   have h28b : (x.f3 == 28) = false := beq_eq_false_iff_ne.2 h28
   rw [decide_eq_false h28, h28b]; rfl
 have hs : (decide (4096 < (x.f6.size : Int))) = !decide ((x.f6.size : Int) ≤ 4096) := by
  by_cases h : (x.f6.size : Int) ≤ 4096
  ·
   rw [decide_eq_true h, decide_eq_false (by omega)]; rfl
  ·
   rw [decide_eq_false h, decide_eq_true (by omega)]; rfl
 have h3 : bad3V x = !(decide ((x.f11.length : Int) ≤ 8) && decide ((x.f12.length : Int) ≤ 32)) := by
  unfold bad3V
  by_cases h : (x.f11.length : Int) ≤ 8
  ·
   rw [decide_eq_true h, decide_eq_false (show ¬ 8 < (x.f11.length : Int) by omega)]
   by_cases g : (x.f12.length : Int) ≤ 32
   ·
    rw [decide_eq_true g, decide_eq_false (show ¬ 32 < (x.f12.length : Int) by omega)]; rfl
   ·
    rw [decide_eq_false g, decide_eq_true (show 32 < (x.f12.length : Int) by omega)]; rfl
  ·
   rw [decide_eq_false h, decide_eq_true (show 8 < (x.f11.length : Int) by omega)]; rfl
 rw [hk, h3]
 unfold bad1V bad2V numbersB textsB sumB someV noneV
 rw [hs]
 dsimp only
 generalize (!(x.f3 == 28) || ackV x _) = K
 generalize decide ((x.f11.length : Int) ≤ 8) = L1
 generalize decide ((x.f12.length : Int) ≤ 32) = L2
 generalize decide ((x.f6.size : Int) ≤ 4096) = L3
 generalize nameB x.f0.data.toList = N0
 generalize nameB x.f1.data.toList = N1
 generalize (x.f0.toList == x.f1.toList) = N2
 generalize btwB x.f3 0 28 = B3
 generalize btwB x.f2 0 1048576 = B2
 generalize btwB x.f4 0 1048576 = B4
 generalize btwB x.f8 (-1) 2 = B8
 generalize btwB x.f9 0 1048576 = B9
 generalize (x.f5.toList.isEmpty || nameB x.f5.data.toList) = N5
 generalize (x.f7.toList.isEmpty || nameB x.f7.data.toList) = N7
 generalize (x.f10.f0.toList.isEmpty && (x.f10.f1 == 0)) = M1
 generalize moneyMay x.f10.f0.data.toList x.f10.f1 = M2
 cases N0 <;> cases N1 <;> cases N2 <;> try simp only [Bool.not_true, Bool.not_false, Bool.true_or, Bool.false_or, Bool.or_true, Bool.or_false, Bool.true_and, Bool.false_and, Bool.and_true, Bool.and_false]
 cases B3 <;> cases B2 <;> cases B4 <;> try simp only [Bool.not_true, Bool.not_false, Bool.true_or, Bool.false_or, Bool.or_true, Bool.or_false, Bool.true_and, Bool.false_and, Bool.and_true, Bool.and_false]
 all_goals (cases N5 <;> cases N7 <;> cases L3 <;> try simp only [Bool.not_true, Bool.not_false, Bool.true_or, Bool.false_or, Bool.or_true, Bool.or_false, Bool.true_and, Bool.false_and, Bool.and_true, Bool.and_false])
 all_goals (cases B8 <;> cases B9 <;> try simp only [Bool.not_true, Bool.not_false, Bool.true_or, Bool.false_or, Bool.or_true, Bool.or_false, Bool.true_and, Bool.false_and, Bool.and_true, Bool.and_false])
 all_goals (cases M1 <;> cases M2 <;> cases L1 <;> cases L2 <;> cases D <;> cases E <;> cases K <;> rfl)
theorem may9_calls (x : S33) (A : Option Addr) (c : Nat) (B : Option Addr) (d : Nat) (w : World) (hR : LetR w x A c B d) (hx : Told x) :
  Calls Tryz.prog 17 #[.agg (letC x A c B d)] w fun e w' => e = .returned (.bool (mayP x)) ∧ Below w.heap.size w w' := by
 have hl1 := hx.l11
 have hl2 := hx.l12
 have hs0 := hx.s0
 have hs1 := hx.s1
 have hs5 := hx.s5
 have hs7 := hx.s7
 rw [← mayV_P x hx]
 refine may9_walk x A c B d w hR ⟨by omega, by omega⟩ btwB (fun s => nameB s.data.toList) someV noneV (fun s n => moneyMay s.data.toList n) pv tv ?_ ?_ ?_ ?_ ?_ ?_ ?_
 ·
  exact fun p a lo hi => (supercargoref09_between.calls a lo hi _ p.W (between_f a lo hi)).mono fun _ _ hq => ⟨hq.1, cbox_drawn p hq.2⟩
 ·
  intro p s hs
  have hz : s.size ≤ 140737488351232 := by
   rcases List.mem_cons.1 hs with h | h
   ·
    rw [h]; exact hs0
   ·
    rcases List.mem_cons.1 h with h | h
    ·
     rw [h]; exact hs1
    ·
     exact hx.s12 s h
  exact (supercargoref05_Name.calls (s.size + 1) s _ p.W (Name_f s (by omega) _ (by omega))).mono fun _ _ hq => ⟨hq.1, cbox_drawn p hq.2⟩
 ·
  intro p s hs
  have hz : s.size ≤ 140737488351232 := by
   rcases List.mem_cons.1 hs with h | h
   ·
    rw [h]; exact hs5
   ·
    rcases List.mem_cons.1 h with h | h
    ·
     rw [h]; exact hs7
    ·
     cases h
  exact (supercargoref09_some.calls (s.size + 1) s _ p.W (some_f s (by omega) _ (by omega))).mono fun _ _ hq => ⟨hq.1, cbox_drawn p hq.2⟩
 ·
  exact fun p => (supercargoref09_none.calls _ _ _ p.W (none_f _ _)).mono fun _ _ hq => ⟨hq.1, cbox_below p hq.2⟩
 ·
  exact fun p => (supercargoref01_May.calls 4 _ _ _ p.W (may01_f _ _ 4 (Nat.le_refl _))).mono fun _ _ hq => ⟨hq.1, cbox_below p hq.2⟩
 ·
  exact fun p y D n hy hn hc => (supercargoref05_Paper.calls 140737488360000 y.f0 y.f1 y.f2 D n y.f3 _ p.W hc hn (paper9_f y (hx.docs y hy) 140737488360000 (Nat.le_refl _))).mono fun _ _ hq => ⟨hq.1, cbox_below p hq.2⟩
 ·
  intro p y D n hy hp hn hc
  refine (supercargoref05_Record.calls y.f0 y.f1 y.f2 D n y.f3 _ p.W hc hn (record9_f y (hx.docs y hy).1)).mono fun e w' hq2 => ?_
  obtain ⟨v, rfl, hr, hb⟩ := hq2
  obtain ⟨D2, n2, rfl⟩ := Kd.R_slice hr
  obtain ⟨hl, hc2, hcr⟩ := Kd.R_reads' hr
  obtain ⟨q, rfl⟩ := cbox_below p hb
  obtain ⟨K, hK⟩ := text9_f y hp
  exact ⟨D2, _, n2, q, ⟨rfl, rfl⟩, Lib.hid ((supercargoref05_Text.calls K D2 n2 (docL y) _ _ q.W hcr hc2 (hK K (Nat.le_refl _))).mono fun e w' h => ⟨docT y, h.1, Lib.hid rfl, cbox_below q h.2⟩)⟩
noncomputable def supercargoref09_May.f (a0 : ByteArray) (a1 : ByteArray) (a2 : Int) (a3 : Int) (a4 : Int) (a5 : ByteArray) (a6 : ByteArray) (a7 : ByteArray) (a8 : Int) (a9 : Int) (a10 : ByteArray) (a11 : Int) (al12 : List S38) (al13 : List ByteArray) : Option Bool := @ite _ (Told (⟨a0, a1, a2, a3, a4, a5, a6, a7, a8, a9, ⟨a10, a11⟩, al12, al13⟩ : S33)) (Classical.propDecidable _) (some (mayP (⟨a0, a1, a2, a3, a4, a5, a6, a7, a8, a9, ⟨a10, a11⟩, al12, al13⟩ : S33))) none
theorem supercargoref09_May.calls (a0 : ByteArray) (a1 : ByteArray) (a2 : Int) (a3 : Int) (a4 : Int) (a5 : ByteArray) (a6 : ByteArray) (a7 : ByteArray) (a8 : Int) (a9 : Int) (a10 : ByteArray) (a11 : Int) (aA12 : Option Addr) (ac12 : Nat) (al12 : List S38) (aA13 : Option Addr) (ac13 : Nat) (al13 : List ByteArray) (r : Bool) (w : World) (ah12 : Kd.C k38 w aA12 al12.length al12) (ac12h : al12.length ≤ ac12) (ah13 : Kd.C Kd.string w aA13 al13.length al13) (ac13h : al13.length ≤ ac13) (h : supercargoref09_May.f a0 a1 a2 a3 a4 a5 a6 a7 a8 a9 a10 a11 al12 al13 = some r) :
  Calls Tryz.prog 17 #[.agg #[.string a0, .string a1, .int .i64 a2, .int .i64 a3, .int .i64 a4, .string a5, .string a6, .string a7, .int .i64 a8, .int .i64 a9, .string a10, .int .i64 a11, .slice aA12 al12.length ac12, .slice aA13 al13.length ac13]] w fun e w' => e = .returned (.bool r) ∧ Below w.heap.size w w' := by
 unfold supercargoref09_May.f at h
 by_cases hz : Told (⟨a0, a1, a2, a3, a4, a5, a6, a7, a8, a9, ⟨a10, a11⟩, al12, al13⟩ : S33)
 ·
  rw [if_pos hz] at h
  obtain rfl := Option.some.inj h
  exact may9_calls (⟨a0, a1, a2, a3, a4, a5, a6, a7, a8, a9, ⟨a10, a11⟩, al12, al13⟩ : S33) aA12 ac12 aA13 ac13 w ⟨ah12, ac12h, ah13, ac13h⟩ hz
 ·
  rw [if_neg hz] at h; cases h
end Go.Proofs.YtkblmomfiimkiaaGreatDoor.P
end
