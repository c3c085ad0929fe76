/- post.sum: an amount as text, nothing of nothing. Conditions: the library's table of powers stands as laid. -/
import Derived.Test.YtkblmomfiimkiaaGreatDoorMoneyT
import Derived.Test.YtkblmomfiimkiaaGreatDoorEqMoney
namespace Go.Proofs.YtkblmomfiimkiaaGreatDoor.P
open Go.RowKit Go.Proofs.YtkblmomfiimkiaaGreatDoorW.PrintWords Go.Proofs.YtkblmomfiimkiaaGreatDoorW.PrintLast Go.Proofs.YtkblmomfiimkiaaGreatDoorW.PrintMore
open Go.Proofs.YtkblmomfiimkiaaGreatDoor.Fp
attribute [local go_sem high] eqMoney

def post_sum.f (a0 : ByteArray) (a1 : Int) : Option ByteArray := some ⟨(moneyT a0.data.toList a1).toArray⟩
set_option maxRecDepth 100000 in
set_option maxHeartbeats 4000000 in
theorem post_sum.calls (a0_0 : ByteArray) (a0_1 : Int) (r : ByteArray) (w : World) (hG : Glob w) (h : post_sum.f a0_0 a0_1 = some r) :
    Calls Tryz.prog 74 #[.agg #[.string a0_0, .int .i64 a0_1]] w fun e w' => e = .returned (.string r) ∧ Below w.heap.size w w' := by
  obtain rfl := Option.some.inj h
  clear h
  have HG := Lib.hid hG
  clear hG
  have ht := Lib.toList_data a0_0
  by_cases h1 : a0_0.toList = []
  · by_cases h2 : a0_1 = 0
    · have HT := Lib.hid (ht.symm.trans h1)
      subst h2
      clear ht
      go_enter Tryz.func74, Tryz.ntmps74
      go_wp2_with fail
      go_ret
      exact ⟨by rw [HT.out]; rfl, (Below.refl _ w).alloc (Nat.le_refl _) _⟩
    · have hb2 : (a0_1 == 0) = false := beq_eq_false_iff_ne.2 h2
      clear ht h2
      have hM := fun W hW => money_Text.calls a0_0 a0_1 _ W (glob_below HG.out hW) rfl
      go_enter Tryz.func74, Tryz.ntmps74
      go_wp2_with fail
      refine (hM _ ((Below.refl _ w).alloc (Nat.le_refl _) _)).mono ?_
      rintro e w1 ⟨rfl, hb⟩
      have HB := Lib.hid (((Below.refl _ w).alloc (Nat.le_refl _) (.cells #[.string a0_0, .int .i64 a0_1] 30)).trans (hb.mono (by simp)))
      clear hb
      go_wp2_with fail
      go_ret
      exact ⟨rfl, HB.out⟩
  · have h1' : a0_0.toList.isEmpty = false := by simpa using h1
    have h1b : (a0_0.toList == []) = false := by simpa using h1
    clear ht
    have hM := fun W hW => money_Text.calls a0_0 a0_1 _ W (glob_below HG.out hW) rfl
    go_enter Tryz.func74, Tryz.ntmps74
    go_wp2_with fail
    refine (hM _ ((Below.refl _ w).alloc (Nat.le_refl _) _)).mono ?_
    rintro e w1 ⟨rfl, hb⟩
    have HB := Lib.hid (((Below.refl _ w).alloc (Nat.le_refl _) (.cells #[.string a0_0, .int .i64 a0_1] 30)).trans (hb.mono (by simp)))
    clear hb
    go_wp2_with fail
    go_ret
    exact ⟨rfl, HB.out⟩
end Go.Proofs.YtkblmomfiimkiaaGreatDoor.P
