/- The row of the law FieldSames, out of its walk and of what its Lean function answers. Conditions: none. -/
import Derived.Test.YtpkcbbjflcfdeaaRows
import Derived.Test.YtpkcbbjflcfdeaaOpen
import Derived.Test.YtpkcbbjflcfdeaaPureSames
import Derived.WalkKit
import Derived.ProofKit
import Derived.OpenShut
import Derived.ShutString
import Derived.ChangeOld
import Derived.Below
import Derived.SizedLaws
import Derived.Carry
import Derived.Lib.SmallJoins
namespace Go.Proofs.Ytpkcbbjflcfdeaa.fieldSames
open Go.ChangeShapes Go.WideShapes Go.ChangeAt Go.RowKit Go.Joins
open Go.ChangeMaps (open_string shut_string)
theorem own : ownKnob Try.prog.godebug = none := by kernel_rfl
theorem laidOut : laidOutB Try.prog = true := by kernel_rfl
set_option maxRecDepth 100000 in
theorem lifted (os : Os) (started : os.Started) (H : Type) (enc : TypeId × Value → H) :
    ReturnsInHanded {} Try.checked os 4 .any (Rows.fieldSamesSpec.pre6 enc Try.prog Try.f4 Rows.fieldSamesRow.domain false) (Rows.fieldSamesSpec.post enc Try.prog Try.f4 false true false false) := by
  refine returnsInHanded_of_change_sized (C := Try.checked) own started (by kernel_rfl) Try.func4
    (ChangeSpec.witness6 (enc := enc) (C := Try.checked) false ⟨#[], #[.agg #[.int .i64 0, .string ByteArray.empty, .string ByteArray.empty, .slice none 0 0], .agg #[.int .i64 0, .string ByteArray.empty, .string ByteArray.empty, .slice none 0 0]], []⟩ 8 (by kernel_rfl) (by kernel_rfl) (by kernel_rfl) (by kernel_rfl)) ?_
  intro W base args ds gs before hval0 hW hcnd hsz0 _
  have hval : ∀ (j : Nat) t v, Try.f4.params[j]? = some t → args[j]? = some v → Value.okWide Try.prog W .any base t v := hval0
  have hW' := hW
  obtain ⟨p, q, hA0, hV, rfl, hfz, hnd⟩ := hW
  have hA : DataW.TrodAll enc Try.prog W 0 (fun _ => true) true Try.f4.params.toList args.toList ds p := hA0
  rw [Try.params4] at hA hval
  obtain ⟨v0, vs0, d0, ds0, p0, q0, hargs, rfl, rfl, h0, r0⟩ := trodAll_cons hA
  obtain ⟨v1, vs1, d1, ds1, p1, q1, rfl, rfl, rfl, h1, r1⟩ := trodAll_cons r0
  obtain ⟨rfl, rfl, rfl⟩ := trodAll_nil r1
  obtain rfl : args = #[v0, v1] := by cases args; simp_all
  obtain ⟨rfl, rfl⟩ := trodVars_none hV
  have k0 := h0
  have lt0 : ∀ x ∈ p0, x.block < W.heap.size := by obtain ⟨m, hm⟩ := k0; exact DataW.trod_lt m _ _ _ hm
  obtain ⟨c0_0, c0_1, c0_2, c0_3, y0_0, y0_1, y0_2, y0_3, m0, rfl, rfl, rfl, g0_0, g0_1, g0_2, g0_3⟩ := open_agg4 Try.underlying34 (by kernel_rfl) (by kernel_rfl) (hval 0 34 v0 rfl rfl) h0
  obtain ⟨n0, rfl, w0⟩ := P.doc_int g0_0
  obtain ⟨s0_1, rfl⟩ := P.doc_str g0_1
  obtain ⟨s0_2, rfl⟩ := P.doc_str g0_2
  obtain ⟨a0, len0, cap0, rfl⟩ := P.doc_slice g0_3
  obtain ⟨hl0, l0, rfl, hc0⟩ := P.open_fields g0_3
  have k1 := h1
  have lt1 : ∀ x ∈ p1, x.block < W.heap.size := by obtain ⟨m, hm⟩ := k1; exact DataW.trod_lt m _ _ _ hm
  obtain ⟨c1_0, c1_1, c1_2, c1_3, y1_0, y1_1, y1_2, y1_3, m1, rfl, rfl, rfl, g1_0, g1_1, g1_2, g1_3⟩ := open_agg4 Try.underlying34 (by kernel_rfl) (by kernel_rfl) (hval 1 34 v1 rfl rfl) h1
  obtain ⟨n1, rfl, w1⟩ := P.doc_int g1_0
  obtain ⟨s1_1, rfl⟩ := P.doc_str g1_1
  obtain ⟨s1_2, rfl⟩ := P.doc_str g1_2
  obtain ⟨a1, len1, cap1, rfl⟩ := P.doc_slice g1_3
  obtain ⟨hl1, l1, rfl, hc1⟩ := P.open_fields g1_3
  clear hA0 hval0 hsz0
  obtain ⟨k, hk⟩ := P.pure_FieldSames n0 s0_1 s0_2 l0 n1 s1_1 s1_2 l1 hc0.2.1 hc1.2.1
  refine (P.supercargolaw05_FieldSames.calls k n0 s0_1 s0_2 a0 cap0 l0 n1 s1_1 s1_2 a1 cap1 l1 true W hc0 hl0 hc1 hl1 hk).mono fun e W' ⟨he, bel⟩ => ?_
  subst he
  exact ⟨_, rfl, _, _, _, [], _, [], hW', trodAll_mk1 (shut_bool Try.underlying4 _), (trodAll_cons_mk (Below.trod laidOut (by kernel_rfl) (of_decide_eq_true (by kernel_rfl)) k0 bel lt0) (trodAll_cons_mk (Below.trod laidOut (by kernel_rfl) (of_decide_eq_true (by kernel_rfl)) k1 bel lt1) trodAll_mk0)), rfl, bel.frame _, fun h => by cases h⟩
theorem over : Rows.fieldSamesRow.holds Try.pinned (OpenSpec.ofChange Rows.fieldSamesSpec) :=
  OpenClaim.holds_of_wide 4 Try.f4 rfl rfl rfl rfl rfl rfl rfl ⟨rfl, rfl, rfl, rfl, rfl⟩ rfl rfl rfl rfl rfl (by kernel_rfl) Try.func4 (by kernel_rfl)
    (of_decide_eq_true (by kernel_rfl)) (by unfold Func.isWrapper; first | (rw [if_pos (by decide +kernel)]; kernel_rfl) | (rw [if_neg (by decide +kernel)]; exact ⟨rfl, rfl⟩))
    (fun os started H enc _ => lifted os started H enc)
theorem proved : Rows.FieldSamesSaid := over
end Go.Proofs.Ytpkcbbjflcfdeaa.fieldSames
namespace Go.Proofs.Ytpkcbbjflcfdeaa
/-- The row, under a short name, for the claim. -/
theorem fieldSames_holds : Rows.FieldSamesSaid := fieldSames.proved
end Go.Proofs.Ytpkcbbjflcfdeaa
