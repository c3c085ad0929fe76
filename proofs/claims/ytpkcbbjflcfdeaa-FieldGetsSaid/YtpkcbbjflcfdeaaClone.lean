/- slices.Clone of a list of fields: a new list of the same fields. Conditions: fewer than 2^42 fields, which lie as an argument's do. -/
import Derived.Test.YtpkcbbjflcfdeaaPx0
import Derived.WalkKit
import Derived.WalkMore
import Derived.Lib.Hide
import Derived.Scope
import Derived.Lib.LazyBuf
namespace Go.Proofs.Ytpkcbbjflcfdeaa.P
open Go.RowKit Go.Proofs.YtpkcbbjflcfdeaaW.PrintWords Go.Proofs.YtpkcbbjflcfdeaaW.PrintLast Go.Proofs.YtpkcbbjflcfdeaaW.PrintMore

def api_Field_30.f (l0 : List S42) : Option (List S42) := if l0.length < 4398046511104 then some l0 else none

set_option maxRecDepth 100000 in
theorem api_Field_30.calls (A0 : Option Addr) (c0 : Nat) (l0 : List S42) (r : List S42) (w : World) (hr0 : Kd.C k42 w A0 l0.length l0) (_hc0 : l0.length ≤ c0) (h : api_Field_30.f l0 = some r) :
    Calls Try.prog 30 #[.slice A0 l0.length c0] w fun e w' => ∃ v0_ : Value, e = .returned v0_ ∧ Kd.R k42 42 w' w.heap.size (fun _ => True) v0_ r ∧ Below w.heap.size w w' := by
  unfold api_Field_30.f at h
  by_cases hlen : l0.length < 4398046511104
  · rw [if_pos hlen] at h
    obtain rfl := Option.some.inj h
    clear h
    have HR := Lib.hid hr0
    have HL := Lib.hid hlen
    have hm := hr0.2.2
    have hz : A0 = none → l0 = [] := by
      intro ha
      rcases Nat.eq_zero_or_pos l0.length with h0 | h0
      · exact List.eq_nil_of_length_eq_zero h0
      · obtain ⟨ad, e, _⟩ := hm h0; rw [ha] at e; cases e
    clear hr0 hlen hm
    have heq := fun (W : World) => run_eql_slice_nil (P := Try.prog) W 22 42 A0 l0.length c0 Try.underlying22
    cases A0 with
    | none =>
      have hz := hz rfl
      subst hz
      simp only [List.length_nil, Option.isNone_none] at heq
      go_enter Try.func30, Try.ntmps30
      go_wp2_with fail
      go_ret
      exact ⟨_, rfl, Kd.R_nil _ _ _ _ _, Below.refl _ _⟩
    | some ad =>
      clear hz
      simp only [Option.isNone_some] at heq
      go_enter Try.func30, Try.ntmps30
      go_wp2_with (first | ((with_reducible refine gate_dst (N := 5) rfl ?_); refine Kd.R_lit k42 _ 42 ?hg (N := 5) ?hd (xs := ([] : List (S42))) (inner := []) (ok := fun _ => True) (okp := fun _ => True) ?hr ?hp (fun _ hk => hk) trivial (Below.refl _ _) (Nat.le_refl _) (by simp) ?_; (case hd => rfl); (case hg => rfl); (case hr => first | (go_simp; done) | (go_simp; rfl)); (case hp => exact (Reps.none _ _)); intro v5 w5 ho5 hb5 hg_ hnew_; clear hg_ hnew_; have HO5 := Lib.hid ho5; have HB5 := Lib.hid hb5; clear ho5 hb5) | ((with_reducible refine gate_builtin (b := .append) (xs := #[.tmp 5, .tmp 6]) rfl ?_); at_builtin; refine Kd.R_append_rows k42 (w0 := w) w.heap.size rfl (.tmp 5) (.tmp 6) 22 42 (.agg #[(.string ⟨#[]⟩), (.string ⟨#[]⟩)]) 32 rfl Try.underlying22 info42 rfl (by decide) (by omega) v5 [] l0 _ _ _ (fun _ => True) (fun _ => False) rfl rfl ?aO ?aR (fun _ _ h => h) (fun _ h => h.elim) ?aF ?aB ?aS ?aL ?_; (case aR => exact Kd.C_below HR.out HB5.out); (case aB => exact HB5.out); (case aF => exact fun _ _ => trivial); (case aO => exact HO5.out); (case aS => exact HB5.out.size); (case aL => have := HL.out; simp; omega); intro v7 w7 ho7 hb7 hg hat; clear hg hat; have HO7 := Lib.hid ho7; have HB7 := Lib.hid hb7; clear ho7 hb7))
      go_ret
      exact ⟨_, rfl, HO7.out, HB7.out⟩
  · rw [if_neg hlen] at h; cases h
end Go.Proofs.Ytpkcbbjflcfdeaa.P
