/- supercargoref05.Set, the model's: the first field of a name gets the value, or one more field stands at the end. Conditions: fewer than 2^42 - 1 fields, which lie as an argument's do. -/
import Derived.Test.YtpkcbbjflcfdeaaPlace
namespace Go.Proofs.Ytpkcbbjflcfdeaa.P
open Go.RowKit Go.Proofs.YtpkcbbjflcfdeaaW.PrintWords Go.Proofs.YtpkcbbjflcfdeaaW.PrintLast Go.Proofs.YtpkcbbjflcfdeaaW.PrintMore

def refSet (s v : ByteArray) : List S42 → Bool → List S42
  | [], d => if d = true then [] else [⟨s, v⟩]
  | x :: r, d => if (namedF s x && !d) = true then ⟨x.f0, v⟩ :: refSet s v r true else x :: refSet s v r d
def supercargoref05_Set.f (l0 : List S42) (a1 a2 : ByteArray) : Option (List S42) := if l0.length + 1 < 4398046511104 then some (refSet a1 a2 l0 false) else none

theorem refSet_nil (s v : ByteArray) (l : List S42) (i : Nat) (d : Bool) (h : ¬ i < l.length) : refSet s v (l.drop i) d = if d = true then [] else [⟨s, v⟩] := by
  rw [List.drop_eq_nil_of_le (by omega)]; rfl
theorem refSet_on (s v : ByteArray) (l : List S42) (i : Nat) (d : Bool) (h : i < l.length) (hn : (namedF s l[i] && !d) = true) : refSet s v (l.drop i) d = ⟨(l[i]).f0, v⟩ :: refSet s v (l.drop (i + 1)) true := by
  rw [List.drop_eq_getElem_cons h, refSet, if_pos hn]
theorem refSet_off (s v : ByteArray) (l : List S42) (i : Nat) (d : Bool) (h : i < l.length) (hn : (namedF s l[i] && !d) = false) : refSet s v (l.drop i) d = l[i] :: refSet s v (l.drop (i + 1)) d := by
  rw [List.drop_eq_getElem_cons h, refSet, if_neg (by rw [hn]; simp)]

/-- behind i rounds -/
structure SetIs (l0 : List S42) (s v : ByteArray) (w : World) (i : Nat) (d : Bool) (v7 : Value) (W : World) : Prop where
  below : Below w.heap.size w W
  same : ∃ acc : List S42, refSet s v l0 false = acc ++ refSet s v (l0.drop i) d ∧ acc.length = i ∧ Kd.R k42 42 W w.heap.size (fun _ => True) v7 acc

set_option maxRecDepth 100000 in
set_option maxHeartbeats 4000000 in
theorem supercargoref05_Set.calls (A0 : Option Addr) (c0 : Nat) (l0 : List S42) (a1 a2 : ByteArray) (r : List S42) (w : World) (hr0 : Kd.C k42 w A0 l0.length l0) (_hc0 : l0.length ≤ c0) (h : supercargoref05_Set.f l0 a1 a2 = some r) :
    Calls Try.prog 18 #[.slice A0 l0.length c0, .string a1, .string a2] w fun e w' => ∃ v0_ : Value, e = .returned v0_ ∧ Kd.R k42 42 w' w.heap.size (fun _ => True) v0_ r ∧ Below w.heap.size w w' := by
  unfold supercargoref05_Set.f at h
  by_cases hlen : l0.length + 1 < 4398046511104
  · rw [if_pos hlen] at h
    obtain rfl := Option.some.inj h
    clear h
    have HR := Lib.hid hr0
    clear hr0
    go_enter Try.func18, Try.ntmps18
    go_wp2_with (first | ((with_reducible refine gate_dst (N := 11) rfl ?_); refine Kd.R_lit k42 _ 42 ?hg (N := 11) ?hd (xs := ([] : List (S42))) (inner := []) (ok := fun _ => True) (okp := fun _ => True) ?hr ?hp (fun _ hk => hk) trivial (Below.refl _ _) (Nat.le_refl _) (by simp) ?_; (case hd => rfl); (case hg => rfl); (case hr => first | (go_simp; done) | (go_simp; rfl)); (case hp => exact (Reps.none _ _)); intro v5 w5 ho5 hb5 hg_ hnew_; clear hg_ hnew_; have HO5 := Lib.hid ho5; have HB5 := Lib.hid hb5; clear ho5 hb5))
    go_loopg [7, 8, 9] (l0.length + 1) (fun g v7 v8 v9 W => ∃ (i : Nat) (d : Bool), i + g = l0.length + 1 ∧ i ≤ l0.length ∧ v9 = .int .i64 i ∧ v8 = .bool d ∧ SetIs l0 a1 a2 w i d v7 W)
    case atStart => exact ⟨0, false, by omega, Nat.zero_le _, rfl, rfl, ⟨HB5.out, [], rfl, rfl, HO5.out⟩⟩
    case round =>
      obtain ⟨i, d, hig, hi, rfl, rfl, hb, acc, hs, hl, ho⟩ := hrel
      have HIG := Lib.hid hig
      have HB := Lib.hid hb
      have HS := Lib.hid hs
      have HO := Lib.hid ho
      clear hig hb hs ho
      by_cases hlt : i < l0.length
      · obtain ⟨ad, hA, h0, h1⟩ := at_T42 (Kd.C_below HR.out HB.out) (i : Int) (by omega) (by omega)
        subst hA
        simp only [Int.toNat_natCast] at h0 h1
        rw [rd_at l0 i hlt] at h0 h1
        obtain ⟨t, ht⟩ : ∃ t, ((l0[i]).f0.toList == a1.toList) = t := ⟨_, rfl⟩
        have HT := Lib.hid (show namedF a1 (l0[i]) = t from ht)
        cases t
        · cases d
          · go_wp2_with (first | ((with_reducible refine gate_builtin (b := .append) (xs := #[.tmp 32, .tmp 34]) rfl ?_); at_builtin; refine Kd.R_append k42 (w0 := w) w.heap.size rfl (.tmp 32) (.tmp 34) 22 42 (.agg #[(.string ⟨#[]⟩), (.string ⟨#[]⟩)]) 32 rfl Try.underlying22 info42 rfl (by decide) (by omega) u7 acc (⟨(l0[i]).f0, (l0[i]).f1⟩ : S42) [.string (l0[i]).f0, .string (l0[i]).f1] (fun _ => True) (fun _ => False) rfl (by show Value.slice (some ⟨wr.heap.size + 1, 0, none⟩) 1 1 = _; simp) ?aP (fun _ hk => hk.elim) ?aF ?aO ?aB ?aS ?aL ?_; (case aP => exact k42_mkM _ _ _ (⟨(l0[i]).f0, (l0[i]).f1⟩ : S42)); (case aB => exact (by repeat (first | exact HB.out | apply below_alloc))); (case aF => exact (fun _ _ => trivial)); (case aO => exact (by (with_reducible repeat (first | apply Kd.R_alloc)); exact HO.out)); (case aS => exact (below_size (by repeat (first | exact HB.out | apply below_alloc)))); (case aL => omega); intro vv w24 ho hb hg hat; clear hg hat; have HO7 := Lib.hid ho; have HO7B := Lib.hid hb; clear ho hb))
            go_roundg (gk - 1)
            case measure => have := HIG.out; omega
            case rel => exact ⟨i + 1, false, by have := HIG.out; omega, hlt, rfl, rfl, ⟨HO7B.out, acc ++ [l0[i]], by rw [HS.out, refSet_off _ _ _ _ _ hlt (by rw [HT.out]; rfl)]; simp, by simp [hl], HO7.out⟩⟩
          · go_wp2_with (first | ((with_reducible refine gate_builtin (b := .append) (xs := #[.tmp 32, .tmp 34]) rfl ?_); at_builtin; refine Kd.R_append k42 (w0 := w) w.heap.size rfl (.tmp 32) (.tmp 34) 22 42 (.agg #[(.string ⟨#[]⟩), (.string ⟨#[]⟩)]) 32 rfl Try.underlying22 info42 rfl (by decide) (by omega) u7 acc (⟨(l0[i]).f0, (l0[i]).f1⟩ : S42) [.string (l0[i]).f0, .string (l0[i]).f1] (fun _ => True) (fun _ => False) rfl (by show Value.slice (some ⟨wr.heap.size + 1, 0, none⟩) 1 1 = _; simp) ?aP (fun _ hk => hk.elim) ?aF ?aO ?aB ?aS ?aL ?_; (case aP => exact k42_mkM _ _ _ (⟨(l0[i]).f0, (l0[i]).f1⟩ : S42)); (case aB => exact (by repeat (first | exact HB.out | apply below_alloc))); (case aF => exact (fun _ _ => trivial)); (case aO => exact (by (with_reducible repeat (first | apply Kd.R_alloc)); exact HO.out)); (case aS => exact (below_size (by repeat (first | exact HB.out | apply below_alloc)))); (case aL => omega); intro vv w24 ho hb hg hat; clear hg hat; have HO7 := Lib.hid ho; have HO7B := Lib.hid hb; clear ho hb))
            go_roundg (gk - 1)
            case measure => have := HIG.out; omega
            case rel => exact ⟨i + 1, true, by have := HIG.out; omega, hlt, rfl, rfl, ⟨HO7B.out, acc ++ [l0[i]], by rw [HS.out, refSet_off _ _ _ _ _ hlt (by rw [HT.out]; rfl)]; simp, by simp [hl], HO7.out⟩⟩
        · cases d
          · go_wp2_with (first | ((with_reducible refine gate_builtin (b := .append) (xs := #[.tmp 32, .tmp 34]) rfl ?_); at_builtin; refine Kd.R_append k42 (w0 := w) w.heap.size rfl (.tmp 32) (.tmp 34) 22 42 (.agg #[(.string ⟨#[]⟩), (.string ⟨#[]⟩)]) 32 rfl Try.underlying22 info42 rfl (by decide) (by omega) u7 acc (⟨(l0[i]).f0, a2⟩ : S42) [.string (l0[i]).f0, .string a2] (fun _ => True) (fun _ => False) rfl (by show Value.slice (some ⟨wr.heap.size + 1, 0, none⟩) 1 1 = _; simp) ?aP (fun _ hk => hk.elim) ?aF ?aO ?aB ?aS ?aL ?_; (case aP => exact k42_mkM _ _ _ (⟨(l0[i]).f0, a2⟩ : S42)); (case aB => exact (by repeat (first | exact HB.out | apply below_alloc))); (case aF => exact (fun _ _ => trivial)); (case aO => exact (by (with_reducible repeat (first | apply Kd.R_alloc)); exact HO.out)); (case aS => exact (below_size (by repeat (first | exact HB.out | apply below_alloc)))); (case aL => omega); intro vv w24 ho hb hg hat; clear hg hat; have HO7 := Lib.hid ho; have HO7B := Lib.hid hb; clear ho hb))
            go_roundg (gk - 1)
            case measure => have := HIG.out; omega
            case rel => exact ⟨i + 1, true, by have := HIG.out; omega, hlt, rfl, rfl, ⟨HO7B.out, acc ++ [⟨(l0[i]).f0, a2⟩], by rw [HS.out, refSet_on _ _ _ _ _ hlt (by rw [HT.out]; rfl)]; simp, by simp [hl], HO7.out⟩⟩
          · go_wp2_with (first | ((with_reducible refine gate_builtin (b := .append) (xs := #[.tmp 32, .tmp 34]) rfl ?_); at_builtin; refine Kd.R_append k42 (w0 := w) w.heap.size rfl (.tmp 32) (.tmp 34) 22 42 (.agg #[(.string ⟨#[]⟩), (.string ⟨#[]⟩)]) 32 rfl Try.underlying22 info42 rfl (by decide) (by omega) u7 acc (⟨(l0[i]).f0, (l0[i]).f1⟩ : S42) [.string (l0[i]).f0, .string (l0[i]).f1] (fun _ => True) (fun _ => False) rfl (by show Value.slice (some ⟨wr.heap.size + 1, 0, none⟩) 1 1 = _; simp) ?aP (fun _ hk => hk.elim) ?aF ?aO ?aB ?aS ?aL ?_; (case aP => exact k42_mkM _ _ _ (⟨(l0[i]).f0, (l0[i]).f1⟩ : S42)); (case aB => exact (by repeat (first | exact HB.out | apply below_alloc))); (case aF => exact (fun _ _ => trivial)); (case aO => exact (by (with_reducible repeat (first | apply Kd.R_alloc)); exact HO.out)); (case aS => exact (below_size (by repeat (first | exact HB.out | apply below_alloc)))); (case aL => omega); intro vv w24 ho hb hg hat; clear hg hat; have HO7 := Lib.hid ho; have HO7B := Lib.hid hb; clear ho hb))
            go_roundg (gk - 1)
            case measure => have := HIG.out; omega
            case rel => exact ⟨i + 1, true, by have := HIG.out; omega, hlt, rfl, rfl, ⟨HO7B.out, acc ++ [l0[i]], by rw [HS.out, refSet_off _ _ _ _ _ hlt (by rw [HT.out]; rfl)]; simp, by simp [hl], HO7.out⟩⟩
      · cases d
        · go_wp2_with (first | ((with_reducible refine gate_builtin (b := .append) (xs := #[.tmp 38, .tmp 42]) rfl ?_); at_builtin; refine Kd.R_append k42 (w0 := w) w.heap.size rfl (.tmp 38) (.tmp 42) 22 42 (.agg #[(.string ⟨#[]⟩), (.string ⟨#[]⟩)]) 32 rfl Try.underlying22 info42 rfl (by decide) (by omega) u7 acc (⟨a1, a2⟩ : S42) [.string a1, .string a2] (fun _ => True) (fun _ => False) rfl rfl ?aP (fun _ hk => hk.elim) ?aF ?aO ?aB ?aS ?aL ?_; (case aP => exact k42_mkM _ _ _ (⟨a1, a2⟩ : S42)); (case aB => exact (by repeat (first | exact HB.out | apply below_alloc))); (case aF => exact (fun _ _ => trivial)); (case aO => exact (by (with_reducible repeat (first | apply Kd.R_alloc)); exact HO.out)); (case aS => exact (below_size (by repeat (first | exact HB.out | apply below_alloc)))); (case aL => omega); intro vv w24 ho hb hg hat; clear hg hat; have HO7 := Lib.hid ho; have HO7B := Lib.hid hb; clear ho hb))
          go_ret
          exact ⟨_, rfl, by rw [HS.out, refSet_nil _ _ _ _ _ hlt]; exact HO7.out, HO7B.out⟩
        · go_wp2_with fail
          go_ret
          exact ⟨_, rfl, by rw [HS.out, refSet_nil _ _ _ _ _ hlt, if_pos rfl, List.append_nil]; exact HO.out, HB.out⟩
  · rw [if_neg hlen] at h; cases h
end Go.Proofs.Ytpkcbbjflcfdeaa.P
