/- strings.NewReplacer of the four strings of field.line, Replace of what it makes, and field.line: a field's line of text. Conditions: the value has at most 1,048,576 bytes. -/
import Derived.Test.YtpkcbbjflcfdeaaGreatDoorBsr
import Derived.Test.YtpkcbbjflcfdeaaGreatDoorPx0
import Derived.Deep.RegionHeld3
namespace Go.Proofs.YtpkcbbjflcfdeaaGreatDoor.P
open Go.RowKit Go.Proofs.YtpkcbbjflcfdeaaGreatDoor.Fp

theorem append_nil_four (P : Program) (t ty e : TypeId) (i : TypeInfo) (z : Value) (ht : P.underlying t = some (.slice e)) (hi : P.info? e = some i) (hz : i.zero = some z) (hs : i.size = 1) (hb : i.bytes = 16) (W : World) (a : Addr) (c : Nat) (v0 v1 v2 v3 : Value)
    (h0 : W.cell? (a.add 0) = some v0) (h1 : W.cell? (a.add 1) = some v1) (h2 : W.cell? (a.add 2) = some v2) (h3 : W.cell? (a.add 3) = some v3) :
    ∃ cp C, (Builtin.append_ #[t, t] ty #[.slice none 0 0, .slice (some a) 4 c]).run P W = .ok (.slice (some ⟨W.heap.size, 0, none⟩) 4 cp) ((W.alloc (.cells C e)).drew) ∧ C[0]? = some v0 ∧ C[1]? = some v1 ∧ C[2]? = some v2 ∧ C[3]? = some v3 := by
  have h := run_append_nil (P := P) W t ty e i z ht hi hz a 4 c [v0, v1, v2, v3] (by simp [hs]) (fun j v hj => by
    rcases j with _ | _ | _ | _ | j <;> simp at hj <;> subst hj <;> assumption) (by omega) (by omega) (by rw [hb]; omega)
  have hat : ∀ (Z : Array Value) k u, #[v0, v1, v2, v3][k]? = some u → (#[v0, v1, v2, v3] ++ Z)[k]? = some u := fun Z k u hk => by
    rw [Array.getElem?_append_left (by rcases Array.getElem?_eq_some_iff.1 hk with ⟨hl, _⟩; exact hl)]; exact hk
  exact ⟨_, _, h, hat _ 0 _ rfl, hat _ 1 _ rfl, hat _ 2 _ rfl, hat _ 3 _ rfl⟩

/-- an append whose run is known, as a step of the walk -/
theorem wpList_run_ {P : Program} {ops : Array Oper} {rest : List Oper} {o : Oper} {a : Act} {Q : Exit → Act → World → Prop} {w w' : World} (hg : o.guard = none) (s x : Operand) (t : TypeId)
    (ho : o.op = .call { callee := .builtin .append, args := #[s, x], argTypes := #[t, t] }) (vs vx v : Value) (hs : a.eval s = vs) (hx : a.eval x = vx)
    (hr : (Builtin.append_ #[t, t] o.type #[vs, vx]).run P w = .ok v w')
    (h : wpList P ops Q rest (a.put o.dst v) w') : wpList P ops Q (o :: rest) a w :=
  wpList_plain hg fun _ hK => by
    unfold Oper.wp execOp
    simp only [ho, resolve, invoke, builtin, Sem.run_bind, Sem.run_pure, Result.andThen_ok, List.map_toArray, List.map_cons, List.map_nil, hs, hx, hr]
    exact hK _ _ h

set_option maxRecDepth 100000 in
set_option maxHeartbeats 1000000 in
theorem new_calls (w : World) (O : Nat) (c : Nat) (_hO : O < w.heap.size)
   (o0 : w.cell? ⟨O, 0, none⟩ = some (.string ⟨#[92]⟩)) (o1 : w.cell? ⟨O, 1, none⟩ = some (.string ⟨#[92, 92]⟩))
   (o2 : w.cell? ⟨O, 2, none⟩ = some (.string ⟨#[10]⟩)) (o3 : w.cell? ⟨O, 3, none⟩ = some (.string ⟨#[92, 110]⟩)) :
   Calls Tryz.prog 24 #[.slice (some ⟨O, 0, none⟩) 4 c] w fun e w' => e = .returned (.pointer (some ⟨w.heap.size + 1, 0, none⟩)) ∧ ∃ cp C, w' = ((w.alloc (.cells C 9)).alloc (.cells #[.int .u32 0, .int .i32 0, .int .u32 0, .nilIface, .slice (some ⟨w.heap.size, 0, none⟩) 4 cp] 93)).drew ∧
     C[0]? = some (.string ⟨#[92]⟩) ∧ C[1]? = some (.string ⟨#[92, 92]⟩) ∧ C[2]? = some (.string ⟨#[10]⟩) ∧ C[3]? = some (.string ⟨#[92, 110]⟩) := by
  obtain ⟨i9, hi9, hz9, hs9, hb9⟩ := info_parts (P := Tryz.prog) (e := 9) (z := .string ⟨#[]⟩) (size := 1) (bytes := 16) (by kernel_rfl)
  have ad : ∀ k : Nat, (⟨O, 0, none⟩ : Addr).add k = ⟨O, k, none⟩ := fun k => by unfold Addr.add; split <;> simp_all
  obtain ⟨cp, C, hap, c0, c1, c2, c3⟩ := append_nil_four Tryz.prog 77 77 9 i9 _ Tryz.underlying77 hi9 hz9 hs9 hb9 w ⟨O, 0, none⟩ c _ _ _ _ ((congrArg _ (ad 0)).trans o0) ((congrArg _ (ad 1)).trans o1) ((congrArg _ (ad 2)).trans o2) ((congrArg _ (ad 3)).trans o3)
  have C0 := Lib.hid c0
  have C1 := Lib.hid c1
  have C2 := Lib.hid c2
  have C3 := Lib.hid c3
  have HAP := Lib.hid hap
  clear c0 c1 c2 c3 hi9 hz9 hs9 hb9 ad o0 o1 o2 o3 hap
  go_enter Tryz.func24, Tryz.ntmps24
  go_wp2_with (at_builtin; refine wpList_run_ rfl (.const (.slice none 0 0)) (.tmp 8) 77 rfl _ _ _ rfl rfl HAP.out ?_)
  go_ret
  exact ⟨rfl, cp, C, rfl, C0.out, C1.out, C2.out, C3.out⟩

set_option maxRecDepth 100000 in
/-- (*strings.Replacer).Replace, of one that was just made -/
theorem replace_calls (R O c : Nat) (q2 : Value) (s : ByteArray) (w : World) (hs : s.size ≤ 1048576) (hR : w.heap[R]? = some (.cells #[.int .u32 0, .int .i32 0, q2, .nilIface, .slice (some ⟨O, 0, none⟩) 4 c] 93 (0, 0))) (hO : O < w.heap.size) (hOR : O ≠ R)
   (o0 : w.cell? ⟨O, 0, none⟩ = some (.string ⟨#[92]⟩)) (o1 : w.cell? ⟨O, 1, none⟩ = some (.string ⟨#[92, 92]⟩))
   (o2 : w.cell? ⟨O, 2, none⟩ = some (.string ⟨#[10]⟩)) (o3 : w.cell? ⟨O, 3, none⟩ = some (.string ⟨#[92, 110]⟩)) :
   Calls Tryz.prog 25 #[.pointer (some ⟨R, 0, none⟩), .string s] w fun e w' => e = .returned (.string ⟨(esc s.data.toList).toArray⟩) ∧ Below R w w' := by
  have hRl : R < w.heap.size := (Array.getElem?_eq_some_iff.1 hR).1
  have HD := Lib.hid (do_calls R O c q2 w hR hO hOR o0 o1 o2 o3)
  have hmf : ∀ (fn : Fn) (first cap : Array Value) (w : World), (Instr.makeFunc fn first cap).run Tryz.prog w = .ok (.func fn first cap) w := fun _ _ _ _ => rfl
  have hme : ∀ (a : Addr) (w : World), (method 291 129 (.pointer (some a)) "Replace").run Tryz.prog w = .ok (127, .pointer (some a)) w := fun _ _ => by kernel_rfl
  clear hR hO hOR o0 o1 o2 o3
  go_enter Tryz.func25, Tryz.ntmps25
  go_wp2_with (go_at_call 39; refine HD.out.mono ?_; rintro e w1 ⟨rfl, hd⟩; have hr := hd.r; have HQ := Lib.hid hd; clear hd)
  refine (bsr_calls w.heap.size (w.heap.size + 1) s _ HQ.out.bsr hs).mono ?_
  rintro e w2 ⟨rfl, hb⟩
  have HB2 := Lib.hid hb
  clear hb
  go_wp2_with fail
  go_ret
  exact ⟨rfl, HQ.out.below.trans (HB2.out.mono (Nat.le_trans (Nat.le_of_lt hRl) HQ.out.size))⟩

/-- a Replacer that was just made, in block R of w1 -/
structure Made (R : Nat) (w w1 : World) : Prop where
  below : Below w.heap.size w w1
  ge : w.heap.size ≤ R
  row : ∃ O c q2, w1.heap[R]? = some (.cells #[.int .u32 0, .int .i32 0, q2, .nilIface, .slice (some ⟨O, 0, none⟩) 4 c] 93 (0, 0)) ∧ O < w1.heap.size ∧ O ≠ R ∧
    w1.cell? ⟨O, 0, none⟩ = some (.string ⟨#[92]⟩) ∧ w1.cell? ⟨O, 1, none⟩ = some (.string ⟨#[92, 92]⟩) ∧ w1.cell? ⟨O, 2, none⟩ = some (.string ⟨#[10]⟩) ∧ w1.cell? ⟨O, 3, none⟩ = some (.string ⟨#[92, 110]⟩)

theorem new_made (w : World) (O : Nat) (c : Nat) (hO : O < w.heap.size)
   (o0 : w.cell? ⟨O, 0, none⟩ = some (.string ⟨#[92]⟩)) (o1 : w.cell? ⟨O, 1, none⟩ = some (.string ⟨#[92, 92]⟩))
   (o2 : w.cell? ⟨O, 2, none⟩ = some (.string ⟨#[10]⟩)) (o3 : w.cell? ⟨O, 3, none⟩ = some (.string ⟨#[92, 110]⟩)) :
   Calls Tryz.prog 24 #[.slice (some ⟨O, 0, none⟩) 4 c] w fun e w' => e = .returned (.pointer (some ⟨w.heap.size + 1, 0, none⟩)) ∧ Made (w.heap.size + 1) w w' := by
  refine (new_calls w O c hO o0 o1 o2 o3).mono ?_
  rintro e w' ⟨rfl, cp, C, rfl, c0, c1, c2, c3⟩
  refine ⟨rfl, ⟨?_, by omega, w.heap.size, cp, .int .u32 0, ?_, ?_, by omega, ?_, ?_, ?_, ?_⟩⟩
  · exact (((Below.refl _ _).alloc (Nat.le_refl _) _).alloc (by simp) _).drew
  · have h := heap_alloc_last (w.alloc (.cells C 9)) (.cells #[.int .u32 0, .int .i32 0, .int .u32 0, .nilIface, .slice (some ⟨w.heap.size, 0, none⟩) 4 cp] 93)
    have e : (w.alloc (.cells C 9)).heap.size = w.heap.size + 1 := by simp
    rw [e] at h
    exact h
  · simp; omega
  all_goals (simp; assumption)

theorem esc_le (l : List UInt8) : (esc l).length ≤ 2 * l.length := by
  rw [esc_length]; have := spc_le l; omega
theorem line_small (n v : ByteArray) (hn : n.size ≤ 1048576) (hv : v.size ≤ 1048576) : ¬ (9223372036854775807 < n.size + 1 + (esc v.data.toList).length) ∧ ¬ (9223372036854775807 < n.size + 1 + (esc v.data.toList).length + 1) := by
  have h := esc_le v.data.toList
  have e : v.data.toList.length = v.size := by simp
  rw [e] at h
  omega

theorem line_text (n v : ByteArray) : (⟨(lineB n.data.toList v.data.toList).toArray⟩ : ByteArray) = n ++ ⟨#[61]⟩ ++ ⟨(esc v.data.toList).toArray⟩ ++ ⟨#[10]⟩ := by
  apply ByteArray.ext
  apply Array.ext'
  simp [lineB, ByteArray.data_append]

set_option maxRecDepth 100000 in
set_option maxHeartbeats 2000000 in
theorem line_calls (n v : ByteArray) (w : World) (hn : n.size ≤ 1048576) (hv : v.size ≤ 1048576) :
    Calls Tryz.prog 14 #[.agg #[.string n, .string v]] w fun e w' => e = .returned (.string ⟨(lineB n.data.toList v.data.toList).toArray⟩) ∧ Below w.heap.size w w' := by
  have hnew := new_made (((w.alloc (.cells #[.string n, .string v] 31)).alloc (.cells #[.string ⟨#[92]⟩, .string ⟨#[92, 92]⟩, .string ⟨#[10]⟩, .string ⟨#[92, 110]⟩] 9)).drew) (w.heap.size + 1) 4 (by simp) (by simp) (by simp) (by simp) (by simp)
  have e0 : (((w.alloc (.cells #[.string n, .string v] 31)).alloc (.cells #[.string ⟨#[92]⟩, .string ⟨#[92, 92]⟩, .string ⟨#[10]⟩, .string ⟨#[92, 110]⟩] 9)).drew).heap.size = w.heap.size + 1 + 1 := by simp
  rw [e0] at hnew
  have HNEW := Lib.hid hnew
  have a1 : ¬ (9223372036854775807 < n.size + 1) := by omega
  have hl := line_small n v hn hv
  have hl1 := hl.1
  have hl2 := hl.2
  clear hnew e0 hl
  go_enter Tryz.func14, Tryz.ntmps14
  go_wp2_with fail
  go_region_held3 (fun w' => w'.cell? ⟨w.heap.size, 0, none⟩ = some (.string n) ∧ w'.cell? ⟨w.heap.size, 1, none⟩ = some (.string v)) (go_keep)
    (first
      | (go_at_call 24; refine HNEW.out.mono ?_; rintro e w1 ⟨rfl, hm⟩; have k1 := (hm.below.cell (p := ⟨w.heap.size, 0, none⟩) (by simp; omega)).trans (show (((w.alloc (.cells #[.string n, .string v] 31)).alloc (.cells #[.string ⟨#[92]⟩, .string ⟨#[92, 92]⟩, .string ⟨#[10]⟩, .string ⟨#[92, 110]⟩] 9)).drew).cell? ⟨w.heap.size, 0, none⟩ = some (.string n) by simp); have k2 := (hm.below.cell (p := ⟨w.heap.size, 1, none⟩) (by simp; omega)).trans (show (((w.alloc (.cells #[.string n, .string v] 31)).alloc (.cells #[.string ⟨#[92]⟩, .string ⟨#[92, 92]⟩, .string ⟨#[10]⟩, .string ⟨#[92, 110]⟩] 9)).drew).cell? ⟨w.heap.size, 1, none⟩ = some (.string v) by simp); obtain ⟨O, c, q2, hrow, hO, hOR, o0, o1, o2, o3⟩ := hm.row; have HREP := Lib.hid (replace_calls _ O c q2 v w1 hv hrow hO hOR o0 o1 o2 o3); have HM := Lib.hid hm; clear hm hrow hO hOR o0 o1 o2 o3)
      | (go_at_call 25; refine HREP.out.mono ?_; rintro e w2 ⟨rfl, hb⟩; have k3 := (hb.cell (p := ⟨w.heap.size, 0, none⟩) (by simp; omega)).trans k1; have k4 := (hb.cell (p := ⟨w.heap.size, 1, none⟩) (by simp; omega)).trans k2; have HB2 := Lib.hid hb; clear hb))
  go_wp2_with fail
  go_ret
  refine ⟨?_, ?_⟩
  · rw [line_text]
    rfl
  · have s1 := HM.out.below.size
    refine (((Below.refl w.heap.size w).alloc (Nat.le_refl _) _).alloc (by simp) _).drew.trans (HM.out.below.mono (by simp; omega)) |>.trans (HB2.out.mono (by omega))
end Go.Proofs.YtpkcbbjflcfdeaaGreatDoor.P
