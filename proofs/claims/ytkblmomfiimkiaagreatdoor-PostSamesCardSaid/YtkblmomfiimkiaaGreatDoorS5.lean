/- What the claim's theorem leans on. Conditions: none of its own. (Written by prune.py out of the texts Line Text, without what the claim doesn't lean on.) -/
import Derived.Deep.RegionHeld3
import Derived.WalkSpells
import Derived.Lib.Hide
import Derived.Deep.QuietTactic
import Derived.BigQuiet
import Derived.Lib.Strings
import Derived.Deep.Draws
import Derived.Test.YtkblmomfiimkiaaGreatDoorS2
import Derived.Test.YtkblmomfiimkiaaGreatDoorS4
section
namespace Go.Proofs.YtkblmomfiimkiaaGreatDoor.P
open Go.RowKit Go.Proofs.YtkblmomfiimkiaaGreatDoor.Fp
theorem append_nil_four (P : Program) (t ty e : TypeId) (i : TypeInfo) (z : Value) (ht : P.underlying t = some (.slice e)) (hi : P.info? e = some i) (hz : i.zero = some z) (hs : i.size = 1) (hb : i.bytes = 16) (W : World) (a : Addr) (c : Nat) (v0 v1 v2 v3 : Value)
  (h0 : W.cell? (a.add 0) = some v0) (h1 : W.cell? (a.add 1) = some v1) (h2 : W.cell? (a.add 2) = some v2) (h3 : W.cell? (a.add 3) = some v3) :
  ∃ cp C, (Builtin.append_ #[t, t] ty #[.slice none 0 0, .slice (some a) 4 c]).run P W = .ok (.slice (some ⟨W.heap.size, 0, none⟩) 4 cp) ((W.alloc (.cells C e)).drew) ∧ C[0]? = some v0 ∧ C[1]? = some v1 ∧ C[2]? = some v2 ∧ C[3]? = some v3 := by
 have h := run_append_nil (P := P) W t ty e i z ht hi hz a 4 c [v0, v1, v2, v3] (by simp [hs]) (fun j v hj => by
  rcases j with _ | _ | _ | _ | j <;> simp at hj <;> subst hj <;> assumption) (by omega) (by omega) (by rw [hb]; omega)
 have hat : ∀ (Z : Array Value) k u, #[v0, v1, v2, v3][k]? = some u → (#[v0, v1, v2, v3] ++ Z)[k]? = some u := fun Z k u hk => by
  rw [Array.getElem?_append_left (by rcases Array.getElem?_eq_some_iff.1 hk with ⟨hl, _⟩; exact hl)]; exact hk
 exact ⟨_, _, h, hat _ 0 _ rfl, hat _ 1 _ rfl, hat _ 2 _ rfl, hat _ 3 _ rfl⟩
theorem wpList_run_ {P : Program} {ops : Array Oper} {rest : List Oper} {o : Oper} {a : Act} {Q : Exit → Act → World → Prop} {w w' : World} (hg : o.guard = none) (s x : Operand) (t : TypeId)
  (ho : o.op = .call { callee := .builtin .append, args := #[s, x], argTypes := #[t, t] }) (vs vx v : Value) (hs : a.eval s = vs) (hx : a.eval x = vx)
  (hr : (Builtin.append_ #[t, t] o.type #[vs, vx]).run P w = .ok v w')
  (h : wpList P ops Q rest (a.put o.dst v) w') : wpList P ops Q (o :: rest) a w :=
 wpList_plain hg fun _ hK => by
  unfold Oper.wp execOp
  simp only [ho, resolve, invoke, builtin, Sem.run_bind, Sem.run_pure, Result.andThen_ok, List.map_toArray, List.map_cons, List.map_nil, hs, hx, hr]
  exact hK _ _ h
set_option maxRecDepth 100000 in
set_option maxHeartbeats 1000000 in
theorem new_calls (w : World) (O : Nat) (c : Nat) (_hO : O < w.heap.size)
   (o0 : w.cell? ⟨O, 0, none⟩ = some (.string ⟨#[92]⟩)) (o1 : w.cell? ⟨O, 1, none⟩ = some (.string ⟨#[92, 92]⟩))
   (o2 : w.cell? ⟨O, 2, none⟩ = some (.string ⟨#[10]⟩)) (o3 : w.cell? ⟨O, 3, none⟩ = some (.string ⟨#[92, 110]⟩)) :
   Calls Tryz.prog 110 #[.slice (some ⟨O, 0, none⟩) 4 c] w fun e w' => e = .returned (.pointer (some ⟨w.heap.size + 1, 0, none⟩)) ∧ ∃ cp C, w' = ((w.alloc (.cells C 9)).alloc (.cells #[.int .u32 0, .int .i32 0, .int .u32 0, .nilIface, .slice (some ⟨w.heap.size, 0, none⟩) 4 cp] 164)).drew ∧
     C[0]? = some (.string ⟨#[92]⟩) ∧ C[1]? = some (.string ⟨#[92, 92]⟩) ∧ C[2]? = some (.string ⟨#[10]⟩) ∧ C[3]? = some (.string ⟨#[92, 110]⟩) := by
  obtain ⟨i9, hi9, hz9, hs9, hb9⟩ := info_parts (P := Tryz.prog) (e := 9) (z := .string ⟨#[]⟩) (size := 1) (bytes := 16) (by kernel_rfl)
  have ad : ∀ k : Nat, (⟨O, 0, none⟩ : Addr).add k = ⟨O, k, none⟩ := fun k => by unfold Addr.add; split <;> simp_all
  obtain ⟨cp, C, hap, c0, c1, c2, c3⟩ := append_nil_four Tryz.prog 23 23 9 i9 _ Tryz.underlying23 hi9 hz9 hs9 hb9 w ⟨O, 0, none⟩ c _ _ _ _ ((congrArg _ (ad 0)).trans o0) ((congrArg _ (ad 1)).trans o1) ((congrArg _ (ad 2)).trans o2) ((congrArg _ (ad 3)).trans o3)
  have C0 := Lib.hid c0
  have C1 := Lib.hid c1
  have C2 := Lib.hid c2
  have C3 := Lib.hid c3
  have HAP := Lib.hid hap
  clear c0 c1 c2 c3 hi9 hz9 hs9 hb9 ad o0 o1 o2 o3 hap
  go_enter Tryz.func110, Tryz.ntmps110
  go_wp2_with (at_builtin; refine wpList_run_ rfl (.const (.slice none 0 0)) (.tmp 8) 23 rfl _ _ _ rfl rfl HAP.out ?_)
  go_ret
  exact ⟨rfl, cp, C, rfl, C0.out, C1.out, C2.out, C3.out⟩
set_option maxRecDepth 100000 in
theorem replace_calls (R O c : Nat) (q2 : Value) (s : ByteArray) (w : World) (hs : s.size ≤ 1048576) (hR : w.heap[R]? = some (.cells #[.int .u32 0, .int .i32 0, q2, .nilIface, .slice (some ⟨O, 0, none⟩) 4 c] 164 (0, 0))) (hO : O < w.heap.size) (hOR : O ≠ R)
   (o0 : w.cell? ⟨O, 0, none⟩ = some (.string ⟨#[92]⟩)) (o1 : w.cell? ⟨O, 1, none⟩ = some (.string ⟨#[92, 92]⟩))
   (o2 : w.cell? ⟨O, 2, none⟩ = some (.string ⟨#[10]⟩)) (o3 : w.cell? ⟨O, 3, none⟩ = some (.string ⟨#[92, 110]⟩)) :
   Calls Tryz.prog 111 #[.pointer (some ⟨R, 0, none⟩), .string s] w fun e w' => e = .returned (.string ⟨(esc s.data.toList).toArray⟩) ∧ Below R w w' := by
  have hRl : R < w.heap.size := (Array.getElem?_eq_some_iff.1 hR).1
  have HD := Lib.hid (do_calls R O c q2 w hR hO hOR o0 o1 o2 o3)
  have hmf : ∀ (fn : Fn) (first cap : Array Value) (w : World), (Instr.makeFunc fn first cap).run Tryz.prog w = .ok (.func fn first cap) w := fun _ _ _ _ => rfl
  have hme : ∀ (a : Addr) (w : World), (method 390 229 (.pointer (some a)) "Replace").run Tryz.prog w = .ok (225, .pointer (some a)) w := fun _ _ => by kernel_rfl
  clear hR hO hOR o0 o1 o2 o3
  go_enter Tryz.func111, Tryz.ntmps111
  go_wp2_with (go_at_call 126; refine HD.out.mono ?_; rintro e w1 ⟨rfl, hd⟩; have hr := hd.r; have HQ := Lib.hid hd; clear hd)
  refine (bsr_calls w.heap.size (w.heap.size + 1) s _ HQ.out.bsr hs).mono ?_
  rintro e w2 ⟨rfl, hb⟩
  have HB2 := Lib.hid hb
  clear hb
  go_wp2_with fail
  go_ret
  exact ⟨rfl, HQ.out.below.trans (HB2.out.mono (Nat.le_trans (Nat.le_of_lt hRl) HQ.out.size))⟩
structure Made (R : Nat) (w w1 : World) : Prop where
 below : Below w.heap.size w w1
 ge : w.heap.size ≤ R
 row : ∃ O c q2, w1.heap[R]? = some (.cells #[.int .u32 0, .int .i32 0, q2, .nilIface, .slice (some ⟨O, 0, none⟩) 4 c] 164 (0, 0)) ∧ O < w1.heap.size ∧ O ≠ R ∧
  w1.cell? ⟨O, 0, none⟩ = some (.string ⟨#[92]⟩) ∧ w1.cell? ⟨O, 1, none⟩ = some (.string ⟨#[92, 92]⟩) ∧ w1.cell? ⟨O, 2, none⟩ = some (.string ⟨#[10]⟩) ∧ w1.cell? ⟨O, 3, none⟩ = some (.string ⟨#[92, 110]⟩)
theorem new_made (w : World) (O : Nat) (c : Nat) (hO : O < w.heap.size)
   (o0 : w.cell? ⟨O, 0, none⟩ = some (.string ⟨#[92]⟩)) (o1 : w.cell? ⟨O, 1, none⟩ = some (.string ⟨#[92, 92]⟩))
   (o2 : w.cell? ⟨O, 2, none⟩ = some (.string ⟨#[10]⟩)) (o3 : w.cell? ⟨O, 3, none⟩ = some (.string ⟨#[92, 110]⟩)) :
   Calls Tryz.prog 110 #[.slice (some ⟨O, 0, none⟩) 4 c] w fun e w' => e = .returned (.pointer (some ⟨w.heap.size + 1, 0, none⟩)) ∧ Made (w.heap.size + 1) w w' := by
  refine (new_calls w O c hO o0 o1 o2 o3).mono ?_
  rintro e w' ⟨rfl, cp, C, rfl, c0, c1, c2, c3⟩
  refine ⟨rfl, ⟨?_, by omega, w.heap.size, cp, .int .u32 0, ?_, ?_, by omega, ?_, ?_, ?_, ?_⟩⟩
  · exact (((Below.refl _ _).alloc (Nat.le_refl _) _).alloc (by simp) _).drew
  · have h := heap_alloc_last (w.alloc (.cells C 9)) (.cells #[.int .u32 0, .int .i32 0, .int .u32 0, .nilIface, .slice (some ⟨w.heap.size, 0, none⟩) 4 cp] 164)
    have e : (w.alloc (.cells C 9)).heap.size = w.heap.size + 1 := by simp
    rw [e] at h
    exact h
  · simp; omega
  all_goals (simp; assumption)
theorem esc_le (l : List UInt8) : (esc l).length ≤ 2 * l.length := by
 rw [esc_length]; have := spc_le l; omega
theorem line_small (n v : ByteArray) (hn : n.size ≤ 1048576) (hv : v.size ≤ 1048576) : ¬ (9223372036854775807 < n.size + 1 + (esc v.data.toList).length) ∧ ¬ (9223372036854775807 < n.size + 1 + (esc v.data.toList).length + 1) := by
 have h := esc_le v.data.toList
 have e : v.data.toList.length = v.size := by simp
 rw [e] at h
 omega
theorem line_text (n v : ByteArray) : (⟨(lineB n.data.toList v.data.toList).toArray⟩ : ByteArray) = n ++ ⟨#[61]⟩ ++ ⟨(esc v.data.toList).toArray⟩ ++ ⟨#[10]⟩ := by
 apply ByteArray.ext
 apply Array.ext'
 simp [lineB, ByteArray.data_append]
set_option maxRecDepth 100000 in
set_option maxHeartbeats 2000000 in
theorem line_calls (n v : ByteArray) (w : World) (hn : n.size ≤ 1048576) (hv : v.size ≤ 1048576) :
  Calls Tryz.prog 92 #[.agg #[.string n, .string v]] w fun e w' => e = .returned (.string ⟨(lineB n.data.toList v.data.toList).toArray⟩) ∧ Below w.heap.size w w' := by
 have hnew := new_made (((w.alloc (.cells #[.string n, .string v] 43)).alloc (.cells #[.string ⟨#[92]⟩, .string ⟨#[92, 92]⟩, .string ⟨#[10]⟩, .string ⟨#[92, 110]⟩] 9)).drew) (w.heap.size + 1) 4 (by simp) (by simp) (by simp) (by simp) (by simp)
 have e0 : (((w.alloc (.cells #[.string n, .string v] 43)).alloc (.cells #[.string ⟨#[92]⟩, .string ⟨#[92, 92]⟩, .string ⟨#[10]⟩, .string ⟨#[92, 110]⟩] 9)).drew).heap.size = w.heap.size + 1 + 1 := by simp
 rw [e0] at hnew
 have HNEW := Lib.hid hnew
 have a1 : ¬ (9223372036854775807 < n.size + 1) := by omega
 have hl := line_small n v hn hv
 have hl1 := hl.1
 have hl2 := hl.2
 clear hnew e0 hl
 go_enter Tryz.func92, Tryz.ntmps92
 go_wp2_with fail
 go_region_held3 (fun w' => w'.cell? ⟨w.heap.size, 0, none⟩ = some (.string n) ∧ w'.cell? ⟨w.heap.size, 1, none⟩ = some (.string v)) (go_keep)
  (first
   | (go_at_call 110; refine HNEW.out.mono ?_; rintro e w1 ⟨rfl, hm⟩; have k1 := (hm.below.cell (p := ⟨w.heap.size, 0, none⟩) (by simp; omega)).trans (show (((w.alloc (.cells #[.string n, .string v] 43)).alloc (.cells #[.string ⟨#[92]⟩, .string ⟨#[92, 92]⟩, .string ⟨#[10]⟩, .string ⟨#[92, 110]⟩] 9)).drew).cell? ⟨w.heap.size, 0, none⟩ = some (.string n) by simp); have k2 := (hm.below.cell (p := ⟨w.heap.size, 1, none⟩) (by simp; omega)).trans (show (((w.alloc (.cells #[.string n, .string v] 43)).alloc (.cells #[.string ⟨#[92]⟩, .string ⟨#[92, 92]⟩, .string ⟨#[10]⟩, .string ⟨#[92, 110]⟩] 9)).drew).cell? ⟨w.heap.size, 1, none⟩ = some (.string v) by simp); obtain ⟨O, c, q2, hrow, hO, hOR, o0, o1, o2, o3⟩ := hm.row; have HREP := Lib.hid (replace_calls _ O c q2 v w1 hv hrow hO hOR o0 o1 o2 o3); have HM := Lib.hid hm; clear hm hrow hO hOR o0 o1 o2 o3)
   | (go_at_call 111; refine HREP.out.mono ?_; rintro e w2 ⟨rfl, hb⟩; have k3 := (hb.cell (p := ⟨w.heap.size, 0, none⟩) (by simp; omega)).trans k1; have k4 := (hb.cell (p := ⟨w.heap.size, 1, none⟩) (by simp; omega)).trans k2; have HB2 := Lib.hid hb; clear hb))
 go_wp2_with fail
 go_ret
 refine ⟨?_, ?_⟩
 ·
  rw [line_text]
  rfl
 ·
  have s1 := HM.out.below.size
  refine (((Below.refl w.heap.size w).alloc (Nat.le_refl _) _).alloc (by simp) _).drew.trans (HM.out.below.mono (by simp; omega)) |>.trans (HB2.out.mono (by omega))
end Go.Proofs.YtkblmomfiimkiaaGreatDoor.P
end

section
namespace Go.Proofs.YtkblmomfiimkiaaGreatDoor.P
open Go.RowKit Go.Proofs.YtkblmomfiimkiaaGreatDoorW.PrintWords Go.Proofs.YtkblmomfiimkiaaGreatDoorW.PrintLast Go.Proofs.YtkblmomfiimkiaaGreatDoorW.PrintMore
open Go.Proofs.YtkblmomfiimkiaaGreatDoor.Fp
def mayF (x : S43) : Bool := mayB x.f0.data.toList x.f1.data.toList
def lineF (x : S43) : List UInt8 := lineB x.f0.data.toList x.f1.data.toList
def field_Text.f (l0 : List S43) : Option (ByteArray × Int) :=
 some (if 64 < l0.length then (⟨#[]⟩, 7) else if l0.all mayF = true then (⟨(l0.flatMap lineF).toArray⟩, 0) else (⟨#[]⟩, 1))
theorem isBuilder_below {T e : TypeId} {B b : Nat} {bs : List Value} {w w1 : World} (h : Lib.IsBuilder T e B b bs w) (hb : Below w.heap.size w w1) : Lib.IsBuilder T e B b bs w1 := by
 have go : ∀ p, Lib.BuilderAt T e B b p bs w → Lib.BuilderAt T e B b p bs w1 := by
  rintro p ⟨h1, v, h2, h3, h4⟩
  refine ⟨h1, v, ?_, pw_own_below h3 hb, h4⟩
  rw [hb.block b (Array.getElem?_eq_some_iff.1 h2).1]; exact h2
 rcases h with h | h
 ·
  exact .inl (go _ h)
 ·
  exact .inr (go _ h)
theorem may_calls (n v : ByteArray) (w : World) :
  Calls Tryz.prog 90 #[.agg #[.string n, .string v]] w fun e w' => e = .returned (.bool (mayB n.data.toList v.data.toList)) ∧ Below w.heap.size w w' := by
 have hn := fun W => field_name.calls n (nameB n.data.toList) W rfl
 have hm : mayB n.data.toList v.data.toList = (nameB n.data.toList && decide (v.size ≤ 4096)) := by unfold mayB; rw [Array.length_toList]; rfl
 have HM := Lib.hid hm
 clear hm
 obtain ⟨b, hb⟩ : ∃ b, nameB n.data.toList = b := ⟨_, rfl⟩
 rw [hb] at hn
 have HB := Lib.hid hb
 clear hb
 cases b
 ·
  go_enter Tryz.func90, Tryz.ntmps90
  go_wp2_with (go_at_call 95; refine (hn _).mono ?_; rintro e w' ⟨rfl, hb⟩)
  go_ret
  exact ⟨by rw [HM.out, HB.out]; rfl, ((Below.refl _ _).alloc (Nat.le_refl _) _).trans (hb.mono (by simp))⟩
 ·
  go_enter Tryz.func90, Tryz.ntmps90
  go_wp2_with fail
  refine (hn _).mono ?_
  rintro e w1 ⟨rfl, hb⟩
  have k := (hb.cell (p := ⟨w.heap.size, 1, none⟩) (by simp)).trans (show (w.alloc (.cells #[.string n, .string v] 43)).cell? ⟨w.heap.size, 1, none⟩ = some (.string v) by simp)
  have HBB := Lib.hid hb
  clear hb
  go_wp2_with fail
  go_ret
  exact ⟨by rw [HM.out, HB.out]; simp; omega, ((Below.refl _ _).alloc (Nat.le_refl _) _).trans (HBB.out.mono (by simp))⟩
theorem name_small {l : List UInt8} (h : nameB l = true) : l.length ≤ 16 := by
 unfold nameB at h
 simp at h
 exact h.1.2
theorem may_small {x : S43} (h : mayF x = true) : x.f0.size ≤ 16 ∧ x.f1.size ≤ 4096 := by
 unfold mayF mayB at h
 rw [Bool.and_eq_true] at h
 have h1 := name_small h.1
 have h2 := of_decide_eq_true h.2
 rw [Array.length_toList] at h1 h2
 exact ⟨h1, h2⟩
theorem lineF_len {x : S43} (h : mayF x = true) : (lineF x).length ≤ 8300 := by
 obtain ⟨h1, h2⟩ := may_small h
 have h3 := esc_le x.f1.data.toList
 have e1 : x.f0.data.toList.length = x.f0.size := by simp
 have e2 : x.f1.data.toList.length = x.f1.size := by simp
 unfold lineF lineB
 simp only [List.length_append, List.length_cons, List.length_nil]
 omega
theorem lines_len : ∀ (l : List S43), l.all mayF = true → (l.flatMap lineF).length ≤ 8300 * l.length
 | [], _ => by simp
 | x :: l, h => by
  rw [List.all_cons, Bool.and_eq_true] at h
  have h1 := lineF_len h.1
  have h2 := lines_len l h.2
  rw [List.flatMap_cons, List.length_append, List.length_cons]
  omega
theorem take_step {α : Type} (d : α) (l : List α) (i : Nat) (h : i < l.length) : l.take (i + 1) = l.take i ++ [l.getD i d] := by
 rw [List.take_succ_eq_append_getElem h, List.getD_eq_getElem?_getD, List.getElem?_eq_getElem h]; rfl
structure TextIs (l0 : List S43) (w : World) (i : Nat) (W : World) : Prop where
 all : (l0.take i).all mayF = true
 builder : Lib.IsBuilder 112 5 w.heap.size w.heap.size (Lib.byteCells ((l0.take i).flatMap lineF)) W
 below : Below w.heap.size w W
theorem isBuilder_alloc {T e : TypeId} {B b : Nat} {bs : List Value} {w : World} (h : Lib.IsBuilder T e B b bs w) (o : Obj) : Lib.IsBuilder T e B b bs (w.alloc o) :=
 isBuilder_below h ((Below.refl _ _).alloc (Nat.le_refl _) _)
theorem text_step {l0 : List S43} {w wr w3 : World} {i : Nat} {x : S43} (hlt : i < l0.length) (hx : x = rd_T43 l0 (i : Int)) (hT : TextIs l0 w i wr) (hm : mayF x = true)
  (hat : Lib.BuilderAt 112 5 w.heap.size w.heap.size (.pointer (some ⟨w.heap.size, 0, none⟩)) (Lib.byteCells ((l0.take i).flatMap lineF) ++ Lib.strCells ⟨(lineB x.f0.data.toList x.f1.data.toList).toArray⟩) w3) (hb : Below w.heap.size w w3) : TextIs l0 w (i + 1) w3 := by
 have e : l0.take (i + 1) = l0.take i ++ [x] := by rw [take_step z43 l0 i hlt, hx]; rfl
 refine ⟨?_, ?_, hb⟩
 ·
  rw [e, List.all_append, hT.all]; simp [hm]
 ·
  rw [e, List.flatMap_append, Lib.byteCells, List.map_append]
  refine .inr ?_
  have h2 : Lib.strCells ⟨(lineB x.f0.data.toList x.f1.data.toList).toArray⟩ = List.map (fun b => Value.int .u8 b.toNat) ([x].flatMap lineF) := by
   simp [Lib.strCells, lineF]
  rw [← h2]
  exact hat
theorem text_not {l0 : List S43} {i : Nat} {x : S43} (hlt : i < l0.length) (hx : x = rd_T43 l0 (i : Int)) (hm : ¬ mayF x = true) : ¬ l0.all mayF = true := by
 intro h
 rw [List.all_eq_true] at h
 apply hm
 apply h
 rw [hx]
 show l0.getD (Int.toNat i) _ ∈ l0
 rw [Int.toNat_natCast, List.getD_eq_getElem?_getD, List.getElem?_eq_getElem hlt]
 exact List.getElem_mem hlt
set_option maxRecDepth 100000 in
set_option maxHeartbeats 4000000 in
theorem field_Text.calls (A0 : Option Addr) (c0 : Nat) (l0 : List S43) (r1 : ByteArray) (r2 : Int) (w : World) (hr0 : Kd.C k43 w A0 l0.length l0) (_hc0 : l0.length ≤ c0) (h : field_Text.f l0 = some (r1, r2)) :
  Calls Tryz.prog 59 #[.slice A0 l0.length c0] w fun e w' => e = .returned (.tuple #[.string r1, .int .i64 r2]) ∧ Below w.heap.size w w' := by
 unfold field_Text.f at h
 have H := Lib.hid (Option.some.inj h)
 clear h
 by_cases hm : 64 < l0.length
 ·
  have hm' : (64 : Int) < (l0.length : Int) := by omega
  have HM := Lib.hid hm
  go_enter Tryz.func59, Tryz.ntmps59
  go_wp2_with fail
  go_ret2
  have hh := H.out
  rw [if_pos HM.out] at hh
  simp only [Prod.mk.injEq] at hh
  obtain ⟨rfl, rfl⟩ := hh
  exact ⟨rfl, Below.refl _ _⟩
 ·
  have hm' : ¬ (64 : Int) < (l0.length : Int) := by omega
  have hh := H.out
  rw [if_neg hm] at hh
  have HH := Lib.hid hh
  clear hh H
  have HR := Lib.hid hr0
  clear hr0 _hc0
  have hlen : l0.length ≤ 64 := by omega
  go_enter Tryz.func59, Tryz.ntmps59
  go_wp2_with fail
  have B0 := Lib.fresh_isBuilder 112 5 w
  have HB0 := Lib.hid B0
  clear B0
  go_loopw [6, 12] (fun _ v12 W => ∃ i : Nat, i ≤ l0.length ∧ v12 = .int .i64 i ∧ TextIs l0 w i W) (fun _ v12 _ => l0.length - (intOf v12).toNat)
  case atStart => exact ⟨0, Nat.zero_le _, rfl, ⟨rfl, HB0.out, (Below.refl _ _).alloc (Nat.le_refl _) _⟩⟩
  case round =>
   obtain ⟨i, hi, rfl, hb⟩ := hrel
   by_cases hlt : i < l0.length
   ·
    obtain ⟨ad, hA, q0, q1⟩ := at_T43 HR.out (i : Int) (by omega) (by omega)
    rw [Int.toNat_natCast] at q0 q1
    have c0' := pw_cell_below hb.below q0
    have c1' := pw_cell_below hb.below q1
    obtain ⟨x, hx⟩ : ∃ x, x = rd_T43 l0 (i : Int) := ⟨_, rfl⟩
    rw [← hx] at c0' c1'
    have HX := Lib.hid hx
    have HT := Lib.hid hb
    subst hA
    clear q0 q1 hx hb
    by_cases hmx : mayF x = true
    ·
     obtain ⟨hs1, hs2⟩ := may_small hmx
     have hmx' : mayB x.f0.data.toList x.f1.data.toList = true := hmx
     have HMX := Lib.hid hmx
     clear hmx
     go_wp2_with fail
     refine (may_calls x.f0 x.f1 _).mono ?_
     rintro e w1 ⟨rfl, hb1⟩
     have k0 := (hb1.cell (p := ⟨wr.heap.size, 0, none⟩) (by simp)).trans (show (wr.alloc (.cells #[.string x.f0, .string x.f1] 43)).cell? ⟨wr.heap.size, 0, none⟩ = some (.string x.f0) by simp)
     have k1 := (hb1.cell (p := ⟨wr.heap.size, 1, none⟩) (by simp)).trans (show (wr.alloc (.cells #[.string x.f0, .string x.f1] 43)).cell? ⟨wr.heap.size, 1, none⟩ = some (.string x.f1) by simp)
     have HB1 := Lib.hid hb1
     clear hb1
     go_wp2_with fail
     refine (line_calls x.f0 x.f1 _ (by omega) (by omega)).mono ?_
     rintro e w2 ⟨rfl, hb2⟩
     have hbd := isBuilder_below (isBuilder_below (isBuilder_alloc HT.out.builder _) HB1.out) hb2
     have hbw : Below w.heap.size w w2 := (HT.out.below.alloc HT.out.below.size _).trans ((HB1.out.mono (by have := HT.out.below.size; simp; omega)).trans (hb2.mono (by have := HT.out.below.size; have := HB1.out.size; simp at this; omega)))
     have HBW := Lib.hid hbw
     have hlen1 := lines_len (l0.take i) HT.out.all
     have hlen2 := lineF_len HMX.out
     have ht64 : (l0.take i).length ≤ 64 := by rw [List.length_take]; omega
     have ez : (⟨(lineB x.f0.data.toList x.f1.data.toList).toArray⟩ : ByteArray).size = (lineF x).length := by simp [lineF, ByteArray.size]
     have hws := Sh.Builder_WriteString w.heap.size w.heap.size _ ⟨(lineB x.f0.data.toList x.f1.data.toList).toArray⟩ w2 hbd (by rw [Lib.byteCells_length, ez]; omega) hbw.size
     clear ez
     have HWS := Lib.hid hws
     clear hb2 hbd hbw hws hlen1 hlen2 ht64
     go_wp2_with fail
     refine HWS.out.mono ?_
     rintro e w3 ⟨rfl, hat, hb3⟩
     have HAT := Lib.hid hat
     have HB3 := Lib.hid hb3
     clear hat hb3
     go_wp2_with fail
     go_roundw
     case rel => exact ⟨i + 1, by omega, by go_num, text_step hlt HX.out HT.out HMX.out HAT.out (HBW.out.trans HB3.out)⟩
     case measure => simp [intOf]; omega
    ·
     have hmx' : mayB x.f0.data.toList x.f1.data.toList = false := by simpa [mayF] using hmx
     have HMX := Lib.hid hmx
     clear hmx
     go_wp2_with fail
     refine (may_calls x.f0 x.f1 _).mono ?_
     rintro e w1 ⟨rfl, hb1⟩
     have HB1 := Lib.hid hb1
     clear hb1
     go_wp2_with fail
     go_ret2
     have hh := HH.out
     rw [if_neg (text_not hlt HX.out HMX.out)] at hh
     simp only [Prod.mk.injEq] at hh
     obtain ⟨rfl, rfl⟩ := hh
     exact ⟨rfl, (HT.out.below.alloc HT.out.below.size _).trans (HB1.out.mono (by have := HT.out.below.size; simp; omega))⟩
   ·
    obtain rfl : i = l0.length := by omega
    have hall := hb.all
    rw [List.take_length] at hall
    have hbd := hb.builder
    rw [List.take_length] at hbd
    have hst := Sh.Builder_String w.heap.size w.heap.size _ wr hbd hb.below.size
    have HST := Lib.hid hst
    have HA := Lib.hid hall
    have HT := Lib.hid hb
    clear hall hbd hst hb hlt
    go_wp2_with fail
    refine HST.out.mono ?_
    rintro e w1 ⟨rfl, hb1⟩
    have HB1 := Lib.hid hb1
    clear hb1
    go_wp2_with fail
    go_ret2
    have hh := HH.out
    rw [if_pos HA.out] at hh
    simp only [Prod.mk.injEq] at hh
    obtain ⟨rfl, rfl⟩ := hh
    exact ⟨rfl, HT.out.below.trans HB1.out⟩
end Go.Proofs.YtkblmomfiimkiaaGreatDoor.P
end
