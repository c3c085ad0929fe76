/- What the claim's theorem leans on. Conditions: none of its own. (Written by prune.py out of the texts Once, without what the claim doesn't lean on.) -/
import Derived.Tactics2
import Derived.Defers
import Derived.Laws.Pointers
import Derived.Laws.LoneSync
import Derived.RegionTactic
import Derived.RegionCalls
import Derived.ChangeAlike
import Derived.Test.YtkblmomfiimkiaaGreatDoorS2
section
namespace Go.Proofs.YtkblmomfiimkiaaGreatDoor.P
open Go.RowKit
theorem disable (w : World) : (callFunc 182 #[]).run Tryz.prog w = .ok (.value (.tuple #[])) w := run_call_mark0 Tryz.func182 (by kernel_rfl) (by kernel_rfl) (by kernel_rfl) .disable (by kernel_rfl) w
theorem enable (w : World) : (callFunc 184 #[]).run Tryz.prog w = .ok (.value (.tuple #[])) w := run_call_mark0 Tryz.func184 (by kernel_rfl) (by kernel_rfl) (by kernel_rfl) .enable (by kernel_rfl) w
theorem acquire (a : Addr) (w : World) : (callFunc 185 #[.pointer (some a)]).run Tryz.prog w = .ok (.value (.tuple #[])) w := run_call_marked Tryz.func185 (by kernel_rfl) (by kernel_rfl) (by kernel_rfl) .acquire (by kernel_rfl) a w
theorem releaseMerge (a : Addr) (w : World) : (callFunc 187 #[.pointer (some a)]).run Tryz.prog w = .ok (.value (.tuple #[])) w := run_call_marked Tryz.func187 (by kernel_rfl) (by kernel_rfl) (by kernel_rfl) .releaseMerge (by kernel_rfl) a w
theorem store_deferred (a : Addr) (x : Value) (u : FrameMode) (w : World) (hc : w.cell? a = some x) (hz : w.frozen? a = false) :
  CallsD Tryz.prog 169 #[.pointer (some a), .bool true] u w fun e u' w' => u' = u ∧ (e = .returned (.tuple #[]) ∧ w' = w.drew.setCell a (.int .u32 1)) := by
 have hc' : w.drew.cell? a = some x := by go_simp
 have hz' : w.drew.frozen? a = false := by go_simp
 have hst := run_call_store (P := Tryz.prog) Tryz.func178 (by kernel_rfl) (by kernel_rfl) (by kernel_rfl) (by kernel_rfl) (k := .u32) (y := 1) hc' hz'
 go_enter_d Tryz.func169, Tryz.ntmps169
 go_wp2
 go_region_calls
 all_goals (go_end0; exact ⟨rfl, rfl⟩)
set_option maxRecDepth 100000 in
theorem unlock_in (a : Addr) (w : World) (hc : w.cell? a = some (.int .i32 1)) (hz : w.frozen? a = false) :
  Calls Tryz.prog 177 #[.pointer (some a)] w fun e w' => e = .returned (.tuple #[]) ∧ w' = w.setCell a (.int .i32 0) := by
 have hd := disable
 have he := enable
 have hr := releaseMerge
 have hadd := run_call_add (P := Tryz.prog) Tryz.func188 (by kernel_rfl) (by kernel_rfl) (by kernel_rfl) .i32 (by kernel_rfl) (y := -1) (s := 0) hc hz (by simp [go_sem]; rfl)
 have hcv := run_convert_to_unsafe (P := Tryz.prog) (src := 251) (dst := 148) Tryz.underlying251 Tryz.underlying148 (by kernel_rfl) hc
 go_enter Tryz.func177, Tryz.ntmps177
 go_wp2
 go_end0
 exact ⟨rfl, rfl⟩
theorem unlock_deferred (a : Addr) (u : FrameMode) (w : World) (hc : w.cell? a = some (.int .i32 1)) (hz : w.frozen? a = false) :
  CallsD Tryz.prog 168 #[.pointer (some a)] u w fun e u' w' => u' = u ∧ (e = .returned (.tuple #[]) ∧ w' = w.setCell a (.int .i32 0)) := by
 go_enter_d Tryz.func168, Tryz.ntmps168
 go_wp2_with (go_at_call 177; refine (unlock_in a _ hc hz).mono ?_; rintro e w' ⟨rfl, rfl⟩)
 go_end0
 exact ⟨rfl, rfl⟩
set_option maxRecDepth 100000 in
theorem lock_in (a : Addr) (w : World) (hc : w.cell? a = some (.int .i32 0)) (hz : w.frozen? a = false) :
  Calls Tryz.prog 176 #[.pointer (some a)] w fun e w' => e = .returned (.tuple #[]) ∧ w' = w.setCell a (.int .i32 1) := by
 have hd := disable
 have he := enable
 have ha := acquire
 have hcas := run_call_cas_hit (P := Tryz.prog) Tryz.func183 (by kernel_rfl) (by kernel_rfl) (by kernel_rfl) .i32 (by kernel_rfl) (y := 1) hc hz
 have hc' : (w.setCell a (.int .i32 1)).cell? a = some (.int .i32 1) := World.cell?_setCell_same w a _ hc
 have hcv := run_convert_to_unsafe (P := Tryz.prog) (src := 251) (dst := 148) Tryz.underlying251 Tryz.underlying148 (by kernel_rfl) hc'
 go_enter Tryz.func176, Tryz.ntmps176
 go_wp2
 first | go_end0 | (simp only [Exit.inBlock, Exit.then]; refine bodyPost_ret (results_none rfl _ _ _) rfl ?_) | refine bodyPost_ret (results_none rfl _ _ _) rfl ?_
 exact ⟨rfl, rfl⟩
theorem lock_free (a : Addr) (w : World) (hc : w.cell? a = some (.int .i32 0)) (hz : w.frozen? a = false) :
  Calls Tryz.prog 167 #[.pointer (some a)] w fun e w' => e = .returned (.tuple #[]) ∧ w' = w.setCell a (.int .i32 1) := by
 go_enter Tryz.func167, Tryz.ntmps167
 go_wp2_with (go_at_call 176; refine (lock_in a _ hc hz).mono ?_; rintro e w' ⟨rfl, rfl⟩)
 go_end0
 exact ⟨rfl, rfl⟩
set_option maxRecDepth 100000 in
set_option maxHeartbeats 2000000 in
theorem buildOnce_calls (R O c : Nat) (q0 q1 q2 : Value) (w : World) (hR : w.heap[R]? = some (.cells #[q0, q1, q2, .nilIface, .slice (some ⟨O, 0, none⟩) 4 c] 164 (0, 0))) (hO : O < w.heap.size)
   (o0 : w.cell? ⟨O, 0, none⟩ = some (.string ⟨#[92]⟩)) (o1 : w.cell? ⟨O, 1, none⟩ = some (.string ⟨#[92, 92]⟩))
   (o2 : w.cell? ⟨O, 2, none⟩ = some (.string ⟨#[10]⟩)) (o3 : w.cell? ⟨O, 3, none⟩ = some (.string ⟨#[92, 110]⟩)) :
   Calls Tryz.prog 127 #[.pointer (some ⟨R, 0, none⟩)] w fun e w' => e = .returned (.tuple #[]) ∧ ∃ W1, Below w.heap.size w W1 ∧ IsBsr w.heap.size (w.heap.size + 1) W1 ∧ w' = (W1.setCell ⟨R, 3, none⟩ (.iface 229 (.pointer (some ⟨w.heap.size + 1, 0, none⟩)))).setCell ⟨R, 4, none⟩ (.slice none 0 0) := by
  have hRl : R < w.heap.size := (Array.getElem?_eq_some_iff.1 hR).1
  have h4 : w.cell? ⟨R, 4, none⟩ = some (.slice (some ⟨O, 0, none⟩) 4 c) := by simp [World.cell?, hR]
  have HB := Lib.hid (build_calls R O c w h4 hO o0 o1 o2 o3)
  have HR := Lib.hid hR
  clear hR h4 o0 o1 o2 o3 hO
  go_enter Tryz.func127, Tryz.ntmps127
  go_wp2_with fail
  refine HB.out.mono ?_
  rintro e W1 ⟨rfl, hbsr, hbel⟩
  have HW := Lib.hid hbsr
  have HL := Lib.hid hbel
  have e3 : W1.cell? ⟨R, 3, none⟩ = some .nilIface := by rw [hbel.cell (p := ⟨R, 3, none⟩) hRl]; simp [World.cell?, HR.out]
  have f3 : W1.frozen? ⟨R, 3, none⟩ = false := by rw [hbel.frozen (p := ⟨R, 3, none⟩) hRl]; simp [World.frozen?, HR.out]
  have e4 : W1.cell? ⟨R, 4, none⟩ = some (.slice (some ⟨O, 0, none⟩) 4 c) := by rw [hbel.cell (p := ⟨R, 4, none⟩) hRl]; simp [World.cell?, HR.out]
  have f4 : W1.frozen? ⟨R, 4, none⟩ = false := by rw [hbel.frozen (p := ⟨R, 4, none⟩) hRl]; simp [World.frozen?, HR.out]
  clear hbsr hbel
  go_wp2_with fail
  go_end0
  exact ⟨rfl, W1, HL.out, HW.out, rfl⟩
structure Done (R : Nat) (w w' : World) : Prop where
 below : Below R w w'
 size : w.heap.size ≤ w'.heap.size
 keep : ∀ g, g < w.heap.size → g ≠ R → w'.heap[g]? = w.heap[g]?
 r : w'.cell? ⟨R, 3, none⟩ = some (.iface 229 (.pointer (some ⟨w.heap.size + 1, 0, none⟩)))
 bsr : IsBsr w.heap.size (w.heap.size + 1) w'
theorem heap_set_ne (w : World) (a : Addr) (v : Value) (g : Nat) (h : g ≠ a.block) : (w.setCell a v).heap[g]? = w.heap[g]? := Below.heap_setCell w a v g h
theorem size_set (w : World) (a : Addr) (v : Value) : (w.setCell a v).heap.size = w.heap.size := by simp
theorem done_made (R O c : Nat) (q2 : Value) (w W1 : World) (hR : w.heap[R]? = some (.cells #[.int .u32 0, .int .i32 0, q2, .nilIface, .slice (some ⟨O, 0, none⟩) 4 c] 164 (0, 0)))
  (hb : Below w.heap.size (w.setCell ⟨R, 1, none⟩ (.int .i32 1)) W1) (hbsr : IsBsr w.heap.size (w.heap.size + 1) W1) :
  Done R w ((((W1.setCell ⟨R, 3, none⟩ (.iface 229 (.pointer (some ⟨w.heap.size + 1, 0, none⟩)))).setCell ⟨R, 4, none⟩ (.slice none 0 0)).drew.setCell ⟨R, 0, none⟩ (.int .u32 1)).setCell ⟨R, 1, none⟩ (.int .i32 0)) := by
 have hRl : R < w.heap.size := (Array.getElem?_eq_some_iff.1 hR).1
 have h1 : W1.heap[R]? = some (.cells #[.int .u32 0, .int .i32 1, q2, .nilIface, .slice (some ⟨O, 0, none⟩) 4 c] 164 (0, 0)) := by
  rw [hb.block R hRl]
  simp [World.setCell, Array.getElem?_modify, hR]
 have hne : ∀ g (o : Nat), g ≠ R → g ≠ (⟨R, o, none⟩ : Addr).block := fun g o h => h
 have hk : ∀ g, g < w.heap.size → g ≠ R → W1.heap[g]? = w.heap[g]? := fun g hg h => (hb.block g hg).trans (heap_set_ne w _ _ g (hne g 1 h))
 refine ⟨?_, ?_, ?_, ?_, ?_⟩
 ·
  refine ⟨hb.os, hb.tape, hb.output, ?_, fun g hg => ?_⟩
  ·
   simpa using hb.size
  ·
   have hgR : g ≠ R := by omega
   rw [heap_set_ne _ _ _ g (hne g _ hgR), heap_set_ne _ _ _ g (hne g _ hgR)]
   show ((W1.setCell _ _).setCell _ _).heap[g]? = _
   rw [heap_set_ne _ _ _ g (hne g _ hgR), heap_set_ne _ _ _ g (hne g _ hgR)]
   exact hk g (by omega) hgR
 ·
  simpa using hb.size
 ·
  intro g hg hgR
  rw [heap_set_ne _ _ _ g (hne g _ hgR), heap_set_ne _ _ _ g (hne g _ hgR)]
  show ((W1.setCell _ _).setCell _ _).heap[g]? = _
  rw [heap_set_ne _ _ _ g (hne g _ hgR), heap_set_ne _ _ _ g (hne g _ hgR)]
  exact hk g hg hgR
 ·
  rw [World.cell?_setCell_other _ _ _ _ (by simp), World.cell?_setCell_other _ _ _ _ (by simp), World.cell?_drew, World.cell?_setCell_other _ _ _ _ (by simp)]
  exact World.cell?_setCell_same _ _ _ (u := .nilIface) (by simp [World.cell?, h1])
 ·
  refine hbsr.step ?_ fun g hg hg2 o => ?_
  ·
   simp
  ·
   have hgR : g ≠ R := by omega
   have na : ∀ k : Nat, (⟨R, k, none⟩ : Addr) ≠ ⟨g, o, none⟩ := fun k h => hgR (congrArg Addr.block h).symm
   rw [World.cell?_setCell_other _ _ _ _ (na _), World.cell?_setCell_other _ _ _ _ (na _), World.cell?_drew, World.cell?_setCell_other _ _ _ _ (na _), World.cell?_setCell_other _ _ _ _ (na _)]
set_option maxRecDepth 100000 in
set_option maxHeartbeats 2000000 in
theorem doSlow_calls (R O c : Nat) (q2 : Value) (w : World) (hR : w.heap[R]? = some (.cells #[.int .u32 0, .int .i32 0, q2, .nilIface, .slice (some ⟨O, 0, none⟩) 4 c] 164 (0, 0))) (hO : O < w.heap.size) (hOR : O ≠ R)
   (o0 : w.cell? ⟨O, 0, none⟩ = some (.string ⟨#[92]⟩)) (o1 : w.cell? ⟨O, 1, none⟩ = some (.string ⟨#[92, 92]⟩))
   (o2 : w.cell? ⟨O, 2, none⟩ = some (.string ⟨#[10]⟩)) (o3 : w.cell? ⟨O, 3, none⟩ = some (.string ⟨#[92, 110]⟩)) :
   Calls Tryz.prog 147 #[.pointer (some ⟨R, 0, none⟩), .func (.func 127) #[.pointer (some ⟨R, 0, none⟩)] #[]] w fun e w' => e = .returned (.tuple #[]) ∧ Done R w w' := by
  have hRl : R < w.heap.size := (Array.getElem?_eq_some_iff.1 hR).1
  have na : ∀ (k : Nat) (o : Nat), (⟨R, k, none⟩ : Addr) ≠ ⟨O, o, none⟩ := fun k o h => hOR (congrArg Addr.block h).symm
  have hB := buildOnce_calls R O c (.int .u32 0) (.int .i32 1) q2 (w.setCell ⟨R, 1, none⟩ (.int .i32 1)) (by simp [World.setCell, Array.getElem?_modify, hR]) (by simpa using hO)
    (by rw [World.cell?_setCell_other _ _ _ _ (na _ _)]; exact o0) (by rw [World.cell?_setCell_other _ _ _ _ (na _ _)]; exact o1) (by rw [World.cell?_setCell_other _ _ _ _ (na _ _)]; exact o2) (by rw [World.cell?_setCell_other _ _ _ _ (na _ _)]; exact o3)
  have HB := Lib.hid hB
  have HR := Lib.hid hR
  have c0 : w.cell? ⟨R, 0, none⟩ = some (.int .u32 0) := by simp [World.cell?, hR]
  have c1 : w.cell? ⟨R, 1, none⟩ = some (.int .i32 0) := by simp [World.cell?, hR]
  have f0 : ∀ k, w.frozen? ⟨R, k, none⟩ = false := fun k => by simp [World.frozen?, hR]
  have hl := run_call_load (P := Tryz.prog) Tryz.func166 (by kernel_rfl) (by kernel_rfl) (by kernel_rfl) .u32 (by kernel_rfl) (w := w.setCell ⟨R, 1, none⟩ (.int .i32 1)) (a := ⟨R, 0, none⟩) (x := 0) ((World.cell?_setCell_other _ ⟨R, 1, none⟩ ⟨R, 0, none⟩ _ (by simp)).trans c0)
  have hnot : ∀ (x : Bool) (w : World), (Op.unary .not (.bool x)).run Tryz.prog w = .ok (.bool (!x)) w := fun _ _ => rfl
  have C0 := Lib.hid c0
  clear hB hR o0 o1 o2 o3 hO c0
  go_enter_defers Tryz.func147, Tryz.ntmps147
  go_wp2_with (first | (go_at_call 167; refine (lock_free ⟨R, 1, none⟩ _ c1 (f0 1)).mono ?_; rintro e w' ⟨rfl, rfl⟩) | (go_at_call 146; go_in))
  refine HB.out.mono ?_
  rintro e W' ⟨rfl, W1, hb, hbsr, rfl⟩
  rw [size_set] at hb hbsr
  have HD := done_made R O c q2 w W1 HR.out (by simpa using hb) (by simpa using hbsr)
  have h1 : W1.heap[R]? = some (.cells #[.int .u32 0, .int .i32 1, q2, .nilIface, .slice (some ⟨O, 0, none⟩) 4 c] 164 (0, 0)) := by
    rw [hb.block R (by simpa using hRl)]
    simp [World.setCell, Array.getElem?_modify, HR.out]
  have d0 : W1.cell? ⟨R, 0, none⟩ = some (.int .u32 0) := by simp [World.cell?, h1]
  have d1 : W1.cell? ⟨R, 1, none⟩ = some (.int .i32 1) := by simp [World.cell?, h1]
  have g0 : ∀ k, W1.frozen? ⟨R, k, none⟩ = false := fun k => by simp [World.frozen?, h1]
  have H1 := Lib.hid h1
  have HDD := Lib.hid HD
  clear hb hbsr h1 HD
  rw [size_set]
  go_wp2
  -- the door: two deferred calls, the last laid first
  refine leaves_cons (f := 169) (args := #[.pointer (some ⟨R, 0, none⟩), .bool true]) (by simp) (by simp [go_sem]) ?_
  refine (store_deferred ⟨R, 0, none⟩ (.int .u32 0) .returning _ ?_ (by simp [g0])).mono ?_
  · rw [World.cell?_setCell_other _ _ _ _ (by simp), World.cell?_setCell_other _ _ _ _ (by simp)]; exact d0
  rintro e u' w'' ⟨rfl, rfl, rfl⟩
  refine leaves_cons (f := 168) (args := #[.pointer (some ⟨R, 1, none⟩)]) (by simp [settle]) (by simp [go_sem]) ?_
  refine (unlock_deferred ⟨R, 1, none⟩ _ _ ?_ (by simp [g0])).mono ?_
  · rw [World.cell?_setCell_other _ _ _ _ (by simp), World.cell?_drew, World.cell?_setCell_other _ _ _ _ (by simp), World.cell?_setCell_other _ _ _ _ (by simp)]; exact d1
  rintro e u' w'' ⟨rfl, rfl, rfl⟩
  exact ⟨_, results_none rfl _ _ _, rfl, HDD.out⟩
theorem do_calls (R O c : Nat) (q2 : Value) (w : World) (hR : w.heap[R]? = some (.cells #[.int .u32 0, .int .i32 0, q2, .nilIface, .slice (some ⟨O, 0, none⟩) 4 c] 164 (0, 0))) (hO : O < w.heap.size) (hOR : O ≠ R)
   (o0 : w.cell? ⟨O, 0, none⟩ = some (.string ⟨#[92]⟩)) (o1 : w.cell? ⟨O, 1, none⟩ = some (.string ⟨#[92, 92]⟩))
   (o2 : w.cell? ⟨O, 2, none⟩ = some (.string ⟨#[10]⟩)) (o3 : w.cell? ⟨O, 3, none⟩ = some (.string ⟨#[92, 110]⟩)) :
   Calls Tryz.prog 126 #[.pointer (some ⟨R, 0, none⟩), .func (.func 127) #[.pointer (some ⟨R, 0, none⟩)] #[]] w fun e w' => e = .returned (.tuple #[]) ∧ Done R w w' := by
  have HS := Lib.hid (doSlow_calls R O c q2 w hR hO hOR o0 o1 o2 o3)
  have c0 : w.cell? ⟨R, 0, none⟩ = some (.int .u32 0) := by simp [World.cell?, hR]
  have hl := run_call_load (P := Tryz.prog) Tryz.func166 (by kernel_rfl) (by kernel_rfl) (by kernel_rfl) .u32 (by kernel_rfl) c0
  have hnot : ∀ (x : Bool) (w : World), (Op.unary .not (.bool x)).run Tryz.prog w = .ok (.bool (!x)) w := fun _ _ => rfl
  clear hR o0 o1 o2 o3 hO hOR c0
  go_enter Tryz.func126, Tryz.ntmps126
  go_wp2_with (first | (go_at_call 147; refine HS.out.mono ?_; rintro e w' ⟨rfl, hd⟩; have HD := Lib.hid hd; clear hd) | (go_at_call 146; go_in))
  go_end0
  exact ⟨rfl, HD.out⟩
end Go.Proofs.YtkblmomfiimkiaaGreatDoor.P
end
