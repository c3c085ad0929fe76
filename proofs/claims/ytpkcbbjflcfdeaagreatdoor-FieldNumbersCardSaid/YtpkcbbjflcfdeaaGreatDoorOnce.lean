/- sync.Once.Do around (*strings.Replacer).buildOnce, not yet done and the lock free: behind it the Replacer's field r holds a byteStringReplacer of ours. Conditions: as told in each theorem's head. -/
import Derived.Test.YtpkcbbjflcfdeaaGreatDoorBuild
import Derived.Tactics2
import Derived.Defers
import Derived.Laws.Pointers
import Derived.Laws.LoneSync
import Derived.RegionTactic
import Derived.RegionCalls
import Derived.ChangeAlike
namespace Go.Proofs.YtpkcbbjflcfdeaaGreatDoor.P
open Go.RowKit

theorem disable (w : World) : (callFunc 78 #[]).run Tryz.prog w = .ok (.value (.tuple #[])) w := run_call_mark0 Tryz.func78 (by kernel_rfl) (by kernel_rfl) (by kernel_rfl) .disable (by kernel_rfl) w
theorem enable (w : World) : (callFunc 80 #[]).run Tryz.prog w = .ok (.value (.tuple #[])) w := run_call_mark0 Tryz.func80 (by kernel_rfl) (by kernel_rfl) (by kernel_rfl) .enable (by kernel_rfl) w
theorem acquire (a : Addr) (w : World) : (callFunc 81 #[.pointer (some a)]).run Tryz.prog w = .ok (.value (.tuple #[])) w := run_call_marked Tryz.func81 (by kernel_rfl) (by kernel_rfl) (by kernel_rfl) .acquire (by kernel_rfl) a w
theorem releaseMerge (a : Addr) (w : World) : (callFunc 83 #[.pointer (some a)]).run Tryz.prog w = .ok (.value (.tuple #[])) w := run_call_marked Tryz.func83 (by kernel_rfl) (by kernel_rfl) (by kernel_rfl) .releaseMerge (by kernel_rfl) a w

/-- '(*sync/atomic.Bool).Store(true)' as a deferred call -/
theorem store_deferred (a : Addr) (x : Value) (u : FrameMode) (w : World) (hc : w.cell? a = some x) (hz : w.frozen? a = false) :
    CallsD Tryz.prog 67 #[.pointer (some a), .bool true] u w fun e u' w' => u' = u ∧ (e = .returned (.tuple #[]) ∧ w' = w.drew.setCell a (.int .u32 1)) := by
  have hc' : w.drew.cell? a = some x := by go_simp
  have hz' : w.drew.frozen? a = false := by go_simp
  have hst := run_call_store (P := Tryz.prog) Tryz.func74 (by kernel_rfl) (by kernel_rfl) (by kernel_rfl) (by kernel_rfl) (k := .u32) (y := 1) hc' hz'
  go_enter_d Tryz.func67, Tryz.ntmps67
  go_wp2
  go_region_calls
  all_goals (go_end0; exact ⟨rfl, rfl⟩)

set_option maxRecDepth 100000 in
/-- '(*internal/sync.Mutex).Unlock' at state 1 -/
theorem unlock_in (a : Addr) (w : World) (hc : w.cell? a = some (.int .i32 1)) (hz : w.frozen? a = false) :
    Calls Tryz.prog 73 #[.pointer (some a)] w fun e w' => e = .returned (.tuple #[]) ∧ w' = w.setCell a (.int .i32 0) := by
  have hd := disable
  have he := enable
  have hr := releaseMerge
  have hadd := run_call_add (P := Tryz.prog) Tryz.func84 (by kernel_rfl) (by kernel_rfl) (by kernel_rfl) .i32 (by kernel_rfl) (y := -1) (s := 0) hc hz (by simp [go_sem]; rfl)
  have hcv := run_convert_to_unsafe (P := Tryz.prog) (src := 148) (dst := 75) Tryz.underlying148 Tryz.underlying75 (by kernel_rfl) hc
  go_enter Tryz.func73, Tryz.ntmps73
  go_wp2
  go_end0
  exact ⟨rfl, rfl⟩
theorem unlock_deferred (a : Addr) (u : FrameMode) (w : World) (hc : w.cell? a = some (.int .i32 1)) (hz : w.frozen? a = false) :
    CallsD Tryz.prog 66 #[.pointer (some a)] u w fun e u' w' => u' = u ∧ (e = .returned (.tuple #[]) ∧ w' = w.setCell a (.int .i32 0)) := by
  go_enter_d Tryz.func66, Tryz.ntmps66
  go_wp2_with (go_at_call 73; refine (unlock_in a _ hc hz).mono ?_; rintro e w' ⟨rfl, rfl⟩)
  go_end0
  exact ⟨rfl, rfl⟩

set_option maxRecDepth 100000 in
/-- '(*internal/sync.Mutex).Lock' at state 0 -/
theorem lock_in (a : Addr) (w : World) (hc : w.cell? a = some (.int .i32 0)) (hz : w.frozen? a = false) :
    Calls Tryz.prog 72 #[.pointer (some a)] w fun e w' => e = .returned (.tuple #[]) ∧ w' = w.setCell a (.int .i32 1) := by
  have hd := disable
  have he := enable
  have ha := acquire
  have hcas := run_call_cas_hit (P := Tryz.prog) Tryz.func79 (by kernel_rfl) (by kernel_rfl) (by kernel_rfl) .i32 (by kernel_rfl) (y := 1) hc hz
  have hc' : (w.setCell a (.int .i32 1)).cell? a = some (.int .i32 1) := World.cell?_setCell_same w a _ hc
  have hcv := run_convert_to_unsafe (P := Tryz.prog) (src := 148) (dst := 75) Tryz.underlying148 Tryz.underlying75 (by kernel_rfl) hc'
  go_enter Tryz.func72, Tryz.ntmps72
  go_wp2
  first | go_end0 | (simp only [Exit.inBlock, Exit.then]; refine bodyPost_ret (results_none rfl _ _ _) rfl ?_) | refine bodyPost_ret (results_none rfl _ _ _) rfl ?_
  exact ⟨rfl, rfl⟩
theorem lock_free (a : Addr) (w : World) (hc : w.cell? a = some (.int .i32 0)) (hz : w.frozen? a = false) :
    Calls Tryz.prog 65 #[.pointer (some a)] w fun e w' => e = .returned (.tuple #[]) ∧ w' = w.setCell a (.int .i32 1) := by
  go_enter Tryz.func65, Tryz.ntmps65
  go_wp2_with (go_at_call 72; refine (lock_in a _ hc hz).mono ?_; rintro e w' ⟨rfl, rfl⟩)
  go_end0
  exact ⟨rfl, rfl⟩


set_option maxRecDepth 100000 in
set_option maxHeartbeats 2000000 in
theorem buildOnce_calls (R O c : Nat) (q0 q1 q2 : Value) (w : World) (hR : w.heap[R]? = some (.cells #[q0, q1, q2, .nilIface, .slice (some ⟨O, 0, none⟩) 4 c] 93 (0, 0))) (hO : O < w.heap.size)
   (o0 : w.cell? ⟨O, 0, none⟩ = some (.string ⟨#[92]⟩)) (o1 : w.cell? ⟨O, 1, none⟩ = some (.string ⟨#[92, 92]⟩))
   (o2 : w.cell? ⟨O, 2, none⟩ = some (.string ⟨#[10]⟩)) (o3 : w.cell? ⟨O, 3, none⟩ = some (.string ⟨#[92, 110]⟩)) :
   Calls Tryz.prog 40 #[.pointer (some ⟨R, 0, none⟩)] w fun e w' => e = .returned (.tuple #[]) ∧ ∃ W1, Below w.heap.size w W1 ∧ IsBsr w.heap.size (w.heap.size + 1) W1 ∧ w' = (W1.setCell ⟨R, 3, none⟩ (.iface 129 (.pointer (some ⟨w.heap.size + 1, 0, none⟩)))).setCell ⟨R, 4, none⟩ (.slice none 0 0) := by
  have hRl : R < w.heap.size := (Array.getElem?_eq_some_iff.1 hR).1
  have h4 : w.cell? ⟨R, 4, none⟩ = some (.slice (some ⟨O, 0, none⟩) 4 c) := by simp [World.cell?, hR]
  have HB := Lib.hid (build_calls R O c w h4 hO o0 o1 o2 o3)
  have HR := Lib.hid hR
  clear hR h4 o0 o1 o2 o3 hO
  go_enter Tryz.func40, Tryz.ntmps40
  go_wp2_with fail
  refine HB.out.mono ?_
  rintro e W1 ⟨rfl, hbsr, hbel⟩
  have HW := Lib.hid hbsr
  have HL := Lib.hid hbel
  have e3 : W1.cell? ⟨R, 3, none⟩ = some .nilIface := by rw [hbel.cell (p := ⟨R, 3, none⟩) hRl]; simp [World.cell?, HR.out]
  have f3 : W1.frozen? ⟨R, 3, none⟩ = false := by rw [hbel.frozen (p := ⟨R, 3, none⟩) hRl]; simp [World.frozen?, HR.out]
  have e4 : W1.cell? ⟨R, 4, none⟩ = some (.slice (some ⟨O, 0, none⟩) 4 c) := by rw [hbel.cell (p := ⟨R, 4, none⟩) hRl]; simp [World.cell?, HR.out]
  have f4 : W1.frozen? ⟨R, 4, none⟩ = false := by rw [hbel.frozen (p := ⟨R, 4, none⟩) hRl]; simp [World.frozen?, HR.out]
  clear hbsr hbel
  go_wp2_with fail
  go_end0
  exact ⟨rfl, W1, HL.out, HW.out, rfl⟩

/-- behind Do: the field r is set, and nothing that was there has changed but the Replacer -/
structure Done (R : Nat) (w w' : World) : Prop where
  below : Below R w w'
  size : w.heap.size ≤ w'.heap.size
  keep : ∀ g, g < w.heap.size → g ≠ R → w'.heap[g]? = w.heap[g]?
  r : w'.cell? ⟨R, 3, none⟩ = some (.iface 129 (.pointer (some ⟨w.heap.size + 1, 0, none⟩)))
  bsr : IsBsr w.heap.size (w.heap.size + 1) w'

theorem heap_set_ne (w : World) (a : Addr) (v : Value) (g : Nat) (h : g ≠ a.block) : (w.setCell a v).heap[g]? = w.heap[g]? := Below.heap_setCell w a v g h
theorem size_set (w : World) (a : Addr) (v : Value) : (w.setCell a v).heap.size = w.heap.size := by simp

theorem done_made (R O c : Nat) (q2 : Value) (w W1 : World) (hR : w.heap[R]? = some (.cells #[.int .u32 0, .int .i32 0, q2, .nilIface, .slice (some ⟨O, 0, none⟩) 4 c] 93 (0, 0)))
    (hb : Below w.heap.size (w.setCell ⟨R, 1, none⟩ (.int .i32 1)) W1) (hbsr : IsBsr w.heap.size (w.heap.size + 1) W1) :
    Done R w ((((W1.setCell ⟨R, 3, none⟩ (.iface 129 (.pointer (some ⟨w.heap.size + 1, 0, none⟩)))).setCell ⟨R, 4, none⟩ (.slice none 0 0)).drew.setCell ⟨R, 0, none⟩ (.int .u32 1)).setCell ⟨R, 1, none⟩ (.int .i32 0)) := by
  have hRl : R < w.heap.size := (Array.getElem?_eq_some_iff.1 hR).1
  have h1 : W1.heap[R]? = some (.cells #[.int .u32 0, .int .i32 1, q2, .nilIface, .slice (some ⟨O, 0, none⟩) 4 c] 93 (0, 0)) := by
    rw [hb.block R hRl]
    simp [World.setCell, Array.getElem?_modify, hR]
  have hne : ∀ g (o : Nat), g ≠ R → g ≠ (⟨R, o, none⟩ : Addr).block := fun g o h => h
  have hk : ∀ g, g < w.heap.size → g ≠ R → W1.heap[g]? = w.heap[g]? := fun g hg h => (hb.block g hg).trans (heap_set_ne w _ _ g (hne g 1 h))
  refine ⟨?_, ?_, ?_, ?_, ?_⟩
  · refine ⟨hb.os, hb.tape, hb.output, ?_, fun g hg => ?_⟩
    · simpa using hb.size
    · have hgR : g ≠ R := by omega
      rw [heap_set_ne _ _ _ g (hne g _ hgR), heap_set_ne _ _ _ g (hne g _ hgR)]
      show ((W1.setCell _ _).setCell _ _).heap[g]? = _
      rw [heap_set_ne _ _ _ g (hne g _ hgR), heap_set_ne _ _ _ g (hne g _ hgR)]
      exact hk g (by omega) hgR
  · simpa using hb.size
  · intro g hg hgR
    rw [heap_set_ne _ _ _ g (hne g _ hgR), heap_set_ne _ _ _ g (hne g _ hgR)]
    show ((W1.setCell _ _).setCell _ _).heap[g]? = _
    rw [heap_set_ne _ _ _ g (hne g _ hgR), heap_set_ne _ _ _ g (hne g _ hgR)]
    exact hk g hg hgR
  · rw [World.cell?_setCell_other _ _ _ _ (by simp), World.cell?_setCell_other _ _ _ _ (by simp), World.cell?_drew, World.cell?_setCell_other _ _ _ _ (by simp)]
    exact World.cell?_setCell_same _ _ _ (u := .nilIface) (by simp [World.cell?, h1])
  · refine hbsr.step ?_ fun g hg hg2 o => ?_
    · simp
    · have hgR : g ≠ R := by omega
      have na : ∀ k : Nat, (⟨R, k, none⟩ : Addr) ≠ ⟨g, o, none⟩ := fun k h => hgR (congrArg Addr.block h).symm
      rw [World.cell?_setCell_other _ _ _ _ (na _), World.cell?_setCell_other _ _ _ _ (na _), World.cell?_drew, World.cell?_setCell_other _ _ _ _ (na _), World.cell?_setCell_other _ _ _ _ (na _)]

set_option maxRecDepth 100000 in
set_option maxHeartbeats 2000000 in
theorem doSlow_calls (R O c : Nat) (q2 : Value) (w : World) (hR : w.heap[R]? = some (.cells #[.int .u32 0, .int .i32 0, q2, .nilIface, .slice (some ⟨O, 0, none⟩) 4 c] 93 (0, 0))) (hO : O < w.heap.size) (hOR : O ≠ R)
   (o0 : w.cell? ⟨O, 0, none⟩ = some (.string ⟨#[92]⟩)) (o1 : w.cell? ⟨O, 1, none⟩ = some (.string ⟨#[92, 92]⟩))
   (o2 : w.cell? ⟨O, 2, none⟩ = some (.string ⟨#[10]⟩)) (o3 : w.cell? ⟨O, 3, none⟩ = some (.string ⟨#[92, 110]⟩)) :
   Calls Tryz.prog 54 #[.pointer (some ⟨R, 0, none⟩), .func (.func 40) #[.pointer (some ⟨R, 0, none⟩)] #[]] w fun e w' => e = .returned (.tuple #[]) ∧ Done R w w' := by
  have hRl : R < w.heap.size := (Array.getElem?_eq_some_iff.1 hR).1
  have na : ∀ (k : Nat) (o : Nat), (⟨R, k, none⟩ : Addr) ≠ ⟨O, o, none⟩ := fun k o h => hOR (congrArg Addr.block h).symm
  have hB := buildOnce_calls R O c (.int .u32 0) (.int .i32 1) q2 (w.setCell ⟨R, 1, none⟩ (.int .i32 1)) (by simp [World.setCell, Array.getElem?_modify, hR]) (by simpa using hO)
    (by rw [World.cell?_setCell_other _ _ _ _ (na _ _)]; exact o0) (by rw [World.cell?_setCell_other _ _ _ _ (na _ _)]; exact o1) (by rw [World.cell?_setCell_other _ _ _ _ (na _ _)]; exact o2) (by rw [World.cell?_setCell_other _ _ _ _ (na _ _)]; exact o3)
  have HB := Lib.hid hB
  have HR := Lib.hid hR
  have c0 : w.cell? ⟨R, 0, none⟩ = some (.int .u32 0) := by simp [World.cell?, hR]
  have c1 : w.cell? ⟨R, 1, none⟩ = some (.int .i32 0) := by simp [World.cell?, hR]
  have f0 : ∀ k, w.frozen? ⟨R, k, none⟩ = false := fun k => by simp [World.frozen?, hR]
  have hl := run_call_load (P := Tryz.prog) Tryz.func64 (by kernel_rfl) (by kernel_rfl) (by kernel_rfl) .u32 (by kernel_rfl) (w := w.setCell ⟨R, 1, none⟩ (.int .i32 1)) (a := ⟨R, 0, none⟩) (x := 0) ((World.cell?_setCell_other _ ⟨R, 1, none⟩ ⟨R, 0, none⟩ _ (by simp)).trans c0)
  have hnot : ∀ (x : Bool) (w : World), (Op.unary .not (.bool x)).run Tryz.prog w = .ok (.bool (!x)) w := fun _ _ => rfl
  have C0 := Lib.hid c0
  clear hB hR o0 o1 o2 o3 hO c0
  go_enter_defers Tryz.func54, Tryz.ntmps54
  go_wp2_with (first | (go_at_call 65; refine (lock_free ⟨R, 1, none⟩ _ c1 (f0 1)).mono ?_; rintro e w' ⟨rfl, rfl⟩) | (go_at_call 53; go_in))
  refine HB.out.mono ?_
  rintro e W' ⟨rfl, W1, hb, hbsr, rfl⟩
  rw [size_set] at hb hbsr
  have HD := done_made R O c q2 w W1 HR.out (by simpa using hb) (by simpa using hbsr)
  have h1 : W1.heap[R]? = some (.cells #[.int .u32 0, .int .i32 1, q2, .nilIface, .slice (some ⟨O, 0, none⟩) 4 c] 93 (0, 0)) := by
    rw [hb.block R (by simpa using hRl)]
    simp [World.setCell, Array.getElem?_modify, HR.out]
  have d0 : W1.cell? ⟨R, 0, none⟩ = some (.int .u32 0) := by simp [World.cell?, h1]
  have d1 : W1.cell? ⟨R, 1, none⟩ = some (.int .i32 1) := by simp [World.cell?, h1]
  have g0 : ∀ k, W1.frozen? ⟨R, k, none⟩ = false := fun k => by simp [World.frozen?, h1]
  have H1 := Lib.hid h1
  have HDD := Lib.hid HD
  clear hb hbsr h1 HD
  rw [size_set]
  go_wp2
  -- the door: two deferred calls, the last laid first
  refine leaves_cons (f := 67) (args := #[.pointer (some ⟨R, 0, none⟩), .bool true]) (by simp) (by simp [go_sem]) ?_
  refine (store_deferred ⟨R, 0, none⟩ (.int .u32 0) .returning _ ?_ (by simp [g0])).mono ?_
  · rw [World.cell?_setCell_other _ _ _ _ (by simp), World.cell?_setCell_other _ _ _ _ (by simp)]; exact d0
  rintro e u' w'' ⟨rfl, rfl, rfl⟩
  refine leaves_cons (f := 66) (args := #[.pointer (some ⟨R, 1, none⟩)]) (by simp [settle]) (by simp [go_sem]) ?_
  refine (unlock_deferred ⟨R, 1, none⟩ _ _ ?_ (by simp [g0])).mono ?_
  · rw [World.cell?_setCell_other _ _ _ _ (by simp), World.cell?_drew, World.cell?_setCell_other _ _ _ _ (by simp), World.cell?_setCell_other _ _ _ _ (by simp)]; exact d1
  rintro e u' w'' ⟨rfl, rfl, rfl⟩
  exact ⟨_, results_none rfl _ _ _, rfl, HDD.out⟩

/-- Do, not yet done -/
theorem do_calls (R O c : Nat) (q2 : Value) (w : World) (hR : w.heap[R]? = some (.cells #[.int .u32 0, .int .i32 0, q2, .nilIface, .slice (some ⟨O, 0, none⟩) 4 c] 93 (0, 0))) (hO : O < w.heap.size) (hOR : O ≠ R)
   (o0 : w.cell? ⟨O, 0, none⟩ = some (.string ⟨#[92]⟩)) (o1 : w.cell? ⟨O, 1, none⟩ = some (.string ⟨#[92, 92]⟩))
   (o2 : w.cell? ⟨O, 2, none⟩ = some (.string ⟨#[10]⟩)) (o3 : w.cell? ⟨O, 3, none⟩ = some (.string ⟨#[92, 110]⟩)) :
   Calls Tryz.prog 39 #[.pointer (some ⟨R, 0, none⟩), .func (.func 40) #[.pointer (some ⟨R, 0, none⟩)] #[]] w fun e w' => e = .returned (.tuple #[]) ∧ Done R w w' := by
  have HS := Lib.hid (doSlow_calls R O c q2 w hR hO hOR o0 o1 o2 o3)
  have c0 : w.cell? ⟨R, 0, none⟩ = some (.int .u32 0) := by simp [World.cell?, hR]
  have hl := run_call_load (P := Tryz.prog) Tryz.func64 (by kernel_rfl) (by kernel_rfl) (by kernel_rfl) .u32 (by kernel_rfl) c0
  have hnot : ∀ (x : Bool) (w : World), (Op.unary .not (.bool x)).run Tryz.prog w = .ok (.bool (!x)) w := fun _ _ => rfl
  clear hR o0 o1 o2 o3 hO hOR c0
  go_enter Tryz.func39, Tryz.ntmps39
  go_wp2_with (first | (go_at_call 54; refine HS.out.mono ?_; rintro e w' ⟨rfl, hd⟩; have HD := Lib.hid hd; clear hd) | (go_at_call 53; go_in))
  go_end0
  exact ⟨rfl, HD.out⟩
end Go.Proofs.YtpkcbbjflcfdeaaGreatDoor.P
