/- What the claim's theorem leans on. Conditions: none of its own. (Written by prune.py out of the texts Mays, without what the claim doesn't lean on.) -/
import Derived.Lib.Hide
import Derived.Deep.RegionWith
import Derived.Test.YtkblmomfiimkiaaGreatDoorM2
section
namespace Go.Proofs.YtkblmomfiimkiaaGreatDoor.P
open Go.RowKit Go.Proofs.YtkblmomfiimkiaaGreatDoorW.PrintWords Go.Proofs.YtkblmomfiimkiaaGreatDoorW.PrintLast Go.Proofs.YtkblmomfiimkiaaGreatDoorW.PrintMore
attribute [local go_sem] lb0 lb1 lb2 lb3 lb4 lb5 lb6 lb7 lb8 lb9 lb10 lb11 lb12 lb13
set_option maxRecDepth 100000 in
set_option maxHeartbeats 8000000 in
theorem mays_walk (x : S33) (A : Option Addr) (c : Nat) (B : Option Addr) (d : Nat) (w : World) (r t : Bool) (R : List S43)
  (hsh : ∀ p : CBox w.heap.size (letC x A c B d) w, Calls Tryz.prog 13 #[.agg (letC x A c B d)] p.W fun e w' => e = .returned (.bool r) ∧ ∃ q : CBox w.heap.size (letC x A c B d) w, w' = q.W)
  (haw : ∀ p : CBox w.heap.size (letC x A c B d) w, Calls Tryz.prog 9 #[] p.W fun e w' => e = .returned (.bool true) ∧ ∃ q : CBox w.heap.size (letC x A c B d) w, w' = q.W)
  (hma : r = true → ∀ p : CBox w.heap.size (letC x A c B d) w, Calls Tryz.prog 16 #[.agg (letC x A c B d)] p.W fun e w' => e = .returned (.bool t) ∧ ∃ q : CBox w.heap.size (letC x A c B d) w, w' = q.W)
  (hmb : r = true → ∀ p : CBox w.heap.size (letC x A c B d) w, Calls Tryz.prog 17 #[.agg (letC x A c B d)] p.W fun e w' => e = .returned (.bool t) ∧ ∃ q : CBox w.heap.size (letC x A c B d) w, w' = q.W)
  (hfa : r = true → ∀ p : CBox w.heap.size (letC x A c B d) w, Calls Tryz.prog 19 #[.agg (letC x A c B d)] p.W fun e w' => ∃ (D : Option Addr) (m : Nat) (q : CBox w.heap.size (letC x A c B d) w), (e = .returned (.slice D R.length m) ∧ w' = q.W) ∧ Hid (R.length ≤ m ∧ Kd.C k43 q.W D R.length R ∧ Below p.W.heap.size p.W q.W))
  (hfb : r = true → ∀ p : CBox w.heap.size (letC x A c B d) w, Calls Tryz.prog 20 #[.agg (letC x A c B d)] p.W fun e w' => ∃ (D : Option Addr) (m : Nat) (q : CBox w.heap.size (letC x A c B d) w), (e = .returned (.slice D R.length m) ∧ w' = q.W) ∧ Hid (R.length ≤ m ∧ Kd.C k43 q.W D R.length R ∧ Below p.W.heap.size p.W q.W))
  (hss : ∀ (p : CBox w.heap.size (letC x A c B d) w) (D : Option Addr) (m : Nat) (D' : Option Addr) (m' : Nat), R.length ≤ m → R.length ≤ m' → Kd.C k43 p.W D R.length R → Kd.C k43 p.W D' R.length R → Calls Tryz.prog 18 #[.slice D R.length m, .slice D' R.length m'] p.W fun e w' => e = .returned (.bool true) ∧ ∃ q : CBox w.heap.size (letC x A c B d) w, w' = q.W) :
  Calls Tryz.prog 5 #[.agg (letC x A c B d)] w fun e w' => e = .returned (.bool true) ∧ Below w.heap.size w w' := by
 have HSH := Lib.hid hsh
 have HAW := Lib.hid haw
 have HMA := Lib.hid hma
 have HMB := Lib.hid hmb
 have HFA := Lib.hid hfa
 have HFB := Lib.hid hfb
 have HSS := Lib.hid hss
 clear hsh haw hma hmb hfa hfb hss
 have HN := Lib.hid (cbox_new w (letC x A c B d))
 go_enter Tryz.func5, Tryz.ntmps5
 go_upto_region 1 with (fail)
 obtain ⟨p0, hp0⟩ := HN.out
 rw [hp0]
 clear HN hp0
 cases r with
 | false =>
  go_wp2_with (first | (go_at_call 13; (refine (HSH.out _).mono ?_); rintro e w' ⟨rfl, q, rfl⟩) | (go_at_call 9; (with_reducible refine (HAW.out _).mono ?_); rintro e w' ⟨rfl, q, rfl⟩))
  go_ret
  exact ⟨rfl, CBox.below _⟩
 | true =>
  go_upto_region 3 with (first | (go_at_call 13; (refine (HSH.out _).mono ?_); rintro e w' ⟨rfl, q, rfl⟩))
  have hma := HMA.out trivial
  have hmb := HMB.out trivial
  have hfa := HFA.out trivial
  have hfb := HFB.out trivial
  have GMA := Lib.hid hma
  have GMB := Lib.hid hmb
  have GFA := Lib.hid hfa
  have GFB := Lib.hid hfb
  clear hma hmb hfa hfb HMA HMB HFA HFB HSH
  have hdr : ∀ p : CBox w.heap.size (letC x A c B d) w, ∃ q : CBox w.heap.size (letC x A c B d) w, p.W.drew = q.W := fun p => cbox_below p (pw_below_drewN (Below.refl _ p.W) 1)
  obtain ⟨pd, hpd⟩ := hdr q
  have HPD := Lib.hid hpd
  clear hpd hdr
  go_region_with (first | (go_at_call 16; rw [HPD.out]; refine (GMA.out _).mono ?_; rintro e w' ⟨rfl, q1, rfl⟩) | (go_at_call 17; refine (GMB.out _).mono ?_; rintro e w' ⟨rfl, q2, rfl⟩) | (go_at_call 19; refine (GFA.out _).mono ?_; rintro e w' ⟨D1, m1, q3, ⟨rfl, rfl⟩, H1⟩) | (go_at_call 20; refine (GFB.out _).mono ?_; rintro e w' ⟨D2, m2, q4, ⟨rfl, rfl⟩, H2⟩) | (go_at_call 18; refine (HSS.out _ _ _ _ _ H1.out.1 H2.out.1 (Kd.C_below H1.out.2.1 H2.out.2.2) H2.out.2.1).mono ?_; rintro e w' ⟨rfl, q5, rfl⟩) | (go_at_call 9; (with_reducible refine (HAW.out _).mono ?_); rintro e w' ⟨rfl, q6, rfl⟩))
  all_goals (go_wp2_with fail; go_ret; exact ⟨rfl, CBox.below _⟩)
end Go.Proofs.YtkblmomfiimkiaaGreatDoor.P
end
