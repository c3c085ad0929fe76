/- Joined out of the texts Build Once Bsr Line Text Cut Parse Given by merge.py. Conditions: none. -/
import Derived.Test.YtkblmomfiimkiaaGreatDoorProg
import Derived.WalkKit
import Derived.WalkSpells
import Derived.WalkLawsBesides
import Derived.Lib.Hide
import Derived.Below
import Derived.OwnWalk
import Derived.Deep.WholeRow
import Derived.KernelRfl
import Derived.Laws.IdiomStrings
import Derived.ArgAppend
import Derived.Laws.NewBlocks
import Derived.Lib.SmallJoins
import Derived.Tactics2
import Derived.Defers
import Derived.Laws.Pointers
import Derived.Laws.LoneSync
import Derived.RegionTactic
import Derived.RegionCalls
import Derived.ChangeAlike
import Derived.Test.YtkblmomfiimkiaaGreatDoorPlain
import Derived.Test.YtkblmomfiimkiaaGreatDoorShelf
import Derived.Deep.QuietTactic
import Derived.BigQuiet
import Derived.Deep.DeepCutAuto
import Derived.Deep.LoopGhost
import Derived.Deep.RegionLaw
import Derived.Deep.OwnRows
import Derived.Laws.CopyOwn
import Derived.Lib.SlBytesRow
import Derived.IntWalk
import Derived.Outline
import Derived.Test.YtkblmomfiimkiaaGreatDoorPx0
import Derived.Deep.RegionHeld3
import Derived.Test.YtkblmomfiimkiaaGreatDoorName
import Derived.Lib.Strings
import Derived.Deep.Draws
import Derived.WalkMore
import Derived.Scope
section
/- (*strings.Replacer).build of the four strings that field.line hands to strings.NewReplacer: it returns a byteStringReplacer in new memory, of which the cells are told. Conditions: the four strings lie where the Replacer's field says. -/
namespace Go.Proofs.YtkblmomfiimkiaaGreatDoor.P
open Go.RowKit
noncomputable def Zr (n : Nat) : Array Value := Tryz.zeroCells228.setIfInBounds 256 (.slice (some ⟨n, 0, none⟩) 0 2)
theorem Zr_size (n : Nat) : (Zr n).size = 257 := by unfold Zr; rw [Array.size_setIfInBounds]; kernel_rfl
theorem zero_one : Tryz.zeroCells228.all (·.oneCell') = true := by kernel_rfl
theorem Zr_one (n : Nat) : (Zr n).all (·.oneCell') = true := by
  unfold Zr
  rw [Array.all_eq_true_iff_forall_mem]
  intro x hx
  rcases Array.mem_or_eq_of_mem_setIfInBounds hx with h | h
  · exact (Array.all_eq_true_iff_forall_mem.1 zero_one) x h
  · subst h; rfl
theorem Zr_toList (n : Nat) : (Zr n).toList = Tryz.zeroCells228.toList.set 256 (.slice (some ⟨n, 0, none⟩) 0 2) := by
  unfold Zr; rw [Array.toList_setIfInBounds]
theorem Zr_low (n b : Nat) (h : b < 256) : (Zr n)[b]? = some (.slice none 0 0) := by
  unfold Zr
  rw [Array.getElem?_setIfInBounds_ne (by omega)]
  have e : Tryz.zeroCells228 = Array.replicate 257 (.slice none 0 0) := by kernel_rfl
  rw [e, Array.getElem?_replicate, if_pos (by omega)]
theorem Zr_at (n b : Nat) (hb : b < 256) : ∀ h, (Zr n)[b]'h = .slice none 0 0 := fun h => by
  have := Zr_low n b hb
  rw [Array.getElem?_eq_getElem h] at this
  exact Option.some.inj this
theorem Zr_high (n : Nat) : (Zr n)[256]? = some (.slice (some ⟨n, 0, none⟩) 0 2) := by
  unfold Zr
  have : Tryz.zeroCells228.size = 257 := by kernel_rfl
  rw [Array.getElem?_setIfInBounds_self]
  simp [this]

theorem append_one (P : Program) (t ty e : TypeId) (i : TypeInfo) (ht : P.underlying t = some (.slice e)) (hi : P.info? e = some i) (hs : i.size = 1) (W : World) (b sLen sCap c : Nat) (a : Addr) (v : Value)
    (hv : W.cell? a = some v) (h1 : v.oneCell' = true) (hroom : sLen + 1 ≤ sCap) (hc : (W.cell? ⟨b, sLen, none⟩).isSome = true) (hf : W.frozen? ⟨b, sLen, none⟩ = false) :
    (Builtin.append_ #[t, t] ty #[.slice (some ⟨b, 0, none⟩) sLen sCap, .slice (some a) 1 c]).run P W = .ok (.slice (some ⟨b, 0, none⟩) (sLen + 1) sCap) (W.setCell ⟨b, sLen, none⟩ v) := by
  have h := run_append_room_cells (P := P) W t ty e i ht hi b 0 sLen sCap a 1 c [v] (by simp [hs]) (fun j u hj => by
    rcases j with _ | j
    · simp at hj; subst hj; rw [Addr.add_zero']; exact hv
    · simp at hj) (fun u hu => by simp at hu; subst hu; exact h1) hroom (fun j hj => by
    obtain rfl : j = 0 := by simp at hj; omega
    simpa [hs] using hc) (fun j hj => by
    obtain rfl : j = 0 := by simp at hj; omega
    simpa [hs] using hf)
  rw [h]
  simp [World.setCells, hs]

/-- string to bytes: the new row begins with the bytes -/
theorem bytes_two (P : Program) (src dst e : TypeId) (hs : P.underlying src = some .string) (hd : P.underlying dst = some (.slice e)) (he : P.underlying e = some (.int .u8)) (W : World) (a b : UInt8) :
    ∃ c C fr, (convert src dst (.string ⟨#[a, b]⟩)).run P W = .ok (.slice (some ⟨W.heap.size, 0, none⟩) 2 c) ((W.alloc (.cells C e fr)).drew) ∧ C[0]? = some (.int .u8 a.toNat) ∧ C[1]? = some (.int .u8 b.toNat) :=
  ⟨_, _, _, run_bytes_of_string W src dst e ⟨#[a, b]⟩ hs hd he, bytesRow_at ⟨#[a, b]⟩ _ 0 (by simp), bytesRow_at ⟨#[a, b]⟩ _ 1 (by simp)⟩

/-- what stands at a byte: the row that it is replaced by, or nil -/
def repAt (x y : Nat) (cx cy : Nat) (b : Nat) : Value := if b = 10 then .slice (some ⟨x, 0, none⟩) 2 cx else if b = 92 then .slice (some ⟨y, 0, none⟩) 2 cy else .slice none 0 0

/-- A byteStringReplacer of ours in block b, all its memory from block lo on. -/
def IsBsr (lo b : Nat) (w : World) : Prop := ∃ x y t cx cy : Nat, (lo ≤ b ∧ b < w.heap.size) ∧ (lo ≤ x ∧ x < w.heap.size) ∧ (lo ≤ y ∧ y < w.heap.size) ∧ (lo ≤ t ∧ t < w.heap.size) ∧
  (∀ j, j < 256 → w.cell? ⟨b, j, none⟩ = some (repAt x y cx cy j)) ∧ w.cell? ⟨b, 256, none⟩ = some (.slice (some ⟨t, 0, none⟩) 2 2) ∧
  (w.cell? ⟨x, 0, none⟩ = some (.int .u8 92) ∧ w.cell? ⟨x, 1, none⟩ = some (.int .u8 110)) ∧ (w.cell? ⟨y, 0, none⟩ = some (.int .u8 92) ∧ w.cell? ⟨y, 1, none⟩ = some (.int .u8 92)) ∧
  (w.cell? ⟨t, 0, none⟩ = some (.string ⟨#[10]⟩) ∧ w.cell? ⟨t, 1, none⟩ = some (.string ⟨#[92]⟩))

theorem IsBsr.step {lo b : Nat} {w w' : World} (h : IsBsr lo b w) (hs : w.heap.size ≤ w'.heap.size) (hb : ∀ g, lo ≤ g → g < w.heap.size → ∀ o, w'.cell? ⟨g, o, none⟩ = w.cell? ⟨g, o, none⟩) : IsBsr lo b w' := by
  obtain ⟨x, y, t, cx, cy, ⟨b0, b1⟩, ⟨x0, x1⟩, ⟨y0, y1⟩, ⟨t0, t1⟩, hr, hl, ⟨hx0, hx1⟩, ⟨hy0, hy1⟩, ht0, ht1⟩ := h
  exact ⟨x, y, t, cx, cy, ⟨b0, by omega⟩, ⟨x0, by omega⟩, ⟨y0, by omega⟩, ⟨t0, by omega⟩, fun j hj => (hb b b0 b1 j).trans (hr j hj), (hb b b0 b1 _).trans hl, ⟨(hb x x0 x1 _).trans hx0, (hb x x0 x1 _).trans hx1⟩, ⟨(hb y y0 y1 _).trans hy0, (hb y y0 y1 _).trans hy1⟩, (hb t t0 t1 _).trans ht0, (hb t t0 t1 _).trans ht1⟩
theorem IsBsr.below {lo b : Nat} {w w' : World} (h : IsBsr lo b w) (hb : Below w.heap.size w w') : IsBsr lo b w' :=
  h.step hb.size (fun g _ hg o => hb.cell (p := ⟨g, o, none⟩) hg)

/-- what the walk leaves, as told above -/
theorem bsr_made (w : World) (c1 c2 : Nat) (C1 C2 : Array Value) (fr1 fr2 : Nat × Nat) (hC10 : C1[0]? = some (.int .u8 92)) (hC11 : C1[1]? = some (.int .u8 110)) (hC20 : C2[0]? = some (.int .u8 92)) (hC21 : C2[1]? = some (.int .u8 92)) :
    IsBsr w.heap.size (w.heap.size + 1) (((((((((w.alloc (.cells #[.string ⟨#[10]⟩, .string ⟨#[92]⟩] 9)).alloc (.cells (((((Zr w.heap.size).setIfInBounds 256 (.slice (some ⟨w.heap.size, 0, none⟩) 1 2)).setIfInBounds 10 (.slice (some ⟨w.heap.size + 1 + 1 + 1 + 1, 0, none⟩) 2 c1)).setIfInBounds 256 (.slice (some ⟨w.heap.size, 0, none⟩) 2 2)).setIfInBounds 92 (.slice (some ⟨w.heap.size + 1 + 1 + 1 + 1 + 1 + 1 + 1, 0, none⟩) 2 c2)) 228)).alloc (.cells #[.int .u8 10] 5)).alloc (.cells #[.string ⟨#[10]⟩] 9)).alloc (.cells C1 5 fr1)).alloc (.cells #[.int .u8 92] 5)).alloc (.cells #[.string ⟨#[92]⟩] 9)).alloc (.cells C2 5 fr2)).drew.drew) := by
  have hz : (((((((((w.alloc (.cells #[.string ⟨#[10]⟩, .string ⟨#[92]⟩] 9)).alloc (.cells (((((Zr w.heap.size).setIfInBounds 256 (.slice (some ⟨w.heap.size, 0, none⟩) 1 2)).setIfInBounds 10 (.slice (some ⟨w.heap.size + 1 + 1 + 1 + 1, 0, none⟩) 2 c1)).setIfInBounds 256 (.slice (some ⟨w.heap.size, 0, none⟩) 2 2)).setIfInBounds 92 (.slice (some ⟨w.heap.size + 1 + 1 + 1 + 1 + 1 + 1 + 1, 0, none⟩) 2 c2)) 228)).alloc (.cells #[.int .u8 10] 5)).alloc (.cells #[.string ⟨#[10]⟩] 9)).alloc (.cells C1 5 fr1)).alloc (.cells #[.int .u8 92] 5)).alloc (.cells #[.string ⟨#[92]⟩] 9)).alloc (.cells C2 5 fr2)).drew.drew).heap.size = w.heap.size + 1 + 1 + 1 + 1 + 1 + 1 + 1 + 1 := by simp
  refine ⟨w.heap.size + 1 + 1 + 1 + 1, w.heap.size + 1 + 1 + 1 + 1 + 1 + 1 + 1, w.heap.size, c1, c2, ⟨by omega, by rw [hz]; omega⟩, ⟨by omega, by rw [hz]; omega⟩, ⟨by omega, by rw [hz]; omega⟩, ⟨by omega, by rw [hz]; omega⟩, ?_, ?_, ⟨?_, ?_⟩, ⟨?_, ?_⟩, ?_, ?_⟩
  · intro j hj
    have e : (((((((((w.alloc (.cells #[.string ⟨#[10]⟩, .string ⟨#[92]⟩] 9)).alloc (.cells (((((Zr w.heap.size).setIfInBounds 256 (.slice (some ⟨w.heap.size, 0, none⟩) 1 2)).setIfInBounds 10 (.slice (some ⟨w.heap.size + 1 + 1 + 1 + 1, 0, none⟩) 2 c1)).setIfInBounds 256 (.slice (some ⟨w.heap.size, 0, none⟩) 2 2)).setIfInBounds 92 (.slice (some ⟨w.heap.size + 1 + 1 + 1 + 1 + 1 + 1 + 1, 0, none⟩) 2 c2)) 228)).alloc (.cells #[.int .u8 10] 5)).alloc (.cells #[.string ⟨#[10]⟩] 9)).alloc (.cells C1 5 fr1)).alloc (.cells #[.int .u8 92] 5)).alloc (.cells #[.string ⟨#[92]⟩] 9)).alloc (.cells C2 5 fr2)).drew.drew).cell? ⟨w.heap.size + 1, j, none⟩ = (((((Zr w.heap.size).setIfInBounds 256 (.slice (some ⟨w.heap.size, 0, none⟩) 1 2)).setIfInBounds 10 (.slice (some ⟨w.heap.size + 1 + 1 + 1 + 1, 0, none⟩) 2 c1)).setIfInBounds 256 (.slice (some ⟨w.heap.size, 0, none⟩) 2 2)).setIfInBounds 92 (.slice (some ⟨w.heap.size + 1 + 1 + 1 + 1 + 1 + 1 + 1, 0, none⟩) 2 c2))[j]? := by go_simp
    have zl := Zr_low w.heap.size j hj
    rw [e]
    unfold repAt
    by_cases h1 : j = 10
    · subst h1; rw [if_pos rfl, Array.getElem?_setIfInBounds_ne (by omega), Array.getElem?_setIfInBounds_ne (by omega), Array.getElem?_setIfInBounds_self]; simp [Zr_size]
    · by_cases h2 : j = 92
      · subst h2; rw [if_neg h1, if_pos rfl, Array.getElem?_setIfInBounds_self]; simp [Zr_size]
      · rw [if_neg h1, if_neg h2, Array.getElem?_setIfInBounds_ne (by omega), Array.getElem?_setIfInBounds_ne (by omega), Array.getElem?_setIfInBounds_ne (by omega), Array.getElem?_setIfInBounds_ne (by omega)]; exact zl
  · have e : (((((((((w.alloc (.cells #[.string ⟨#[10]⟩, .string ⟨#[92]⟩] 9)).alloc (.cells (((((Zr w.heap.size).setIfInBounds 256 (.slice (some ⟨w.heap.size, 0, none⟩) 1 2)).setIfInBounds 10 (.slice (some ⟨w.heap.size + 1 + 1 + 1 + 1, 0, none⟩) 2 c1)).setIfInBounds 256 (.slice (some ⟨w.heap.size, 0, none⟩) 2 2)).setIfInBounds 92 (.slice (some ⟨w.heap.size + 1 + 1 + 1 + 1 + 1 + 1 + 1, 0, none⟩) 2 c2)) 228)).alloc (.cells #[.int .u8 10] 5)).alloc (.cells #[.string ⟨#[10]⟩] 9)).alloc (.cells C1 5 fr1)).alloc (.cells #[.int .u8 92] 5)).alloc (.cells #[.string ⟨#[92]⟩] 9)).alloc (.cells C2 5 fr2)).drew.drew).cell? ⟨w.heap.size + 1, 256, none⟩ = (((((Zr w.heap.size).setIfInBounds 256 (.slice (some ⟨w.heap.size, 0, none⟩) 1 2)).setIfInBounds 10 (.slice (some ⟨w.heap.size + 1 + 1 + 1 + 1, 0, none⟩) 2 c1)).setIfInBounds 256 (.slice (some ⟨w.heap.size, 0, none⟩) 2 2)).setIfInBounds 92 (.slice (some ⟨w.heap.size + 1 + 1 + 1 + 1 + 1 + 1 + 1, 0, none⟩) 2 c2))[256]? := by go_simp
    rw [e, Array.getElem?_setIfInBounds_ne (by omega), Array.getElem?_setIfInBounds_self]; simp [Zr_size]
  all_goals first | (go_simp; done) | (go_simp; rw [Joins.cell_alloc_mark_at _ _ _ _ _ _ (by simp)]; assumption)

set_option maxRecDepth 100000 in
set_option maxHeartbeats 4000000 in
theorem build_calls (R O c : Nat) (w : World) (h4 : w.cell? ⟨R, 4, none⟩ = some (.slice (some ⟨O, 0, none⟩) 4 c)) (hO : O < w.heap.size)
   (o0 : w.cell? ⟨O, 0, none⟩ = some (.string ⟨#[92]⟩)) (o1 : w.cell? ⟨O, 1, none⟩ = some (.string ⟨#[92, 92]⟩))
   (o2 : w.cell? ⟨O, 2, none⟩ = some (.string ⟨#[10]⟩)) (o3 : w.cell? ⟨O, 3, none⟩ = some (.string ⟨#[92, 110]⟩)) :
   Calls Tryz.prog 148 #[.pointer (some ⟨R, 0, none⟩)] w fun e w' => e = .returned (.iface 229 (.pointer (some ⟨w.heap.size + 1, 0, none⟩))) ∧ IsBsr w.heap.size (w.heap.size + 1) w' ∧ Below w.heap.size w w' := by
  have hmk : ∀ w, (Instr.makeSlice 23 (.int .i64 0) (.int .i64 2)).run Tryz.prog w = .ok (.slice (some ⟨w.heap.size, 0, none⟩) 0 2) (w.alloc (.cells #[.string ⟨#[]⟩, .string ⟨#[]⟩] 9)) := fun _ => by kernel_rfl
  have hst : (storeCells ⟨w.heap.size + 1, 0, none⟩ (Tryz.zeroCells228.toList.set 256 (.slice (some ⟨w.heap.size, 0, none⟩) 0 2)) 0).run Tryz.prog ((w.alloc (.cells #[.string ⟨#[]⟩, .string ⟨#[]⟩] 9)).alloc (.cells Tryz.zeroCells228 228)) = .ok () ((w.alloc (.cells #[.string ⟨#[]⟩, .string ⟨#[]⟩] 9)).alloc (.cells (Zr w.heap.size) 228)) := by
    have h := run_storeCells_new (P := Tryz.prog) (w.alloc (.cells #[.string ⟨#[]⟩, .string ⟨#[]⟩] 9)) 228 Tryz.zeroCells228 (Zr w.heap.size) (by rw [Zr_size]; kernel_rfl) (by rw [Zr_size]; kernel_rfl) (Zr_one _)
    rw [Zr_toList] at h
    have e : (w.alloc (.cells #[.string ⟨#[]⟩, .string ⟨#[]⟩] 9)).heap.size = w.heap.size + 1 := by simp
    rw [e] at h
    exact h
  obtain ⟨i9, hi9, hz9, hs9, hb9⟩ := info_parts (P := Tryz.prog) (e := 9) (z := .string ⟨#[]⟩) (size := 1) (bytes := 16) (by kernel_rfl)
  have hcv : (convert 110 9 (.slice (some ⟨w.heap.size + 1 + 1, 0, none⟩) 1 1)).run Tryz.prog (((w.alloc (.cells #[.string ⟨#[]⟩, .string ⟨#[]⟩] 9)).alloc (.cells (Zr w.heap.size) 228)).alloc (.cells #[.int .u8 10] 5)) = .ok (.string ⟨#[10]⟩) (((w.alloc (.cells #[.string ⟨#[]⟩, .string ⟨#[]⟩] 9)).alloc (.cells (Zr w.heap.size) 228)).alloc (.cells #[.int .u8 10] 5)) :=
    run_convert_bytes_back (P := Tryz.prog) (((w.alloc (.cells #[.string ⟨#[]⟩, .string ⟨#[]⟩] 9)).alloc (.cells (Zr w.heap.size) 228)).alloc (.cells #[.int .u8 10] 5)) 110 9 5 ⟨w.heap.size + 1 + 1, 0, none⟩ 1 [10] Tryz.underlying110 Tryz.underlying5 Tryz.underlying9 (fun j hj => by
      obtain rfl : j = 0 := by simp at hj; omega
      rw [Addr.add_zero']
      go_simp)
  have hv4 : (((((w.alloc (.cells #[.string ⟨#[]⟩, .string ⟨#[]⟩] 9)).alloc (.cells (Zr w.heap.size) 228)).alloc (.cells #[.int .u8 10] 5)).alloc (.cells #[.string ⟨#[10]⟩] 9))).cell? ⟨w.heap.size + 1 + 1 + 1, 0, none⟩ = some (.string ⟨#[10]⟩) := by go_simp
  have hw4 : ((((((w.alloc (.cells #[.string ⟨#[]⟩, .string ⟨#[]⟩] 9)).alloc (.cells (Zr w.heap.size) 228)).alloc (.cells #[.int .u8 10] 5)).alloc (.cells #[.string ⟨#[10]⟩] 9))).cell? ⟨w.heap.size, 0, none⟩).isSome = true := by go_simp
  have hf4 : (((((w.alloc (.cells #[.string ⟨#[]⟩, .string ⟨#[]⟩] 9)).alloc (.cells (Zr w.heap.size) 228)).alloc (.cells #[.int .u8 10] 5)).alloc (.cells #[.string ⟨#[10]⟩] 9))).frozen? ⟨w.heap.size, 0, none⟩ = false := by go_simp
  have hap : (Builtin.append_ #[23, 23] 23 #[.slice (some ⟨w.heap.size, 0, none⟩) 0 2, .slice (some ⟨w.heap.size + 1 + 1 + 1, 0, none⟩) 1 1]).run Tryz.prog ((((w.alloc (.cells #[.string ⟨#[]⟩, .string ⟨#[]⟩] 9)).alloc (.cells (Zr w.heap.size) 228)).alloc (.cells #[.int .u8 10] 5)).alloc (.cells #[.string ⟨#[10]⟩] 9)) = .ok (.slice (some ⟨w.heap.size, 0, none⟩) 1 2) ((((w.alloc (.cells #[.string ⟨#[10]⟩, .string ⟨#[]⟩] 9)).alloc (.cells (Zr w.heap.size) 228)).alloc (.cells #[.int .u8 10] 5)).alloc (.cells #[.string ⟨#[10]⟩] 9)) := by
    rw [append_one Tryz.prog 23 23 9 i9 Tryz.underlying23 hi9 hs9 ((((w.alloc (.cells #[.string ⟨#[]⟩, .string ⟨#[]⟩] 9)).alloc (.cells (Zr w.heap.size) 228)).alloc (.cells #[.int .u8 10] 5)).alloc (.cells #[.string ⟨#[10]⟩] 9)) w.heap.size 0 2 1 ⟨w.heap.size + 1 + 1 + 1, 0, none⟩ (.string ⟨#[10]⟩) hv4 rfl (by omega) hw4 hf4]
    go_simp
  clear hv4 hw4 hf4
  obtain ⟨c1, C1, fr1, hsb1, hC10, hC11⟩ := bytes_two Tryz.prog 9 110 5 Tryz.underlying9 Tryz.underlying110 Tryz.underlying5 ((((w.alloc (.cells #[.string ⟨#[10]⟩, .string ⟨#[]⟩] 9)).alloc (.cells ((Zr w.heap.size).setIfInBounds 256 (.slice (some ⟨w.heap.size, 0, none⟩) 1 2)) 228)).alloc (.cells #[.int .u8 10] 5)).alloc (.cells #[.string ⟨#[10]⟩] 9)) 92 110
  have q1 : ((((w.alloc (.cells #[.string ⟨#[10]⟩, .string ⟨#[]⟩] 9)).alloc (.cells ((Zr w.heap.size).setIfInBounds 256 (.slice (some ⟨w.heap.size, 0, none⟩) 1 2)) 228)).alloc (.cells #[.int .u8 10] 5)).alloc (.cells #[.string ⟨#[10]⟩] 9)).heap.size = w.heap.size + 1 + 1 + 1 + 1 := by simp
  rw [q1] at hsb1
  clear q1
  have hcv2 : (convert 110 9 (.slice (some ⟨w.heap.size + 1 + 1 + 1 + 1 + 1, 0, none⟩) 1 1)).run Tryz.prog ((((((w.alloc (.cells #[.string ⟨#[10]⟩, .string ⟨#[]⟩] 9)).alloc (.cells (((Zr w.heap.size).setIfInBounds 256 (.slice (some ⟨w.heap.size, 0, none⟩) 1 2)).setIfInBounds 10 (.slice (some ⟨w.heap.size + 1 + 1 + 1 + 1, 0, none⟩) 2 c1)) 228)).alloc (.cells #[.int .u8 10] 5)).alloc (.cells #[.string ⟨#[10]⟩] 9)).alloc (.cells C1 5 fr1)).alloc (.cells #[.int .u8 92] 5)).drew = .ok (.string ⟨#[92]⟩) ((((((w.alloc (.cells #[.string ⟨#[10]⟩, .string ⟨#[]⟩] 9)).alloc (.cells (((Zr w.heap.size).setIfInBounds 256 (.slice (some ⟨w.heap.size, 0, none⟩) 1 2)).setIfInBounds 10 (.slice (some ⟨w.heap.size + 1 + 1 + 1 + 1, 0, none⟩) 2 c1)) 228)).alloc (.cells #[.int .u8 10] 5)).alloc (.cells #[.string ⟨#[10]⟩] 9)).alloc (.cells C1 5 fr1)).alloc (.cells #[.int .u8 92] 5)).drew :=
    run_convert_bytes_back (P := Tryz.prog) ((((((w.alloc (.cells #[.string ⟨#[10]⟩, .string ⟨#[]⟩] 9)).alloc (.cells (((Zr w.heap.size).setIfInBounds 256 (.slice (some ⟨w.heap.size, 0, none⟩) 1 2)).setIfInBounds 10 (.slice (some ⟨w.heap.size + 1 + 1 + 1 + 1, 0, none⟩) 2 c1)) 228)).alloc (.cells #[.int .u8 10] 5)).alloc (.cells #[.string ⟨#[10]⟩] 9)).alloc (.cells C1 5 fr1)).alloc (.cells #[.int .u8 92] 5)).drew 110 9 5 ⟨w.heap.size + 1 + 1 + 1 + 1 + 1, 0, none⟩ 1 [92] Tryz.underlying110 Tryz.underlying5 Tryz.underlying9 (fun j hj => by
      obtain rfl : j = 0 := by simp at hj; omega
      rw [Addr.add_zero']
      go_simp)
  have hv7 : ((((((((w.alloc (.cells #[.string ⟨#[10]⟩, .string ⟨#[]⟩] 9)).alloc (.cells (((Zr w.heap.size).setIfInBounds 256 (.slice (some ⟨w.heap.size, 0, none⟩) 1 2)).setIfInBounds 10 (.slice (some ⟨w.heap.size + 1 + 1 + 1 + 1, 0, none⟩) 2 c1)) 228)).alloc (.cells #[.int .u8 10] 5)).alloc (.cells #[.string ⟨#[10]⟩] 9)).alloc (.cells C1 5 fr1)).alloc (.cells #[.int .u8 92] 5)).alloc (.cells #[.string ⟨#[92]⟩] 9)).drew).cell? ⟨w.heap.size + 1 + 1 + 1 + 1 + 1 + 1, 0, none⟩ = some (.string ⟨#[92]⟩) := by go_simp
  have hw7 : (((((((((w.alloc (.cells #[.string ⟨#[10]⟩, .string ⟨#[]⟩] 9)).alloc (.cells (((Zr w.heap.size).setIfInBounds 256 (.slice (some ⟨w.heap.size, 0, none⟩) 1 2)).setIfInBounds 10 (.slice (some ⟨w.heap.size + 1 + 1 + 1 + 1, 0, none⟩) 2 c1)) 228)).alloc (.cells #[.int .u8 10] 5)).alloc (.cells #[.string ⟨#[10]⟩] 9)).alloc (.cells C1 5 fr1)).alloc (.cells #[.int .u8 92] 5)).alloc (.cells #[.string ⟨#[92]⟩] 9)).drew).cell? ⟨w.heap.size, 1, none⟩).isSome = true := by go_simp
  have hf7 : ((((((((w.alloc (.cells #[.string ⟨#[10]⟩, .string ⟨#[]⟩] 9)).alloc (.cells (((Zr w.heap.size).setIfInBounds 256 (.slice (some ⟨w.heap.size, 0, none⟩) 1 2)).setIfInBounds 10 (.slice (some ⟨w.heap.size + 1 + 1 + 1 + 1, 0, none⟩) 2 c1)) 228)).alloc (.cells #[.int .u8 10] 5)).alloc (.cells #[.string ⟨#[10]⟩] 9)).alloc (.cells C1 5 fr1)).alloc (.cells #[.int .u8 92] 5)).alloc (.cells #[.string ⟨#[92]⟩] 9)).drew).frozen? ⟨w.heap.size, 1, none⟩ = false := by go_simp
  have hap2 : (Builtin.append_ #[23, 23] 23 #[.slice (some ⟨w.heap.size, 0, none⟩) 1 2, .slice (some ⟨w.heap.size + 1 + 1 + 1 + 1 + 1 + 1, 0, none⟩) 1 1]).run Tryz.prog ((((((((w.alloc (.cells #[.string ⟨#[10]⟩, .string ⟨#[]⟩] 9)).alloc (.cells (((Zr w.heap.size).setIfInBounds 256 (.slice (some ⟨w.heap.size, 0, none⟩) 1 2)).setIfInBounds 10 (.slice (some ⟨w.heap.size + 1 + 1 + 1 + 1, 0, none⟩) 2 c1)) 228)).alloc (.cells #[.int .u8 10] 5)).alloc (.cells #[.string ⟨#[10]⟩] 9)).alloc (.cells C1 5 fr1)).alloc (.cells #[.int .u8 92] 5)).alloc (.cells #[.string ⟨#[92]⟩] 9)).drew) = .ok (.slice (some ⟨w.heap.size, 0, none⟩) 2 2) ((((((((w.alloc (.cells #[.string ⟨#[10]⟩, .string ⟨#[92]⟩] 9)).alloc (.cells (((Zr w.heap.size).setIfInBounds 256 (.slice (some ⟨w.heap.size, 0, none⟩) 1 2)).setIfInBounds 10 (.slice (some ⟨w.heap.size + 1 + 1 + 1 + 1, 0, none⟩) 2 c1)) 228)).alloc (.cells #[.int .u8 10] 5)).alloc (.cells #[.string ⟨#[10]⟩] 9)).alloc (.cells C1 5 fr1)).alloc (.cells #[.int .u8 92] 5)).alloc (.cells #[.string ⟨#[92]⟩] 9)).drew) := by
    rw [append_one Tryz.prog 23 23 9 i9 Tryz.underlying23 hi9 hs9 ((((((((w.alloc (.cells #[.string ⟨#[10]⟩, .string ⟨#[]⟩] 9)).alloc (.cells (((Zr w.heap.size).setIfInBounds 256 (.slice (some ⟨w.heap.size, 0, none⟩) 1 2)).setIfInBounds 10 (.slice (some ⟨w.heap.size + 1 + 1 + 1 + 1, 0, none⟩) 2 c1)) 228)).alloc (.cells #[.int .u8 10] 5)).alloc (.cells #[.string ⟨#[10]⟩] 9)).alloc (.cells C1 5 fr1)).alloc (.cells #[.int .u8 92] 5)).alloc (.cells #[.string ⟨#[92]⟩] 9)).drew) w.heap.size 1 2 1 ⟨w.heap.size + 1 + 1 + 1 + 1 + 1 + 1, 0, none⟩ (.string ⟨#[92]⟩) hv7 rfl (by omega) hw7 hf7]
    go_simp
  clear hv7 hw7 hf7
  obtain ⟨c2, C2, fr2, hsb2, hC20, hC21⟩ := bytes_two Tryz.prog 9 110 5 Tryz.underlying9 Tryz.underlying110 Tryz.underlying5 ((((((((w.alloc (.cells #[.string ⟨#[10]⟩, .string ⟨#[92]⟩] 9)).alloc (.cells ((((Zr w.heap.size).setIfInBounds 256 (.slice (some ⟨w.heap.size, 0, none⟩) 1 2)).setIfInBounds 10 (.slice (some ⟨w.heap.size + 1 + 1 + 1 + 1, 0, none⟩) 2 c1)).setIfInBounds 256 (.slice (some ⟨w.heap.size, 0, none⟩) 2 2)) 228)).alloc (.cells #[.int .u8 10] 5)).alloc (.cells #[.string ⟨#[10]⟩] 9)).alloc (.cells C1 5 fr1)).alloc (.cells #[.int .u8 92] 5)).alloc (.cells #[.string ⟨#[92]⟩] 9)).drew) 92 92
  have q2 : ((((((((w.alloc (.cells #[.string ⟨#[10]⟩, .string ⟨#[92]⟩] 9)).alloc (.cells ((((Zr w.heap.size).setIfInBounds 256 (.slice (some ⟨w.heap.size, 0, none⟩) 1 2)).setIfInBounds 10 (.slice (some ⟨w.heap.size + 1 + 1 + 1 + 1, 0, none⟩) 2 c1)).setIfInBounds 256 (.slice (some ⟨w.heap.size, 0, none⟩) 2 2)) 228)).alloc (.cells #[.int .u8 10] 5)).alloc (.cells #[.string ⟨#[10]⟩] 9)).alloc (.cells C1 5 fr1)).alloc (.cells #[.int .u8 92] 5)).alloc (.cells #[.string ⟨#[92]⟩] 9)).drew).heap.size = w.heap.size + 1 + 1 + 1 + 1 + 1 + 1 + 1 := by go_simp
  rw [q2] at hsb2
  clear q2
  have HF := Lib.hid (bsr_made w c1 c2 C1 C2 fr1 fr2 hC10 hC11 hC20 hC21)
  have z10 := Zr_at w.heap.size 10 (by omega)
  have z92 := Zr_at w.heap.size 92 (by omega)
  have z256 : ∀ h, (Zr w.heap.size)[256]'h = .slice (some ⟨w.heap.size, 0, none⟩) 0 2 := fun h => by have := Zr_high w.heap.size; rw [Array.getElem?_eq_getElem h] at this; exact Option.some.inj this
  have zs := Zr_size w.heap.size
  have hnil := fun w a l c => Lib.run_eql_slice_nil (P := Tryz.prog) w 110 5 a l c 0 0 Tryz.underlying110
  have b10 : ∀ h, ((⟨#[10]⟩ : ByteArray)[0]'h).toNat = 10 := fun _ => rfl
  have b92 : ∀ h, ((⟨#[92]⟩ : ByteArray)[0]'h).toNat = 92 := fun _ => rfl
  have hO1 : O < w.heap.size + 1 := by omega
  have hO2 : O < w.heap.size + 1 + 1 := by omega
  have hO3 : O < w.heap.size + 1 + 1 + 1 := by omega
  have hO4 : O < w.heap.size + 1 + 1 + 1 + 1 := by omega
  have hO5 : O < w.heap.size + 1 + 1 + 1 + 1 + 1 := by omega
  have hO6 : O < w.heap.size + 1 + 1 + 1 + 1 + 1 + 1 := by omega
  have hO7 : O < w.heap.size + 1 + 1 + 1 + 1 + 1 + 1 + 1 := by omega
  clear hC10 hC11 hC20 hC21 hi9 hz9 hs9 hb9
  go_enter Tryz.func148, Tryz.ntmps148
  go_wp2_with fail
  refine wp_loop_rounds 3 ?_
  rw [rounds_succ]
  go_wp2_with fail
  rw [rounds_succ]
  go_wp2_with fail
  rw [rounds_succ]
  go_wp2_with fail
  refine wp_loop_rounds 3 ?_
  rw [rounds_succ]
  go_wp2_with fail
  rw [rounds_succ]
  go_wp2_with fail
  rw [rounds_succ]
  go_wp2_with fail
  go_ret
  refine ⟨rfl, HF.out, ?_⟩
  exact (((((((((Below.refl _ _).alloc (Nat.le_refl _) _).alloc (by simp) _).alloc (by simp; omega) _).alloc (by simp; omega) _).alloc (by simp; omega) _).alloc (by simp; omega) _).alloc (by simp; omega) _).alloc (by simp; omega) _).drew.drew
end Go.Proofs.YtkblmomfiimkiaaGreatDoor.P
end

section
/- sync.Once.Do around (*strings.Replacer).buildOnce, not yet done and the lock free: behind it the Replacer's field r holds a byteStringReplacer of ours. Conditions: as told in each theorem's head. -/
namespace Go.Proofs.YtkblmomfiimkiaaGreatDoor.P
open Go.RowKit

theorem disable (w : World) : (callFunc 182 #[]).run Tryz.prog w = .ok (.value (.tuple #[])) w := run_call_mark0 Tryz.func182 (by kernel_rfl) (by kernel_rfl) (by kernel_rfl) .disable (by kernel_rfl) w
theorem enable (w : World) : (callFunc 184 #[]).run Tryz.prog w = .ok (.value (.tuple #[])) w := run_call_mark0 Tryz.func184 (by kernel_rfl) (by kernel_rfl) (by kernel_rfl) .enable (by kernel_rfl) w
theorem acquire (a : Addr) (w : World) : (callFunc 185 #[.pointer (some a)]).run Tryz.prog w = .ok (.value (.tuple #[])) w := run_call_marked Tryz.func185 (by kernel_rfl) (by kernel_rfl) (by kernel_rfl) .acquire (by kernel_rfl) a w
theorem releaseMerge (a : Addr) (w : World) : (callFunc 187 #[.pointer (some a)]).run Tryz.prog w = .ok (.value (.tuple #[])) w := run_call_marked Tryz.func187 (by kernel_rfl) (by kernel_rfl) (by kernel_rfl) .releaseMerge (by kernel_rfl) a w

/-- '(*sync/atomic.Bool).Store(true)' as a deferred call -/
theorem store_deferred (a : Addr) (x : Value) (u : FrameMode) (w : World) (hc : w.cell? a = some x) (hz : w.frozen? a = false) :
    CallsD Tryz.prog 169 #[.pointer (some a), .bool true] u w fun e u' w' => u' = u ∧ (e = .returned (.tuple #[]) ∧ w' = w.drew.setCell a (.int .u32 1)) := by
  have hc' : w.drew.cell? a = some x := by go_simp
  have hz' : w.drew.frozen? a = false := by go_simp
  have hst := run_call_store (P := Tryz.prog) Tryz.func178 (by kernel_rfl) (by kernel_rfl) (by kernel_rfl) (by kernel_rfl) (k := .u32) (y := 1) hc' hz'
  go_enter_d Tryz.func169, Tryz.ntmps169
  go_wp2
  go_region_calls
  all_goals (go_end0; exact ⟨rfl, rfl⟩)

set_option maxRecDepth 100000 in
/-- '(*internal/sync.Mutex).Unlock' at state 1 -/
theorem unlock_in (a : Addr) (w : World) (hc : w.cell? a = some (.int .i32 1)) (hz : w.frozen? a = false) :
    Calls Tryz.prog 177 #[.pointer (some a)] w fun e w' => e = .returned (.tuple #[]) ∧ w' = w.setCell a (.int .i32 0) := by
  have hd := disable
  have he := enable
  have hr := releaseMerge
  have hadd := run_call_add (P := Tryz.prog) Tryz.func188 (by kernel_rfl) (by kernel_rfl) (by kernel_rfl) .i32 (by kernel_rfl) (y := -1) (s := 0) hc hz (by simp [go_sem]; rfl)
  have hcv := run_convert_to_unsafe (P := Tryz.prog) (src := 251) (dst := 148) Tryz.underlying251 Tryz.underlying148 (by kernel_rfl) hc
  go_enter Tryz.func177, Tryz.ntmps177
  go_wp2
  go_end0
  exact ⟨rfl, rfl⟩
theorem unlock_deferred (a : Addr) (u : FrameMode) (w : World) (hc : w.cell? a = some (.int .i32 1)) (hz : w.frozen? a = false) :
    CallsD Tryz.prog 168 #[.pointer (some a)] u w fun e u' w' => u' = u ∧ (e = .returned (.tuple #[]) ∧ w' = w.setCell a (.int .i32 0)) := by
  go_enter_d Tryz.func168, Tryz.ntmps168
  go_wp2_with (go_at_call 177; refine (unlock_in a _ hc hz).mono ?_; rintro e w' ⟨rfl, rfl⟩)
  go_end0
  exact ⟨rfl, rfl⟩

set_option maxRecDepth 100000 in
/-- '(*internal/sync.Mutex).Lock' at state 0 -/
theorem lock_in (a : Addr) (w : World) (hc : w.cell? a = some (.int .i32 0)) (hz : w.frozen? a = false) :
    Calls Tryz.prog 176 #[.pointer (some a)] w fun e w' => e = .returned (.tuple #[]) ∧ w' = w.setCell a (.int .i32 1) := by
  have hd := disable
  have he := enable
  have ha := acquire
  have hcas := run_call_cas_hit (P := Tryz.prog) Tryz.func183 (by kernel_rfl) (by kernel_rfl) (by kernel_rfl) .i32 (by kernel_rfl) (y := 1) hc hz
  have hc' : (w.setCell a (.int .i32 1)).cell? a = some (.int .i32 1) := World.cell?_setCell_same w a _ hc
  have hcv := run_convert_to_unsafe (P := Tryz.prog) (src := 251) (dst := 148) Tryz.underlying251 Tryz.underlying148 (by kernel_rfl) hc'
  go_enter Tryz.func176, Tryz.ntmps176
  go_wp2
  first | go_end0 | (simp only [Exit.inBlock, Exit.then]; refine bodyPost_ret (results_none rfl _ _ _) rfl ?_) | refine bodyPost_ret (results_none rfl _ _ _) rfl ?_
  exact ⟨rfl, rfl⟩
theorem lock_free (a : Addr) (w : World) (hc : w.cell? a = some (.int .i32 0)) (hz : w.frozen? a = false) :
    Calls Tryz.prog 167 #[.pointer (some a)] w fun e w' => e = .returned (.tuple #[]) ∧ w' = w.setCell a (.int .i32 1) := by
  go_enter Tryz.func167, Tryz.ntmps167
  go_wp2_with (go_at_call 176; refine (lock_in a _ hc hz).mono ?_; rintro e w' ⟨rfl, rfl⟩)
  go_end0
  exact ⟨rfl, rfl⟩


set_option maxRecDepth 100000 in
set_option maxHeartbeats 2000000 in
theorem buildOnce_calls (R O c : Nat) (q0 q1 q2 : Value) (w : World) (hR : w.heap[R]? = some (.cells #[q0, q1, q2, .nilIface, .slice (some ⟨O, 0, none⟩) 4 c] 164 (0, 0))) (hO : O < w.heap.size)
   (o0 : w.cell? ⟨O, 0, none⟩ = some (.string ⟨#[92]⟩)) (o1 : w.cell? ⟨O, 1, none⟩ = some (.string ⟨#[92, 92]⟩))
   (o2 : w.cell? ⟨O, 2, none⟩ = some (.string ⟨#[10]⟩)) (o3 : w.cell? ⟨O, 3, none⟩ = some (.string ⟨#[92, 110]⟩)) :
   Calls Tryz.prog 127 #[.pointer (some ⟨R, 0, none⟩)] w fun e w' => e = .returned (.tuple #[]) ∧ ∃ W1, Below w.heap.size w W1 ∧ IsBsr w.heap.size (w.heap.size + 1) W1 ∧ w' = (W1.setCell ⟨R, 3, none⟩ (.iface 229 (.pointer (some ⟨w.heap.size + 1, 0, none⟩)))).setCell ⟨R, 4, none⟩ (.slice none 0 0) := by
  have hRl : R < w.heap.size := (Array.getElem?_eq_some_iff.1 hR).1
  have h4 : w.cell? ⟨R, 4, none⟩ = some (.slice (some ⟨O, 0, none⟩) 4 c) := by simp [World.cell?, hR]
  have HB := Lib.hid (build_calls R O c w h4 hO o0 o1 o2 o3)
  have HR := Lib.hid hR
  clear hR h4 o0 o1 o2 o3 hO
  go_enter Tryz.func127, Tryz.ntmps127
  go_wp2_with fail
  refine HB.out.mono ?_
  rintro e W1 ⟨rfl, hbsr, hbel⟩
  have HW := Lib.hid hbsr
  have HL := Lib.hid hbel
  have e3 : W1.cell? ⟨R, 3, none⟩ = some .nilIface := by rw [hbel.cell (p := ⟨R, 3, none⟩) hRl]; simp [World.cell?, HR.out]
  have f3 : W1.frozen? ⟨R, 3, none⟩ = false := by rw [hbel.frozen (p := ⟨R, 3, none⟩) hRl]; simp [World.frozen?, HR.out]
  have e4 : W1.cell? ⟨R, 4, none⟩ = some (.slice (some ⟨O, 0, none⟩) 4 c) := by rw [hbel.cell (p := ⟨R, 4, none⟩) hRl]; simp [World.cell?, HR.out]
  have f4 : W1.frozen? ⟨R, 4, none⟩ = false := by rw [hbel.frozen (p := ⟨R, 4, none⟩) hRl]; simp [World.frozen?, HR.out]
  clear hbsr hbel
  go_wp2_with fail
  go_end0
  exact ⟨rfl, W1, HL.out, HW.out, rfl⟩

/-- behind Do: the field r is set, and nothing that was there has changed but the Replacer -/
structure Done (R : Nat) (w w' : World) : Prop where
  below : Below R w w'
  size : w.heap.size ≤ w'.heap.size
  keep : ∀ g, g < w.heap.size → g ≠ R → w'.heap[g]? = w.heap[g]?
  r : w'.cell? ⟨R, 3, none⟩ = some (.iface 229 (.pointer (some ⟨w.heap.size + 1, 0, none⟩)))
  bsr : IsBsr w.heap.size (w.heap.size + 1) w'

theorem heap_set_ne (w : World) (a : Addr) (v : Value) (g : Nat) (h : g ≠ a.block) : (w.setCell a v).heap[g]? = w.heap[g]? := Below.heap_setCell w a v g h
theorem size_set (w : World) (a : Addr) (v : Value) : (w.setCell a v).heap.size = w.heap.size := by simp

theorem done_made (R O c : Nat) (q2 : Value) (w W1 : World) (hR : w.heap[R]? = some (.cells #[.int .u32 0, .int .i32 0, q2, .nilIface, .slice (some ⟨O, 0, none⟩) 4 c] 164 (0, 0)))
    (hb : Below w.heap.size (w.setCell ⟨R, 1, none⟩ (.int .i32 1)) W1) (hbsr : IsBsr w.heap.size (w.heap.size + 1) W1) :
    Done R w ((((W1.setCell ⟨R, 3, none⟩ (.iface 229 (.pointer (some ⟨w.heap.size + 1, 0, none⟩)))).setCell ⟨R, 4, none⟩ (.slice none 0 0)).drew.setCell ⟨R, 0, none⟩ (.int .u32 1)).setCell ⟨R, 1, none⟩ (.int .i32 0)) := by
  have hRl : R < w.heap.size := (Array.getElem?_eq_some_iff.1 hR).1
  have h1 : W1.heap[R]? = some (.cells #[.int .u32 0, .int .i32 1, q2, .nilIface, .slice (some ⟨O, 0, none⟩) 4 c] 164 (0, 0)) := by
    rw [hb.block R hRl]
    simp [World.setCell, Array.getElem?_modify, hR]
  have hne : ∀ g (o : Nat), g ≠ R → g ≠ (⟨R, o, none⟩ : Addr).block := fun g o h => h
  have hk : ∀ g, g < w.heap.size → g ≠ R → W1.heap[g]? = w.heap[g]? := fun g hg h => (hb.block g hg).trans (heap_set_ne w _ _ g (hne g 1 h))
  refine ⟨?_, ?_, ?_, ?_, ?_⟩
  · refine ⟨hb.os, hb.tape, hb.output, ?_, fun g hg => ?_⟩
    · simpa using hb.size
    · have hgR : g ≠ R := by omega
      rw [heap_set_ne _ _ _ g (hne g _ hgR), heap_set_ne _ _ _ g (hne g _ hgR)]
      show ((W1.setCell _ _).setCell _ _).heap[g]? = _
      rw [heap_set_ne _ _ _ g (hne g _ hgR), heap_set_ne _ _ _ g (hne g _ hgR)]
      exact hk g (by omega) hgR
  · simpa using hb.size
  · intro g hg hgR
    rw [heap_set_ne _ _ _ g (hne g _ hgR), heap_set_ne _ _ _ g (hne g _ hgR)]
    show ((W1.setCell _ _).setCell _ _).heap[g]? = _
    rw [heap_set_ne _ _ _ g (hne g _ hgR), heap_set_ne _ _ _ g (hne g _ hgR)]
    exact hk g hg hgR
  · rw [World.cell?_setCell_other _ _ _ _ (by simp), World.cell?_setCell_other _ _ _ _ (by simp), World.cell?_drew, World.cell?_setCell_other _ _ _ _ (by simp)]
    exact World.cell?_setCell_same _ _ _ (u := .nilIface) (by simp [World.cell?, h1])
  · refine hbsr.step ?_ fun g hg hg2 o => ?_
    · simp
    · have hgR : g ≠ R := by omega
      have na : ∀ k : Nat, (⟨R, k, none⟩ : Addr) ≠ ⟨g, o, none⟩ := fun k h => hgR (congrArg Addr.block h).symm
      rw [World.cell?_setCell_other _ _ _ _ (na _), World.cell?_setCell_other _ _ _ _ (na _), World.cell?_drew, World.cell?_setCell_other _ _ _ _ (na _), World.cell?_setCell_other _ _ _ _ (na _)]

set_option maxRecDepth 100000 in
set_option maxHeartbeats 2000000 in
theorem doSlow_calls (R O c : Nat) (q2 : Value) (w : World) (hR : w.heap[R]? = some (.cells #[.int .u32 0, .int .i32 0, q2, .nilIface, .slice (some ⟨O, 0, none⟩) 4 c] 164 (0, 0))) (hO : O < w.heap.size) (hOR : O ≠ R)
   (o0 : w.cell? ⟨O, 0, none⟩ = some (.string ⟨#[92]⟩)) (o1 : w.cell? ⟨O, 1, none⟩ = some (.string ⟨#[92, 92]⟩))
   (o2 : w.cell? ⟨O, 2, none⟩ = some (.string ⟨#[10]⟩)) (o3 : w.cell? ⟨O, 3, none⟩ = some (.string ⟨#[92, 110]⟩)) :
   Calls Tryz.prog 147 #[.pointer (some ⟨R, 0, none⟩), .func (.func 127) #[.pointer (some ⟨R, 0, none⟩)] #[]] w fun e w' => e = .returned (.tuple #[]) ∧ Done R w w' := by
  have hRl : R < w.heap.size := (Array.getElem?_eq_some_iff.1 hR).1
  have na : ∀ (k : Nat) (o : Nat), (⟨R, k, none⟩ : Addr) ≠ ⟨O, o, none⟩ := fun k o h => hOR (congrArg Addr.block h).symm
  have hB := buildOnce_calls R O c (.int .u32 0) (.int .i32 1) q2 (w.setCell ⟨R, 1, none⟩ (.int .i32 1)) (by simp [World.setCell, Array.getElem?_modify, hR]) (by simpa using hO)
    (by rw [World.cell?_setCell_other _ _ _ _ (na _ _)]; exact o0) (by rw [World.cell?_setCell_other _ _ _ _ (na _ _)]; exact o1) (by rw [World.cell?_setCell_other _ _ _ _ (na _ _)]; exact o2) (by rw [World.cell?_setCell_other _ _ _ _ (na _ _)]; exact o3)
  have HB := Lib.hid hB
  have HR := Lib.hid hR
  have c0 : w.cell? ⟨R, 0, none⟩ = some (.int .u32 0) := by simp [World.cell?, hR]
  have c1 : w.cell? ⟨R, 1, none⟩ = some (.int .i32 0) := by simp [World.cell?, hR]
  have f0 : ∀ k, w.frozen? ⟨R, k, none⟩ = false := fun k => by simp [World.frozen?, hR]
  have hl := run_call_load (P := Tryz.prog) Tryz.func166 (by kernel_rfl) (by kernel_rfl) (by kernel_rfl) .u32 (by kernel_rfl) (w := w.setCell ⟨R, 1, none⟩ (.int .i32 1)) (a := ⟨R, 0, none⟩) (x := 0) ((World.cell?_setCell_other _ ⟨R, 1, none⟩ ⟨R, 0, none⟩ _ (by simp)).trans c0)
  have hnot : ∀ (x : Bool) (w : World), (Op.unary .not (.bool x)).run Tryz.prog w = .ok (.bool (!x)) w := fun _ _ => rfl
  have C0 := Lib.hid c0
  clear hB hR o0 o1 o2 o3 hO c0
  go_enter_defers Tryz.func147, Tryz.ntmps147
  go_wp2_with (first | (go_at_call 167; refine (lock_free ⟨R, 1, none⟩ _ c1 (f0 1)).mono ?_; rintro e w' ⟨rfl, rfl⟩) | (go_at_call 146; go_in))
  refine HB.out.mono ?_
  rintro e W' ⟨rfl, W1, hb, hbsr, rfl⟩
  rw [size_set] at hb hbsr
  have HD := done_made R O c q2 w W1 HR.out (by simpa using hb) (by simpa using hbsr)
  have h1 : W1.heap[R]? = some (.cells #[.int .u32 0, .int .i32 1, q2, .nilIface, .slice (some ⟨O, 0, none⟩) 4 c] 164 (0, 0)) := by
    rw [hb.block R (by simpa using hRl)]
    simp [World.setCell, Array.getElem?_modify, HR.out]
  have d0 : W1.cell? ⟨R, 0, none⟩ = some (.int .u32 0) := by simp [World.cell?, h1]
  have d1 : W1.cell? ⟨R, 1, none⟩ = some (.int .i32 1) := by simp [World.cell?, h1]
  have g0 : ∀ k, W1.frozen? ⟨R, k, none⟩ = false := fun k => by simp [World.frozen?, h1]
  have H1 := Lib.hid h1
  have HDD := Lib.hid HD
  clear hb hbsr h1 HD
  rw [size_set]
  go_wp2
  -- the door: two deferred calls, the last laid first
  refine leaves_cons (f := 169) (args := #[.pointer (some ⟨R, 0, none⟩), .bool true]) (by simp) (by simp [go_sem]) ?_
  refine (store_deferred ⟨R, 0, none⟩ (.int .u32 0) .returning _ ?_ (by simp [g0])).mono ?_
  · rw [World.cell?_setCell_other _ _ _ _ (by simp), World.cell?_setCell_other _ _ _ _ (by simp)]; exact d0
  rintro e u' w'' ⟨rfl, rfl, rfl⟩
  refine leaves_cons (f := 168) (args := #[.pointer (some ⟨R, 1, none⟩)]) (by simp [settle]) (by simp [go_sem]) ?_
  refine (unlock_deferred ⟨R, 1, none⟩ _ _ ?_ (by simp [g0])).mono ?_
  · rw [World.cell?_setCell_other _ _ _ _ (by simp), World.cell?_drew, World.cell?_setCell_other _ _ _ _ (by simp), World.cell?_setCell_other _ _ _ _ (by simp)]; exact d1
  rintro e u' w'' ⟨rfl, rfl, rfl⟩
  exact ⟨_, results_none rfl _ _ _, rfl, HDD.out⟩

/-- Do, not yet done -/
theorem do_calls (R O c : Nat) (q2 : Value) (w : World) (hR : w.heap[R]? = some (.cells #[.int .u32 0, .int .i32 0, q2, .nilIface, .slice (some ⟨O, 0, none⟩) 4 c] 164 (0, 0))) (hO : O < w.heap.size) (hOR : O ≠ R)
   (o0 : w.cell? ⟨O, 0, none⟩ = some (.string ⟨#[92]⟩)) (o1 : w.cell? ⟨O, 1, none⟩ = some (.string ⟨#[92, 92]⟩))
   (o2 : w.cell? ⟨O, 2, none⟩ = some (.string ⟨#[10]⟩)) (o3 : w.cell? ⟨O, 3, none⟩ = some (.string ⟨#[92, 110]⟩)) :
   Calls Tryz.prog 126 #[.pointer (some ⟨R, 0, none⟩), .func (.func 127) #[.pointer (some ⟨R, 0, none⟩)] #[]] w fun e w' => e = .returned (.tuple #[]) ∧ Done R w w' := by
  have HS := Lib.hid (doSlow_calls R O c q2 w hR hO hOR o0 o1 o2 o3)
  have c0 : w.cell? ⟨R, 0, none⟩ = some (.int .u32 0) := by simp [World.cell?, hR]
  have hl := run_call_load (P := Tryz.prog) Tryz.func166 (by kernel_rfl) (by kernel_rfl) (by kernel_rfl) .u32 (by kernel_rfl) c0
  have hnot : ∀ (x : Bool) (w : World), (Op.unary .not (.bool x)).run Tryz.prog w = .ok (.bool (!x)) w := fun _ _ => rfl
  clear hR o0 o1 o2 o3 hO hOR c0
  go_enter Tryz.func126, Tryz.ntmps126
  go_wp2_with (first | (go_at_call 147; refine HS.out.mono ?_; rintro e w' ⟨rfl, hd⟩; have HD := Lib.hid hd; clear hd) | (go_at_call 146; go_in))
  go_end0
  exact ⟨rfl, HD.out⟩
end Go.Proofs.YtkblmomfiimkiaaGreatDoor.P
end

section
/- (*strings.byteStringReplacer).Replace, of the replacer that 'build' makes: it returns its argument with each backslash and each line feed written as two bytes; nothing that was there changes. Conditions: the argument has at most 1,048,576 bytes. -/
namespace Go.Proofs.YtkblmomfiimkiaaGreatDoor.P
open Go.RowKit Go.Proofs.YtkblmomfiimkiaaGreatDoor.Fp

def spc (l : List UInt8) : Nat := l.countP (fun c => c == 10 || c == 92)
theorem escC_length (c : UInt8) : (escC c).length = 1 + if (c == 10 || c == 92) = true then 1 else 0 := by
  unfold escC
  by_cases h1 : c = 92
  · subst h1; rfl
  · by_cases h2 : c = 10
    · subst h2; rfl
    · simp [h1, h2]
theorem esc_cons (c : UInt8) (l : List UInt8) : esc (c :: l) = escC c ++ esc l := rfl
theorem esc_append (l m : List UInt8) : esc (l ++ m) = esc l ++ esc m := by simp [esc]
theorem esc_length (l : List UInt8) : (esc l).length = l.length + spc l := by
  induction l with
  | nil => rfl
  | cons c l ih =>
    rw [esc_cons, List.length_append, escC_length, ih]
    unfold spc
    rw [List.countP_cons, List.length_cons]
    omega
theorem count_spc (l : List UInt8) : l.count 10 + l.count 92 = spc l := by
  induction l with
  | nil => rfl
  | cons c l ih =>
    unfold spc at ih ⊢
    rw [List.count_cons, List.count_cons, List.countP_cons]
    by_cases h1 : c = 10
    · subst h1; simp; omega
    · by_cases h2 : c = 92
      · subst h2; simp; omega
      · simp [h1, h2]; omega
theorem spc_le (l : List UInt8) : spc l ≤ l.length := List.countP_le_length
theorem esc_none (l : List UInt8) (h : spc l = 0) : esc l = l := by
  induction l with
  | nil => rfl
  | cons c l ih =>
    unfold spc at h ih
    rw [List.countP_cons] at h
    rw [esc_cons, ih (by omega)]
    have hc : ¬ (c == 10 || c == 92) = true := by
      intro hc; rw [if_pos hc] at h; omega
    unfold escC
    simp at hc
    rw [if_neg hc.2, if_neg hc.1]
    rfl
theorem spc_take_succ (s : ByteArray) (i : Nat) (h : i < s.size) : spc (s.data.toList.take (i + 1)) = spc (s.data.toList.take i) + if (s[i] == 10 || s[i] == 92) = true then 1 else 0 := by
  have e : s.data.toList.take (i + 1) = s.data.toList.take i ++ [s[i]] := by
    rw [List.take_succ_eq_append_getElem (by simpa using h)]; rfl
  rw [e]
  unfold spc
  rw [List.countP_append, List.countP_cons, List.countP_nil]
  omega
theorem esc_take_succ (s : ByteArray) (i : Nat) (h : i < s.size) : esc (s.data.toList.take (i + 1)) = esc (s.data.toList.take i) ++ escC s[i] := by
  have e : s.data.toList.take (i + 1) = s.data.toList.take i ++ [s[i]] := by
    rw [List.take_succ_eq_append_getElem (by simpa using h)]; rfl
  rw [e, esc_append]
  simp [esc]

theorem ret_i {a b : Int} (h : a = b) : Value.int .i64 a = .int .i64 b := by rw [h]
theorem ne_nat {c : Nat} {b : Bool} (h : ((c : Int) != 0) = b) : (b = true → 0 < c) ∧ (b = false → c = 0) := by
  subst h
  constructor
  · intro h; have : ¬ (c : Int) = 0 := by simpa using h
    omega
  · intro h; have : (c : Int) = 0 := by simpa using h
    omega

/-- the buffer g, as far as the first i bytes have been written into it -/
structure BufIs (s : ByteArray) (N g u : Nat) (w : World) (i j : Nat) (W : World) : Prop where
  len : j = (esc (s.data.toList.take i)).length
  below : Below g w W
  row : ∃ cur : List Value, W.heap[g]? = some (.cells cur.toArray u (0, 0)) ∧ cur.length = s.size + N ∧ cur.take j = (esc (s.data.toList.take i)).map fun b => Value.int .u8 b.toNat

theorem set_splice {W : World} {g u j : Nat} {cur : List Value} (h : W.heap[g]? = some (.cells cur.toArray u (0, 0))) {v : Value} (hj : j < cur.length) :
    (W.setCell ⟨g, j, none⟩ v).heap[g]? = some (.cells (splice cur j [v]).toArray u (0, 0)) := by
  have e : splice cur j [v] = cur.set j v := by
    unfold splice
    rw [List.set_eq_take_append_cons_drop, if_pos hj]
    simp
  rw [e]
  simp [World.setCell, Array.getElem?_modify, h]
theorem below_setCell {g : Nat} {w W : World} (h : Below g w W) {a : Addr} (hg : g ≤ a.block) (v : Value) : Below g w (W.setCell a v) := h.setCell hg v
theorem below_drew' {B : Nat} {w W : World} (h : Below B w W) : Below B w W.drew := ⟨h.os, h.tape, h.output, h.size, h.block⟩
theorem buf_step {s : ByteArray} {N g u : Nat} {w W' : World} {i j : Nat} (hi : i < s.size) (hj : j = (esc (s.data.toList.take i)).length) {cur cs : List Value} (hl : cur.length = s.size + N)
    (ht : cur.take j = (esc (s.data.toList.take i)).map fun b => Value.int .u8 b.toNat) (hcs : cs = (escC s[i]).map fun b => Value.int .u8 b.toNat) (hfit : j + cs.length ≤ cur.length)
    (hg : W'.heap[g]? = some (.cells (splice cur j cs).toArray u (0, 0))) (hb : Below g w W') : BufIs s N g u w (i + 1) (j + cs.length) W' := by
  refine ⟨?_, hb, splice cur j cs, hg, by rw [length_splice _ _ _ hfit, hl], ?_⟩
  · rw [esc_take_succ s i hi, List.length_append, ← hj, hcs, List.length_map]
  · rw [esc_take_succ s i hi, List.map_append, ← ht, ← hcs]
    unfold splice
    have e : (cur.take j).length = j := by rw [List.length_take]; omega
    rw [List.take_append, e, Nat.add_sub_cancel_left, List.take_of_length_le (by omega), List.take_append_of_le_length (Nat.le_refl _), List.take_length]
theorem esc_fit (s : ByteArray) (i : Nat) (hi : i < s.size) : (esc (s.data.toList.take i)).length + (escC s[i]).length ≤ s.size + spc s.data.toList := by
  have e := esc_take_succ s i hi
  have h1 : (esc s.data.toList).length = s.size + spc s.data.toList := by rw [esc_length]; simp
  have h2 : esc s.data.toList = esc (s.data.toList.take (i + 1)) ++ esc (s.data.toList.drop (i + 1)) := by rw [← esc_append, List.take_append_drop]
  rw [h2, List.length_append, e, List.length_append] at h1
  omega

set_option maxRecDepth 100000 in
set_option maxHeartbeats 4000000 in
theorem bsr_calls (lo B : Nat) (s : ByteArray) (w : World) (hB : IsBsr lo B w) (hs : s.size ≤ 1048576) :
    Calls Tryz.prog 225 #[.pointer (some ⟨B, 0, none⟩), .string s] w fun e w' => e = .returned (.string ⟨(esc s.data.toList).toArray⟩) ∧ Below w.heap.size w w' := by
  obtain ⟨x, y, t, cx, cy, ⟨b0, b1⟩, ⟨x0, x1⟩, ⟨y0, y1⟩, ⟨t0, t1⟩, hr, hl, ⟨hx0, hx1⟩, ⟨hy0, hy1⟩, ht0, ht1⟩ := hB
  have r10 : w.cell? ⟨B, 10, none⟩ = some (.slice (some ⟨x, 0, none⟩) 2 cx) := hr 10 (by omega)
  have r92 : w.cell? ⟨B, 92, none⟩ = some (.slice (some ⟨y, 0, none⟩) 2 cy) := hr 92 (by omega)
  have HR := Lib.hid hr
  have hsp := spc_le s.data.toList
  have hlen : s.data.toList.length = s.size := by simp
  have hcs := count_spc s.data.toList
  clear hr
  have b10 : ∀ h, ((⟨#[10]⟩ : ByteArray)[0]'h).toNat = 10 := fun _ => rfl
  have b92 : ∀ h, ((⟨#[92]⟩ : ByteArray)[0]'h).toNat = 92 := fun _ => rfl
  have HL := Lib.hid hlen
  have HC := Lib.hid hcs
  rw [hlen] at hsp
  clear hlen hcs
  obtain ⟨c10, hc10⟩ : ∃ c : Nat, Lib.countByte s.data.toList 10 = c := ⟨_, rfl⟩
  obtain ⟨c92, hc92⟩ : ∃ c : Nat, Lib.countByte s.data.toList 92 = c := ⟨_, rfl⟩
  have C10 := Lib.hid hc10
  have C92 := Lib.hid hc92
  obtain ⟨N, hN⟩ : ∃ N : Nat, N = spc s.data.toList := ⟨_, rfl⟩
  have HN := Lib.hid hN
  rw [← hN] at hsp
  have hsum : c10 + c92 ≤ s.size := by have := HC.out; unfold Lib.countByte at hc10 hc92; omega
  have hNc : N = c10 + c92 := by have := HC.out; unfold Lib.countByte at hc10 hc92; omega
  have HNC := Lib.hid hNc
  clear hN hc10 hc92 hNc
  go_enter Tryz.func225, Tryz.ntmps225
  go_upto_if 26 with (fail)
  go_cut [5, 6] (fun v5 v6 wx => ∃ k, wx = w.drewN k ∧ v5 = .int .i64 ((s.size + N : Nat) : Int) ∧ v6 = .bool (decide (0 < N)))
  case first =>
    by_cases h16 : 16 ≤ s.size
    · go_wp2_with fail
      refine wp_loop_rounds 3 ?_
      rw [rounds_succ]
      go_wp2_with (go_at_call 121; refine (Sh.strings_Count_one s 10 _).mono ?_; rintro e wq ⟨rfl, hw⟩; subst wq; rw [C10.out])
      · go_quiet (fail)
        go_wp2_with fail
        rw [rounds_succ]
        go_wp2_with (go_at_call 121; refine (Sh.strings_Count_one s 92 _).mono ?_; rintro e wq ⟨rfl, hw⟩; subst wq; rw [C92.out])
        · go_quiet (fail)
          go_wp2_with fail
          rw [rounds_succ]
          go_wp2_with fail
          go_meet
          have q := HNC.out
          have pc10 := (ne_nat (show ((c10 : Int) != 0) = true by assumption)).1 rfl
          have pc92 := (ne_nat (show ((c92 : Int) != 0) = true by assumption)).1 rfl
          exact ⟨_, rfl, ret_i (by omega), congrArg Value.bool (decide_eq_true (by omega)).symm⟩
        · rw [rounds_succ]
          go_wp2_with fail
          go_meet
          have q := HNC.out
          have pc10 := (ne_nat (show ((c10 : Int) != 0) = true by assumption)).1 rfl
          have pc92 := (ne_nat (show ((c92 : Int) != 0) = false by assumption)).2 rfl
          exact ⟨_, rfl, ret_i (by omega), congrArg Value.bool (decide_eq_true (by omega)).symm⟩
      · rw [rounds_succ]
        go_wp2_with (go_at_call 121; refine (Sh.strings_Count_one s 92 _).mono ?_; rintro e wq ⟨rfl, hw⟩; subst wq; rw [C92.out])
        · go_quiet (fail)
          go_wp2_with fail
          rw [rounds_succ]
          go_wp2_with fail
          go_meet
          have q := HNC.out
          have pc10 := (ne_nat (show ((c10 : Int) != 0) = false by assumption)).2 rfl
          have pc92 := (ne_nat (show ((c92 : Int) != 0) = true by assumption)).1 rfl
          exact ⟨_, rfl, ret_i (by omega), congrArg Value.bool (decide_eq_true (by omega)).symm⟩
        · rw [rounds_succ]
          go_wp2_with fail
          go_meet
          have q := HNC.out
          have pc10 := (ne_nat (show ((c10 : Int) != 0) = false by assumption)).2 rfl
          have pc92 := (ne_nat (show ((c92 : Int) != 0) = false by assumption)).2 rfl
          exact ⟨0, rfl, ret_i (by omega), congrArg Value.bool (decide_eq_false (by omega)).symm⟩
    · go_wp2_with fail
      go_loop [5, 6, 10, 11] (fun v5 v6 v10 v11 => ∃ i : Nat, i ≤ s.size ∧ v10 = .int .i64 i ∧ v5 = .int .i64 ((s.size + spc (s.data.toList.take i) : Nat) : Int) ∧ v6 = .bool (decide (0 < spc (s.data.toList.take i)))) (fun _ _ v10 _ => s.size - (intOf v10).toNat)
      case atStart => exact ⟨0, Nat.zero_le _, rfl, rfl, rfl⟩
      case round =>
        obtain ⟨i, hi, rfl, rfl, rfl⟩ := hrel
        have hle : spc (s.data.toList.take i) ≤ s.size := Nat.le_trans (spc_le _) (by rw [List.length_take]; simp; omega)
        by_cases hlt : i < s.size
        · have hsu := spc_take_succ s i hlt
          have HSU := Lib.hid hsu
          clear hsu
          by_cases h10 : s[i] = 10
          · have e10 : s[i].toNat = 10 := by rw [h10]; rfl
            have H10 := Lib.hid h10
            clear h10
            go_wp2_with fail
            go_round
            case rel => exact ⟨i + 1, by omega, by go_num, ret_i (by rw [HSU.out, H10.out]; simp; omega), congrArg Value.bool (decide_eq_true (by rw [HSU.out, H10.out]; simp)).symm⟩
            case measure => simp [intOf]; omega
          · by_cases h92 : s[i] = 92
            · have e92 : s[i].toNat = 92 := by rw [h92]; rfl
              have H92 := Lib.hid h92
              clear h92 h10
              go_wp2_with fail
              go_round
              case rel => exact ⟨i + 1, by omega, by go_num, ret_i (by rw [HSU.out, H92.out]; simp; omega), congrArg Value.bool (decide_eq_true (by rw [HSU.out, H92.out]; simp)).symm⟩
              case measure => simp [intOf]; omega
            · have hz : w.cell? ⟨B, s[i].toNat, none⟩ = some (.slice none 0 0) := by
                rw [HR.out s[i].toNat (UInt8.toNat_lt _)]
                unfold repAt
                have n10 : ¬ s[i].toNat = 10 := by intro h; apply h10; apply UInt8.toNat_inj.1; exact h
                have n92 : ¬ s[i].toNat = 92 := by intro h; apply h92; apply UInt8.toNat_inj.1; exact h
                rw [if_neg n10, if_neg n92]
              have l256 := UInt8.toNat_lt s[i]
              have m256 : s[i].toNat < 256 := l256
              have h0 : (s[i] == 10 || s[i] == 92) = false := by simp [h10, h92]
              have H0 := Lib.hid h0
              clear h0 h10 h92
              go_wp2_with fail
              go_round
              case rel => exact ⟨i + 1, by omega, by go_num, ret_i (by rw [HSU.out, H0.out]; simp), congrArg Value.bool (by rw [HSU.out, H0.out]; simp)⟩
              case measure => simp [intOf]; omega
        · go_wp2_with fail
          go_meet
          obtain rfl : i = s.size := by omega
          have e : s.data.toList.take s.size = s.data.toList := List.take_of_length_le (by rw [HL.out]; exact Nat.le_refl _)
          rw [e, ← HN.out]
          exact ⟨0, rfl, ret_i (by omega), rfl⟩
  case rest =>
    obtain ⟨k, rfl, rfl, rfl⟩ := hcut
    by_cases h0 : 0 < N
    · have hmk := run_make_row' (P := Tryz.prog) 110 5 (.int .u8 0) 1 Tryz.underlying110 (by kernel_rfl) rfl .i64 .i64 (s.size + N) (by omega) (by omega)
      have e1 : ((s.size + N : Nat) : Int) = (s.size : Int) + (N : Int) := by omega
      have hd : decide (0 < N) = true := decide_eq_true h0
      rw [e1] at hmk ⊢
      rw [hd]
      clear hd
      clear e1
      go_wp2_with fail
      obtain ⟨g, hg⟩ : ∃ g : Nat, g = w.heap.size := ⟨_, rfl⟩
      have W0 : BufIs s N g 5 w 0 0 ((w.drewN k).alloc (.cells (madeCells #[.int .u8 0] (s.size + N)) 5)) := by
        subst hg
        refine ⟨rfl, ?_, (madeCells #[.int .u8 0] (s.size + N)).toList, ?_, ?_, rfl⟩
        · exact ((⟨rfl, rfl, rfl, Nat.le_refl _, fun _ _ => rfl⟩ : Below w.heap.size w (w.drewN k))).alloc (Nat.le_refl _) _
        · rw [Array.toArray_toList]; exact heap_alloc_last (w.drewN k) _
        · rw [Array.length_toList, size_madeCells]
      have hBg : B < g := by omega
      have hxg : x < g := by omega
      have hyg : y < g := by omega
      clear hmk
      rw [← hg]
      have HG := Lib.hid hg
      have HW0 := Lib.hid W0
      clear W0 hg
      generalize ((w.drewN k).alloc (.cells (madeCells #[.int .u8 0] (s.size + N)) 5)) = Wb at *
      go_loopw [13, 14, 15] (fun v13 v14 _ W => ∃ i j : Nat, i ≤ s.size ∧ v14 = .int .i64 i ∧ v13 = .int .i64 j ∧ BufIs s N g 5 w i j W) (fun _ v14 _ _ => s.size - (intOf v14).toNat)
      case atStart => exact ⟨0, 0, Nat.zero_le _, rfl, rfl, HW0.out⟩
      case round =>
        obtain ⟨i, j, hi, rfl, rfl, hbuf⟩ := hrel
        obtain ⟨hj, hbl, cur, hcur, hcl, hct⟩ := hbuf
        by_cases hlt : i < s.size
        · have hfit := esc_fit s i hlt
          rw [← hj, ← HN.out] at hfit
          have cell : ∀ b o, b < g → wr.cell? ⟨b, o, none⟩ = w.cell? ⟨b, o, none⟩ := fun b o h => hbl.cell (p := ⟨b, o, none⟩) h
          have HJ := Lib.hid hj
          have HCT := Lib.hid hct
          have HCL := Lib.hid hcl
          have HCUR := Lib.hid hcur
          have HBL := Lib.hid hbl
          clear hj hct hcl hcur hbl
          by_cases h10 : s[i] = 10
          · have e10 : s[i].toNat = 10 := by rw [h10]; rfl
            have q1 : wr.cell? ⟨B, 10, none⟩ = some (.slice (some ⟨x, 0, none⟩) 2 cx) := (cell _ _ hBg).trans r10
            have q2 : wr.cell? ⟨x, 0, none⟩ = some (.int .u8 92) := (cell _ _ hxg).trans hx0
            have q3 : wr.cell? ⟨x, 1, none⟩ = some (.int .u8 110) := (cell _ _ hxg).trans hx1
            have hcs : [Value.int .u8 92, Value.int .u8 110] = (escC s[i]).map fun b => Value.int .u8 b.toNat := by rw [h10]; rfl
            have HCS := Lib.hid hcs
            have hj2 : j + 2 ≤ s.size + N := by rw [h10] at hfit; exact hfit
            have Q2 := Lib.hid q2
            have Q3 := Lib.hid q3
            have Q1 := Lib.hid q1
            clear hcs h10 cell hfit q2 q3 hl hx0 hx1 hy0 hy1 ht0 ht1 r10 r92
            have n1 : ¬ (s.size + N = j) := by omega
            have n2 : (j : Int) ≤ (s.size : Int) + (N : Int) := by omega
            have hsrc : ∀ (q : Nat) v, [Value.int .u8 92, Value.int .u8 110][q]? = some v → wr.drew.cell? ((⟨x, 0, none⟩ : Addr).add q) = some v := by
              intro q v hv
              rcases q with _ | _ | q
              · simp at hv; subst hv; exact Q2.out
              · simp at hv; subst hv; exact Q3.out
              · simp at hv
            have HSRC := Lib.hid hsrc
            clear hsrc
            go_wp2_with fail
            go_region_law (refine step_copy_splice rfl (.tmp 105) (.tmp 111) 110 110 rfl 5 Tryz.underlying110 (by kernel_rfl) (some ⟨g, j, none⟩) (some ⟨x, 0, none⟩) (s.size + N - j) (s.size + N - j) 2 cx rfl rfl g j cur 5 HCUR.out [Value.int .u8 92, Value.int .u8 110] (Nat.min_eq_left (show 2 ≤ s.size + N - j by omega)).symm (fun _ => ⟨rfl, _, rfl, HSRC.out⟩) (by rw [HCL.out]; exact hj2) (by intro v hv; simp at hv; rcases hv with rfl | rfl <;> rfl) g w (below_drew' HBL.out) (Nat.le_refl _) ?_; intro w4 hg4 hb4)
            all_goals
              have HG4 := hg4
              have HB4 := Lib.hid hb4
              clear hb4 hg4
              go_wp2_with fail
              go_roundw
              case rel => exact ⟨i + 1, j + 2, by omega, by go_num, by go_num, buf_step hlt HJ.out HCL.out HCT.out HCS.out (by rw [HCL.out]; exact hj2) HG4.out HB4.out⟩
              case measure => simp [intOf]; omega
          · by_cases h92 : s[i] = 92
            · have e92 : s[i].toNat = 92 := by rw [h92]; rfl
              have q1 : wr.cell? ⟨B, 92, none⟩ = some (.slice (some ⟨y, 0, none⟩) 2 cy) := (cell _ _ hBg).trans r92
              have q2 : wr.cell? ⟨y, 0, none⟩ = some (.int .u8 92) := (cell _ _ hyg).trans hy0
              have q3 : wr.cell? ⟨y, 1, none⟩ = some (.int .u8 92) := (cell _ _ hyg).trans hy1
              have hcs : [Value.int .u8 92, Value.int .u8 92] = (escC s[i]).map fun b => Value.int .u8 b.toNat := by rw [h92]; rfl
              have HCS := Lib.hid hcs
              have hj2 : j + 2 ≤ s.size + N := by rw [h92] at hfit; exact hfit
              have Q2 := Lib.hid q2
              have Q3 := Lib.hid q3
              have Q1 := Lib.hid q1
              clear hcs h92 h10 cell hfit q2 q3 hl hx0 hx1 hy0 hy1 ht0 ht1 r10 r92
              have n1 : ¬ (s.size + N = j) := by omega
              have n2 : (j : Int) ≤ (s.size : Int) + (N : Int) := by omega
              have hsrc : ∀ (q : Nat) v, [Value.int .u8 92, Value.int .u8 92][q]? = some v → wr.drew.cell? ((⟨y, 0, none⟩ : Addr).add q) = some v := by
                intro q v hv
                rcases q with _ | _ | q
                · simp at hv; subst hv; exact Q2.out
                · simp at hv; subst hv; exact Q3.out
                · simp at hv
              have HSRC := Lib.hid hsrc
              clear hsrc
              go_wp2_with fail
              go_region_law (refine step_copy_splice rfl (.tmp 105) (.tmp 111) 110 110 rfl 5 Tryz.underlying110 (by kernel_rfl) (some ⟨g, j, none⟩) (some ⟨y, 0, none⟩) (s.size + N - j) (s.size + N - j) 2 cy rfl rfl g j cur 5 HCUR.out [Value.int .u8 92, Value.int .u8 92] (Nat.min_eq_left (show 2 ≤ s.size + N - j by omega)).symm (fun _ => ⟨rfl, _, rfl, HSRC.out⟩) (by rw [HCL.out]; exact hj2) (by intro v hv; simp at hv; rcases hv with rfl | rfl <;> rfl) g w (below_drew' HBL.out) (Nat.le_refl _) ?_; intro w4 hg4 hb4)
              all_goals
                have HG4 := hg4
                have HB4 := Lib.hid hb4
                clear hb4 hg4
                go_wp2_with fail
                go_roundw
                case rel => exact ⟨i + 1, j + 2, by omega, by go_num, by go_num, buf_step hlt HJ.out HCL.out HCT.out HCS.out (by rw [HCL.out]; exact hj2) HG4.out HB4.out⟩
                case measure => simp [intOf]; omega
            · have hz : wr.cell? ⟨B, s[i].toNat, none⟩ = some (.slice none 0 0) := by
                rw [cell _ _ hBg, HR.out s[i].toNat (UInt8.toNat_lt _)]
                unfold repAt
                have n10 : ¬ s[i].toNat = 10 := by intro h; apply h10; apply UInt8.toNat_inj.1; exact h
                have n92 : ¬ s[i].toNat = 92 := by intro h; apply h92; apply UInt8.toNat_inj.1; exact h
                rw [if_neg n10, if_neg n92]
              have l256 := UInt8.toNat_lt s[i]
              have m256 : s[i].toNat < 256 := l256
              have hcs : [Value.int .u8 s[i].toNat] = (escC s[i]).map fun b => Value.int .u8 b.toNat := by unfold escC; rw [if_neg h92, if_neg h10]; rfl
              have hj2 : j + 1 ≤ s.size + N := by
                have e : (escC s[i]).length = 1 := by rw [← List.length_map (f := fun b : UInt8 => Value.int .u8 b.toNat), ← hcs]; rfl
                omega
              have HCS := Lib.hid hcs
              have hw1 : (wr.cell? ⟨g, j, none⟩).isSome = true := by simp [World.cell?, HCUR.out, HCL.out]; omega
              obtain ⟨v1, hv1⟩ := Option.isSome_iff_exists.1 hw1
              have hf1 : wr.frozen? ⟨g, j, none⟩ = false := by simp [World.frozen?, HCUR.out]
              have n2 : (j : Int) < (s.size : Int) + (N : Int) := by omega
              have HSP := Lib.hid (set_splice HCUR.out (v := .int .u8 s[i].toNat) (show j < cur.length by rw [HCL.out]; omega))
              have HB4 := Lib.hid (below_setCell HBL.out (a := ⟨g, j, none⟩) (Nat.le_refl g) (.int .u8 s[i].toNat))
              clear hcs h92 h10 cell hfit hw1 hl hx0 hx1 hy0 hy1 ht0 ht1 r10 r92
              go_wp2_with fail
              go_roundw
              case rel => exact ⟨i + 1, j + 1, by omega, by go_num, by go_num, buf_step hlt HJ.out HCL.out HCT.out HCS.out (by rw [HCL.out]; exact hj2) HSP.out HB4.out⟩
              case measure => simp [intOf]; omega
        · obtain rfl : i = s.size := by omega
          have e : s.data.toList.take s.size = s.data.toList := List.take_of_length_le (by rw [HL.out]; exact Nat.le_refl _)
          rw [e] at hj hct
          have hlen : (esc s.data.toList).length = s.size + N := by rw [esc_length, HL.out, ← HN.out]
          have hfull : cur = (esc s.data.toList).map fun b => Value.int .u8 b.toNat := by rw [← hct, List.take_of_length_le (by omega)]
          have hcv : (convert 110 9 (.slice (some ⟨g, 0, none⟩) (s.size + N) (s.size + N))).run Tryz.prog wr = .ok (.string ⟨(esc s.data.toList).toArray⟩) wr := by
            have h := run_convert_bytes_back (P := Tryz.prog) wr 110 9 5 ⟨g, 0, none⟩ (s.size + N) (esc s.data.toList) Tryz.underlying110 Tryz.underlying5 Tryz.underlying9 (fun q hq => by
              have e0 : (⟨g, 0, none⟩ : Addr).add q = ⟨g, q, none⟩ := by unfold Addr.add; split <;> simp_all
              rw [e0]
              simp only [World.cell?, hcur, hfull]
              simp [hq])
            rw [hlen] at h
            exact h
          have HF := Lib.hid hbl
          clear hfull hlen hcur hcl hct hj hbl e hlt
          go_wp2_with fail
          go_ret
          exact ⟨rfl, HG.out ▸ HF.out⟩
    · obtain rfl : N = 0 := by omega
      go_wp2_with fail
      go_ret
      refine ⟨?_, ?_⟩
      · have e : (⟨(esc s.data.toList).toArray⟩ : ByteArray) = s := by
          rw [esc_none _ HN.out.symm]
        rw [e]
        rfl
      · exact ⟨rfl, rfl, rfl, Nat.le_refl _, fun _ _ => rfl⟩
end Go.Proofs.YtkblmomfiimkiaaGreatDoor.P
end

section
/- strings.NewReplacer of the four strings of field.line, Replace of what it makes, and field.line: a field's line of text. Conditions: the value has at most 1,048,576 bytes. -/
namespace Go.Proofs.YtkblmomfiimkiaaGreatDoor.P
open Go.RowKit Go.Proofs.YtkblmomfiimkiaaGreatDoor.Fp

theorem append_nil_four (P : Program) (t ty e : TypeId) (i : TypeInfo) (z : Value) (ht : P.underlying t = some (.slice e)) (hi : P.info? e = some i) (hz : i.zero = some z) (hs : i.size = 1) (hb : i.bytes = 16) (W : World) (a : Addr) (c : Nat) (v0 v1 v2 v3 : Value)
    (h0 : W.cell? (a.add 0) = some v0) (h1 : W.cell? (a.add 1) = some v1) (h2 : W.cell? (a.add 2) = some v2) (h3 : W.cell? (a.add 3) = some v3) :
    ∃ cp C, (Builtin.append_ #[t, t] ty #[.slice none 0 0, .slice (some a) 4 c]).run P W = .ok (.slice (some ⟨W.heap.size, 0, none⟩) 4 cp) ((W.alloc (.cells C e)).drew) ∧ C[0]? = some v0 ∧ C[1]? = some v1 ∧ C[2]? = some v2 ∧ C[3]? = some v3 := by
  have h := run_append_nil (P := P) W t ty e i z ht hi hz a 4 c [v0, v1, v2, v3] (by simp [hs]) (fun j v hj => by
    rcases j with _ | _ | _ | _ | j <;> simp at hj <;> subst hj <;> assumption) (by omega) (by omega) (by rw [hb]; omega)
  have hat : ∀ (Z : Array Value) k u, #[v0, v1, v2, v3][k]? = some u → (#[v0, v1, v2, v3] ++ Z)[k]? = some u := fun Z k u hk => by
    rw [Array.getElem?_append_left (by rcases Array.getElem?_eq_some_iff.1 hk with ⟨hl, _⟩; exact hl)]; exact hk
  exact ⟨_, _, h, hat _ 0 _ rfl, hat _ 1 _ rfl, hat _ 2 _ rfl, hat _ 3 _ rfl⟩

/-- an append whose run is known, as a step of the walk -/
theorem wpList_run_ {P : Program} {ops : Array Oper} {rest : List Oper} {o : Oper} {a : Act} {Q : Exit → Act → World → Prop} {w w' : World} (hg : o.guard = none) (s x : Operand) (t : TypeId)
    (ho : o.op = .call { callee := .builtin .append, args := #[s, x], argTypes := #[t, t] }) (vs vx v : Value) (hs : a.eval s = vs) (hx : a.eval x = vx)
    (hr : (Builtin.append_ #[t, t] o.type #[vs, vx]).run P w = .ok v w')
    (h : wpList P ops Q rest (a.put o.dst v) w') : wpList P ops Q (o :: rest) a w :=
  wpList_plain hg fun _ hK => by
    unfold Oper.wp execOp
    simp only [ho, resolve, invoke, builtin, Sem.run_bind, Sem.run_pure, Result.andThen_ok, List.map_toArray, List.map_cons, List.map_nil, hs, hx, hr]
    exact hK _ _ h

set_option maxRecDepth 100000 in
set_option maxHeartbeats 1000000 in
theorem new_calls (w : World) (O : Nat) (c : Nat) (_hO : O < w.heap.size)
   (o0 : w.cell? ⟨O, 0, none⟩ = some (.string ⟨#[92]⟩)) (o1 : w.cell? ⟨O, 1, none⟩ = some (.string ⟨#[92, 92]⟩))
   (o2 : w.cell? ⟨O, 2, none⟩ = some (.string ⟨#[10]⟩)) (o3 : w.cell? ⟨O, 3, none⟩ = some (.string ⟨#[92, 110]⟩)) :
   Calls Tryz.prog 110 #[.slice (some ⟨O, 0, none⟩) 4 c] w fun e w' => e = .returned (.pointer (some ⟨w.heap.size + 1, 0, none⟩)) ∧ ∃ cp C, w' = ((w.alloc (.cells C 9)).alloc (.cells #[.int .u32 0, .int .i32 0, .int .u32 0, .nilIface, .slice (some ⟨w.heap.size, 0, none⟩) 4 cp] 164)).drew ∧
     C[0]? = some (.string ⟨#[92]⟩) ∧ C[1]? = some (.string ⟨#[92, 92]⟩) ∧ C[2]? = some (.string ⟨#[10]⟩) ∧ C[3]? = some (.string ⟨#[92, 110]⟩) := by
  obtain ⟨i9, hi9, hz9, hs9, hb9⟩ := info_parts (P := Tryz.prog) (e := 9) (z := .string ⟨#[]⟩) (size := 1) (bytes := 16) (by kernel_rfl)
  have ad : ∀ k : Nat, (⟨O, 0, none⟩ : Addr).add k = ⟨O, k, none⟩ := fun k => by unfold Addr.add; split <;> simp_all
  obtain ⟨cp, C, hap, c0, c1, c2, c3⟩ := append_nil_four Tryz.prog 23 23 9 i9 _ Tryz.underlying23 hi9 hz9 hs9 hb9 w ⟨O, 0, none⟩ c _ _ _ _ ((congrArg _ (ad 0)).trans o0) ((congrArg _ (ad 1)).trans o1) ((congrArg _ (ad 2)).trans o2) ((congrArg _ (ad 3)).trans o3)
  have C0 := Lib.hid c0
  have C1 := Lib.hid c1
  have C2 := Lib.hid c2
  have C3 := Lib.hid c3
  have HAP := Lib.hid hap
  clear c0 c1 c2 c3 hi9 hz9 hs9 hb9 ad o0 o1 o2 o3 hap
  go_enter Tryz.func110, Tryz.ntmps110
  go_wp2_with (at_builtin; refine wpList_run_ rfl (.const (.slice none 0 0)) (.tmp 8) 23 rfl _ _ _ rfl rfl HAP.out ?_)
  go_ret
  exact ⟨rfl, cp, C, rfl, C0.out, C1.out, C2.out, C3.out⟩

set_option maxRecDepth 100000 in
/-- (*strings.Replacer).Replace, of one that was just made -/
theorem replace_calls (R O c : Nat) (q2 : Value) (s : ByteArray) (w : World) (hs : s.size ≤ 1048576) (hR : w.heap[R]? = some (.cells #[.int .u32 0, .int .i32 0, q2, .nilIface, .slice (some ⟨O, 0, none⟩) 4 c] 164 (0, 0))) (hO : O < w.heap.size) (hOR : O ≠ R)
   (o0 : w.cell? ⟨O, 0, none⟩ = some (.string ⟨#[92]⟩)) (o1 : w.cell? ⟨O, 1, none⟩ = some (.string ⟨#[92, 92]⟩))
   (o2 : w.cell? ⟨O, 2, none⟩ = some (.string ⟨#[10]⟩)) (o3 : w.cell? ⟨O, 3, none⟩ = some (.string ⟨#[92, 110]⟩)) :
   Calls Tryz.prog 111 #[.pointer (some ⟨R, 0, none⟩), .string s] w fun e w' => e = .returned (.string ⟨(esc s.data.toList).toArray⟩) ∧ Below R w w' := by
  have hRl : R < w.heap.size := (Array.getElem?_eq_some_iff.1 hR).1
  have HD := Lib.hid (do_calls R O c q2 w hR hO hOR o0 o1 o2 o3)
  have hmf : ∀ (fn : Fn) (first cap : Array Value) (w : World), (Instr.makeFunc fn first cap).run Tryz.prog w = .ok (.func fn first cap) w := fun _ _ _ _ => rfl
  have hme : ∀ (a : Addr) (w : World), (method 390 229 (.pointer (some a)) "Replace").run Tryz.prog w = .ok (225, .pointer (some a)) w := fun _ _ => by kernel_rfl
  clear hR hO hOR o0 o1 o2 o3
  go_enter Tryz.func111, Tryz.ntmps111
  go_wp2_with (go_at_call 126; refine HD.out.mono ?_; rintro e w1 ⟨rfl, hd⟩; have hr := hd.r; have HQ := Lib.hid hd; clear hd)
  refine (bsr_calls w.heap.size (w.heap.size + 1) s _ HQ.out.bsr hs).mono ?_
  rintro e w2 ⟨rfl, hb⟩
  have HB2 := Lib.hid hb
  clear hb
  go_wp2_with fail
  go_ret
  exact ⟨rfl, HQ.out.below.trans (HB2.out.mono (Nat.le_trans (Nat.le_of_lt hRl) HQ.out.size))⟩

/-- a Replacer that was just made, in block R of w1 -/
structure Made (R : Nat) (w w1 : World) : Prop where
  below : Below w.heap.size w w1
  ge : w.heap.size ≤ R
  row : ∃ O c q2, w1.heap[R]? = some (.cells #[.int .u32 0, .int .i32 0, q2, .nilIface, .slice (some ⟨O, 0, none⟩) 4 c] 164 (0, 0)) ∧ O < w1.heap.size ∧ O ≠ R ∧
    w1.cell? ⟨O, 0, none⟩ = some (.string ⟨#[92]⟩) ∧ w1.cell? ⟨O, 1, none⟩ = some (.string ⟨#[92, 92]⟩) ∧ w1.cell? ⟨O, 2, none⟩ = some (.string ⟨#[10]⟩) ∧ w1.cell? ⟨O, 3, none⟩ = some (.string ⟨#[92, 110]⟩)

theorem new_made (w : World) (O : Nat) (c : Nat) (hO : O < w.heap.size)
   (o0 : w.cell? ⟨O, 0, none⟩ = some (.string ⟨#[92]⟩)) (o1 : w.cell? ⟨O, 1, none⟩ = some (.string ⟨#[92, 92]⟩))
   (o2 : w.cell? ⟨O, 2, none⟩ = some (.string ⟨#[10]⟩)) (o3 : w.cell? ⟨O, 3, none⟩ = some (.string ⟨#[92, 110]⟩)) :
   Calls Tryz.prog 110 #[.slice (some ⟨O, 0, none⟩) 4 c] w fun e w' => e = .returned (.pointer (some ⟨w.heap.size + 1, 0, none⟩)) ∧ Made (w.heap.size + 1) w w' := by
  refine (new_calls w O c hO o0 o1 o2 o3).mono ?_
  rintro e w' ⟨rfl, cp, C, rfl, c0, c1, c2, c3⟩
  refine ⟨rfl, ⟨?_, by omega, w.heap.size, cp, .int .u32 0, ?_, ?_, by omega, ?_, ?_, ?_, ?_⟩⟩
  · exact (((Below.refl _ _).alloc (Nat.le_refl _) _).alloc (by simp) _).drew
  · have h := heap_alloc_last (w.alloc (.cells C 9)) (.cells #[.int .u32 0, .int .i32 0, .int .u32 0, .nilIface, .slice (some ⟨w.heap.size, 0, none⟩) 4 cp] 164)
    have e : (w.alloc (.cells C 9)).heap.size = w.heap.size + 1 := by simp
    rw [e] at h
    exact h
  · simp; omega
  all_goals (simp; assumption)

theorem esc_le (l : List UInt8) : (esc l).length ≤ 2 * l.length := by
  rw [esc_length]; have := spc_le l; omega
theorem line_small (n v : ByteArray) (hn : n.size ≤ 1048576) (hv : v.size ≤ 1048576) : ¬ (9223372036854775807 < n.size + 1 + (esc v.data.toList).length) ∧ ¬ (9223372036854775807 < n.size + 1 + (esc v.data.toList).length + 1) := by
  have h := esc_le v.data.toList
  have e : v.data.toList.length = v.size := by simp
  rw [e] at h
  omega

theorem line_text (n v : ByteArray) : (⟨(lineB n.data.toList v.data.toList).toArray⟩ : ByteArray) = n ++ ⟨#[61]⟩ ++ ⟨(esc v.data.toList).toArray⟩ ++ ⟨#[10]⟩ := by
  apply ByteArray.ext
  apply Array.ext'
  simp [lineB, ByteArray.data_append]

set_option maxRecDepth 100000 in
set_option maxHeartbeats 2000000 in
theorem line_calls (n v : ByteArray) (w : World) (hn : n.size ≤ 1048576) (hv : v.size ≤ 1048576) :
    Calls Tryz.prog 92 #[.agg #[.string n, .string v]] w fun e w' => e = .returned (.string ⟨(lineB n.data.toList v.data.toList).toArray⟩) ∧ Below w.heap.size w w' := by
  have hnew := new_made (((w.alloc (.cells #[.string n, .string v] 43)).alloc (.cells #[.string ⟨#[92]⟩, .string ⟨#[92, 92]⟩, .string ⟨#[10]⟩, .string ⟨#[92, 110]⟩] 9)).drew) (w.heap.size + 1) 4 (by simp) (by simp) (by simp) (by simp) (by simp)
  have e0 : (((w.alloc (.cells #[.string n, .string v] 43)).alloc (.cells #[.string ⟨#[92]⟩, .string ⟨#[92, 92]⟩, .string ⟨#[10]⟩, .string ⟨#[92, 110]⟩] 9)).drew).heap.size = w.heap.size + 1 + 1 := by simp
  rw [e0] at hnew
  have HNEW := Lib.hid hnew
  have a1 : ¬ (9223372036854775807 < n.size + 1) := by omega
  have hl := line_small n v hn hv
  have hl1 := hl.1
  have hl2 := hl.2
  clear hnew e0 hl
  go_enter Tryz.func92, Tryz.ntmps92
  go_wp2_with fail
  go_region_held3 (fun w' => w'.cell? ⟨w.heap.size, 0, none⟩ = some (.string n) ∧ w'.cell? ⟨w.heap.size, 1, none⟩ = some (.string v)) (go_keep)
    (first
      | (go_at_call 110; refine HNEW.out.mono ?_; rintro e w1 ⟨rfl, hm⟩; have k1 := (hm.below.cell (p := ⟨w.heap.size, 0, none⟩) (by simp; omega)).trans (show (((w.alloc (.cells #[.string n, .string v] 43)).alloc (.cells #[.string ⟨#[92]⟩, .string ⟨#[92, 92]⟩, .string ⟨#[10]⟩, .string ⟨#[92, 110]⟩] 9)).drew).cell? ⟨w.heap.size, 0, none⟩ = some (.string n) by simp); have k2 := (hm.below.cell (p := ⟨w.heap.size, 1, none⟩) (by simp; omega)).trans (show (((w.alloc (.cells #[.string n, .string v] 43)).alloc (.cells #[.string ⟨#[92]⟩, .string ⟨#[92, 92]⟩, .string ⟨#[10]⟩, .string ⟨#[92, 110]⟩] 9)).drew).cell? ⟨w.heap.size, 1, none⟩ = some (.string v) by simp); obtain ⟨O, c, q2, hrow, hO, hOR, o0, o1, o2, o3⟩ := hm.row; have HREP := Lib.hid (replace_calls _ O c q2 v w1 hv hrow hO hOR o0 o1 o2 o3); have HM := Lib.hid hm; clear hm hrow hO hOR o0 o1 o2 o3)
      | (go_at_call 111; refine HREP.out.mono ?_; rintro e w2 ⟨rfl, hb⟩; have k3 := (hb.cell (p := ⟨w.heap.size, 0, none⟩) (by simp; omega)).trans k1; have k4 := (hb.cell (p := ⟨w.heap.size, 1, none⟩) (by simp; omega)).trans k2; have HB2 := Lib.hid hb; clear hb))
  go_wp2_with fail
  go_ret
  refine ⟨?_, ?_⟩
  · rw [line_text]
    rfl
  · have s1 := HM.out.below.size
    refine (((Below.refl w.heap.size w).alloc (Nat.le_refl _) _).alloc (by simp) _).drew.trans (HM.out.below.mono (by simp; omega)) |>.trans (HB2.out.mono (by omega))
end Go.Proofs.YtkblmomfiimkiaaGreatDoor.P
end

section
/- field.Text: of at most 64 fields that may be it returns their lines, one behind the other; else what is wrong. Conditions: none but that the fields lie as an argument's do. -/
namespace Go.Proofs.YtkblmomfiimkiaaGreatDoor.P
open Go.RowKit Go.Proofs.YtkblmomfiimkiaaGreatDoorW.PrintWords Go.Proofs.YtkblmomfiimkiaaGreatDoorW.PrintLast Go.Proofs.YtkblmomfiimkiaaGreatDoorW.PrintMore
open Go.Proofs.YtkblmomfiimkiaaGreatDoor.Fp

def mayF (x : S43) : Bool := mayB x.f0.data.toList x.f1.data.toList
def lineF (x : S43) : List UInt8 := lineB x.f0.data.toList x.f1.data.toList
def field_Text.f (l0 : List S43) : Option (ByteArray × Int) :=
  some (if 64 < l0.length then (⟨#[]⟩, 7) else if l0.all mayF = true then (⟨(l0.flatMap lineF).toArray⟩, 0) else (⟨#[]⟩, 1))

theorem isBuilder_below {T e : TypeId} {B b : Nat} {bs : List Value} {w w1 : World} (h : Lib.IsBuilder T e B b bs w) (hb : Below w.heap.size w w1) : Lib.IsBuilder T e B b bs w1 := by
  have go : ∀ p, Lib.BuilderAt T e B b p bs w → Lib.BuilderAt T e B b p bs w1 := by
    rintro p ⟨h1, v, h2, h3, h4⟩
    refine ⟨h1, v, ?_, pw_own_below h3 hb, h4⟩
    rw [hb.block b (Array.getElem?_eq_some_iff.1 h2).1]; exact h2
  rcases h with h | h
  · exact .inl (go _ h)
  · exact .inr (go _ h)

theorem may_calls (n v : ByteArray) (w : World) :
    Calls Tryz.prog 90 #[.agg #[.string n, .string v]] w fun e w' => e = .returned (.bool (mayB n.data.toList v.data.toList)) ∧ Below w.heap.size w w' := by
  have hn := fun W => field_name.calls n (nameB n.data.toList) W rfl
  have hm : mayB n.data.toList v.data.toList = (nameB n.data.toList && decide (v.size ≤ 4096)) := by unfold mayB; rw [Array.length_toList]; rfl
  have HM := Lib.hid hm
  clear hm
  obtain ⟨b, hb⟩ : ∃ b, nameB n.data.toList = b := ⟨_, rfl⟩
  rw [hb] at hn
  have HB := Lib.hid hb
  clear hb
  cases b
  · go_enter Tryz.func90, Tryz.ntmps90
    go_wp2_with (go_at_call 95; refine (hn _).mono ?_; rintro e w' ⟨rfl, hb⟩)
    go_ret
    exact ⟨by rw [HM.out, HB.out]; rfl, ((Below.refl _ _).alloc (Nat.le_refl _) _).trans (hb.mono (by simp))⟩
  · go_enter Tryz.func90, Tryz.ntmps90
    go_wp2_with fail
    refine (hn _).mono ?_
    rintro e w1 ⟨rfl, hb⟩
    have k := (hb.cell (p := ⟨w.heap.size, 1, none⟩) (by simp)).trans (show (w.alloc (.cells #[.string n, .string v] 43)).cell? ⟨w.heap.size, 1, none⟩ = some (.string v) by simp)
    have HBB := Lib.hid hb
    clear hb
    go_wp2_with fail
    go_ret
    exact ⟨by rw [HM.out, HB.out]; simp; omega, ((Below.refl _ _).alloc (Nat.le_refl _) _).trans (HBB.out.mono (by simp))⟩

theorem name_small {l : List UInt8} (h : nameB l = true) : l.length ≤ 16 := by
  unfold nameB at h
  simp at h
  exact h.1.2
theorem may_small {x : S43} (h : mayF x = true) : x.f0.size ≤ 16 ∧ x.f1.size ≤ 4096 := by
  unfold mayF mayB at h
  rw [Bool.and_eq_true] at h
  have h1 := name_small h.1
  have h2 := of_decide_eq_true h.2
  rw [Array.length_toList] at h1 h2
  exact ⟨h1, h2⟩
theorem lineF_len {x : S43} (h : mayF x = true) : (lineF x).length ≤ 8300 := by
  obtain ⟨h1, h2⟩ := may_small h
  have h3 := esc_le x.f1.data.toList
  have e1 : x.f0.data.toList.length = x.f0.size := by simp
  have e2 : x.f1.data.toList.length = x.f1.size := by simp
  unfold lineF lineB
  simp only [List.length_append, List.length_cons, List.length_nil]
  omega
theorem lines_len : ∀ (l : List S43), l.all mayF = true → (l.flatMap lineF).length ≤ 8300 * l.length
  | [], _ => by simp
  | x :: l, h => by
    rw [List.all_cons, Bool.and_eq_true] at h
    have h1 := lineF_len h.1
    have h2 := lines_len l h.2
    rw [List.flatMap_cons, List.length_append, List.length_cons]
    omega
theorem take_step {α : Type} (d : α) (l : List α) (i : Nat) (h : i < l.length) : l.take (i + 1) = l.take i ++ [l.getD i d] := by
  rw [List.take_succ_eq_append_getElem h, List.getD_eq_getElem?_getD, List.getElem?_eq_getElem h]; rfl

/-- behind i rounds -/
structure TextIs (l0 : List S43) (w : World) (i : Nat) (W : World) : Prop where
  all : (l0.take i).all mayF = true
  builder : Lib.IsBuilder 112 5 w.heap.size w.heap.size (Lib.byteCells ((l0.take i).flatMap lineF)) W
  below : Below w.heap.size w W

theorem isBuilder_alloc {T e : TypeId} {B b : Nat} {bs : List Value} {w : World} (h : Lib.IsBuilder T e B b bs w) (o : Obj) : Lib.IsBuilder T e B b bs (w.alloc o) :=
  isBuilder_below h ((Below.refl _ _).alloc (Nat.le_refl _) _)
theorem text_step {l0 : List S43} {w wr w3 : World} {i : Nat} {x : S43} (hlt : i < l0.length) (hx : x = rd_T43 l0 (i : Int)) (hT : TextIs l0 w i wr) (hm : mayF x = true)
    (hat : Lib.BuilderAt 112 5 w.heap.size w.heap.size (.pointer (some ⟨w.heap.size, 0, none⟩)) (Lib.byteCells ((l0.take i).flatMap lineF) ++ Lib.strCells ⟨(lineB x.f0.data.toList x.f1.data.toList).toArray⟩) w3) (hb : Below w.heap.size w w3) : TextIs l0 w (i + 1) w3 := by
  have e : l0.take (i + 1) = l0.take i ++ [x] := by rw [take_step z43 l0 i hlt, hx]; rfl
  refine ⟨?_, ?_, hb⟩
  · rw [e, List.all_append, hT.all]; simp [hm]
  · rw [e, List.flatMap_append, Lib.byteCells, List.map_append]
    refine .inr ?_
    have h2 : Lib.strCells ⟨(lineB x.f0.data.toList x.f1.data.toList).toArray⟩ = List.map (fun b => Value.int .u8 b.toNat) ([x].flatMap lineF) := by
      simp [Lib.strCells, lineF]
    rw [← h2]
    exact hat
theorem text_not {l0 : List S43} {i : Nat} {x : S43} (hlt : i < l0.length) (hx : x = rd_T43 l0 (i : Int)) (hm : ¬ mayF x = true) : ¬ l0.all mayF = true := by
  intro h
  rw [List.all_eq_true] at h
  apply hm
  apply h
  rw [hx]
  show l0.getD (Int.toNat i) _ ∈ l0
  rw [Int.toNat_natCast, List.getD_eq_getElem?_getD, List.getElem?_eq_getElem hlt]
  exact List.getElem_mem hlt

set_option maxRecDepth 100000 in
set_option maxHeartbeats 4000000 in
theorem field_Text.calls (A0 : Option Addr) (c0 : Nat) (l0 : List S43) (r1 : ByteArray) (r2 : Int) (w : World) (hr0 : Kd.C k43 w A0 l0.length l0) (_hc0 : l0.length ≤ c0) (h : field_Text.f l0 = some (r1, r2)) :
    Calls Tryz.prog 59 #[.slice A0 l0.length c0] w fun e w' => e = .returned (.tuple #[.string r1, .int .i64 r2]) ∧ Below w.heap.size w w' := by
  unfold field_Text.f at h
  have H := Lib.hid (Option.some.inj h)
  clear h
  by_cases hm : 64 < l0.length
  · have hm' : (64 : Int) < (l0.length : Int) := by omega
    have HM := Lib.hid hm
    go_enter Tryz.func59, Tryz.ntmps59
    go_wp2_with fail
    go_ret2
    have hh := H.out
    rw [if_pos HM.out] at hh
    simp only [Prod.mk.injEq] at hh
    obtain ⟨rfl, rfl⟩ := hh
    exact ⟨rfl, Below.refl _ _⟩
  · have hm' : ¬ (64 : Int) < (l0.length : Int) := by omega
    have hh := H.out
    rw [if_neg hm] at hh
    have HH := Lib.hid hh
    clear hh H
    have HR := Lib.hid hr0
    clear hr0 _hc0
    have hlen : l0.length ≤ 64 := by omega
    go_enter Tryz.func59, Tryz.ntmps59
    go_wp2_with fail
    have B0 := Lib.fresh_isBuilder 112 5 w
    have HB0 := Lib.hid B0
    clear B0
    go_loopw [6, 12] (fun _ v12 W => ∃ i : Nat, i ≤ l0.length ∧ v12 = .int .i64 i ∧ TextIs l0 w i W) (fun _ v12 _ => l0.length - (intOf v12).toNat)
    case atStart => exact ⟨0, Nat.zero_le _, rfl, ⟨rfl, HB0.out, (Below.refl _ _).alloc (Nat.le_refl _) _⟩⟩
    case round =>
      obtain ⟨i, hi, rfl, hb⟩ := hrel
      by_cases hlt : i < l0.length
      · obtain ⟨ad, hA, q0, q1⟩ := at_T43 HR.out (i : Int) (by omega) (by omega)
        rw [Int.toNat_natCast] at q0 q1
        have c0' := pw_cell_below hb.below q0
        have c1' := pw_cell_below hb.below q1
        obtain ⟨x, hx⟩ : ∃ x, x = rd_T43 l0 (i : Int) := ⟨_, rfl⟩
        rw [← hx] at c0' c1'
        have HX := Lib.hid hx
        have HT := Lib.hid hb
        subst hA
        clear q0 q1 hx hb
        by_cases hmx : mayF x = true
        · obtain ⟨hs1, hs2⟩ := may_small hmx
          have hmx' : mayB x.f0.data.toList x.f1.data.toList = true := hmx
          have HMX := Lib.hid hmx
          clear hmx
          go_wp2_with fail
          refine (may_calls x.f0 x.f1 _).mono ?_
          rintro e w1 ⟨rfl, hb1⟩
          have k0 := (hb1.cell (p := ⟨wr.heap.size, 0, none⟩) (by simp)).trans (show (wr.alloc (.cells #[.string x.f0, .string x.f1] 43)).cell? ⟨wr.heap.size, 0, none⟩ = some (.string x.f0) by simp)
          have k1 := (hb1.cell (p := ⟨wr.heap.size, 1, none⟩) (by simp)).trans (show (wr.alloc (.cells #[.string x.f0, .string x.f1] 43)).cell? ⟨wr.heap.size, 1, none⟩ = some (.string x.f1) by simp)
          have HB1 := Lib.hid hb1
          clear hb1
          go_wp2_with fail
          refine (line_calls x.f0 x.f1 _ (by omega) (by omega)).mono ?_
          rintro e w2 ⟨rfl, hb2⟩
          have hbd := isBuilder_below (isBuilder_below (isBuilder_alloc HT.out.builder _) HB1.out) hb2
          have hbw : Below w.heap.size w w2 := (HT.out.below.alloc HT.out.below.size _).trans ((HB1.out.mono (by have := HT.out.below.size; simp; omega)).trans (hb2.mono (by have := HT.out.below.size; have := HB1.out.size; simp at this; omega)))
          have HBW := Lib.hid hbw
          have hlen1 := lines_len (l0.take i) HT.out.all
          have hlen2 := lineF_len HMX.out
          have ht64 : (l0.take i).length ≤ 64 := by rw [List.length_take]; omega
          have ez : (⟨(lineB x.f0.data.toList x.f1.data.toList).toArray⟩ : ByteArray).size = (lineF x).length := by simp [lineF, ByteArray.size]
          have hws := Sh.Builder_WriteString w.heap.size w.heap.size _ ⟨(lineB x.f0.data.toList x.f1.data.toList).toArray⟩ w2 hbd (by rw [Lib.byteCells_length, ez]; omega) hbw.size
          clear ez
          have HWS := Lib.hid hws
          clear hb2 hbd hbw hws hlen1 hlen2 ht64
          go_wp2_with fail
          refine HWS.out.mono ?_
          rintro e w3 ⟨rfl, hat, hb3⟩
          have HAT := Lib.hid hat
          have HB3 := Lib.hid hb3
          clear hat hb3
          go_wp2_with fail
          go_roundw
          case rel => exact ⟨i + 1, by omega, by go_num, text_step hlt HX.out HT.out HMX.out HAT.out (HBW.out.trans HB3.out)⟩
          case measure => simp [intOf]; omega
        · have hmx' : mayB x.f0.data.toList x.f1.data.toList = false := by simpa [mayF] using hmx
          have HMX := Lib.hid hmx
          clear hmx
          go_wp2_with fail
          refine (may_calls x.f0 x.f1 _).mono ?_
          rintro e w1 ⟨rfl, hb1⟩
          have HB1 := Lib.hid hb1
          clear hb1
          go_wp2_with fail
          go_ret2
          have hh := HH.out
          rw [if_neg (text_not hlt HX.out HMX.out)] at hh
          simp only [Prod.mk.injEq] at hh
          obtain ⟨rfl, rfl⟩ := hh
          exact ⟨rfl, (HT.out.below.alloc HT.out.below.size _).trans (HB1.out.mono (by have := HT.out.below.size; simp; omega))⟩
      · obtain rfl : i = l0.length := by omega
        have hall := hb.all
        rw [List.take_length] at hall
        have hbd := hb.builder
        rw [List.take_length] at hbd
        have hst := Sh.Builder_String w.heap.size w.heap.size _ wr hbd hb.below.size
        have HST := Lib.hid hst
        have HA := Lib.hid hall
        have HT := Lib.hid hb
        clear hall hbd hst hb hlt
        go_wp2_with fail
        refine HST.out.mono ?_
        rintro e w1 ⟨rfl, hb1⟩
        have HB1 := Lib.hid hb1
        clear hb1
        go_wp2_with fail
        go_ret2
        have hh := HH.out
        rw [if_pos HA.out] at hh
        simp only [Prod.mk.injEq] at hh
        obtain ⟨rfl, rfl⟩ := hh
        exact ⟨rfl, HT.out.below.trans HB1.out⟩
end Go.Proofs.YtkblmomfiimkiaaGreatDoor.P
end

section
/- strings.Cut at a separator of one byte: what stands ahead of its first place and what behind it; if it isn't there, all. Conditions: the text has fewer than 4,294,967,296 bytes. -/
namespace Go.Proofs.YtkblmomfiimkiaaGreatDoor.P
open Go.RowKit Go.Proofs.YtkblmomfiimkiaaGreatDoor.Fp

theorem cutAt_some : ∀ (c : UInt8) (l a b : List UInt8), cutAt c l = some (a, b) → Lib.indexByte l c = a.length ∧ l = a ++ c :: b
  | c, [], a, b, h => by simp [cutAt] at h
  | c, d :: r, a, b, h => by
    unfold cutAt at h
    by_cases hd : d = c
    · rw [if_pos hd] at h
      simp at h
      obtain ⟨rfl, rfl⟩ := h
      subst hd
      simp [Lib.indexByte]
    · rw [if_neg hd] at h
      cases hq : cutAt c r with
      | none => rw [hq] at h; simp at h
      | some p =>
        rw [hq] at h
        simp at h
        obtain ⟨rfl, rfl⟩ := h
        obtain ⟨h1, h2⟩ := cutAt_some c r p.1 p.2 hq
        refine ⟨?_, ?_⟩
        · unfold Lib.indexByte
          have hb : ¬ (d == c) = true := by simpa using hd
          have h3 : ¬ (Lib.indexByte r c == -1) = true := by rw [h1]; simp
          rw [if_neg hb, if_neg h3, h1, List.length_cons]
          omega
        · rw [List.cons_append, ← h2]
theorem cutAt_none : ∀ (c : UInt8) (l : List UInt8), cutAt c l = none → Lib.indexByte l c = -1 ∧ c ∉ l
  | c, [], _ => by simp [Lib.indexByte]
  | c, d :: r, h => by
    unfold cutAt at h
    by_cases hd : d = c
    · rw [if_pos hd] at h; simp at h
    · rw [if_neg hd] at h
      have hq : cutAt c r = none := by simpa using h
      obtain ⟨h1, h2⟩ := cutAt_none c r hq
      refine ⟨?_, ?_⟩
      · unfold Lib.indexByte
        have hb : ¬ (d == c) = true := by simpa using hd
        have h3 : (Lib.indexByte r c == -1) = true := by rw [h1]; rfl
        rw [if_neg hb, if_pos h3]
      · simp [h2, Ne.symm hd]

set_option maxHeartbeats 2000000 in
set_option maxRecDepth 100000 in
theorem cut_hit (s : ByteArray) (c : UInt8) (a b : List UInt8) (w : World) (hs : s.size < 4294967296) (h : cutAt c s.data.toList = some (a, b)) :
    Calls Tryz.prog 94 #[.string s, .string ⟨#[c]⟩] w fun e w' => e = .returned (.tuple #[.string ⟨a.toArray⟩, .string ⟨b.toArray⟩, .bool true]) ∧ ∃ n, w' = w.drewN n := by
  obtain ⟨h1, h2⟩ := cutAt_some c _ a b h
  have hl : s.data.toList.length = s.size := by simp
  have hal : a.length + 1 + b.length = s.size := by rw [← hl, h2]; simp; omega
  obtain ⟨i, hi⟩ : ∃ i, a.length = i := ⟨_, rfl⟩
  have e1 : (⟨a.toArray⟩ : ByteArray) = s.extract 0 i := by
    rw [Lib.extract_eq, h2, List.drop_zero, Nat.sub_zero, ← hi, List.take_left]
  have e2 : (⟨b.toArray⟩ : ByteArray) = s.extract (i + 1) s.size := by
    have e3 : s.data.toList.drop (i + 1) = b := by
      rw [h2, show a ++ c :: b = (a ++ [c]) ++ b by simp, show i + 1 = (a ++ [c]).length by simp [hi], List.drop_left]
    rw [Lib.extract_eq, e3, List.take_of_length_le (by omega)]
  rw [hi] at h1 hal
  rw [e1, e2]
  have H1 := Lib.hid h1
  have c1 : (0 : Int) ≤ (i : Int) := by omega
  have c2 : (i : Int) ≤ (s.size : Int) := by omega
  have c3 : (0 : Int) ≤ (i : Int) + 1 := by omega
  have c4 : (i : Int) + 1 ≤ (s.size : Int) := by omega
  clear h h1 h2 hl hi e1 e2 hal
  have hcut : Calls Tryz.prog 112 #[.string s, .string ⟨#[c]⟩] w fun e w' => e = .returned (.tuple #[.string (s.extract 0 i), .string (s.extract (i + 1) s.size), .bool true]) ∧ ∃ n, w' = w.drewN n := by
    go_enter Tryz.func112, Tryz.ntmps112
    go_wp2_with (go_at_call 128; refine (Sh.stringslite_Index_one s c _).mono ?_; rintro e wq ⟨rfl, hw⟩; subst wq; rw [H1.out])
    go_quiet (fail)
    go_wp2_with fail
    go_ret3
    exact ⟨rfl, _, rfl⟩
  have HC := Lib.hid hcut
  clear hcut
  go_enter Tryz.func94, Tryz.ntmps94
  go_wp2_with (go_at_call 112; refine HC.out.mono ?_; rintro e wq ⟨rfl, n, rfl⟩)
  go_ret3
  exact ⟨rfl, n, rfl⟩

set_option maxHeartbeats 2000000 in
set_option maxRecDepth 100000 in
theorem cut_miss (s : ByteArray) (c : UInt8) (w : World) (h : cutAt c s.data.toList = none) :
    Calls Tryz.prog 94 #[.string s, .string ⟨#[c]⟩] w fun e w' => e = .returned (.tuple #[.string s, .string ⟨#[]⟩, .bool false]) ∧ w' = w := by
  obtain ⟨h1, _⟩ := cutAt_none c _ h
  have H1 := Lib.hid h1
  clear h h1
  have hcut : Calls Tryz.prog 112 #[.string s, .string ⟨#[c]⟩] w fun e w' => e = .returned (.tuple #[.string s, .string ⟨#[]⟩, .bool false]) ∧ w' = w := by
    go_enter Tryz.func112, Tryz.ntmps112
    go_wp2_with (go_at_call 128; refine (Sh.stringslite_Index_one s c _).mono ?_; rintro e wq ⟨rfl, hw⟩; subst wq; rw [H1.out])
    go_ret3
    exact ⟨rfl, rfl⟩
  have HC := Lib.hid hcut
  clear hcut
  go_enter Tryz.func94, Tryz.ntmps94
  go_wp2_with (go_at_call 112; refine HC.out.mono ?_; rintro e wq ⟨rfl, hw⟩; subst wq)
  go_ret3
  exact ⟨rfl, rfl⟩
end Go.Proofs.YtkblmomfiimkiaaGreatDoor.P
end

section
/- field.Parse: the record of a text, or where and how it goes wrong first. Conditions: the text has fewer than 4,294,967,281 bytes. -/
namespace Go.Proofs.YtkblmomfiimkiaaGreatDoor.P
open Go.RowKit Go.Proofs.YtkblmomfiimkiaaGreatDoorW.PrintWords Go.Proofs.YtkblmomfiimkiaaGreatDoorW.PrintLast Go.Proofs.YtkblmomfiimkiaaGreatDoorW.PrintMore
open Go.Proofs.YtkblmomfiimkiaaGreatDoor.Fp

def fieldOf (p : List UInt8 × List UInt8) : S43 := ⟨⟨p.1.toArray⟩, ⟨p.2.toArray⟩⟩
def field_Parse.f (a0 : ByteArray) : Option (List S43 × Int × Int) :=
  if a0.size < 4294967281 then some ((parseL 64 a0.data.toList []).1.map fieldOf, (parseL 64 a0.data.toList []).2.1, (parseL 64 a0.data.toList []).2.2) else none

theorem parse_nil (n : Nat) (acc : List (List UInt8 × List UInt8)) : parseL n [] acc = (acc, 0, 0) := by unfold parseL; simp
theorem parse_zero (s : List UInt8) (h : s ≠ []) (acc : List (List UInt8 × List UInt8)) : parseL 0 s acc = ([], 65, 7) := by unfold parseL; simp [h]
theorem parse_nocut (m : Nat) (s : List UInt8) (h : s ≠ []) (hc : cutAt 10 s = none) (acc : List (List UInt8 × List UInt8)) : parseL (m + 1) s acc = ([], 64 - (m : Int), 2) := by unfold parseL; simp [h, hc]
theorem parse_noline (m : Nat) (s row rest : List UInt8) (h : s ≠ []) (hc : cutAt 10 s = some (row, rest)) (hl : lineP row = none) (acc : List (List UInt8 × List UInt8)) : parseL (m + 1) s acc = ([], 64 - (m : Int), 2) := by unfold parseL; simp [h, hc, hl]
theorem parse_step (m : Nat) (s row rest : List UInt8) (x : List UInt8 × List UInt8) (h : s ≠ []) (hc : cutAt 10 s = some (row, rest)) (hl : lineP row = some x) (acc : List (List UInt8 × List UInt8)) : parseL (m + 1) s acc = parseL m rest (acc ++ [x]) := by
  rw [parseL.eq_def]; simp [h, hc, hl]
theorem line_nocut (row : List UInt8) (h : cutAt 61 row = none) : lineP row = none := by unfold lineP; rw [h]; rfl
theorem line_noname (row a b : List UInt8) (h : cutAt 61 row = some (a, b)) (hn : nameB a = false) : lineP row = none := by unfold lineP; rw [h]; simp [hn]
theorem line_noval (row a b : List UInt8) (h : cutAt 61 row = some (a, b)) (hu : unesc b = none) : lineP row = none := by unfold lineP; rw [h]; simp [hu]
theorem line_long (row a b v : List UInt8) (h : cutAt 61 row = some (a, b)) (hu : unesc b = some v) (hv : ¬ v.length ≤ 4096) : lineP row = none := by unfold lineP; rw [h]; simp [hu]; intro _; omega
theorem line_ok (row a b v : List UInt8) (h : cutAt 61 row = some (a, b)) (hn : nameB a = true) (hu : unesc b = some v) (hv : v.length ≤ 4096) : lineP row = some (a, v) := by unfold lineP; rw [h]; simp [hn, hu, hv]

/-- behind some lines: k is the next one's number -/
structure ParseIs (s : ByteArray) (w : World) (k : Nat) (cur : ByteArray) (v5 : Value) (W : World) : Prop where
  small : cur.size ≤ s.size
  below : Below w.heap.size w W
  same : ∃ acc, parseL 64 s.data.toList [] = parseL (65 - k) cur.data.toList acc ∧ acc.length < k ∧ Kd.R k43 43 W w.heap.size (fun _ => True) v5 (acc.map fieldOf)

/-- inside a line's value: i bytes are read -/
structure ValIs (raw : ByteArray) (wb : World) (b i : Nat) (W : World) : Prop where
  below : Below wb.heap.size wb W
  same : ∃ done, unesc raw.data.toList = (unesc (raw.data.toList.drop i)).map (done ++ ·) ∧ done.length ≤ i ∧ Lib.IsBuilder 112 5 b b (Lib.byteCells done) W

theorem unesc_plain (c : UInt8) (r : List UInt8) (h : c ≠ 92) : unesc (c :: r) = (unesc r).map (c :: ·) := by rw [unesc.eq_def]; simp [h]
theorem unesc_n (r : List UInt8) : unesc (92 :: 110 :: r) = (unesc r).map (10 :: ·) := by rw [unesc.eq_def]; simp
theorem unesc_b (r : List UInt8) : unesc (92 :: 92 :: r) = (unesc r).map (92 :: ·) := by rw [unesc.eq_def]; simp
theorem unesc_bad (d : UInt8) (r : List UInt8) (h1 : d ≠ 110) (h2 : d ≠ 92) : unesc (92 :: d :: r) = none := by rw [unesc.eq_def]; simp [h1, h2]
theorem unesc_end : unesc [92] = none := by rw [unesc.eq_def]; simp
theorem map_more (o : Option (List UInt8)) (done : List UInt8) (c : UInt8) : (o.map (c :: ·)).map (done ++ ·) = o.map ((done ++ [c]) ++ ·) := by
  cases o <;> simp
theorem un_plain (L done : List UInt8) (i : Nat) (h : i < L.length) (hc : L[i] ≠ 92) (hs : unesc L = (unesc (L.drop i)).map (done ++ ·)) : unesc L = (unesc (L.drop (i + 1))).map ((done ++ [L[i]]) ++ ·) := by
  rw [hs, List.drop_eq_getElem_cons h, unesc_plain _ _ hc, map_more]
theorem un_n (L done : List UInt8) (i : Nat) (h : i + 1 < L.length) (hc : L[i] = 92) (hd : L[i + 1] = 110) (hs : unesc L = (unesc (L.drop i)).map (done ++ ·)) : unesc L = (unesc (L.drop (i + 2))).map ((done ++ [10]) ++ ·) := by
  rw [hs, List.drop_eq_getElem_cons (show i < L.length by omega), List.drop_eq_getElem_cons h, hc, hd, unesc_n, map_more]
theorem un_b (L done : List UInt8) (i : Nat) (h : i + 1 < L.length) (hc : L[i] = 92) (hd : L[i + 1] = 92) (hs : unesc L = (unesc (L.drop i)).map (done ++ ·)) : unesc L = (unesc (L.drop (i + 2))).map ((done ++ [92]) ++ ·) := by
  rw [hs, List.drop_eq_getElem_cons (show i < L.length by omega), List.drop_eq_getElem_cons h, hc, hd, unesc_b, map_more]
theorem un_bad (L done : List UInt8) (i : Nat) (h : i + 1 < L.length) (hc : L[i] = 92) (h1 : L[i + 1] ≠ 110) (h2 : L[i + 1] ≠ 92) (hs : unesc L = (unesc (L.drop i)).map (done ++ ·)) : unesc L = none := by
  rw [hs, List.drop_eq_getElem_cons (show i < L.length by omega), List.drop_eq_getElem_cons h, hc, unesc_bad _ _ h1 h2]; rfl
theorem un_end (L done : List UInt8) (i : Nat) (h : i < L.length) (hl : ¬ i + 1 < L.length) (hc : L[i] = 92) (hs : unesc L = (unesc (L.drop i)).map (done ++ ·)) : unesc L = none := by
  rw [hs, List.drop_eq_getElem_cons h, hc, List.drop_eq_nil_of_le (by omega), unesc_end]; rfl

theorem close_err (a0 : ByteArray) (w W : World) (k c : Int) (hh : parseL 64 a0.data.toList [] = ([], k, c)) (hb : Below w.heap.size w W) :
    ∃ v0_ : Value, Ending.returned (.tuple #[.slice none 0 0, .int .i64 k, .int .i64 c]) = .returned (.tuple #[v0_, .int .i64 (parseL 64 a0.data.toList []).2.1, .int .i64 (parseL 64 a0.data.toList []).2.2]) ∧ Kd.R k43 43 W w.heap.size (fun _ => True) v0_ ((parseL 64 a0.data.toList []).1.map fieldOf) ∧ Below w.heap.size w W := by
  rw [hh]
  exact ⟨_, rfl, Kd.R_nil _ _ _ _ _, hb⟩

theorem val_step (raw : ByteArray) (wb W W2 : World) (i' : Nat) (done : List UInt8) (c : UInt8) (hs : unesc raw.data.toList = (unesc (raw.data.toList.drop i')).map ((done ++ [c]) ++ ·)) (hl : done.length + 1 ≤ i')
    (hat : Lib.BuilderAt 112 5 wb.heap.size wb.heap.size (.pointer (some ⟨wb.heap.size, 0, none⟩)) (Lib.byteCells done ++ [.int .u8 (c.toNat : Int)]) W2) (hb : Below wb.heap.size wb W) (hb2 : Below wb.heap.size W W2) :
    ValIs raw wb wb.heap.size i' W2 :=
  ⟨hb.trans hb2, done ++ [c], hs, by simpa using hl, Or.inr (by rw [Lib.byteCells_append]; exact hat)⟩

set_option maxRecDepth 100000 in
set_option maxHeartbeats 8000000 in
theorem field_Parse.calls (a0 : ByteArray) (r1 : List S43) (r2 r3 : Int) (w : World) (h : field_Parse.f a0 = some (r1, r2, r3)) :
    Calls Tryz.prog 61 #[.string a0] w fun e w' => ∃ v0_ : Value, e = .returned (.tuple #[v0_, .int .i64 r2, .int .i64 r3]) ∧ Kd.R k43 43 w' w.heap.size (fun _ => True) v0_ r1 ∧ Below w.heap.size w w' := by
  unfold field_Parse.f at h
  by_cases hs : a0.size < 4294967281
  · rw [if_pos hs] at h
    have h' := Option.some.inj h
    simp only [Prod.mk.injEq] at h'
    obtain ⟨rfl, rfl, rfl⟩ := h'
    clear h
    go_enter Tryz.func61, Tryz.ntmps61
    go_wp2
    go_step3
    go_wp2
    go_step3
    go_wp2
    go_loopg [0, 5, 6] 66 (fun g v0 v5 v6 W => ∃ (k : Nat) (cur : ByteArray), k + g = 67 ∧ 1 ≤ k ∧ k ≤ 65 ∧ v0 = .string cur ∧ v6 = .int .i64 k ∧ ParseIs a0 w k cur v5 W)
    case atStart => exact ⟨1, a0, by omega, by omega, by omega, rfl, rfl, ⟨Nat.le_refl _, Below.refl _ _, [], rfl, by simp, Kd.R_nil _ _ _ _ _⟩⟩
    case round =>
      rename Nat => G
      obtain ⟨k, cur, hkg, hk1, hk2, rfl, rfl, hp⟩ := hrel
      obtain ⟨hsm, hbl, acc, hsame, hacc, hR⟩ := hp
      have HS := Lib.hid hsame
      have HR := Lib.hid hR
      have HB := Lib.hid hbl
      have HK := Lib.hid hkg
      clear hsame hR hbl hkg
      have ht : cur.toList = cur.data.toList := Lib.toList_data cur
      by_cases hz : cur.toList = []
      · have HZ := Lib.hid (ht.symm.trans hz)
        clear ht
        go_wp2_with fail
        rw [Exit.noGoto_ret]
        go_ret3
        have hh : parseL 64 a0.data.toList [] = (acc, 0, 0) := by rw [HS.out, HZ.out, parse_nil]
        rw [hh]
        exact ⟨_, rfl, HR.out, HB.out⟩
      · have hz' : cur.data.toList ≠ [] := fun h => hz (ht.trans h)
        have HZ := Lib.hid hz'
        have hze : cur.toList.isEmpty = false := by simpa using hz
        clear hz' ht
        by_cases h65 : k = 65
        · have hk64 : (64 : Int) < (k : Int) := by omega
          have H65 := Lib.hid h65
          clear h65
          go_wp2_with fail
          try rw [Exit.noGoto_ret]
          go_ret3
          exact close_err a0 w wr k 7 (by rw [HS.out, H65.out]; exact parse_zero _ HZ.out _) HB.out
        · have hk64 : ¬ (64 : Int) < (k : Int) := by omega
          obtain ⟨m, hm⟩ : ∃ m, 65 - k = m + 1 := ⟨64 - k, by omega⟩
          have hmk : (64 : Int) - (m : Int) = k := by omega
          have HM := Lib.hid hm
          have HMK := Lib.hid hmk
          have hcs : cur.size < 4294967296 := by omega
          clear h65 hm hmk
          cases hc : cutAt 10 cur.data.toList with
          | none =>
            have HC := Lib.hid hc
            clear hc
            have hfin : parseL 64 a0.data.toList [] = ([], (k : Int), 2) := by rw [HS.out, HM.out, ← HMK.out]; exact parse_nocut _ _ HZ.out HC.out _
            have HF := Lib.hid hfin
            clear hfin
            go_wp2_with fail
            refine (cut_miss cur 10 _ HC.out).mono ?_
            rintro e wq ⟨rfl, hw⟩
            subst wq
            go_wp2_with fail
            cases hq : cutAt 61 cur.data.toList with
            | none =>
              have HQ := Lib.hid hq
              clear hq
              refine (cut_miss cur 61 _ HQ.out).mono ?_
              rintro e wq ⟨rfl, hw⟩
              subst wq
              go_wp2_with fail
              try rw [Exit.noGoto_ret]
              go_ret3
              exact close_err a0 w _ k 2 HF.out HB.out
            | some p =>
              obtain ⟨a, b⟩ := p
              have HQ := Lib.hid hq
              clear hq
              refine (cut_hit cur 61 a b _ hcs HQ.out).mono ?_
              rintro e wq ⟨rfl, n, rfl⟩
              go_wp2_with fail
              try rw [Exit.noGoto_ret]
              go_ret3
              exact close_err a0 w _ k 2 HF.out (pw_below_drewN HB.out n)
          | some p =>
            obtain ⟨row, rest⟩ := p
            obtain ⟨hx1, hx2⟩ := cutAt_some _ _ _ _ hc
            have hlen : row.length + 1 + rest.length = cur.size := by
              have e : cur.data.toList.length = cur.size := by simp
              rw [← e, hx2]; simp; omega
            have HC := Lib.hid hc
            clear hc hx1 hx2
            go_wp2_with fail
            refine (cut_hit cur 10 row rest _ hcs HC.out).mono ?_
            rintro e wq ⟨rfl, n0, rfl⟩
            generalize hrow : (⟨row.toArray⟩ : ByteArray) = Row
            generalize hrest : (⟨rest.toArray⟩ : ByteArray) = Rest
            have er : Row.data.toList = row := by rw [← hrow]
            have es : Rest.data.toList = rest := by rw [← hrest]
            have zr : Row.size = row.length := by rw [← hrow]; simp [ByteArray.size]
            have zs : Rest.size = rest.length := by rw [← hrest]; simp [ByteArray.size]
            have hrs : Row.size < 4294967296 := by omega
            have hss : Rest.size ≤ a0.size := by omega
            have ER := Lib.hid er
            have ES := Lib.hid es
            clear hrow hrest er es zr zs hlen
            go_wp2_with fail
            cases hq : cutAt 61 Row.data.toList with
            | none =>
              have hfin : parseL 64 a0.data.toList [] = ([], (k : Int), 2) := by rw [HS.out, HM.out, ← HMK.out]; exact parse_noline _ _ _ _ HZ.out HC.out (by rw [← ER.out]; exact line_nocut _ hq) _
              have HF := Lib.hid hfin
              have HQ := Lib.hid hq
              clear hfin hq
              refine (cut_miss Row 61 _ HQ.out).mono ?_
              rintro e wq ⟨rfl, hw⟩
              subst wq
              go_wp2_with fail
              try rw [Exit.noGoto_ret]
              go_ret3
              exact close_err a0 w _ k 2 HF.out (pw_below_drewN HB.out n0)
            | some p =>
              obtain ⟨a, b⟩ := p
              obtain ⟨hx1, hx2⟩ := cutAt_some _ _ _ _ hq
              have hlen : a.length + 1 + b.length = Row.size := by
                have e : Row.data.toList.length = Row.size := by simp
                rw [← e, hx2]; simp; omega
              have HQ := Lib.hid hq
              clear hq hx1 hx2
              refine (cut_hit Row 61 a b _ hrs HQ.out).mono ?_
              rintro e wq ⟨rfl, n1, rfl⟩
              generalize ha : (⟨a.toArray⟩ : ByteArray) = Head
              generalize hb : (⟨b.toArray⟩ : ByteArray) = Raw
              have ea : Head.data.toList = a := by rw [← ha]
              have eb : Raw.data.toList = b := by rw [← hb]
              have zb : Raw.size = b.length := by rw [← hb]; simp [ByteArray.size]
              have hbs : Raw.size < 4294967296 := by omega
              have EA := Lib.hid ea
              have EB := Lib.hid eb
              have HHead := Lib.hid ha
              clear ha hb ea eb zb hlen
              go_wp2_with fail
              cases hn : nameB Head.data.toList with
              | false =>
                have hfin : parseL 64 a0.data.toList [] = ([], (k : Int), 2) := by rw [HS.out, HM.out, ← HMK.out]; exact parse_noline _ _ _ _ HZ.out HC.out (by rw [← ER.out]; exact line_noname _ _ _ HQ.out (by rw [← EA.out]; exact hn)) _
                have HF := Lib.hid hfin
                have HN := Lib.hid hn
                clear hfin hn
                refine (field_name.calls Head false _ (by unfold field_name.f; rw [HN.out])).mono ?_
                rintro e w1 ⟨rfl, hb1⟩
                have HB1 := Lib.hid hb1
                clear hb1
                go_wp2_with fail
                try rw [Exit.noGoto_ret]
                go_ret3
                exact close_err a0 w _ k 2 HF.out (below_then (pw_below_drewN HB.out (n0 + n1)) (by have := HB.out.size; simp; omega) HB1.out)
              | true =>
                have HN := Lib.hid hn
                clear hn
                refine (field_name.calls Head true _ (by unfold field_name.f; rw [HN.out])).mono ?_
                rintro e w1 ⟨rfl, hb1⟩
                have hbw1 : Below wr.heap.size wr w1 := below_then (pw_below_drewN (Below.refl _ wr) (n0 + n1)) (by simp) hb1
                have hbo : Below w.heap.size w w1 := HB.out.trans (hbw1.mono HB.out.size)
                have HBO := Lib.hid hbo
                have HB1 := Lib.hid hbw1
                clear hb1 hbw1 hbo
                go_wp2_with fail
                have B0 := Lib.hid (Lib.fresh_isBuilder 112 5 w1)
                go_loopg [14, 15] (Raw.size + 1) (fun g2 v14 _ W => ∃ i : Nat, i + g2 = Raw.size + 1 ∧ i ≤ Raw.size ∧ v14 = .int .i64 i ∧ ValIs Raw w1 w1.heap.size i W)
                case atStart => exact ⟨0, by omega, Nat.zero_le _, rfl, (Below.refl _ _).alloc (Nat.le_refl _) _, [], by simp, Nat.le_refl _, B0.out⟩
                case round =>
                  obtain ⟨i, hig, hi, rfl, hv⟩ := hrel
                  obtain ⟨hvb, done, hd1, hd2, hd3⟩ := hv
                  have HVB := Lib.hid hvb
                  have HD1 := Lib.hid hd1
                  have HD3 := Lib.hid hd3
                  have HIG := Lib.hid hig
                  have hvs := hvb.size
                  have hll : Raw.data.toList.length = Raw.size := by simp
                  have HLL := Lib.hid hll
                  clear hvb hd1 hd3 hig hll
                  by_cases hlt : i < Raw.size
                  · by_cases h92 : Raw[i] = 92
                    · have f92 : ((Raw[i].toNat : Int) == 92) = true := by rw [h92]; rfl
                      by_cases hlt1 : i + 1 < Raw.size
                      · by_cases h110 : Raw[i + 1] = 110
                        · have f110 : ((Raw[i + 1].toNat : Int) == 110) = true := by rw [h110]; rfl
                          have hstep := un_n Raw.data.toList done i (by rw [HLL.out]; exact hlt1) h92 h110 HD1.out
                          have HST := Lib.hid hstep
                          have hwb := Sh.Builder_WriteByte w1.heap.size w1.heap.size _ 10 _ HD3.out (by rw [Lib.byteCells_length]; omega) hvs
                          have HWB := Lib.hid hwb
                          clear h92 h110 hstep hwb
                          go_wp2_with fail
                          refine HWB.out.mono ?_
                          rintro e w2 ⟨rfl, hat, hb2⟩
                          have HAT := Lib.hid hat
                          have HB2 := Lib.hid hb2
                          clear hat hb2
                          go_wp2_with fail
                          go_roundg (gk - 2)
                          case measure => have := HIG.out; omega
                          case rel => exact ⟨i + 2, by have := HIG.out; omega, by omega, by first | rfl | (congr 1; omega), val_step _ _ _ _ _ done 10 HST.out (by omega) HAT.out HVB.out HB2.out⟩
                        · have f110 : ((Raw[i + 1].toNat : Int) == 110) = false := by
                            rw [beq_eq_false_iff_ne]; intro h; apply h110; apply UInt8.toNat_inj.1; show Raw[i + 1].toNat = 110; omega
                          have fie : ((i : Int) + 1 == (Raw.size : Int)) = false := by rw [beq_eq_false_iff_ne]; omega
                          by_cases h92b : Raw[i + 1] = 92
                          · have f92b : ((Raw[i + 1].toNat : Int) != 92) = false := by rw [h92b]; rfl
                            have hstep := un_b Raw.data.toList done i (by rw [HLL.out]; exact hlt1) h92 h92b HD1.out
                            have hc92 : (Raw[i].toNat : Int) = ((92 : UInt8).toNat : Int) := by rw [h92]
                            have HC92 := Lib.hid hc92
                            have HST := Lib.hid hstep
                            have hwb := Sh.Builder_WriteByte w1.heap.size w1.heap.size _ (Raw[i].toNat : Int) _ HD3.out (by rw [Lib.byteCells_length]; omega) hvs
                            have HWB := Lib.hid hwb
                            clear h92 h92b h110 hstep hwb hc92
                            go_wp2_with fail
                            refine HWB.out.mono ?_
                            rintro e w2 ⟨rfl, hat, hb2⟩
                            rw [HC92.out] at hat
                            have HAT := Lib.hid hat
                            have HB2 := Lib.hid hb2
                            clear hat hb2
                            go_wp2_with fail
                            go_roundg (gk - 2)
                            case measure => have := HIG.out; omega
                            case rel => exact ⟨i + 2, by have := HIG.out; omega, by omega, by first | rfl | (congr 1; omega), val_step _ _ _ _ _ done 92 HST.out (by omega) HAT.out HVB.out HB2.out⟩
                          · have f92b : ((Raw[i + 1].toNat : Int) != 92) = true := by
                              rw [bne_iff_ne]; intro h; apply h92b; apply UInt8.toNat_inj.1; show Raw[i + 1].toNat = 92; omega
                            have hun := un_bad Raw.data.toList done i (by rw [HLL.out]; exact hlt1) h92 h110 h92b HD1.out
                            have hfin : parseL 64 a0.data.toList [] = ([], (k : Int), 2) := by rw [HS.out, HM.out, ← HMK.out]; exact parse_noline _ _ _ _ HZ.out HC.out (by rw [← ER.out]; exact line_noval _ _ _ HQ.out (by rw [← EB.out]; exact hun)) _
                            have HF := Lib.hid hfin
                            clear hun hfin h92 h110 h92b
                            go_wp2_with fail
                            try rw [Exit.noGoto_ret]
                            go_ret3
                            exact close_err a0 w _ k 2 HF.out (HBO.out.trans (HVB.out.mono HBO.out.size))
                      · have hie : i + 1 = Raw.size := by omega
                        have hun := un_end Raw.data.toList done i (by rw [HLL.out]; exact hlt) (by rw [HLL.out]; exact hlt1) h92 HD1.out
                        have hfin : parseL 64 a0.data.toList [] = ([], (k : Int), 2) := by rw [HS.out, HM.out, ← HMK.out]; exact parse_noline _ _ _ _ HZ.out HC.out (by rw [← ER.out]; exact line_noval _ _ _ HQ.out (by rw [← EB.out]; exact hun)) _
                        have HF := Lib.hid hfin
                        clear hun hfin h92
                        have fie : ((i : Int) + 1 == (Raw.size : Int)) = true := by rw [beq_iff_eq]; omega
                        have fil : ¬ ((i : Int) + 1 < (Raw.size : Int)) := by omega
                        go_wp2_with fail
                        try rw [Exit.noGoto_ret]
                        go_ret3
                        exact close_err a0 w _ k 2 HF.out (HBO.out.trans (HVB.out.mono HBO.out.size))
                    · have f92 : ((Raw[i].toNat : Int) == 92) = false := by
                        rw [beq_eq_false_iff_ne]; intro h; apply h92; apply UInt8.toNat_inj.1; show Raw[i].toNat = 92; omega
                      have hstep := un_plain Raw.data.toList done i (by rw [HLL.out]; exact hlt) h92 HD1.out
                      have HST := Lib.hid hstep
                      have hwb := Sh.Builder_WriteByte w1.heap.size w1.heap.size _ (Raw[i].toNat : Int) _ HD3.out (by rw [Lib.byteCells_length]; omega) hvs
                      have HWB := Lib.hid hwb
                      clear h92 hstep hwb
                      go_wp2_with fail
                      refine HWB.out.mono ?_
                      rintro e w2 ⟨rfl, hat, hb2⟩
                      have HAT := Lib.hid hat
                      have HB2 := Lib.hid hb2
                      clear hat hb2
                      go_wp2_with fail
                      go_roundg (gk - 1)
                      case measure => have := HIG.out; omega
                      case rel => exact ⟨i + 1, by have := HIG.out; omega, hlt, rfl, val_step _ _ _ _ _ done _ HST.out (by omega) HAT.out HVB.out HB2.out⟩
                  · have hie : i = Raw.size := by omega
                    have hun : unesc Raw.data.toList = some done := by
                      rw [HD1.out, List.drop_eq_nil_of_le (by rw [HLL.out]; omega), unesc]; simp
                    have HUN := Lib.hid hun
                    have hbl := Sh.Builder_Len w1.heap.size w1.heap.size _ _ HD3.out
                    rw [Lib.byteCells_length] at hbl
                    have HBL := Lib.hid hbl
                    clear hun hbl
                    go_wp2_with fail
                    refine HBL.out.mono ?_
                    rintro e wq ⟨rfl, hw⟩
                    subst wq
                    by_cases hlong : done.length ≤ 4096
                    · have fl : ¬ (4096 : Int) < (done.length : Int) := by omega
                      have HLG := Lib.hid hlong
                      clear hlong
                      go_wp2_with fail
                      have hst := Sh.Builder_String w1.heap.size w1.heap.size done _ HD3.out hvs
                      have HSTR := Lib.hid hst
                      clear hst
                      refine HSTR.out.mono ?_
                      rintro e w2 ⟨rfl, hb2⟩
                      have hbw2 : Below w.heap.size w w2 := HBO.out.trans ((HVB.out.trans hb2).mono HBO.out.size)
                      have hr2 : k43.R 43 w2 w.heap.size (fun _ => True) u5 (acc.map fieldOf) := Kd.R_below HR.out (HB1.out.trans ((HVB.out.trans hb2).mono HB1.out.size))
                      have HBW2 := Lib.hid hbw2
                      have HR2 := Lib.hid hr2
                      clear hb2 hbw2 hr2
                      go_wp2_with (first | ((with_reducible refine gate_builtin (b := .append) (xs := #[.tmp 85, .tmp 89]) rfl ?_); at_builtin; refine Kd.R_append k43 (w0 := w) w.heap.size rfl (.tmp 85) (.tmp 89) 36 43 (.agg #[(.string ⟨#[]⟩), (.string ⟨#[]⟩)]) 32 rfl Tryz.underlying36 info43 rfl (by decide) (by omega) u5 (acc.map fieldOf) (⟨Head, ⟨done.toArray⟩⟩ : S43) [.string Head, .string ⟨done.toArray⟩] (fun _ => True) (fun _ => False) rfl rfl ?aP (fun _ hk => hk.elim) ?aF ?aO ?aB ?aS ?aL ?_; (case aP => exact k43_mkM _ _ _ (⟨Head, ⟨done.toArray⟩⟩ : S43)); (case aB => exact (by repeat (first | (with_reducible first | exact HBW2.out | apply below_alloc | apply pw_below_drewN | apply below_drew1) | exact HBW2.out))); (case aF => exact (fun _ _ => trivial)); (case aO => exact (by (with_reducible repeat (first | apply Kd.R_alloc | apply Kd.R_drewN | apply Kd.R_drew)); exact HR2.out)); (case aS => exact (below_size (by repeat (first | (with_reducible first | exact HBW2.out | apply below_alloc | apply pw_below_drewN | apply below_drew1) | exact HBW2.out)))); (case aL => simp; omega); intro vv w24 ho hb hg hat; have HO3 := Lib.hid ho; have HB3 := Lib.hid hb; clear ho hb hg hat))
                      go_roundg (G - 1)
                      case measure => have := HK.out; omega
                      case rel =>
                        have hp := parse_step m cur.data.toList row rest (Head.data.toList, done) HZ.out HC.out (by rw [← ER.out, EA.out]; exact line_ok _ _ _ _ HQ.out (by rw [← EA.out]; exact HN.out) (by rw [← EB.out]; exact HUN.out) HLG.out) acc
                        refine ⟨k + 1, Rest, by have := HK.out; omega, by omega, by omega, rfl, rfl, hss, HB3.out, acc ++ [(Head.data.toList, done)], ?_, by simp; omega, ?_⟩
                        · rw [HS.out, HM.out, hp, ES.out, show 65 - (k + 1) = m by have := HM.out; omega]
                        · have ho := HO3.out
                          rw [List.map_append]
                          have e : fieldOf (Head.data.toList, done) = (⟨Head, ⟨done.toArray⟩⟩ : S43) := by show S43.mk ⟨Head.data.toList.toArray⟩ _ = _; simp
                          rw [List.map_singleton, e]
                          exact ho
                    · have fl : (4096 : Int) < (done.length : Int) := by omega
                      have hfin : parseL 64 a0.data.toList [] = ([], (k : Int), 2) := by rw [HS.out, HM.out, ← HMK.out]; exact parse_noline _ _ _ _ HZ.out HC.out (by rw [← ER.out]; exact line_long _ _ _ _ HQ.out (by rw [← EB.out]; exact HUN.out) hlong) _
                      have HF := Lib.hid hfin
                      clear hlong hfin
                      go_wp2_with fail
                      try rw [Exit.noGoto_ret]
                      go_ret3
                      exact close_err a0 w _ k 2 HF.out ((HBO.out.trans (HVB.out.mono HBO.out.size)))
  · rw [if_neg hs] at h; cases h
end Go.Proofs.YtkblmomfiimkiaaGreatDoor.P
end

section
/- The given contracts, together. Conditions: those of the texts named. -/
end
