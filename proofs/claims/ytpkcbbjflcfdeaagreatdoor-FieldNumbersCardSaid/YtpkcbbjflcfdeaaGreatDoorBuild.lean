/- (*strings.Replacer).build of the four strings that field.line hands to strings.NewReplacer: it returns a byteStringReplacer in new memory, of which the cells are told. Conditions: the four strings lie where the Replacer's field says. -/
import Derived.Test.YtpkcbbjflcfdeaaGreatDoorProg
import Derived.WalkKit
import Derived.WalkSpells
import Derived.WalkLawsBesides
import Derived.Lib.Hide
import Derived.Below
import Derived.OwnWalk
import Derived.Deep.WholeRow
import Derived.KernelRfl
import Derived.Laws.IdiomStrings
import Derived.ArgAppend
import Derived.Laws.NewBlocks
import Derived.Lib.SmallJoins
namespace Go.Proofs.YtpkcbbjflcfdeaaGreatDoor.P
open Go.RowKit
noncomputable def Zr (n : Nat) : Array Value := Tryz.zeroCells128.setIfInBounds 256 (.slice (some ⟨n, 0, none⟩) 0 2)
theorem Zr_size (n : Nat) : (Zr n).size = 257 := by unfold Zr; rw [Array.size_setIfInBounds]; kernel_rfl
theorem zero_one : Tryz.zeroCells128.all (·.oneCell') = true := by kernel_rfl
theorem Zr_one (n : Nat) : (Zr n).all (·.oneCell') = true := by
  unfold Zr
  rw [Array.all_eq_true_iff_forall_mem]
  intro x hx
  rcases Array.mem_or_eq_of_mem_setIfInBounds hx with h | h
  · exact (Array.all_eq_true_iff_forall_mem.1 zero_one) x h
  · subst h; rfl
theorem Zr_toList (n : Nat) : (Zr n).toList = Tryz.zeroCells128.toList.set 256 (.slice (some ⟨n, 0, none⟩) 0 2) := by
  unfold Zr; rw [Array.toList_setIfInBounds]
theorem Zr_low (n b : Nat) (h : b < 256) : (Zr n)[b]? = some (.slice none 0 0) := by
  unfold Zr
  rw [Array.getElem?_setIfInBounds_ne (by omega)]
  have e : Tryz.zeroCells128 = Array.replicate 257 (.slice none 0 0) := by kernel_rfl
  rw [e, Array.getElem?_replicate, if_pos (by omega)]
theorem Zr_at (n b : Nat) (hb : b < 256) : ∀ h, (Zr n)[b]'h = .slice none 0 0 := fun h => by
  have := Zr_low n b hb
  rw [Array.getElem?_eq_getElem h] at this
  exact Option.some.inj this
theorem Zr_high (n : Nat) : (Zr n)[256]? = some (.slice (some ⟨n, 0, none⟩) 0 2) := by
  unfold Zr
  have : Tryz.zeroCells128.size = 257 := by kernel_rfl
  rw [Array.getElem?_setIfInBounds_self]
  simp [this]

theorem append_one (P : Program) (t ty e : TypeId) (i : TypeInfo) (ht : P.underlying t = some (.slice e)) (hi : P.info? e = some i) (hs : i.size = 1) (W : World) (b sLen sCap c : Nat) (a : Addr) (v : Value)
    (hv : W.cell? a = some v) (h1 : v.oneCell' = true) (hroom : sLen + 1 ≤ sCap) (hc : (W.cell? ⟨b, sLen, none⟩).isSome = true) (hf : W.frozen? ⟨b, sLen, none⟩ = false) :
    (Builtin.append_ #[t, t] ty #[.slice (some ⟨b, 0, none⟩) sLen sCap, .slice (some a) 1 c]).run P W = .ok (.slice (some ⟨b, 0, none⟩) (sLen + 1) sCap) (W.setCell ⟨b, sLen, none⟩ v) := by
  have h := run_append_room_cells (P := P) W t ty e i ht hi b 0 sLen sCap a 1 c [v] (by simp [hs]) (fun j u hj => by
    rcases j with _ | j
    · simp at hj; subst hj; rw [Addr.add_zero']; exact hv
    · simp at hj) (fun u hu => by simp at hu; subst hu; exact h1) hroom (fun j hj => by
    obtain rfl : j = 0 := by simp at hj; omega
    simpa [hs] using hc) (fun j hj => by
    obtain rfl : j = 0 := by simp at hj; omega
    simpa [hs] using hf)
  rw [h]
  simp [World.setCells, hs]

/-- string to bytes: the new row begins with the bytes -/
theorem bytes_two (P : Program) (src dst e : TypeId) (hs : P.underlying src = some .string) (hd : P.underlying dst = some (.slice e)) (he : P.underlying e = some (.int .u8)) (W : World) (a b : UInt8) :
    ∃ c C fr, (convert src dst (.string ⟨#[a, b]⟩)).run P W = .ok (.slice (some ⟨W.heap.size, 0, none⟩) 2 c) ((W.alloc (.cells C e fr)).drew) ∧ C[0]? = some (.int .u8 a.toNat) ∧ C[1]? = some (.int .u8 b.toNat) :=
  ⟨_, _, _, run_bytes_of_string W src dst e ⟨#[a, b]⟩ hs hd he, bytesRow_at ⟨#[a, b]⟩ _ 0 (by simp), bytesRow_at ⟨#[a, b]⟩ _ 1 (by simp)⟩

/-- what stands at a byte: the row that it is replaced by, or nil -/
def repAt (x y : Nat) (cx cy : Nat) (b : Nat) : Value := if b = 10 then .slice (some ⟨x, 0, none⟩) 2 cx else if b = 92 then .slice (some ⟨y, 0, none⟩) 2 cy else .slice none 0 0

/-- A byteStringReplacer of ours in block b, all its memory from block lo on. -/
def IsBsr (lo b : Nat) (w : World) : Prop := ∃ x y t cx cy : Nat, (lo ≤ b ∧ b < w.heap.size) ∧ (lo ≤ x ∧ x < w.heap.size) ∧ (lo ≤ y ∧ y < w.heap.size) ∧ (lo ≤ t ∧ t < w.heap.size) ∧
  (∀ j, j < 256 → w.cell? ⟨b, j, none⟩ = some (repAt x y cx cy j)) ∧ w.cell? ⟨b, 256, none⟩ = some (.slice (some ⟨t, 0, none⟩) 2 2) ∧
  (w.cell? ⟨x, 0, none⟩ = some (.int .u8 92) ∧ w.cell? ⟨x, 1, none⟩ = some (.int .u8 110)) ∧ (w.cell? ⟨y, 0, none⟩ = some (.int .u8 92) ∧ w.cell? ⟨y, 1, none⟩ = some (.int .u8 92)) ∧
  (w.cell? ⟨t, 0, none⟩ = some (.string ⟨#[10]⟩) ∧ w.cell? ⟨t, 1, none⟩ = some (.string ⟨#[92]⟩))

theorem IsBsr.step {lo b : Nat} {w w' : World} (h : IsBsr lo b w) (hs : w.heap.size ≤ w'.heap.size) (hb : ∀ g, lo ≤ g → g < w.heap.size → ∀ o, w'.cell? ⟨g, o, none⟩ = w.cell? ⟨g, o, none⟩) : IsBsr lo b w' := by
  obtain ⟨x, y, t, cx, cy, ⟨b0, b1⟩, ⟨x0, x1⟩, ⟨y0, y1⟩, ⟨t0, t1⟩, hr, hl, ⟨hx0, hx1⟩, ⟨hy0, hy1⟩, ht0, ht1⟩ := h
  exact ⟨x, y, t, cx, cy, ⟨b0, by omega⟩, ⟨x0, by omega⟩, ⟨y0, by omega⟩, ⟨t0, by omega⟩, fun j hj => (hb b b0 b1 j).trans (hr j hj), (hb b b0 b1 _).trans hl, ⟨(hb x x0 x1 _).trans hx0, (hb x x0 x1 _).trans hx1⟩, ⟨(hb y y0 y1 _).trans hy0, (hb y y0 y1 _).trans hy1⟩, (hb t t0 t1 _).trans ht0, (hb t t0 t1 _).trans ht1⟩
theorem IsBsr.below {lo b : Nat} {w w' : World} (h : IsBsr lo b w) (hb : Below w.heap.size w w') : IsBsr lo b w' :=
  h.step hb.size (fun g _ hg o => hb.cell (p := ⟨g, o, none⟩) hg)

/-- what the walk leaves, as told above -/
theorem bsr_made (w : World) (c1 c2 : Nat) (C1 C2 : Array Value) (fr1 fr2 : Nat × Nat) (hC10 : C1[0]? = some (.int .u8 92)) (hC11 : C1[1]? = some (.int .u8 110)) (hC20 : C2[0]? = some (.int .u8 92)) (hC21 : C2[1]? = some (.int .u8 92)) :
    IsBsr w.heap.size (w.heap.size + 1) (((((((((w.alloc (.cells #[.string ⟨#[10]⟩, .string ⟨#[92]⟩] 9)).alloc (.cells (((((Zr w.heap.size).setIfInBounds 256 (.slice (some ⟨w.heap.size, 0, none⟩) 1 2)).setIfInBounds 10 (.slice (some ⟨w.heap.size + 1 + 1 + 1 + 1, 0, none⟩) 2 c1)).setIfInBounds 256 (.slice (some ⟨w.heap.size, 0, none⟩) 2 2)).setIfInBounds 92 (.slice (some ⟨w.heap.size + 1 + 1 + 1 + 1 + 1 + 1 + 1, 0, none⟩) 2 c2)) 128)).alloc (.cells #[.int .u8 10] 5)).alloc (.cells #[.string ⟨#[10]⟩] 9)).alloc (.cells C1 5 fr1)).alloc (.cells #[.int .u8 92] 5)).alloc (.cells #[.string ⟨#[92]⟩] 9)).alloc (.cells C2 5 fr2)).drew.drew) := by
  have hz : (((((((((w.alloc (.cells #[.string ⟨#[10]⟩, .string ⟨#[92]⟩] 9)).alloc (.cells (((((Zr w.heap.size).setIfInBounds 256 (.slice (some ⟨w.heap.size, 0, none⟩) 1 2)).setIfInBounds 10 (.slice (some ⟨w.heap.size + 1 + 1 + 1 + 1, 0, none⟩) 2 c1)).setIfInBounds 256 (.slice (some ⟨w.heap.size, 0, none⟩) 2 2)).setIfInBounds 92 (.slice (some ⟨w.heap.size + 1 + 1 + 1 + 1 + 1 + 1 + 1, 0, none⟩) 2 c2)) 128)).alloc (.cells #[.int .u8 10] 5)).alloc (.cells #[.string ⟨#[10]⟩] 9)).alloc (.cells C1 5 fr1)).alloc (.cells #[.int .u8 92] 5)).alloc (.cells #[.string ⟨#[92]⟩] 9)).alloc (.cells C2 5 fr2)).drew.drew).heap.size = w.heap.size + 1 + 1 + 1 + 1 + 1 + 1 + 1 + 1 := by simp
  refine ⟨w.heap.size + 1 + 1 + 1 + 1, w.heap.size + 1 + 1 + 1 + 1 + 1 + 1 + 1, w.heap.size, c1, c2, ⟨by omega, by rw [hz]; omega⟩, ⟨by omega, by rw [hz]; omega⟩, ⟨by omega, by rw [hz]; omega⟩, ⟨by omega, by rw [hz]; omega⟩, ?_, ?_, ⟨?_, ?_⟩, ⟨?_, ?_⟩, ?_, ?_⟩
  · intro j hj
    have e : (((((((((w.alloc (.cells #[.string ⟨#[10]⟩, .string ⟨#[92]⟩] 9)).alloc (.cells (((((Zr w.heap.size).setIfInBounds 256 (.slice (some ⟨w.heap.size, 0, none⟩) 1 2)).setIfInBounds 10 (.slice (some ⟨w.heap.size + 1 + 1 + 1 + 1, 0, none⟩) 2 c1)).setIfInBounds 256 (.slice (some ⟨w.heap.size, 0, none⟩) 2 2)).setIfInBounds 92 (.slice (some ⟨w.heap.size + 1 + 1 + 1 + 1 + 1 + 1 + 1, 0, none⟩) 2 c2)) 128)).alloc (.cells #[.int .u8 10] 5)).alloc (.cells #[.string ⟨#[10]⟩] 9)).alloc (.cells C1 5 fr1)).alloc (.cells #[.int .u8 92] 5)).alloc (.cells #[.string ⟨#[92]⟩] 9)).alloc (.cells C2 5 fr2)).drew.drew).cell? ⟨w.heap.size + 1, j, none⟩ = (((((Zr w.heap.size).setIfInBounds 256 (.slice (some ⟨w.heap.size, 0, none⟩) 1 2)).setIfInBounds 10 (.slice (some ⟨w.heap.size + 1 + 1 + 1 + 1, 0, none⟩) 2 c1)).setIfInBounds 256 (.slice (some ⟨w.heap.size, 0, none⟩) 2 2)).setIfInBounds 92 (.slice (some ⟨w.heap.size + 1 + 1 + 1 + 1 + 1 + 1 + 1, 0, none⟩) 2 c2))[j]? := by go_simp
    have zl := Zr_low w.heap.size j hj
    rw [e]
    unfold repAt
    by_cases h1 : j = 10
    · subst h1; rw [if_pos rfl, Array.getElem?_setIfInBounds_ne (by omega), Array.getElem?_setIfInBounds_ne (by omega), Array.getElem?_setIfInBounds_self]; simp [Zr_size]
    · by_cases h2 : j = 92
      · subst h2; rw [if_neg h1, if_pos rfl, Array.getElem?_setIfInBounds_self]; simp [Zr_size]
      · rw [if_neg h1, if_neg h2, Array.getElem?_setIfInBounds_ne (by omega), Array.getElem?_setIfInBounds_ne (by omega), Array.getElem?_setIfInBounds_ne (by omega), Array.getElem?_setIfInBounds_ne (by omega)]; exact zl
  · have e : (((((((((w.alloc (.cells #[.string ⟨#[10]⟩, .string ⟨#[92]⟩] 9)).alloc (.cells (((((Zr w.heap.size).setIfInBounds 256 (.slice (some ⟨w.heap.size, 0, none⟩) 1 2)).setIfInBounds 10 (.slice (some ⟨w.heap.size + 1 + 1 + 1 + 1, 0, none⟩) 2 c1)).setIfInBounds 256 (.slice (some ⟨w.heap.size, 0, none⟩) 2 2)).setIfInBounds 92 (.slice (some ⟨w.heap.size + 1 + 1 + 1 + 1 + 1 + 1 + 1, 0, none⟩) 2 c2)) 128)).alloc (.cells #[.int .u8 10] 5)).alloc (.cells #[.string ⟨#[10]⟩] 9)).alloc (.cells C1 5 fr1)).alloc (.cells #[.int .u8 92] 5)).alloc (.cells #[.string ⟨#[92]⟩] 9)).alloc (.cells C2 5 fr2)).drew.drew).cell? ⟨w.heap.size + 1, 256, none⟩ = (((((Zr w.heap.size).setIfInBounds 256 (.slice (some ⟨w.heap.size, 0, none⟩) 1 2)).setIfInBounds 10 (.slice (some ⟨w.heap.size + 1 + 1 + 1 + 1, 0, none⟩) 2 c1)).setIfInBounds 256 (.slice (some ⟨w.heap.size, 0, none⟩) 2 2)).setIfInBounds 92 (.slice (some ⟨w.heap.size + 1 + 1 + 1 + 1 + 1 + 1 + 1, 0, none⟩) 2 c2))[256]? := by go_simp
    rw [e, Array.getElem?_setIfInBounds_ne (by omega), Array.getElem?_setIfInBounds_self]; simp [Zr_size]
  all_goals first | (go_simp; done) | (go_simp; rw [Joins.cell_alloc_mark_at _ _ _ _ _ _ (by simp)]; assumption)

set_option maxRecDepth 100000 in
set_option maxHeartbeats 4000000 in
theorem build_calls (R O c : Nat) (w : World) (h4 : w.cell? ⟨R, 4, none⟩ = some (.slice (some ⟨O, 0, none⟩) 4 c)) (hO : O < w.heap.size)
   (o0 : w.cell? ⟨O, 0, none⟩ = some (.string ⟨#[92]⟩)) (o1 : w.cell? ⟨O, 1, none⟩ = some (.string ⟨#[92, 92]⟩))
   (o2 : w.cell? ⟨O, 2, none⟩ = some (.string ⟨#[10]⟩)) (o3 : w.cell? ⟨O, 3, none⟩ = some (.string ⟨#[92, 110]⟩)) :
   Calls Tryz.prog 55 #[.pointer (some ⟨R, 0, none⟩)] w fun e w' => e = .returned (.iface 129 (.pointer (some ⟨w.heap.size + 1, 0, none⟩))) ∧ IsBsr w.heap.size (w.heap.size + 1) w' ∧ Below w.heap.size w w' := by
  have hmk : ∀ w, (Instr.makeSlice 77 (.int .i64 0) (.int .i64 2)).run Tryz.prog w = .ok (.slice (some ⟨w.heap.size, 0, none⟩) 0 2) (w.alloc (.cells #[.string ⟨#[]⟩, .string ⟨#[]⟩] 9)) := fun _ => by kernel_rfl
  have hst : (storeCells ⟨w.heap.size + 1, 0, none⟩ (Tryz.zeroCells128.toList.set 256 (.slice (some ⟨w.heap.size, 0, none⟩) 0 2)) 0).run Tryz.prog ((w.alloc (.cells #[.string ⟨#[]⟩, .string ⟨#[]⟩] 9)).alloc (.cells Tryz.zeroCells128 128)) = .ok () ((w.alloc (.cells #[.string ⟨#[]⟩, .string ⟨#[]⟩] 9)).alloc (.cells (Zr w.heap.size) 128)) := by
    have h := run_storeCells_new (P := Tryz.prog) (w.alloc (.cells #[.string ⟨#[]⟩, .string ⟨#[]⟩] 9)) 128 Tryz.zeroCells128 (Zr w.heap.size) (by rw [Zr_size]; kernel_rfl) (by rw [Zr_size]; kernel_rfl) (Zr_one _)
    rw [Zr_toList] at h
    have e : (w.alloc (.cells #[.string ⟨#[]⟩, .string ⟨#[]⟩] 9)).heap.size = w.heap.size + 1 := by simp
    rw [e] at h
    exact h
  obtain ⟨i9, hi9, hz9, hs9, hb9⟩ := info_parts (P := Tryz.prog) (e := 9) (z := .string ⟨#[]⟩) (size := 1) (bytes := 16) (by kernel_rfl)
  have hcv : (convert 40 9 (.slice (some ⟨w.heap.size + 1 + 1, 0, none⟩) 1 1)).run Tryz.prog (((w.alloc (.cells #[.string ⟨#[]⟩, .string ⟨#[]⟩] 9)).alloc (.cells (Zr w.heap.size) 128)).alloc (.cells #[.int .u8 10] 5)) = .ok (.string ⟨#[10]⟩) (((w.alloc (.cells #[.string ⟨#[]⟩, .string ⟨#[]⟩] 9)).alloc (.cells (Zr w.heap.size) 128)).alloc (.cells #[.int .u8 10] 5)) :=
    run_convert_bytes_back (P := Tryz.prog) (((w.alloc (.cells #[.string ⟨#[]⟩, .string ⟨#[]⟩] 9)).alloc (.cells (Zr w.heap.size) 128)).alloc (.cells #[.int .u8 10] 5)) 40 9 5 ⟨w.heap.size + 1 + 1, 0, none⟩ 1 [10] Tryz.underlying40 Tryz.underlying5 Tryz.underlying9 (fun j hj => by
      obtain rfl : j = 0 := by simp at hj; omega
      rw [Addr.add_zero']
      go_simp)
  have hv4 : (((((w.alloc (.cells #[.string ⟨#[]⟩, .string ⟨#[]⟩] 9)).alloc (.cells (Zr w.heap.size) 128)).alloc (.cells #[.int .u8 10] 5)).alloc (.cells #[.string ⟨#[10]⟩] 9))).cell? ⟨w.heap.size + 1 + 1 + 1, 0, none⟩ = some (.string ⟨#[10]⟩) := by go_simp
  have hw4 : ((((((w.alloc (.cells #[.string ⟨#[]⟩, .string ⟨#[]⟩] 9)).alloc (.cells (Zr w.heap.size) 128)).alloc (.cells #[.int .u8 10] 5)).alloc (.cells #[.string ⟨#[10]⟩] 9))).cell? ⟨w.heap.size, 0, none⟩).isSome = true := by go_simp
  have hf4 : (((((w.alloc (.cells #[.string ⟨#[]⟩, .string ⟨#[]⟩] 9)).alloc (.cells (Zr w.heap.size) 128)).alloc (.cells #[.int .u8 10] 5)).alloc (.cells #[.string ⟨#[10]⟩] 9))).frozen? ⟨w.heap.size, 0, none⟩ = false := by go_simp
  have hap : (Builtin.append_ #[77, 77] 77 #[.slice (some ⟨w.heap.size, 0, none⟩) 0 2, .slice (some ⟨w.heap.size + 1 + 1 + 1, 0, none⟩) 1 1]).run Tryz.prog ((((w.alloc (.cells #[.string ⟨#[]⟩, .string ⟨#[]⟩] 9)).alloc (.cells (Zr w.heap.size) 128)).alloc (.cells #[.int .u8 10] 5)).alloc (.cells #[.string ⟨#[10]⟩] 9)) = .ok (.slice (some ⟨w.heap.size, 0, none⟩) 1 2) ((((w.alloc (.cells #[.string ⟨#[10]⟩, .string ⟨#[]⟩] 9)).alloc (.cells (Zr w.heap.size) 128)).alloc (.cells #[.int .u8 10] 5)).alloc (.cells #[.string ⟨#[10]⟩] 9)) := by
    rw [append_one Tryz.prog 77 77 9 i9 Tryz.underlying77 hi9 hs9 ((((w.alloc (.cells #[.string ⟨#[]⟩, .string ⟨#[]⟩] 9)).alloc (.cells (Zr w.heap.size) 128)).alloc (.cells #[.int .u8 10] 5)).alloc (.cells #[.string ⟨#[10]⟩] 9)) w.heap.size 0 2 1 ⟨w.heap.size + 1 + 1 + 1, 0, none⟩ (.string ⟨#[10]⟩) hv4 rfl (by omega) hw4 hf4]
    go_simp
  clear hv4 hw4 hf4
  obtain ⟨c1, C1, fr1, hsb1, hC10, hC11⟩ := bytes_two Tryz.prog 9 40 5 Tryz.underlying9 Tryz.underlying40 Tryz.underlying5 ((((w.alloc (.cells #[.string ⟨#[10]⟩, .string ⟨#[]⟩] 9)).alloc (.cells ((Zr w.heap.size).setIfInBounds 256 (.slice (some ⟨w.heap.size, 0, none⟩) 1 2)) 128)).alloc (.cells #[.int .u8 10] 5)).alloc (.cells #[.string ⟨#[10]⟩] 9)) 92 110
  have q1 : ((((w.alloc (.cells #[.string ⟨#[10]⟩, .string ⟨#[]⟩] 9)).alloc (.cells ((Zr w.heap.size).setIfInBounds 256 (.slice (some ⟨w.heap.size, 0, none⟩) 1 2)) 128)).alloc (.cells #[.int .u8 10] 5)).alloc (.cells #[.string ⟨#[10]⟩] 9)).heap.size = w.heap.size + 1 + 1 + 1 + 1 := by simp
  rw [q1] at hsb1
  clear q1
  have hcv2 : (convert 40 9 (.slice (some ⟨w.heap.size + 1 + 1 + 1 + 1 + 1, 0, none⟩) 1 1)).run Tryz.prog ((((((w.alloc (.cells #[.string ⟨#[10]⟩, .string ⟨#[]⟩] 9)).alloc (.cells (((Zr w.heap.size).setIfInBounds 256 (.slice (some ⟨w.heap.size, 0, none⟩) 1 2)).setIfInBounds 10 (.slice (some ⟨w.heap.size + 1 + 1 + 1 + 1, 0, none⟩) 2 c1)) 128)).alloc (.cells #[.int .u8 10] 5)).alloc (.cells #[.string ⟨#[10]⟩] 9)).alloc (.cells C1 5 fr1)).alloc (.cells #[.int .u8 92] 5)).drew = .ok (.string ⟨#[92]⟩) ((((((w.alloc (.cells #[.string ⟨#[10]⟩, .string ⟨#[]⟩] 9)).alloc (.cells (((Zr w.heap.size).setIfInBounds 256 (.slice (some ⟨w.heap.size, 0, none⟩) 1 2)).setIfInBounds 10 (.slice (some ⟨w.heap.size + 1 + 1 + 1 + 1, 0, none⟩) 2 c1)) 128)).alloc (.cells #[.int .u8 10] 5)).alloc (.cells #[.string ⟨#[10]⟩] 9)).alloc (.cells C1 5 fr1)).alloc (.cells #[.int .u8 92] 5)).drew :=
    run_convert_bytes_back (P := Tryz.prog) ((((((w.alloc (.cells #[.string ⟨#[10]⟩, .string ⟨#[]⟩] 9)).alloc (.cells (((Zr w.heap.size).setIfInBounds 256 (.slice (some ⟨w.heap.size, 0, none⟩) 1 2)).setIfInBounds 10 (.slice (some ⟨w.heap.size + 1 + 1 + 1 + 1, 0, none⟩) 2 c1)) 128)).alloc (.cells #[.int .u8 10] 5)).alloc (.cells #[.string ⟨#[10]⟩] 9)).alloc (.cells C1 5 fr1)).alloc (.cells #[.int .u8 92] 5)).drew 40 9 5 ⟨w.heap.size + 1 + 1 + 1 + 1 + 1, 0, none⟩ 1 [92] Tryz.underlying40 Tryz.underlying5 Tryz.underlying9 (fun j hj => by
      obtain rfl : j = 0 := by simp at hj; omega
      rw [Addr.add_zero']
      go_simp)
  have hv7 : ((((((((w.alloc (.cells #[.string ⟨#[10]⟩, .string ⟨#[]⟩] 9)).alloc (.cells (((Zr w.heap.size).setIfInBounds 256 (.slice (some ⟨w.heap.size, 0, none⟩) 1 2)).setIfInBounds 10 (.slice (some ⟨w.heap.size + 1 + 1 + 1 + 1, 0, none⟩) 2 c1)) 128)).alloc (.cells #[.int .u8 10] 5)).alloc (.cells #[.string ⟨#[10]⟩] 9)).alloc (.cells C1 5 fr1)).alloc (.cells #[.int .u8 92] 5)).alloc (.cells #[.string ⟨#[92]⟩] 9)).drew).cell? ⟨w.heap.size + 1 + 1 + 1 + 1 + 1 + 1, 0, none⟩ = some (.string ⟨#[92]⟩) := by go_simp
  have hw7 : (((((((((w.alloc (.cells #[.string ⟨#[10]⟩, .string ⟨#[]⟩] 9)).alloc (.cells (((Zr w.heap.size).setIfInBounds 256 (.slice (some ⟨w.heap.size, 0, none⟩) 1 2)).setIfInBounds 10 (.slice (some ⟨w.heap.size + 1 + 1 + 1 + 1, 0, none⟩) 2 c1)) 128)).alloc (.cells #[.int .u8 10] 5)).alloc (.cells #[.string ⟨#[10]⟩] 9)).alloc (.cells C1 5 fr1)).alloc (.cells #[.int .u8 92] 5)).alloc (.cells #[.string ⟨#[92]⟩] 9)).drew).cell? ⟨w.heap.size, 1, none⟩).isSome = true := by go_simp
  have hf7 : ((((((((w.alloc (.cells #[.string ⟨#[10]⟩, .string ⟨#[]⟩] 9)).alloc (.cells (((Zr w.heap.size).setIfInBounds 256 (.slice (some ⟨w.heap.size, 0, none⟩) 1 2)).setIfInBounds 10 (.slice (some ⟨w.heap.size + 1 + 1 + 1 + 1, 0, none⟩) 2 c1)) 128)).alloc (.cells #[.int .u8 10] 5)).alloc (.cells #[.string ⟨#[10]⟩] 9)).alloc (.cells C1 5 fr1)).alloc (.cells #[.int .u8 92] 5)).alloc (.cells #[.string ⟨#[92]⟩] 9)).drew).frozen? ⟨w.heap.size, 1, none⟩ = false := by go_simp
  have hap2 : (Builtin.append_ #[77, 77] 77 #[.slice (some ⟨w.heap.size, 0, none⟩) 1 2, .slice (some ⟨w.heap.size + 1 + 1 + 1 + 1 + 1 + 1, 0, none⟩) 1 1]).run Tryz.prog ((((((((w.alloc (.cells #[.string ⟨#[10]⟩, .string ⟨#[]⟩] 9)).alloc (.cells (((Zr w.heap.size).setIfInBounds 256 (.slice (some ⟨w.heap.size, 0, none⟩) 1 2)).setIfInBounds 10 (.slice (some ⟨w.heap.size + 1 + 1 + 1 + 1, 0, none⟩) 2 c1)) 128)).alloc (.cells #[.int .u8 10] 5)).alloc (.cells #[.string ⟨#[10]⟩] 9)).alloc (.cells C1 5 fr1)).alloc (.cells #[.int .u8 92] 5)).alloc (.cells #[.string ⟨#[92]⟩] 9)).drew) = .ok (.slice (some ⟨w.heap.size, 0, none⟩) 2 2) ((((((((w.alloc (.cells #[.string ⟨#[10]⟩, .string ⟨#[92]⟩] 9)).alloc (.cells (((Zr w.heap.size).setIfInBounds 256 (.slice (some ⟨w.heap.size, 0, none⟩) 1 2)).setIfInBounds 10 (.slice (some ⟨w.heap.size + 1 + 1 + 1 + 1, 0, none⟩) 2 c1)) 128)).alloc (.cells #[.int .u8 10] 5)).alloc (.cells #[.string ⟨#[10]⟩] 9)).alloc (.cells C1 5 fr1)).alloc (.cells #[.int .u8 92] 5)).alloc (.cells #[.string ⟨#[92]⟩] 9)).drew) := by
    rw [append_one Tryz.prog 77 77 9 i9 Tryz.underlying77 hi9 hs9 ((((((((w.alloc (.cells #[.string ⟨#[10]⟩, .string ⟨#[]⟩] 9)).alloc (.cells (((Zr w.heap.size).setIfInBounds 256 (.slice (some ⟨w.heap.size, 0, none⟩) 1 2)).setIfInBounds 10 (.slice (some ⟨w.heap.size + 1 + 1 + 1 + 1, 0, none⟩) 2 c1)) 128)).alloc (.cells #[.int .u8 10] 5)).alloc (.cells #[.string ⟨#[10]⟩] 9)).alloc (.cells C1 5 fr1)).alloc (.cells #[.int .u8 92] 5)).alloc (.cells #[.string ⟨#[92]⟩] 9)).drew) w.heap.size 1 2 1 ⟨w.heap.size + 1 + 1 + 1 + 1 + 1 + 1, 0, none⟩ (.string ⟨#[92]⟩) hv7 rfl (by omega) hw7 hf7]
    go_simp
  clear hv7 hw7 hf7
  obtain ⟨c2, C2, fr2, hsb2, hC20, hC21⟩ := bytes_two Tryz.prog 9 40 5 Tryz.underlying9 Tryz.underlying40 Tryz.underlying5 ((((((((w.alloc (.cells #[.string ⟨#[10]⟩, .string ⟨#[92]⟩] 9)).alloc (.cells ((((Zr w.heap.size).setIfInBounds 256 (.slice (some ⟨w.heap.size, 0, none⟩) 1 2)).setIfInBounds 10 (.slice (some ⟨w.heap.size + 1 + 1 + 1 + 1, 0, none⟩) 2 c1)).setIfInBounds 256 (.slice (some ⟨w.heap.size, 0, none⟩) 2 2)) 128)).alloc (.cells #[.int .u8 10] 5)).alloc (.cells #[.string ⟨#[10]⟩] 9)).alloc (.cells C1 5 fr1)).alloc (.cells #[.int .u8 92] 5)).alloc (.cells #[.string ⟨#[92]⟩] 9)).drew) 92 92
  have q2 : ((((((((w.alloc (.cells #[.string ⟨#[10]⟩, .string ⟨#[92]⟩] 9)).alloc (.cells ((((Zr w.heap.size).setIfInBounds 256 (.slice (some ⟨w.heap.size, 0, none⟩) 1 2)).setIfInBounds 10 (.slice (some ⟨w.heap.size + 1 + 1 + 1 + 1, 0, none⟩) 2 c1)).setIfInBounds 256 (.slice (some ⟨w.heap.size, 0, none⟩) 2 2)) 128)).alloc (.cells #[.int .u8 10] 5)).alloc (.cells #[.string ⟨#[10]⟩] 9)).alloc (.cells C1 5 fr1)).alloc (.cells #[.int .u8 92] 5)).alloc (.cells #[.string ⟨#[92]⟩] 9)).drew).heap.size = w.heap.size + 1 + 1 + 1 + 1 + 1 + 1 + 1 := by go_simp
  rw [q2] at hsb2
  clear q2
  have HF := Lib.hid (bsr_made w c1 c2 C1 C2 fr1 fr2 hC10 hC11 hC20 hC21)
  have z10 := Zr_at w.heap.size 10 (by omega)
  have z92 := Zr_at w.heap.size 92 (by omega)
  have z256 : ∀ h, (Zr w.heap.size)[256]'h = .slice (some ⟨w.heap.size, 0, none⟩) 0 2 := fun h => by have := Zr_high w.heap.size; rw [Array.getElem?_eq_getElem h] at this; exact Option.some.inj this
  have zs := Zr_size w.heap.size
  have hnil := fun w a l c => Lib.run_eql_slice_nil (P := Tryz.prog) w 40 5 a l c 0 0 Tryz.underlying40
  have b10 : ∀ h, ((⟨#[10]⟩ : ByteArray)[0]'h).toNat = 10 := fun _ => rfl
  have b92 : ∀ h, ((⟨#[92]⟩ : ByteArray)[0]'h).toNat = 92 := fun _ => rfl
  have hO1 : O < w.heap.size + 1 := by omega
  have hO2 : O < w.heap.size + 1 + 1 := by omega
  have hO3 : O < w.heap.size + 1 + 1 + 1 := by omega
  have hO4 : O < w.heap.size + 1 + 1 + 1 + 1 := by omega
  have hO5 : O < w.heap.size + 1 + 1 + 1 + 1 + 1 := by omega
  have hO6 : O < w.heap.size + 1 + 1 + 1 + 1 + 1 + 1 := by omega
  have hO7 : O < w.heap.size + 1 + 1 + 1 + 1 + 1 + 1 + 1 := by omega
  clear hC10 hC11 hC20 hC21 hi9 hz9 hs9 hb9
  go_enter Tryz.func55, Tryz.ntmps55
  go_wp2_with fail
  refine wp_loop_rounds 3 ?_
  rw [rounds_succ]
  go_wp2_with fail
  rw [rounds_succ]
  go_wp2_with fail
  rw [rounds_succ]
  go_wp2_with fail
  refine wp_loop_rounds 3 ?_
  rw [rounds_succ]
  go_wp2_with fail
  rw [rounds_succ]
  go_wp2_with fail
  rw [rounds_succ]
  go_wp2_with fail
  go_ret
  refine ⟨rfl, HF.out, ?_⟩
  exact (((((((((Below.refl _ _).alloc (Nat.le_refl _) _).alloc (by simp) _).alloc (by simp; omega) _).alloc (by simp; omega) _).alloc (by simp; omega) _).alloc (by simp; omega) _).alloc (by simp; omega) _).alloc (by simp; omega) _).drew.drew
end Go.Proofs.YtpkcbbjflcfdeaaGreatDoor.P
