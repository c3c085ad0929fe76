/- What the claim's theorem leans on. Conditions: none of its own. (Written by prune.py out of the texts OpenL OpenM SamesJ LaidRow, without what the claim doesn't lean on.) -/
import Derived.WalkKit
import Derived.Deep.SlicePairs
import Derived.ChangeArms
import Derived.SizedLaws
import Derived.Lib.SmallJoins
import Derived.Test.YtkblmomfiimkiaaGreatDoorRows
import Derived.Lib.LaidTab
import Derived.Lib.LaidU8
import Derived.LaidHandle
import Derived.Stop.LaidErr
import Derived.Test.YtkblmomfiimkiaaGreatDoorS2
import Derived.Test.YtkblmomfiimkiaaGreatDoorS10
import Derived.Test.YtkblmomfiimkiaaGreatDoorS24
import Derived.Test.YtkblmomfiimkiaaGreatDoorS27
section
namespace Go.Proofs.YtkblmomfiimkiaaGreatDoor.P
open Go.RowKit Go.Proofs.YtkblmomfiimkiaaGreatDoorW.PrintWords Go.Proofs.YtkblmomfiimkiaaGreatDoorW.PrintLast Go.Proofs.YtkblmomfiimkiaaGreatDoorW.PrintMore
open Go.ChangeShapes Go.WideShapes
section
variable {H : Type} {enc : TypeId × Value → H} {W : World} {base : Nat} {spare : Nat → Bool} {held : Bool} {fuel : Nat}
def Sized (t : TypeId) (d : DataW H) : Prop := (DataW.weights Tryz.prog t d).all (· ≤ reachBytes) = true
theorem sized_part {t tj : TypeId} {fs : Array Field} {parts : List (DataW H)} {dj : DataW H} {j : Nat} (h : Sized t (.agg parts)) (hu : Tryz.prog.underlying t = some (.struct fs)) (ht : (fs.toList.map (·.type))[j]? = some tj) (hd : parts[j]? = some dj) : Sized tj dj := by
 unfold Sized at h ⊢
 rw [List.all_eq_true] at h ⊢
 intro x hx
 refine h x ?_
 rw [DataW.weights, hu]
 exact DataW.weights_mem_each ht hd x hx
theorem weights_mem_all {e : TypeId} : ∀ {l : List (DataW H)} {d : DataW H}, d ∈ l → ∀ x ∈ DataW.weights Tryz.prog e d, x ∈ DataW.weightsAll Tryz.prog e l
 | a :: l, d, hd, x, hx => by
  rw [DataW.weightsAll, List.mem_append]
  rcases List.mem_cons.1 hd with rfl | h
  ·
   exact Or.inl hx
  ·
   exact Or.inr (weights_mem_all h x hx)
theorem sized_elem {t e : TypeId} {elems rest : List (DataW H)} {d : DataW H} (h : Sized t (.slice elems rest)) (hu : Tryz.prog.underlying t = some (.slice e)) (hd : d ∈ elems) : Sized e d := by
 unfold Sized at h ⊢
 rw [List.all_eq_true] at h ⊢
 intro x hx
 refine h x ?_
 rw [DataW.weights, hu]
 exact List.mem_cons_of_mem _ (List.mem_append.2 (Or.inl (weights_mem_all hd x hx)))
theorem sized_len {t e : TypeId} {elems rest : List (DataW H)} (h : Sized t (.slice elems rest)) (hu : Tryz.prog.underlying t = some (.slice e)) : (elems.length + rest.length) * Tryz.prog.bytesOf e ≤ reachBytes := by
 unfold Sized at h
 rw [List.all_eq_true] at h
 have := h ((elems.length + rest.length) * Tryz.prog.bytesOf e) (by rw [DataW.weights, hu]; exact List.mem_cons_self ..)
 simpa using this
theorem str_of_trod {cs : List Value} {x : DataW H × List MemPlace} (h : DataW.trod enc Tryz.prog W base spare held fuel 9 cs = some x) (hs : Sized 9 x.1) : ∃ s : ByteArray, cs = [.string s] ∧ s.size ≤ 140737488351232 := by
 obtain ⟨s, e, rfl, _⟩ := DataW.trod_string Tryz.underlying9 h
 refine ⟨s, e, ?_⟩
 unfold Sized at hs
 rw [DataW.weights] at hs
 have : s.data.toList.length ≤ reachBytes := by simpa using hs
 have e2 : s.data.toList.length = s.size := by simp
 have e3 : reachBytes = 140737488351232 := rfl
 omega
theorem int_of_trod {cs : List Value} {x : DataW H × List MemPlace} (h : DataW.trod enc Tryz.prog W base spare held fuel 3 cs = some x) : ∃ n : Int, cs = [.int .i64 n] ∧ (Lit.int .i64 n).wf = true := by
 obtain ⟨n, e, _, hw⟩ := DataW.trod_int Tryz.underlying3 h
 exact ⟨n, e, hw⟩
theorem int64_of_trod {cs : List Value} {x : DataW H × List MemPlace} (h : DataW.trod enc Tryz.prog W base spare held fuel 2 cs = some x) : ∃ n : Int, cs = [.int .i64 n] ∧ (Lit.int .i64 n).wf = true := by
 obtain ⟨n, e, _, hw⟩ := DataW.trod_int Tryz.underlying2 h
 exact ⟨n, e, hw⟩
def FieldS (f : S43) : Prop := f.f0.size ≤ 140737488351232 ∧ f.f1.size ≤ 140737488351232
def DocS (x : S38) : Prop := (Lit.int .i64 x.f0).wf = true ∧ x.f1.size ≤ 140737488351232 ∧ x.f2.size ≤ 140737488351232 ∧ x.f3.length * 32 ≤ 140737488351232 ∧ ∀ f ∈ x.f3, FieldS f
theorem list_two {α : Type} {l : List α} (h : l.length = 2) : ∃ a b, l = [a, b] := by
 match l, h with
 | [a, b], _ => exact ⟨a, b, rfl⟩
theorem list_four {α : Type} {l : List α} (h : l.length = 4) : ∃ a b c d, l = [a, b, c, d] := by
 match l, h with
 | [a, b, c, d], _ => exact ⟨a, b, c, d, rfl⟩
theorem field_of_trod {cs : List Value} {x : DataW H × List MemPlace} (h : DataW.trod enc Tryz.prog W base spare held fuel 43 cs = some x) (hs : Sized 43 x.1) : ∃ f : S43, cs = [.string f.f0, .string f.f1] ∧ FieldS f := by
 obtain ⟨xs, n, _, rfl, hl, hlen, hf⟩ := DataW.trod_struct Tryz.underlying43 h
 have hl2 : cs.length = 2 := hl.trans (by kernel_rfl)
 have hx2 : xs.length = 2 := hlen
 obtain ⟨v0, v1, rfl⟩ := list_two hl2
 obtain ⟨y0, y1, rfl⟩ := list_two hx2
 have c1 : Tryz.prog.cellsOf 9 = 1 := by kernel_rfl
 have g0 : DataW.trod enc Tryz.prog W base spare held n 9 (([v0, v1].drop 0).take (Tryz.prog.cellsOf 9)) = some y0 := hf 0 _ rfl
 have g1 : DataW.trod enc Tryz.prog W base spare held n 9 (([v0, v1].drop 1).take (Tryz.prog.cellsOf 9)) = some y1 := hf 1 _ rfl
 rw [c1] at g0 g1
 obtain ⟨s0, e0, z0⟩ := str_of_trod g0 (sized_part (j := 0) hs Tryz.underlying43 rfl rfl)
 obtain ⟨s1, e1, z1⟩ := str_of_trod g1 (sized_part (j := 1) hs Tryz.underlying43 rfl rfl)
 have e0' : v0 = .string s0 := by simpa using e0
 have e1' : v1 = .string s1 := by simpa using e1
 exact ⟨⟨s0, s1⟩, by rw [e0', e1'], z0, z1⟩
theorem row_of {α : Type} {d : Kd α} {a : Addr} {len : Nat} {Pr : α → Prop} (each : ∀ i, i < len → ∃ (cs : List Value) (x : α), W.cells? base (a.add (i * d.sz)) d.sz = some cs ∧ d.K W x cs ∧ Pr x) (hl : len ≤ maxLen) (hp : 0 < len) :
  ∃ l : List α, l.length = len ∧ d.C W (some a) len l ∧ ∀ x ∈ l, Pr x := by
 have each' : ∀ i, i < len → ∃ q : List Value × α, W.cells? base (a.add (i * d.sz)) d.sz = some q.1 ∧ d.K W q.2 q.1 ∧ Pr q.2 := fun i hi => by
  obtain ⟨cs, x, h1, h2, h3⟩ := each i hi
  exact ⟨(cs, x), h1, h2, h3⟩
 haveI : Inhabited (List Value × α) := ⟨(each' 0 hp).choose⟩
 obtain ⟨q, hq⟩ := Go.Deep.choose_lt each'
 refine ⟨(List.range len).map (fun i => (q i).2), by simp, ⟨by simp, by have : maxLen = 9223372036854775807 := rfl; omega, fun _ => ⟨a, rfl, fun j p hj => ?_⟩⟩, ?_⟩
 ·
  obtain ⟨hj1, hj2⟩ := List.getElem?_eq_some_iff.1 hj
  rw [List.length_map, List.length_range] at hj1
  rw [List.getElem_map, List.getElem_range] at hj2
  subst hj2
  obtain ⟨h1, h2, _⟩ := hq j hj1
  obtain ⟨_, hlen, hcell⟩ := World.cells?_some h1
  refine ⟨_, hlen, h2, fun i u hu => ?_⟩
  have hi : i < d.sz := by rw [← hlen]; exact (List.getElem?_eq_some_iff.1 hu).1
  have := hcell i hi
  rw [add_add] at this
  rw [this, hu]
 ·
  intro x hx
  obtain ⟨i, hi, rfl⟩ := List.mem_map.1 hx
  exact (hq i (List.mem_range.1 hi)).2.2
theorem fields_of_trod {v : Value} {x : DataW H × List MemPlace} (h : DataW.trod enc Tryz.prog W base spare held fuel 36 [v] = some x) (hs : Sized 36 x.1) :
  ∃ (A : Option Addr) (c : Nat) (l : List S43), v = .slice A l.length c ∧ l.length ≤ c ∧ Kd.C k43 W A l.length l ∧ l.length * 32 ≤ 140737488351232 ∧ ∀ f ∈ l, FieldS f := by
 rcases Go.Deep.open_slice Tryz.underlying36 h with ⟨e, _⟩ | ⟨a, len, cap, m, n, D, Pl, e, _, hl, hm, hmm, rfl, hx⟩
 ·
  have e' : v = .slice none 0 0 := by simpa using e
  exact ⟨none, 0, [], e', Nat.le_refl _, ⟨rfl, by simp, fun h => absurd h (Nat.lt_irrefl 0)⟩, by simp, fun f hf => by cases hf⟩
 ·
  have e' : v = .slice (some a) len cap := by simpa using e
  have hb : Tryz.prog.bytesOf 43 = 32 := by kernel_rfl
  have hsz := sized_len hs Tryz.underlying36
  rw [hb, List.length_map, List.length_range] at hsz
  have e3 : reachBytes = 140737488351232 := rfl
  have hlm : len ≤ m := by rw [hmm]; split <;> omega
  by_cases h0 : len = 0
  ·
   subst h0
   exact ⟨some a, cap, [], e', hl, ⟨rfl, by simp, fun h => absurd h (Nat.lt_irrefl 0)⟩, by simp, fun f hf => by cases hf⟩
  ·
   have hc : Tryz.prog.cellsOf 43 = 2 := by kernel_rfl
   rw [hc] at hx
   obtain ⟨l, h1, h2, h3⟩ := row_of (base := base) (W := W) (d := k43) (a := a) (len := len) (Pr := FieldS) (fun i hi => by
    obtain ⟨cs, g1, g2⟩ := hx i (by omega)
    obtain ⟨f, rfl, hf⟩ := field_of_trod g2 (sized_elem hs Tryz.underlying36 (List.mem_map.2 ⟨i, List.mem_range.2 hi, rfl⟩))
    exact ⟨_, f, g1, k43_mk _ _, hf⟩) (by omega) (by omega)
   exact ⟨some a, cap, l, by rw [e', h1], by omega, by rw [h1]; exact h2, by omega, h3⟩
theorem doc_of_trod {cs : List Value} {x : DataW H × List MemPlace} (h : DataW.trod enc Tryz.prog W base spare held fuel 38 cs = some x) (hs : Sized 38 x.1) : ∃ f : S38, k38.K W f cs ∧ DocS f := by
 obtain ⟨xs, n, _, rfl, hl, hlen, hf⟩ := DataW.trod_struct Tryz.underlying38 h
 have hl2 : cs.length = 4 := hl.trans (by kernel_rfl)
 have hx2 : xs.length = 4 := hlen
 obtain ⟨v0, v1, v2, v3, rfl⟩ := list_four hl2
 obtain ⟨y0, y1, y2, y3, rfl⟩ := list_four hx2
 have c0 : Tryz.prog.cellsOf 3 = 1 := by kernel_rfl
 have c1 : Tryz.prog.cellsOf 9 = 1 := by kernel_rfl
 have c3 : Tryz.prog.cellsOf 36 = 1 := by kernel_rfl
 have g0 : DataW.trod enc Tryz.prog W base spare held n 3 (([v0, v1, v2, v3].drop 0).take (Tryz.prog.cellsOf 3)) = some y0 := hf 0 _ rfl
 have g1 : DataW.trod enc Tryz.prog W base spare held n 9 (([v0, v1, v2, v3].drop 1).take (Tryz.prog.cellsOf 9)) = some y1 := hf 1 _ rfl
 have g2 : DataW.trod enc Tryz.prog W base spare held n 9 (([v0, v1, v2, v3].drop 2).take (Tryz.prog.cellsOf 9)) = some y2 := hf 2 _ rfl
 have g3 : DataW.trod enc Tryz.prog W base spare held n 36 (([v0, v1, v2, v3].drop 3).take (Tryz.prog.cellsOf 36)) = some y3 := hf 3 _ rfl
 rw [c0] at g0
 rw [c1] at g1 g2
 rw [c3] at g3
 obtain ⟨s0, e0, z0⟩ := int_of_trod g0
 obtain ⟨s1, e1, z1⟩ := str_of_trod g1 (sized_part (j := 1) hs Tryz.underlying38 rfl rfl)
 obtain ⟨s2, e2, z2⟩ := str_of_trod g2 (sized_part (j := 2) hs Tryz.underlying38 rfl rfl)
 obtain ⟨A, c, l, e3, l3, h3, m3, f3⟩ := fields_of_trod g3 (sized_part (j := 3) hs Tryz.underlying38 rfl rfl)
 have e0' : v0 = .int .i64 s0 := by simpa using e0
 have e1' : v1 = .string s1 := by simpa using e1
 have e2' : v2 = .string s2 := by simpa using e2
 exact ⟨⟨s0, s1, s2, l⟩, by rw [e0', e1', e2', e3]; exact k38_mk W ⟨s0, s1, s2, l⟩ l3 h3, z0, z1, z2, m3, f3⟩
theorem docs_of_trod {v : Value} {x : DataW H × List MemPlace} (h : DataW.trod enc Tryz.prog W base spare held fuel 31 [v] = some x) (hs : Sized 31 x.1) :
  ∃ (A : Option Addr) (c : Nat) (l : List S38), v = .slice A l.length c ∧ l.length ≤ c ∧ Kd.C k38 W A l.length l ∧ l.length * 64 ≤ 140737488351232 ∧ ∀ f ∈ l, DocS f := by
 rcases Go.Deep.open_slice Tryz.underlying31 h with ⟨e, _⟩ | ⟨a, len, cap, m, n, D, Pl, e, _, hl, hm, hmm, rfl, hx⟩
 ·
  have e' : v = .slice none 0 0 := by simpa using e
  exact ⟨none, 0, [], e', Nat.le_refl _, ⟨rfl, by simp, fun h => absurd h (Nat.lt_irrefl 0)⟩, by simp, fun f hf => by cases hf⟩
 ·
  have e' : v = .slice (some a) len cap := by simpa using e
  have hb : Tryz.prog.bytesOf 38 = 64 := by kernel_rfl
  have hsz := sized_len hs Tryz.underlying31
  rw [hb, List.length_map, List.length_range] at hsz
  have e3 : reachBytes = 140737488351232 := rfl
  have hlm : len ≤ m := by rw [hmm]; split <;> omega
  by_cases h0 : len = 0
  ·
   subst h0
   exact ⟨some a, cap, [], e', hl, ⟨rfl, by simp, fun h => absurd h (Nat.lt_irrefl 0)⟩, by simp, fun f hf => by cases hf⟩
  ·
   have hc : Tryz.prog.cellsOf 38 = 4 := by kernel_rfl
   rw [hc] at hx
   obtain ⟨l, h1, h2, h3⟩ := row_of (base := base) (W := W) (d := k38) (a := a) (len := len) (Pr := DocS) (fun i hi => by
    obtain ⟨cs, g1, g2⟩ := hx i (by omega)
    obtain ⟨f, hk, hf⟩ := doc_of_trod g2 (sized_elem hs Tryz.underlying31 (List.mem_map.2 ⟨i, List.mem_range.2 hi, rfl⟩))
    exact ⟨_, f, g1, hk, hf⟩) (by omega) (by omega)
   exact ⟨some a, cap, l, by rw [e', h1], by omega, by rw [h1]; exact h2, by omega, h3⟩
theorem texts_of_trod {v : Value} {x : DataW H × List MemPlace} (h : DataW.trod enc Tryz.prog W base spare held fuel 23 [v] = some x) (hs : Sized 23 x.1) :
  ∃ (A : Option Addr) (c : Nat) (l : List ByteArray), v = .slice A l.length c ∧ l.length ≤ c ∧ Kd.C Kd.string W A l.length l ∧ l.length * 16 ≤ 140737488351232 ∧ ∀ s ∈ l, s.size ≤ 140737488351232 := by
 rcases Go.Deep.open_slice Tryz.underlying23 h with ⟨e, _⟩ | ⟨a, len, cap, m, n, D, Pl, e, _, hl, hm, hmm, rfl, hx⟩
 ·
  have e' : v = .slice none 0 0 := by simpa using e
  exact ⟨none, 0, [], e', Nat.le_refl _, ⟨rfl, by simp, fun h => absurd h (Nat.lt_irrefl 0)⟩, by simp, fun f hf => by cases hf⟩
 ·
  have e' : v = .slice (some a) len cap := by simpa using e
  have hb : Tryz.prog.bytesOf 9 = 16 := by kernel_rfl
  have hsz := sized_len hs Tryz.underlying23
  rw [hb, List.length_map, List.length_range] at hsz
  have e3 : reachBytes = 140737488351232 := rfl
  have hlm : len ≤ m := by rw [hmm]; split <;> omega
  by_cases h0 : len = 0
  ·
   subst h0
   exact ⟨some a, cap, [], e', hl, ⟨rfl, by simp, fun h => absurd h (Nat.lt_irrefl 0)⟩, by simp, fun f hf => by cases hf⟩
  ·
   have hc : Tryz.prog.cellsOf 9 = 1 := by kernel_rfl
   rw [hc] at hx
   obtain ⟨l, h1, h2, h3⟩ := row_of (base := base) (W := W) (d := Kd.string) (a := a) (len := len) (Pr := fun s => s.size ≤ 140737488351232) (fun i hi => by
    obtain ⟨cs, g1, g2⟩ := hx i (by omega)
    obtain ⟨f, rfl, hf⟩ := str_of_trod g2 (sized_elem hs Tryz.underlying23 (List.mem_map.2 ⟨i, List.mem_range.2 hi, rfl⟩))
    exact ⟨_, f, g1, rfl, hf⟩) (by omega) (by omega)
   exact ⟨some a, cap, l, by rw [e', h1], by omega, by rw [h1]; exact h2, by omega, h3⟩
end
end Go.Proofs.YtkblmomfiimkiaaGreatDoor.P
end

section
namespace Go.Proofs.YtkblmomfiimkiaaGreatDoor.P
open Go.RowKit Go.Proofs.YtkblmomfiimkiaaGreatDoorW.PrintWords Go.Proofs.YtkblmomfiimkiaaGreatDoorW.PrintLast Go.Proofs.YtkblmomfiimkiaaGreatDoorW.PrintMore
open Go.ChangeShapes Go.WideShapes
section
variable {H : Type} {enc : TypeId × Value → H} {W : World} {base : Nat} {spare : Nat → Bool} {held : Bool} {fuel : Nat}
theorem list_13 {α : Type} {l : List α} (h : l.length = 13) : ∃ a0 a1 a2 a3 a4 a5 a6 a7 a8 a9 a10 a11 a12, l = [a0, a1, a2, a3, a4, a5, a6, a7, a8, a9, a10, a11, a12] := by
 match l, h with
 | [a0, a1, a2, a3, a4, a5, a6, a7, a8, a9, a10, a11, a12], _ => exact ⟨a0, a1, a2, a3, a4, a5, a6, a7, a8, a9, a10, a11, a12, rfl⟩
theorem list_14 {α : Type} {l : List α} (h : l.length = 14) : ∃ a0 a1 a2 a3 a4 a5 a6 a7 a8 a9 a10 a11 a12 a13, l = [a0, a1, a2, a3, a4, a5, a6, a7, a8, a9, a10, a11, a12, a13] := by
 match l, h with
 | [a0, a1, a2, a3, a4, a5, a6, a7, a8, a9, a10, a11, a12, a13], _ => exact ⟨a0, a1, a2, a3, a4, a5, a6, a7, a8, a9, a10, a11, a12, a13, rfl⟩
theorem money_of_trod {u0 u1 : Value} {x : DataW H × List MemPlace} (h : DataW.trod enc Tryz.prog W base spare held fuel 30 [u0, u1] = some x) (hs : Sized 30 x.1) : ∃ (s : ByteArray) (m : Int), u0 = .string s ∧ u1 = .int .i64 m ∧ s.size ≤ 140737488351232 ∧ (Lit.int .i64 m).wf = true := by
 obtain ⟨xs, n, _, rfl, _, hlen, hf⟩ := DataW.trod_struct Tryz.underlying30 h
 have hx2 : xs.length = 2 := hlen
 obtain ⟨y0, y1, rfl⟩ := list_two hx2
 have c0 : Tryz.prog.cellsOf 9 = 1 := by kernel_rfl
 have c1 : Tryz.prog.cellsOf 2 = 1 := by kernel_rfl
 have g0 : DataW.trod enc Tryz.prog W base spare held n 9 (([u0, u1].drop 0).take (Tryz.prog.cellsOf 9)) = some y0 := hf 0 _ rfl
 have g1 : DataW.trod enc Tryz.prog W base spare held n 2 (([u0, u1].drop 1).take (Tryz.prog.cellsOf 2)) = some y1 := hf 1 _ rfl
 rw [c0] at g0
 rw [c1] at g1
 obtain ⟨s0, e0, z0⟩ := str_of_trod g0 (sized_part (j := 0) hs Tryz.underlying30 rfl rfl)
 obtain ⟨s1, e1, z1⟩ := int64_of_trod g1
 exact ⟨s0, s1, by simpa using e0, by simpa using e1, z0, z1⟩
structure LetterS (x : S33) : Prop where
 s0 : x.f0.size ≤ 140737488351232
 s1 : x.f1.size ≤ 140737488351232
 s2 : (Lit.int .i64 x.f2).wf = true
 s3 : (Lit.int .i64 x.f3).wf = true
 s4 : (Lit.int .i64 x.f4).wf = true
 s5 : x.f5.size ≤ 140737488351232
 s6 : x.f6.size ≤ 140737488351232
 s7 : x.f7.size ≤ 140737488351232
 s8 : (Lit.int .i64 x.f8).wf = true
 s9 : (Lit.int .i64 x.f9).wf = true
 s10 : x.f10.f0.size ≤ 140737488351232 ∧ (Lit.int .i64 x.f10.f1).wf = true
 s11 : x.f11.length * 64 ≤ 140737488351232 ∧ ∀ d ∈ x.f11, DocS d
 s12 : x.f12.length * 16 ≤ 140737488351232 ∧ ∀ s ∈ x.f12, s.size ≤ 140737488351232
def letterV (x : S33) (A12 : Option Addr) (c12 : Nat) (A13 : Option Addr) (c13 : Nat) : Value :=
 .agg #[.string x.f0, .string x.f1, .int .i64 x.f2, .int .i64 x.f3, .int .i64 x.f4, .string x.f5, .string x.f6, .string x.f7, .int .i64 x.f8, .int .i64 x.f9, .string x.f10.f0, .int .i64 x.f10.f1, .slice A12 x.f11.length c12, .slice A13 x.f12.length c13]
structure LetterC (W : World) (x : S33) (A12 : Option Addr) (c12 : Nat) (A13 : Option Addr) (c13 : Nat) : Prop where
 l12 : x.f11.length ≤ c12
 r12 : Kd.C k38 W A12 x.f11.length x.f11
 l13 : x.f12.length ≤ c13
 r13 : Kd.C Kd.string W A13 x.f12.length x.f12
set_option maxRecDepth 10000 in
theorem open_letter {r : Reach} {b0 : Nat} {v : Value} {d : DataW H} {p : List MemPlace} (hv : Value.okWide Tryz.prog W r b0 33 v) (h : DataW.Trod enc Tryz.prog W base spare held 33 v d p) (hs : Sized 33 d) :
  ∃ (x : S33) (A12 : Option Addr) (c12 : Nat) (A13 : Option Addr) (c13 : Nat), v = letterV x A12 c12 A13 c13 ∧ LetterS x ∧ LetterC W x A12 c12 A13 c13 := by
 obtain ⟨cs, rfl, hsz⟩ := okWide_struct Tryz.underlying33 hv
 obtain ⟨fuel, hf0⟩ := h
 have c33_ : Tryz.prog.cellsOf 33 = 14 := by kernel_rfl
 have hcl : cs.toList.length = 14 := by rw [Array.length_toList, hsz, c33_]
 have hcs : (Value.agg cs).cells = cs := rfl
 rw [hcs] at hf0
 obtain ⟨v0, v1, v2, v3, v4, v5, v6, v7, v8, v9, v10, v11, v12, v13, hcv⟩ := list_14 hcl
 rw [hcv] at hf0
 obtain ⟨xs, n, _, hx, _, hlen, hf⟩ := DataW.trod_struct Tryz.underlying33 hf0
 have hx13 : xs.length = 13 := hlen
 obtain ⟨y0, y1, y2, y3, y4, y5, y6, y7, y8, y9, y10, y11, y12, rfl⟩ := list_13 hx13
 have hd : d = .agg (List.map (·.1) [y0, y1, y2, y3, y4, y5, y6, y7, y8, y9, y10, y11, y12]) := (Prod.mk.inj hx).1
 rw [hd] at hs
 have cS : Tryz.prog.cellsOf 9 = 1 := by kernel_rfl
 have cI : Tryz.prog.cellsOf 3 = 1 := by kernel_rfl
 have cM : Tryz.prog.cellsOf 30 = 2 := by kernel_rfl
 have cD : Tryz.prog.cellsOf 31 = 1 := by kernel_rfl
 have cB : Tryz.prog.cellsOf 23 = 1 := by kernel_rfl
 have g0 : DataW.trod enc Tryz.prog W base spare held n 9 (([v0, v1, v2, v3, v4, v5, v6, v7, v8, v9, v10, v11, v12, v13].drop 0).take (Tryz.prog.cellsOf 9)) = some y0 := hf 0 _ rfl
 rw [cS] at g0
 obtain ⟨a0, e0, z0⟩ := str_of_trod g0 (sized_part (j := 0) hs Tryz.underlying33 rfl rfl)
 have q0 : v0 = .string a0 := by simpa using e0
 have g1 : DataW.trod enc Tryz.prog W base spare held n 9 (([v0, v1, v2, v3, v4, v5, v6, v7, v8, v9, v10, v11, v12, v13].drop 1).take (Tryz.prog.cellsOf 9)) = some y1 := hf 1 _ rfl
 rw [cS] at g1
 obtain ⟨a1, e1, z1⟩ := str_of_trod g1 (sized_part (j := 1) hs Tryz.underlying33 rfl rfl)
 have q1 : v1 = .string a1 := by simpa using e1
 have g2 : DataW.trod enc Tryz.prog W base spare held n 3 (([v0, v1, v2, v3, v4, v5, v6, v7, v8, v9, v10, v11, v12, v13].drop 2).take (Tryz.prog.cellsOf 3)) = some y2 := hf 2 _ rfl
 rw [cI] at g2
 obtain ⟨a2, e2, z2⟩ := int_of_trod g2
 have q2 : v2 = .int .i64 a2 := by simpa using e2
 have g3 : DataW.trod enc Tryz.prog W base spare held n 3 (([v0, v1, v2, v3, v4, v5, v6, v7, v8, v9, v10, v11, v12, v13].drop 3).take (Tryz.prog.cellsOf 3)) = some y3 := hf 3 _ rfl
 rw [cI] at g3
 obtain ⟨a3, e3, z3⟩ := int_of_trod g3
 have q3 : v3 = .int .i64 a3 := by simpa using e3
 have g4 : DataW.trod enc Tryz.prog W base spare held n 3 (([v0, v1, v2, v3, v4, v5, v6, v7, v8, v9, v10, v11, v12, v13].drop 4).take (Tryz.prog.cellsOf 3)) = some y4 := hf 4 _ rfl
 rw [cI] at g4
 obtain ⟨a4, e4, z4⟩ := int_of_trod g4
 have q4 : v4 = .int .i64 a4 := by simpa using e4
 have g5 : DataW.trod enc Tryz.prog W base spare held n 9 (([v0, v1, v2, v3, v4, v5, v6, v7, v8, v9, v10, v11, v12, v13].drop 5).take (Tryz.prog.cellsOf 9)) = some y5 := hf 5 _ rfl
 rw [cS] at g5
 obtain ⟨a5, e5, z5⟩ := str_of_trod g5 (sized_part (j := 5) hs Tryz.underlying33 rfl rfl)
 have q5 : v5 = .string a5 := by simpa using e5
 have g6 : DataW.trod enc Tryz.prog W base spare held n 9 (([v0, v1, v2, v3, v4, v5, v6, v7, v8, v9, v10, v11, v12, v13].drop 6).take (Tryz.prog.cellsOf 9)) = some y6 := hf 6 _ rfl
 rw [cS] at g6
 obtain ⟨a6, e6, z6⟩ := str_of_trod g6 (sized_part (j := 6) hs Tryz.underlying33 rfl rfl)
 have q6 : v6 = .string a6 := by simpa using e6
 have g7 : DataW.trod enc Tryz.prog W base spare held n 9 (([v0, v1, v2, v3, v4, v5, v6, v7, v8, v9, v10, v11, v12, v13].drop 7).take (Tryz.prog.cellsOf 9)) = some y7 := hf 7 _ rfl
 rw [cS] at g7
 obtain ⟨a7, e7, z7⟩ := str_of_trod g7 (sized_part (j := 7) hs Tryz.underlying33 rfl rfl)
 have q7 : v7 = .string a7 := by simpa using e7
 have g8 : DataW.trod enc Tryz.prog W base spare held n 3 (([v0, v1, v2, v3, v4, v5, v6, v7, v8, v9, v10, v11, v12, v13].drop 8).take (Tryz.prog.cellsOf 3)) = some y8 := hf 8 _ rfl
 rw [cI] at g8
 obtain ⟨a8, e8, z8⟩ := int_of_trod g8
 have q8 : v8 = .int .i64 a8 := by simpa using e8
 have g9 : DataW.trod enc Tryz.prog W base spare held n 3 (([v0, v1, v2, v3, v4, v5, v6, v7, v8, v9, v10, v11, v12, v13].drop 9).take (Tryz.prog.cellsOf 3)) = some y9 := hf 9 _ rfl
 rw [cI] at g9
 obtain ⟨a9, e9, z9⟩ := int_of_trod g9
 have q9 : v9 = .int .i64 a9 := by simpa using e9
 have g10 : DataW.trod enc Tryz.prog W base spare held n 30 (([v0, v1, v2, v3, v4, v5, v6, v7, v8, v9, v10, v11, v12, v13].drop 10).take (Tryz.prog.cellsOf 30)) = some y10 := hf 10 _ rfl
 rw [cM] at g10
 obtain ⟨a10, a11, q10, q11, z10, z11⟩ := money_of_trod g10 (sized_part (j := 10) hs Tryz.underlying33 rfl rfl)
 have g11 : DataW.trod enc Tryz.prog W base spare held n 31 (([v0, v1, v2, v3, v4, v5, v6, v7, v8, v9, v10, v11, v12, v13].drop 12).take (Tryz.prog.cellsOf 31)) = some y11 := hf 11 _ rfl
 rw [cD] at g11
 obtain ⟨A12, c12, l12, q12, z12, r12, m12, f12⟩ := docs_of_trod g11 (sized_part (j := 11) hs Tryz.underlying33 rfl rfl)
 have g12 : DataW.trod enc Tryz.prog W base spare held n 23 (([v0, v1, v2, v3, v4, v5, v6, v7, v8, v9, v10, v11, v12, v13].drop 13).take (Tryz.prog.cellsOf 23)) = some y12 := hf 12 _ rfl
 rw [cB] at g12
 obtain ⟨A13, c13, l13, q13, z13, r13, m13, f13⟩ := texts_of_trod g12 (sized_part (j := 12) hs Tryz.underlying33 rfl rfl)
 refine ⟨⟨a0, a1, a2, a3, a4, a5, a6, a7, a8, a9, ⟨a10, a11⟩, l12, l13⟩, A12, c12, A13, c13, ?_, ⟨z0, z1, z2, z3, z4, z5, z6, z7, z8, z9, ⟨z10, z11⟩, ⟨m12, f12⟩, ⟨m13, f13⟩⟩, ⟨z12, r12, z13, r13⟩⟩
 unfold letterV
 congr 1
 apply Array.ext'
 rw [hcv, q0, q1, q2, q3, q4, q5, q6, q7, q8, q9, q10, q11, q12, q13]
end
end Go.Proofs.YtkblmomfiimkiaaGreatDoor.P
end

section
namespace Go.Proofs.YtkblmomfiimkiaaGreatDoor.P
open Go.RowKit Go.Proofs.YtkblmomfiimkiaaGreatDoorW.PrintWords Go.Proofs.YtkblmomfiimkiaaGreatDoorW.PrintLast Go.Proofs.YtkblmomfiimkiaaGreatDoorW.PrintMore
set_option maxRecDepth 10000 in
theorem sames_law (x y : S33) (aA12 : Option Addr) (ac12 : Nat) (aA13 : Option Addr) (ac13 : Nat) (bA12 : Option Addr) (bc12 : Nat) (bA13 : Option Addr) (bc13 : Nat) (n : Int) (hn0 : 0 ≤ n) (w : World) (hG : Glob w)
  (sx : LetterS x) (sy : LetterS y) (cx : LetterC w x aA12 ac12 aA13 ac13) (cy : LetterC w y bA12 bc12 bA13 bc13) :
  Calls Tryz.prog 4 #[letterV x aA12 ac12 aA13 ac13, letterV y bA12 bc12 bA13 bc13, .int .u8 n] w fun e w' => e = .returned (.bool true) ∧ Below w.heap.size w w' := by
 obtain ⟨a0, a1, a2, a3, a4, a5, a6, a7, a8, a9, ⟨a10, a11⟩, al12, al13⟩ := x
 obtain ⟨b0, b1, b2, b3, b4, b5, b6, b7, b8, b9, ⟨b10, b11⟩, bl12, bl13⟩ := y
 obtain ⟨ac12h, ah12, ac13h, ah13⟩ := cx
 obtain ⟨bc12h, bh12, bc13h, bh13⟩ := cy
 have ta := sx.s11
 have ua := sx.s12
 have tb := sy.s11
 have ub := sy.s12
 have s6 := sx.s6
 clear sx sy
 dsimp only at ac12h ah12 ac13h ah13 bc12h bh12 bc13h bh13 ta ua tb ub s6
 have fa : ∀ x ∈ al12, x.f3.length ≤ 4611686018427387904 := fun x hx => by have := (ta.2 x hx).2.2.2.1; omega
 have fb : ∀ x ∈ bl12, x.f3.length ≤ 4611686018427387904 := fun x hx => by have := (tb.2 x hx).2.2.2.1; omega
 obtain ⟨ka, ra, hka, hra⟩ := short_f a0 a1 a2 a3 a4 a5 a6 a7 a8 a9 a10 a11 al12 al13 (by omega) (by omega) fa
 obtain ⟨kb, rb, hkb, hrb⟩ := short_f b0 b1 b2 b3 b4 b5 b6 b7 b8 b9 b10 b11 bl12 bl13 (by omega) (by omega) fb
 have hz : (!ra || !rb) = false → al12.length ≤ 12 ∧ al13.length ≤ 60 ∧ ∀ x ∈ al12, x.f3.length ≤ 80 := fun h => by
  have h1 : ra = true := by cases ra <;> simp_all
  have h2 := hra h1
  exact ⟨h2.1.1, h2.1.2, h2.2⟩
 have hz2 : (!ra || !rb) = false → bl12.length ≤ 12 ∧ bl13.length ≤ 60 := fun h => by
  have h1 : rb = true := by cases rb <;> simp_all
  exact (hrb h1).1
 refine sames_1 ⟨a0, a1, a2, a3, a4, a5, a6, a7, a8, a9, ⟨a10, a11⟩, al12, al13⟩ aA12 ac12 aA13 ac13 ⟨b0, b1, b2, b3, b4, b5, b6, b7, b8, b9, ⟨b10, b11⟩, bl12, bl13⟩ bA12 bc12 bA13 bc13 ra rb (eqB (⟨a0, a1, a2, a3, a4, a5, a6, a7, a8, a9, ⟨a10, a11⟩, al12, al13⟩ : S33) ⟨b0, b1, b2, b3, b4, b5, b6, b7, b8, b9, ⟨b10, b11⟩, bl12, bl13⟩) n hn0 w ⟨⟨ah12, ac12h, ah13, ac13h⟩, s6, hz, ?_, ?_, ?_, ?_, ?_, ?_⟩
 ·
  exact fun p => (supercargolaw09_short.calls ka a0 a1 a2 a3 a4 a5 a6 a7 a8 a9 a10 a11 aA12 ac12 al12 aA13 ac13 al13 ra p.W (Kd.C_below ah12 p.h.2.2) ac12h (Kd.C_below ah13 p.h.2.2) ac13h hka).mono fun _ _ hq => ⟨hq.1, boxW_below p hq.2⟩
 ·
  exact fun p => (supercargolaw09_short.calls kb b0 b1 b2 b3 b4 b5 b6 b7 b8 b9 b10 b11 bA12 bc12 bl12 bA13 bc13 bl13 rb p.W (Kd.C_below bh12 p.h.2.2) bc12h (Kd.C_below bh13 p.h.2.2) bc13h hkb).mono fun _ _ hq => ⟨hq.1, boxW_below p hq.2⟩
 ·
  exact fun p => (supercargolaw09_awake.calls 60 true p.W (glob_below hG p.h.2.2) (awakeL 60 (by omega))).mono fun _ _ hq => ⟨hq.1, boxW_below p hq.2⟩
 ·
  intro hq p
  have h1 := hz hq
  have h2 := hz2 hq
  exact (post_Same.calls a0 a1 a2 a3 a4 a5 a6 a7 a8 a9 a10 a11 aA12 ac12 al12 aA13 ac13 al13 b0 b1 b2 b3 b4 b5 b6 b7 b8 b9 b10 b11 bA12 bc12 bl12 bA13 bc13 bl13 _ p.W (Kd.C_below ah12 p.h.2.2) ac12h (Kd.C_below ah13 p.h.2.2) ac13h (Kd.C_below bh12 p.h.2.2) bc12h (Kd.C_below bh13 p.h.2.2) bc13h (by unfold post_Same.f; rw [if_pos ⟨by omega, by omega, by omega, by omega, fun x hx => by have := h1.2.2 x hx; omega⟩])).mono fun _ _ hq => ⟨hq.1, boxW_below p hq.2⟩
 ·
  intro hq p
  have h1 := hz hq
  exact (supercargoref09_Same.calls 1000 a0 a1 a2 a3 a4 a5 a6 a7 a8 a9 a10 a11 aA12 ac12 al12 aA13 ac13 al13 b0 b1 b2 b3 b4 b5 b6 b7 b8 b9 b10 b11 bA12 bc12 bl12 bA13 bc13 bl13 _ p.W (Kd.C_below ah12 p.h.2.2) ac12h (Kd.C_below ah13 p.h.2.2) ac13h (Kd.C_below bh12 p.h.2.2) bc12h (Kd.C_below bh13 p.h.2.2) bc13h (refL_f a0 a1 a2 a3 a4 a5 a6 a7 a8 a9 a10 a11 al12 al13 b0 b1 b2 b3 b4 b5 b6 b7 b8 b9 b10 b11 bl12 bl13 80 (by omega) (by omega) h1.2.2 (by omega) 1000 (by omega))).mono fun _ _ hq => ⟨hq.1, boxW_below p hq.2⟩
 ·
  intro hq p
  have h1 := hz hq
  exact (post_Same.calls a0 a1 a2 a3 a4 a5 a6 a7 a8 a9 a10 a11 aA12 ac12 al12 aA13 ac13 al13 a0 a1 a2 a3 a4 a5 a6 a7 a8 a9 a10 a11 aA12 ac12 al12 aA13 ac13 al13 _ p.W (Kd.C_below ah12 p.h.2.2) ac12h (Kd.C_below ah13 p.h.2.2) ac13h (Kd.C_below ah12 p.h.2.2) ac12h (Kd.C_below ah13 p.h.2.2) ac13h (by unfold post_Same.f; rw [if_pos ⟨by omega, by omega, by omega, by omega, fun x hx => by have := h1.2.2 x hx; omega⟩, eqB_of rfl])).mono fun _ _ hq => ⟨hq.1, boxW_below p hq.2⟩
end Go.Proofs.YtkblmomfiimkiaaGreatDoor.P
end

section
namespace Go.Proofs.YtkblmomfiimkiaaGreatDoor.LaidRow
open Go.RowKit
theorem gP : Tryz.prog.globalNamed "internal/strconv.uint64pow10" = some 3 := by kernel_rfl
theorem gA : Tryz.prog.globalNamed "strings.asciiSpace" = some 0 := by kernel_rfl
set_option maxRecDepth 100000 in
theorem laid_glob {W : World} (hL : laidMet Tryz.prog Rows.postNamesRow.laid W) : P.Glob W := by
 have h3 := laidMet.tail (laidMet.tail hL)
 have h5 := laidMet.tail (laidMet.tail h3)
 refine ⟨?_, ?_⟩
 ·
  exact Lib.tabIs_of_head (zs := Lib.pow10Tab) (k := .u64) (t := 200) (e := 178) (n := 20) gP (by kernel_rfl) Tryz.underlying200 Tryz.underlying178 (by kernel_rfl) (by kernel_rfl) h3
 ·
  exact Lib.tabIs_of_head (zs := Lib.asciiSpaceTab) (k := .u8) (t := 123) (e := 5) (n := 256) gA (by kernel_rfl) Tryz.underlying123 Tryz.underlying5 (by kernel_rfl) (by kernel_rfl) h5
end Go.Proofs.YtkblmomfiimkiaaGreatDoor.LaidRow
end
