/- field.Text: of at most 64 fields that may be it returns their lines, one behind the other; else what is wrong. Conditions: none but that the fields lie as an argument's do. -/
import Derived.Test.YtpkcbbjflcfdeaaGreatDoorLine
import Derived.Test.YtpkcbbjflcfdeaaGreatDoorName
namespace Go.Proofs.YtpkcbbjflcfdeaaGreatDoor.P
open Go.RowKit Go.Proofs.YtpkcbbjflcfdeaaGreatDoorW.PrintWords Go.Proofs.YtpkcbbjflcfdeaaGreatDoorW.PrintLast Go.Proofs.YtpkcbbjflcfdeaaGreatDoorW.PrintMore
open Go.Proofs.YtpkcbbjflcfdeaaGreatDoor.Fp

def mayF (x : S31) : Bool := mayB x.f0.data.toList x.f1.data.toList
def lineF (x : S31) : List UInt8 := lineB x.f0.data.toList x.f1.data.toList
def field_Text.f (l0 : List S31) : Option (ByteArray × Int) :=
  some (if 64 < l0.length then (⟨#[]⟩, 7) else if l0.all mayF = true then (⟨(l0.flatMap lineF).toArray⟩, 0) else (⟨#[]⟩, 1))

theorem isBuilder_below {T e : TypeId} {B b : Nat} {bs : List Value} {w w1 : World} (h : Lib.IsBuilder T e B b bs w) (hb : Below w.heap.size w w1) : Lib.IsBuilder T e B b bs w1 := by
  have go : ∀ p, Lib.BuilderAt T e B b p bs w → Lib.BuilderAt T e B b p bs w1 := by
    rintro p ⟨h1, v, h2, h3, h4⟩
    refine ⟨h1, v, ?_, pw_own_below h3 hb, h4⟩
    rw [hb.block b (Array.getElem?_eq_some_iff.1 h2).1]; exact h2
  rcases h with h | h
  · exact .inl (go _ h)
  · exact .inr (go _ h)

theorem may_calls (n v : ByteArray) (w : World) :
    Calls Tryz.prog 12 #[.agg #[.string n, .string v]] w fun e w' => e = .returned (.bool (mayB n.data.toList v.data.toList)) ∧ Below w.heap.size w w' := by
  have hn := fun W => field_name.calls n (nameB n.data.toList) W rfl
  have hm : mayB n.data.toList v.data.toList = (nameB n.data.toList && decide (v.size ≤ 4096)) := by unfold mayB; rw [Array.length_toList]; rfl
  have HM := Lib.hid hm
  clear hm
  obtain ⟨b, hb⟩ : ∃ b, nameB n.data.toList = b := ⟨_, rfl⟩
  rw [hb] at hn
  have HB := Lib.hid hb
  clear hb
  cases b
  · go_enter Tryz.func12, Tryz.ntmps12
    go_wp2_with (go_at_call 17; refine (hn _).mono ?_; rintro e w' ⟨rfl, hb⟩)
    go_ret
    exact ⟨by rw [HM.out, HB.out]; rfl, ((Below.refl _ _).alloc (Nat.le_refl _) _).trans (hb.mono (by simp))⟩
  · go_enter Tryz.func12, Tryz.ntmps12
    go_wp2_with fail
    refine (hn _).mono ?_
    rintro e w1 ⟨rfl, hb⟩
    have k := (hb.cell (p := ⟨w.heap.size, 1, none⟩) (by simp)).trans (show (w.alloc (.cells #[.string n, .string v] 31)).cell? ⟨w.heap.size, 1, none⟩ = some (.string v) by simp)
    have HBB := Lib.hid hb
    clear hb
    go_wp2_with fail
    go_ret
    exact ⟨by rw [HM.out, HB.out]; simp; omega, ((Below.refl _ _).alloc (Nat.le_refl _) _).trans (HBB.out.mono (by simp))⟩

theorem name_small {l : List UInt8} (h : nameB l = true) : l.length ≤ 16 := by
  unfold nameB at h
  simp at h
  exact h.1.2
theorem may_small {x : S31} (h : mayF x = true) : x.f0.size ≤ 16 ∧ x.f1.size ≤ 4096 := by
  unfold mayF mayB at h
  rw [Bool.and_eq_true] at h
  have h1 := name_small h.1
  have h2 := of_decide_eq_true h.2
  rw [Array.length_toList] at h1 h2
  exact ⟨h1, h2⟩
theorem lineF_len {x : S31} (h : mayF x = true) : (lineF x).length ≤ 8300 := by
  obtain ⟨h1, h2⟩ := may_small h
  have h3 := esc_le x.f1.data.toList
  have e1 : x.f0.data.toList.length = x.f0.size := by simp
  have e2 : x.f1.data.toList.length = x.f1.size := by simp
  unfold lineF lineB
  simp only [List.length_append, List.length_cons, List.length_nil]
  omega
theorem lines_len : ∀ (l : List S31), l.all mayF = true → (l.flatMap lineF).length ≤ 8300 * l.length
  | [], _ => by simp
  | x :: l, h => by
    rw [List.all_cons, Bool.and_eq_true] at h
    have h1 := lineF_len h.1
    have h2 := lines_len l h.2
    rw [List.flatMap_cons, List.length_append, List.length_cons]
    omega
theorem take_step {α : Type} (d : α) (l : List α) (i : Nat) (h : i < l.length) : l.take (i + 1) = l.take i ++ [l.getD i d] := by
  rw [List.take_succ_eq_append_getElem h, List.getD_eq_getElem?_getD, List.getElem?_eq_getElem h]; rfl

/-- behind i rounds -/
structure TextIs (l0 : List S31) (w : World) (i : Nat) (W : World) : Prop where
  all : (l0.take i).all mayF = true
  builder : Lib.IsBuilder 43 5 w.heap.size w.heap.size (Lib.byteCells ((l0.take i).flatMap lineF)) W
  below : Below w.heap.size w W

theorem isBuilder_alloc {T e : TypeId} {B b : Nat} {bs : List Value} {w : World} (h : Lib.IsBuilder T e B b bs w) (o : Obj) : Lib.IsBuilder T e B b bs (w.alloc o) :=
  isBuilder_below h ((Below.refl _ _).alloc (Nat.le_refl _) _)
theorem text_step {l0 : List S31} {w wr w3 : World} {i : Nat} {x : S31} (hlt : i < l0.length) (hx : x = rd_T31 l0 (i : Int)) (hT : TextIs l0 w i wr) (hm : mayF x = true)
    (hat : Lib.BuilderAt 43 5 w.heap.size w.heap.size (.pointer (some ⟨w.heap.size, 0, none⟩)) (Lib.byteCells ((l0.take i).flatMap lineF) ++ Lib.strCells ⟨(lineB x.f0.data.toList x.f1.data.toList).toArray⟩) w3) (hb : Below w.heap.size w w3) : TextIs l0 w (i + 1) w3 := by
  have e : l0.take (i + 1) = l0.take i ++ [x] := by rw [take_step z31 l0 i hlt, hx]; rfl
  refine ⟨?_, ?_, hb⟩
  · rw [e, List.all_append, hT.all]; simp [hm]
  · rw [e, List.flatMap_append, Lib.byteCells, List.map_append]
    refine .inr ?_
    have h2 : Lib.strCells ⟨(lineB x.f0.data.toList x.f1.data.toList).toArray⟩ = List.map (fun b => Value.int .u8 b.toNat) ([x].flatMap lineF) := by
      simp [Lib.strCells, lineF]
    rw [← h2]
    exact hat
theorem text_not {l0 : List S31} {i : Nat} {x : S31} (hlt : i < l0.length) (hx : x = rd_T31 l0 (i : Int)) (hm : ¬ mayF x = true) : ¬ l0.all mayF = true := by
  intro h
  rw [List.all_eq_true] at h
  apply hm
  apply h
  rw [hx]
  show l0.getD (Int.toNat i) _ ∈ l0
  rw [Int.toNat_natCast, List.getD_eq_getElem?_getD, List.getElem?_eq_getElem hlt]
  exact List.getElem_mem hlt

set_option maxRecDepth 100000 in
set_option maxHeartbeats 4000000 in
theorem field_Text.calls (A0 : Option Addr) (c0 : Nat) (l0 : List S31) (r1 : ByteArray) (r2 : Int) (w : World) (hr0 : Kd.C k31 w A0 l0.length l0) (_hc0 : l0.length ≤ c0) (h : field_Text.f l0 = some (r1, r2)) :
    Calls Tryz.prog 8 #[.slice A0 l0.length c0] w fun e w' => e = .returned (.tuple #[.string r1, .int .i64 r2]) ∧ Below w.heap.size w w' := by
  unfold field_Text.f at h
  have H := Lib.hid (Option.some.inj h)
  clear h
  by_cases hm : 64 < l0.length
  · have hm' : (64 : Int) < (l0.length : Int) := by omega
    have HM := Lib.hid hm
    go_enter Tryz.func8, Tryz.ntmps8
    go_wp2_with fail
    go_ret2
    have hh := H.out
    rw [if_pos HM.out] at hh
    simp only [Prod.mk.injEq] at hh
    obtain ⟨rfl, rfl⟩ := hh
    exact ⟨rfl, Below.refl _ _⟩
  · have hm' : ¬ (64 : Int) < (l0.length : Int) := by omega
    have hh := H.out
    rw [if_neg hm] at hh
    have HH := Lib.hid hh
    clear hh H
    have HR := Lib.hid hr0
    clear hr0 _hc0
    have hlen : l0.length ≤ 64 := by omega
    go_enter Tryz.func8, Tryz.ntmps8
    go_wp2_with fail
    have B0 := Lib.fresh_isBuilder 43 5 w
    have HB0 := Lib.hid B0
    clear B0
    go_loopw [6, 12] (fun _ v12 W => ∃ i : Nat, i ≤ l0.length ∧ v12 = .int .i64 i ∧ TextIs l0 w i W) (fun _ v12 _ => l0.length - (intOf v12).toNat)
    case atStart => exact ⟨0, Nat.zero_le _, rfl, ⟨rfl, HB0.out, (Below.refl _ _).alloc (Nat.le_refl _) _⟩⟩
    case round =>
      obtain ⟨i, hi, rfl, hb⟩ := hrel
      by_cases hlt : i < l0.length
      · obtain ⟨ad, hA, q0, q1⟩ := at_T31 HR.out (i : Int) (by omega) (by omega)
        rw [Int.toNat_natCast] at q0 q1
        have c0' := pw_cell_below hb.below q0
        have c1' := pw_cell_below hb.below q1
        obtain ⟨x, hx⟩ : ∃ x, x = rd_T31 l0 (i : Int) := ⟨_, rfl⟩
        rw [← hx] at c0' c1'
        have HX := Lib.hid hx
        have HT := Lib.hid hb
        subst hA
        clear q0 q1 hx hb
        by_cases hmx : mayF x = true
        · obtain ⟨hs1, hs2⟩ := may_small hmx
          have hmx' : mayB x.f0.data.toList x.f1.data.toList = true := hmx
          have HMX := Lib.hid hmx
          clear hmx
          go_wp2_with fail
          refine (may_calls x.f0 x.f1 _).mono ?_
          rintro e w1 ⟨rfl, hb1⟩
          have k0 := (hb1.cell (p := ⟨wr.heap.size, 0, none⟩) (by simp)).trans (show (wr.alloc (.cells #[.string x.f0, .string x.f1] 31)).cell? ⟨wr.heap.size, 0, none⟩ = some (.string x.f0) by simp)
          have k1 := (hb1.cell (p := ⟨wr.heap.size, 1, none⟩) (by simp)).trans (show (wr.alloc (.cells #[.string x.f0, .string x.f1] 31)).cell? ⟨wr.heap.size, 1, none⟩ = some (.string x.f1) by simp)
          have HB1 := Lib.hid hb1
          clear hb1
          go_wp2_with fail
          refine (line_calls x.f0 x.f1 _ (by omega) (by omega)).mono ?_
          rintro e w2 ⟨rfl, hb2⟩
          have hbd := isBuilder_below (isBuilder_below (isBuilder_alloc HT.out.builder _) HB1.out) hb2
          have hbw : Below w.heap.size w w2 := (HT.out.below.alloc HT.out.below.size _).trans ((HB1.out.mono (by have := HT.out.below.size; simp; omega)).trans (hb2.mono (by have := HT.out.below.size; have := HB1.out.size; simp at this; omega)))
          have HBW := Lib.hid hbw
          have hlen1 := lines_len (l0.take i) HT.out.all
          have hlen2 := lineF_len HMX.out
          have ht64 : (l0.take i).length ≤ 64 := by rw [List.length_take]; omega
          have ez : (⟨(lineB x.f0.data.toList x.f1.data.toList).toArray⟩ : ByteArray).size = (lineF x).length := by simp [lineF, ByteArray.size]
          have hws := Sh.Builder_WriteString w.heap.size w.heap.size _ ⟨(lineB x.f0.data.toList x.f1.data.toList).toArray⟩ w2 hbd (by rw [Lib.byteCells_length, ez]; omega) hbw.size
          clear ez
          have HWS := Lib.hid hws
          clear hb2 hbd hbw hws hlen1 hlen2 ht64
          go_wp2_with fail
          refine HWS.out.mono ?_
          rintro e w3 ⟨rfl, hat, hb3⟩
          have HAT := Lib.hid hat
          have HB3 := Lib.hid hb3
          clear hat hb3
          go_wp2_with fail
          go_roundw
          case rel => exact ⟨i + 1, by omega, by go_num, text_step hlt HX.out HT.out HMX.out HAT.out (HBW.out.trans HB3.out)⟩
          case measure => simp [intOf]; omega
        · have hmx' : mayB x.f0.data.toList x.f1.data.toList = false := by simpa [mayF] using hmx
          have HMX := Lib.hid hmx
          clear hmx
          go_wp2_with fail
          refine (may_calls x.f0 x.f1 _).mono ?_
          rintro e w1 ⟨rfl, hb1⟩
          have HB1 := Lib.hid hb1
          clear hb1
          go_wp2_with fail
          go_ret2
          have hh := HH.out
          rw [if_neg (text_not hlt HX.out HMX.out)] at hh
          simp only [Prod.mk.injEq] at hh
          obtain ⟨rfl, rfl⟩ := hh
          exact ⟨rfl, (HT.out.below.alloc HT.out.below.size _).trans (HB1.out.mono (by have := HT.out.below.size; simp; omega))⟩
      · obtain rfl : i = l0.length := by omega
        have hall := hb.all
        rw [List.take_length] at hall
        have hbd := hb.builder
        rw [List.take_length] at hbd
        have hst := Sh.Builder_String w.heap.size w.heap.size _ wr hbd hb.below.size
        have HST := Lib.hid hst
        have HA := Lib.hid hall
        have HT := Lib.hid hb
        clear hall hbd hst hb hlt
        go_wp2_with fail
        refine HST.out.mono ?_
        rintro e w1 ⟨rfl, hb1⟩
        have HB1 := Lib.hid hb1
        clear hb1
        go_wp2_with fail
        go_ret2
        have hh := HH.out
        rw [if_pos HA.out] at hh
        simp only [Prod.mk.injEq] at hh
        obtain ⟨rfl, rfl⟩ := hh
        exact ⟨rfl, HT.out.below.trans HB1.out⟩
end Go.Proofs.YtpkcbbjflcfdeaaGreatDoor.P
