/- field.Parse: the record of a text, or where and how it goes wrong first. Conditions: the text has fewer than 4,294,967,281 bytes. -/
import Derived.Test.YtpkcbbjflcfdeaaGreatDoorText
import Derived.Test.YtpkcbbjflcfdeaaGreatDoorCut
import Derived.WalkMore
import Derived.Deep.LoopGhost
import Derived.Scope
namespace Go.Proofs.YtpkcbbjflcfdeaaGreatDoor.P
open Go.RowKit Go.Proofs.YtpkcbbjflcfdeaaGreatDoorW.PrintWords Go.Proofs.YtpkcbbjflcfdeaaGreatDoorW.PrintLast Go.Proofs.YtpkcbbjflcfdeaaGreatDoorW.PrintMore
open Go.Proofs.YtpkcbbjflcfdeaaGreatDoor.Fp

def fieldOf (p : List UInt8 × List UInt8) : S31 := ⟨⟨p.1.toArray⟩, ⟨p.2.toArray⟩⟩
def field_Parse.f (a0 : ByteArray) : Option (List S31 × Int × Int) :=
  if a0.size < 4294967281 then some ((parseL 64 a0.data.toList []).1.map fieldOf, (parseL 64 a0.data.toList []).2.1, (parseL 64 a0.data.toList []).2.2) else none

theorem parse_nil (n : Nat) (acc : List (List UInt8 × List UInt8)) : parseL n [] acc = (acc, 0, 0) := by unfold parseL; simp
theorem parse_zero (s : List UInt8) (h : s ≠ []) (acc : List (List UInt8 × List UInt8)) : parseL 0 s acc = ([], 65, 7) := by unfold parseL; simp [h]
theorem parse_nocut (m : Nat) (s : List UInt8) (h : s ≠ []) (hc : cutAt 10 s = none) (acc : List (List UInt8 × List UInt8)) : parseL (m + 1) s acc = ([], 64 - (m : Int), 2) := by unfold parseL; simp [h, hc]
theorem parse_noline (m : Nat) (s row rest : List UInt8) (h : s ≠ []) (hc : cutAt 10 s = some (row, rest)) (hl : lineP row = none) (acc : List (List UInt8 × List UInt8)) : parseL (m + 1) s acc = ([], 64 - (m : Int), 2) := by unfold parseL; simp [h, hc, hl]
theorem parse_step (m : Nat) (s row rest : List UInt8) (x : List UInt8 × List UInt8) (h : s ≠ []) (hc : cutAt 10 s = some (row, rest)) (hl : lineP row = some x) (acc : List (List UInt8 × List UInt8)) : parseL (m + 1) s acc = parseL m rest (acc ++ [x]) := by
  rw [parseL.eq_def]; simp [h, hc, hl]
theorem line_nocut (row : List UInt8) (h : cutAt 61 row = none) : lineP row = none := by unfold lineP; rw [h]; rfl
theorem line_noname (row a b : List UInt8) (h : cutAt 61 row = some (a, b)) (hn : nameB a = false) : lineP row = none := by unfold lineP; rw [h]; simp [hn]
theorem line_noval (row a b : List UInt8) (h : cutAt 61 row = some (a, b)) (hu : unesc b = none) : lineP row = none := by unfold lineP; rw [h]; simp [hu]
theorem line_long (row a b v : List UInt8) (h : cutAt 61 row = some (a, b)) (hu : unesc b = some v) (hv : ¬ v.length ≤ 4096) : lineP row = none := by unfold lineP; rw [h]; simp [hu]; intro _; omega
theorem line_ok (row a b v : List UInt8) (h : cutAt 61 row = some (a, b)) (hn : nameB a = true) (hu : unesc b = some v) (hv : v.length ≤ 4096) : lineP row = some (a, v) := by unfold lineP; rw [h]; simp [hn, hu, hv]

/-- behind some lines: k is the next one's number -/
structure ParseIs (s : ByteArray) (w : World) (k : Nat) (cur : ByteArray) (v5 : Value) (W : World) : Prop where
  small : cur.size ≤ s.size
  below : Below w.heap.size w W
  same : ∃ acc, parseL 64 s.data.toList [] = parseL (65 - k) cur.data.toList acc ∧ acc.length < k ∧ Kd.R k31 31 W w.heap.size (fun _ => True) v5 (acc.map fieldOf)

/-- inside a line's value: i bytes are read -/
structure ValIs (raw : ByteArray) (wb : World) (b i : Nat) (W : World) : Prop where
  below : Below wb.heap.size wb W
  same : ∃ done, unesc raw.data.toList = (unesc (raw.data.toList.drop i)).map (done ++ ·) ∧ done.length ≤ i ∧ Lib.IsBuilder 43 5 b b (Lib.byteCells done) W

theorem unesc_plain (c : UInt8) (r : List UInt8) (h : c ≠ 92) : unesc (c :: r) = (unesc r).map (c :: ·) := by rw [unesc.eq_def]; simp [h]
theorem unesc_n (r : List UInt8) : unesc (92 :: 110 :: r) = (unesc r).map (10 :: ·) := by rw [unesc.eq_def]; simp
theorem unesc_b (r : List UInt8) : unesc (92 :: 92 :: r) = (unesc r).map (92 :: ·) := by rw [unesc.eq_def]; simp
theorem unesc_bad (d : UInt8) (r : List UInt8) (h1 : d ≠ 110) (h2 : d ≠ 92) : unesc (92 :: d :: r) = none := by rw [unesc.eq_def]; simp [h1, h2]
theorem unesc_end : unesc [92] = none := by rw [unesc.eq_def]; simp
theorem map_more (o : Option (List UInt8)) (done : List UInt8) (c : UInt8) : (o.map (c :: ·)).map (done ++ ·) = o.map ((done ++ [c]) ++ ·) := by
  cases o <;> simp
theorem un_plain (L done : List UInt8) (i : Nat) (h : i < L.length) (hc : L[i] ≠ 92) (hs : unesc L = (unesc (L.drop i)).map (done ++ ·)) : unesc L = (unesc (L.drop (i + 1))).map ((done ++ [L[i]]) ++ ·) := by
  rw [hs, List.drop_eq_getElem_cons h, unesc_plain _ _ hc, map_more]
theorem un_n (L done : List UInt8) (i : Nat) (h : i + 1 < L.length) (hc : L[i] = 92) (hd : L[i + 1] = 110) (hs : unesc L = (unesc (L.drop i)).map (done ++ ·)) : unesc L = (unesc (L.drop (i + 2))).map ((done ++ [10]) ++ ·) := by
  rw [hs, List.drop_eq_getElem_cons (show i < L.length by omega), List.drop_eq_getElem_cons h, hc, hd, unesc_n, map_more]
theorem un_b (L done : List UInt8) (i : Nat) (h : i + 1 < L.length) (hc : L[i] = 92) (hd : L[i + 1] = 92) (hs : unesc L = (unesc (L.drop i)).map (done ++ ·)) : unesc L = (unesc (L.drop (i + 2))).map ((done ++ [92]) ++ ·) := by
  rw [hs, List.drop_eq_getElem_cons (show i < L.length by omega), List.drop_eq_getElem_cons h, hc, hd, unesc_b, map_more]
theorem un_bad (L done : List UInt8) (i : Nat) (h : i + 1 < L.length) (hc : L[i] = 92) (h1 : L[i + 1] ≠ 110) (h2 : L[i + 1] ≠ 92) (hs : unesc L = (unesc (L.drop i)).map (done ++ ·)) : unesc L = none := by
  rw [hs, List.drop_eq_getElem_cons (show i < L.length by omega), List.drop_eq_getElem_cons h, hc, unesc_bad _ _ h1 h2]; rfl
theorem un_end (L done : List UInt8) (i : Nat) (h : i < L.length) (hl : ¬ i + 1 < L.length) (hc : L[i] = 92) (hs : unesc L = (unesc (L.drop i)).map (done ++ ·)) : unesc L = none := by
  rw [hs, List.drop_eq_getElem_cons h, hc, List.drop_eq_nil_of_le (by omega), unesc_end]; rfl

theorem close_err (a0 : ByteArray) (w W : World) (k c : Int) (hh : parseL 64 a0.data.toList [] = ([], k, c)) (hb : Below w.heap.size w W) :
    ∃ v0_ : Value, Ending.returned (.tuple #[.slice none 0 0, .int .i64 k, .int .i64 c]) = .returned (.tuple #[v0_, .int .i64 (parseL 64 a0.data.toList []).2.1, .int .i64 (parseL 64 a0.data.toList []).2.2]) ∧ Kd.R k31 31 W w.heap.size (fun _ => True) v0_ ((parseL 64 a0.data.toList []).1.map fieldOf) ∧ Below w.heap.size w W := by
  rw [hh]
  exact ⟨_, rfl, Kd.R_nil _ _ _ _ _, hb⟩

theorem val_step (raw : ByteArray) (wb W W2 : World) (i' : Nat) (done : List UInt8) (c : UInt8) (hs : unesc raw.data.toList = (unesc (raw.data.toList.drop i')).map ((done ++ [c]) ++ ·)) (hl : done.length + 1 ≤ i')
    (hat : Lib.BuilderAt 43 5 wb.heap.size wb.heap.size (.pointer (some ⟨wb.heap.size, 0, none⟩)) (Lib.byteCells done ++ [.int .u8 (c.toNat : Int)]) W2) (hb : Below wb.heap.size wb W) (hb2 : Below wb.heap.size W W2) :
    ValIs raw wb wb.heap.size i' W2 :=
  ⟨hb.trans hb2, done ++ [c], hs, by simpa using hl, Or.inr (by rw [Lib.byteCells_append]; exact hat)⟩

set_option maxRecDepth 100000 in
set_option maxHeartbeats 8000000 in
theorem field_Parse.calls (a0 : ByteArray) (r1 : List S31) (r2 r3 : Int) (w : World) (h : field_Parse.f a0 = some (r1, r2, r3)) :
    Calls Tryz.prog 9 #[.string a0] w fun e w' => ∃ v0_ : Value, e = .returned (.tuple #[v0_, .int .i64 r2, .int .i64 r3]) ∧ Kd.R k31 31 w' w.heap.size (fun _ => True) v0_ r1 ∧ Below w.heap.size w w' := by
  unfold field_Parse.f at h
  by_cases hs : a0.size < 4294967281
  · rw [if_pos hs] at h
    have h' := Option.some.inj h
    simp only [Prod.mk.injEq] at h'
    obtain ⟨rfl, rfl, rfl⟩ := h'
    clear h
    go_enter Tryz.func9, Tryz.ntmps9
    go_wp2
    go_step3
    go_wp2
    go_step3
    go_wp2
    go_loopg [0, 5, 6] 66 (fun g v0 v5 v6 W => ∃ (k : Nat) (cur : ByteArray), k + g = 67 ∧ 1 ≤ k ∧ k ≤ 65 ∧ v0 = .string cur ∧ v6 = .int .i64 k ∧ ParseIs a0 w k cur v5 W)
    case atStart => exact ⟨1, a0, by omega, by omega, by omega, rfl, rfl, ⟨Nat.le_refl _, Below.refl _ _, [], rfl, by simp, Kd.R_nil _ _ _ _ _⟩⟩
    case round =>
      rename Nat => G
      obtain ⟨k, cur, hkg, hk1, hk2, rfl, rfl, hp⟩ := hrel
      obtain ⟨hsm, hbl, acc, hsame, hacc, hR⟩ := hp
      have HS := Lib.hid hsame
      have HR := Lib.hid hR
      have HB := Lib.hid hbl
      have HK := Lib.hid hkg
      clear hsame hR hbl hkg
      have ht : cur.toList = cur.data.toList := Lib.toList_data cur
      by_cases hz : cur.toList = []
      · have HZ := Lib.hid (ht.symm.trans hz)
        clear ht
        go_wp2_with fail
        rw [Exit.noGoto_ret]
        go_ret3
        have hh : parseL 64 a0.data.toList [] = (acc, 0, 0) := by rw [HS.out, HZ.out, parse_nil]
        rw [hh]
        exact ⟨_, rfl, HR.out, HB.out⟩
      · have hz' : cur.data.toList ≠ [] := fun h => hz (ht.trans h)
        have HZ := Lib.hid hz'
        have hze : cur.toList.isEmpty = false := by simpa using hz
        clear hz' ht
        by_cases h65 : k = 65
        · have hk64 : (64 : Int) < (k : Int) := by omega
          have H65 := Lib.hid h65
          clear h65
          go_wp2_with fail
          try rw [Exit.noGoto_ret]
          go_ret3
          exact close_err a0 w wr k 7 (by rw [HS.out, H65.out]; exact parse_zero _ HZ.out _) HB.out
        · have hk64 : ¬ (64 : Int) < (k : Int) := by omega
          obtain ⟨m, hm⟩ : ∃ m, 65 - k = m + 1 := ⟨64 - k, by omega⟩
          have hmk : (64 : Int) - (m : Int) = k := by omega
          have HM := Lib.hid hm
          have HMK := Lib.hid hmk
          have hcs : cur.size < 4294967296 := by omega
          clear h65 hm hmk
          cases hc : cutAt 10 cur.data.toList with
          | none =>
            have HC := Lib.hid hc
            clear hc
            have hfin : parseL 64 a0.data.toList [] = ([], (k : Int), 2) := by rw [HS.out, HM.out, ← HMK.out]; exact parse_nocut _ _ HZ.out HC.out _
            have HF := Lib.hid hfin
            clear hfin
            go_wp2_with fail
            refine (cut_miss cur 10 _ HC.out).mono ?_
            rintro e wq ⟨rfl, hw⟩
            subst wq
            go_wp2_with fail
            cases hq : cutAt 61 cur.data.toList with
            | none =>
              have HQ := Lib.hid hq
              clear hq
              refine (cut_miss cur 61 _ HQ.out).mono ?_
              rintro e wq ⟨rfl, hw⟩
              subst wq
              go_wp2_with fail
              try rw [Exit.noGoto_ret]
              go_ret3
              exact close_err a0 w _ k 2 HF.out HB.out
            | some p =>
              obtain ⟨a, b⟩ := p
              have HQ := Lib.hid hq
              clear hq
              refine (cut_hit cur 61 a b _ hcs HQ.out).mono ?_
              rintro e wq ⟨rfl, n, rfl⟩
              go_wp2_with fail
              try rw [Exit.noGoto_ret]
              go_ret3
              exact close_err a0 w _ k 2 HF.out (pw_below_drewN HB.out n)
          | some p =>
            obtain ⟨row, rest⟩ := p
            obtain ⟨hx1, hx2⟩ := cutAt_some _ _ _ _ hc
            have hlen : row.length + 1 + rest.length = cur.size := by
              have e : cur.data.toList.length = cur.size := by simp
              rw [← e, hx2]; simp; omega
            have HC := Lib.hid hc
            clear hc hx1 hx2
            go_wp2_with fail
            refine (cut_hit cur 10 row rest _ hcs HC.out).mono ?_
            rintro e wq ⟨rfl, n0, rfl⟩
            generalize hrow : (⟨row.toArray⟩ : ByteArray) = Row
            generalize hrest : (⟨rest.toArray⟩ : ByteArray) = Rest
            have er : Row.data.toList = row := by rw [← hrow]
            have es : Rest.data.toList = rest := by rw [← hrest]
            have zr : Row.size = row.length := by rw [← hrow]; simp [ByteArray.size]
            have zs : Rest.size = rest.length := by rw [← hrest]; simp [ByteArray.size]
            have hrs : Row.size < 4294967296 := by omega
            have hss : Rest.size ≤ a0.size := by omega
            have ER := Lib.hid er
            have ES := Lib.hid es
            clear hrow hrest er es zr zs hlen
            go_wp2_with fail
            cases hq : cutAt 61 Row.data.toList with
            | none =>
              have hfin : parseL 64 a0.data.toList [] = ([], (k : Int), 2) := by rw [HS.out, HM.out, ← HMK.out]; exact parse_noline _ _ _ _ HZ.out HC.out (by rw [← ER.out]; exact line_nocut _ hq) _
              have HF := Lib.hid hfin
              have HQ := Lib.hid hq
              clear hfin hq
              refine (cut_miss Row 61 _ HQ.out).mono ?_
              rintro e wq ⟨rfl, hw⟩
              subst wq
              go_wp2_with fail
              try rw [Exit.noGoto_ret]
              go_ret3
              exact close_err a0 w _ k 2 HF.out (pw_below_drewN HB.out n0)
            | some p =>
              obtain ⟨a, b⟩ := p
              obtain ⟨hx1, hx2⟩ := cutAt_some _ _ _ _ hq
              have hlen : a.length + 1 + b.length = Row.size := by
                have e : Row.data.toList.length = Row.size := by simp
                rw [← e, hx2]; simp; omega
              have HQ := Lib.hid hq
              clear hq hx1 hx2
              refine (cut_hit Row 61 a b _ hrs HQ.out).mono ?_
              rintro e wq ⟨rfl, n1, rfl⟩
              generalize ha : (⟨a.toArray⟩ : ByteArray) = Head
              generalize hb : (⟨b.toArray⟩ : ByteArray) = Raw
              have ea : Head.data.toList = a := by rw [← ha]
              have eb : Raw.data.toList = b := by rw [← hb]
              have zb : Raw.size = b.length := by rw [← hb]; simp [ByteArray.size]
              have hbs : Raw.size < 4294967296 := by omega
              have EA := Lib.hid ea
              have EB := Lib.hid eb
              have HHead := Lib.hid ha
              clear ha hb ea eb zb hlen
              go_wp2_with fail
              cases hn : nameB Head.data.toList with
              | false =>
                have hfin : parseL 64 a0.data.toList [] = ([], (k : Int), 2) := by rw [HS.out, HM.out, ← HMK.out]; exact parse_noline _ _ _ _ HZ.out HC.out (by rw [← ER.out]; exact line_noname _ _ _ HQ.out (by rw [← EA.out]; exact hn)) _
                have HF := Lib.hid hfin
                have HN := Lib.hid hn
                clear hfin hn
                refine (field_name.calls Head false _ (by unfold field_name.f; rw [HN.out])).mono ?_
                rintro e w1 ⟨rfl, hb1⟩
                have HB1 := Lib.hid hb1
                clear hb1
                go_wp2_with fail
                try rw [Exit.noGoto_ret]
                go_ret3
                exact close_err a0 w _ k 2 HF.out (below_then (pw_below_drewN HB.out (n0 + n1)) (by have := HB.out.size; simp; omega) HB1.out)
              | true =>
                have HN := Lib.hid hn
                clear hn
                refine (field_name.calls Head true _ (by unfold field_name.f; rw [HN.out])).mono ?_
                rintro e w1 ⟨rfl, hb1⟩
                have hbw1 : Below wr.heap.size wr w1 := below_then (pw_below_drewN (Below.refl _ wr) (n0 + n1)) (by simp) hb1
                have hbo : Below w.heap.size w w1 := HB.out.trans (hbw1.mono HB.out.size)
                have HBO := Lib.hid hbo
                have HB1 := Lib.hid hbw1
                clear hb1 hbw1 hbo
                go_wp2_with fail
                have B0 := Lib.hid (Lib.fresh_isBuilder 43 5 w1)
                go_loopg [14, 15] (Raw.size + 1) (fun g2 v14 _ W => ∃ i : Nat, i + g2 = Raw.size + 1 ∧ i ≤ Raw.size ∧ v14 = .int .i64 i ∧ ValIs Raw w1 w1.heap.size i W)
                case atStart => exact ⟨0, by omega, Nat.zero_le _, rfl, (Below.refl _ _).alloc (Nat.le_refl _) _, [], by simp, Nat.le_refl _, B0.out⟩
                case round =>
                  obtain ⟨i, hig, hi, rfl, hv⟩ := hrel
                  obtain ⟨hvb, done, hd1, hd2, hd3⟩ := hv
                  have HVB := Lib.hid hvb
                  have HD1 := Lib.hid hd1
                  have HD3 := Lib.hid hd3
                  have HIG := Lib.hid hig
                  have hvs := hvb.size
                  have hll : Raw.data.toList.length = Raw.size := by simp
                  have HLL := Lib.hid hll
                  clear hvb hd1 hd3 hig hll
                  by_cases hlt : i < Raw.size
                  · by_cases h92 : Raw[i] = 92
                    · have f92 : ((Raw[i].toNat : Int) == 92) = true := by rw [h92]; rfl
                      by_cases hlt1 : i + 1 < Raw.size
                      · by_cases h110 : Raw[i + 1] = 110
                        · have f110 : ((Raw[i + 1].toNat : Int) == 110) = true := by rw [h110]; rfl
                          have hstep := un_n Raw.data.toList done i (by rw [HLL.out]; exact hlt1) h92 h110 HD1.out
                          have HST := Lib.hid hstep
                          have hwb := Sh.Builder_WriteByte w1.heap.size w1.heap.size _ 10 _ HD3.out (by rw [Lib.byteCells_length]; omega) hvs
                          have HWB := Lib.hid hwb
                          clear h92 h110 hstep hwb
                          go_wp2_with fail
                          refine HWB.out.mono ?_
                          rintro e w2 ⟨rfl, hat, hb2⟩
                          have HAT := Lib.hid hat
                          have HB2 := Lib.hid hb2
                          clear hat hb2
                          go_wp2_with fail
                          go_roundg (gk - 2)
                          case measure => have := HIG.out; omega
                          case rel => exact ⟨i + 2, by have := HIG.out; omega, by omega, by first | rfl | (congr 1; omega), val_step _ _ _ _ _ done 10 HST.out (by omega) HAT.out HVB.out HB2.out⟩
                        · have f110 : ((Raw[i + 1].toNat : Int) == 110) = false := by
                            rw [beq_eq_false_iff_ne]; intro h; apply h110; apply UInt8.toNat_inj.1; show Raw[i + 1].toNat = 110; omega
                          have fie : ((i : Int) + 1 == (Raw.size : Int)) = false := by rw [beq_eq_false_iff_ne]; omega
                          by_cases h92b : Raw[i + 1] = 92
                          · have f92b : ((Raw[i + 1].toNat : Int) != 92) = false := by rw [h92b]; rfl
                            have hstep := un_b Raw.data.toList done i (by rw [HLL.out]; exact hlt1) h92 h92b HD1.out
                            have hc92 : (Raw[i].toNat : Int) = ((92 : UInt8).toNat : Int) := by rw [h92]
                            have HC92 := Lib.hid hc92
                            have HST := Lib.hid hstep
                            have hwb := Sh.Builder_WriteByte w1.heap.size w1.heap.size _ (Raw[i].toNat : Int) _ HD3.out (by rw [Lib.byteCells_length]; omega) hvs
                            have HWB := Lib.hid hwb
                            clear h92 h92b h110 hstep hwb hc92
                            go_wp2_with fail
                            refine HWB.out.mono ?_
                            rintro e w2 ⟨rfl, hat, hb2⟩
                            rw [HC92.out] at hat
                            have HAT := Lib.hid hat
                            have HB2 := Lib.hid hb2
                            clear hat hb2
                            go_wp2_with fail
                            go_roundg (gk - 2)
                            case measure => have := HIG.out; omega
                            case rel => exact ⟨i + 2, by have := HIG.out; omega, by omega, by first | rfl | (congr 1; omega), val_step _ _ _ _ _ done 92 HST.out (by omega) HAT.out HVB.out HB2.out⟩
                          · have f92b : ((Raw[i + 1].toNat : Int) != 92) = true := by
                              rw [bne_iff_ne]; intro h; apply h92b; apply UInt8.toNat_inj.1; show Raw[i + 1].toNat = 92; omega
                            have hun := un_bad Raw.data.toList done i (by rw [HLL.out]; exact hlt1) h92 h110 h92b HD1.out
                            have hfin : parseL 64 a0.data.toList [] = ([], (k : Int), 2) := by rw [HS.out, HM.out, ← HMK.out]; exact parse_noline _ _ _ _ HZ.out HC.out (by rw [← ER.out]; exact line_noval _ _ _ HQ.out (by rw [← EB.out]; exact hun)) _
                            have HF := Lib.hid hfin
                            clear hun hfin h92 h110 h92b
                            go_wp2_with fail
                            try rw [Exit.noGoto_ret]
                            go_ret3
                            exact close_err a0 w _ k 2 HF.out (HBO.out.trans (HVB.out.mono HBO.out.size))
                      · have hie : i + 1 = Raw.size := by omega
                        have hun := un_end Raw.data.toList done i (by rw [HLL.out]; exact hlt) (by rw [HLL.out]; exact hlt1) h92 HD1.out
                        have hfin : parseL 64 a0.data.toList [] = ([], (k : Int), 2) := by rw [HS.out, HM.out, ← HMK.out]; exact parse_noline _ _ _ _ HZ.out HC.out (by rw [← ER.out]; exact line_noval _ _ _ HQ.out (by rw [← EB.out]; exact hun)) _
                        have HF := Lib.hid hfin
                        clear hun hfin h92
                        have fie : ((i : Int) + 1 == (Raw.size : Int)) = true := by rw [beq_iff_eq]; omega
                        have fil : ¬ ((i : Int) + 1 < (Raw.size : Int)) := by omega
                        go_wp2_with fail
                        try rw [Exit.noGoto_ret]
                        go_ret3
                        exact close_err a0 w _ k 2 HF.out (HBO.out.trans (HVB.out.mono HBO.out.size))
                    · have f92 : ((Raw[i].toNat : Int) == 92) = false := by
                        rw [beq_eq_false_iff_ne]; intro h; apply h92; apply UInt8.toNat_inj.1; show Raw[i].toNat = 92; omega
                      have hstep := un_plain Raw.data.toList done i (by rw [HLL.out]; exact hlt) h92 HD1.out
                      have HST := Lib.hid hstep
                      have hwb := Sh.Builder_WriteByte w1.heap.size w1.heap.size _ (Raw[i].toNat : Int) _ HD3.out (by rw [Lib.byteCells_length]; omega) hvs
                      have HWB := Lib.hid hwb
                      clear h92 hstep hwb
                      go_wp2_with fail
                      refine HWB.out.mono ?_
                      rintro e w2 ⟨rfl, hat, hb2⟩
                      have HAT := Lib.hid hat
                      have HB2 := Lib.hid hb2
                      clear hat hb2
                      go_wp2_with fail
                      go_roundg (gk - 1)
                      case measure => have := HIG.out; omega
                      case rel => exact ⟨i + 1, by have := HIG.out; omega, hlt, rfl, val_step _ _ _ _ _ done _ HST.out (by omega) HAT.out HVB.out HB2.out⟩
                  · have hie : i = Raw.size := by omega
                    have hun : unesc Raw.data.toList = some done := by
                      rw [HD1.out, List.drop_eq_nil_of_le (by rw [HLL.out]; omega), unesc]; simp
                    have HUN := Lib.hid hun
                    have hbl := Sh.Builder_Len w1.heap.size w1.heap.size _ _ HD3.out
                    rw [Lib.byteCells_length] at hbl
                    have HBL := Lib.hid hbl
                    clear hun hbl
                    go_wp2_with fail
                    refine HBL.out.mono ?_
                    rintro e wq ⟨rfl, hw⟩
                    subst wq
                    by_cases hlong : done.length ≤ 4096
                    · have fl : ¬ (4096 : Int) < (done.length : Int) := by omega
                      have HLG := Lib.hid hlong
                      clear hlong
                      go_wp2_with fail
                      have hst := Sh.Builder_String w1.heap.size w1.heap.size done _ HD3.out hvs
                      have HSTR := Lib.hid hst
                      clear hst
                      refine HSTR.out.mono ?_
                      rintro e w2 ⟨rfl, hb2⟩
                      have hbw2 : Below w.heap.size w w2 := HBO.out.trans ((HVB.out.trans hb2).mono HBO.out.size)
                      have hr2 : k31.R 31 w2 w.heap.size (fun _ => True) u5 (acc.map fieldOf) := Kd.R_below HR.out (HB1.out.trans ((HVB.out.trans hb2).mono HB1.out.size))
                      have HBW2 := Lib.hid hbw2
                      have HR2 := Lib.hid hr2
                      clear hb2 hbw2 hr2
                      go_wp2_with (first | ((with_reducible refine gate_builtin (b := .append) (xs := #[.tmp 85, .tmp 89]) rfl ?_); at_builtin; refine Kd.R_append k31 (w0 := w) w.heap.size rfl (.tmp 85) (.tmp 89) 32 31 (.agg #[(.string ⟨#[]⟩), (.string ⟨#[]⟩)]) 32 rfl Tryz.underlying32 info31 rfl (by decide) (by omega) u5 (acc.map fieldOf) (⟨Head, ⟨done.toArray⟩⟩ : S31) [.string Head, .string ⟨done.toArray⟩] (fun _ => True) (fun _ => False) rfl rfl ?aP (fun _ hk => hk.elim) ?aF ?aO ?aB ?aS ?aL ?_; (case aP => exact k31_mkM _ _ _ (⟨Head, ⟨done.toArray⟩⟩ : S31)); (case aB => exact (by repeat (first | (with_reducible first | exact HBW2.out | apply below_alloc | apply pw_below_drewN | apply below_drew1) | exact HBW2.out))); (case aF => exact (fun _ _ => trivial)); (case aO => exact (by (with_reducible repeat (first | apply Kd.R_alloc | apply Kd.R_drewN | apply Kd.R_drew)); exact HR2.out)); (case aS => exact (below_size (by repeat (first | (with_reducible first | exact HBW2.out | apply below_alloc | apply pw_below_drewN | apply below_drew1) | exact HBW2.out)))); (case aL => simp; omega); intro vv w24 ho hb hg hat; have HO3 := Lib.hid ho; have HB3 := Lib.hid hb; clear ho hb hg hat))
                      go_roundg (G - 1)
                      case measure => have := HK.out; omega
                      case rel =>
                        have hp := parse_step m cur.data.toList row rest (Head.data.toList, done) HZ.out HC.out (by rw [← ER.out, EA.out]; exact line_ok _ _ _ _ HQ.out (by rw [← EA.out]; exact HN.out) (by rw [← EB.out]; exact HUN.out) HLG.out) acc
                        refine ⟨k + 1, Rest, by have := HK.out; omega, by omega, by omega, rfl, rfl, hss, HB3.out, acc ++ [(Head.data.toList, done)], ?_, by simp; omega, ?_⟩
                        · rw [HS.out, HM.out, hp, ES.out, show 65 - (k + 1) = m by have := HM.out; omega]
                        · have ho := HO3.out
                          rw [List.map_append]
                          have e : fieldOf (Head.data.toList, done) = (⟨Head, ⟨done.toArray⟩⟩ : S31) := by show S31.mk ⟨Head.data.toList.toArray⟩ _ = _; simp
                          rw [List.map_singleton, e]
                          exact ho
                    · have fl : (4096 : Int) < (done.length : Int) := by omega
                      have hfin : parseL 64 a0.data.toList [] = ([], (k : Int), 2) := by rw [HS.out, HM.out, ← HMK.out]; exact parse_noline _ _ _ _ HZ.out HC.out (by rw [← ER.out]; exact line_long _ _ _ _ HQ.out (by rw [← EB.out]; exact HUN.out) hlong) _
                      have HF := Lib.hid hfin
                      clear hlong hfin
                      go_wp2_with fail
                      try rw [Exit.noGoto_ret]
                      go_ret3
                      exact close_err a0 w _ k 2 HF.out ((HBO.out.trans (HVB.out.mono HBO.out.size)))
  · rw [if_neg hs] at h; cases h
end Go.Proofs.YtpkcbbjflcfdeaaGreatDoor.P
