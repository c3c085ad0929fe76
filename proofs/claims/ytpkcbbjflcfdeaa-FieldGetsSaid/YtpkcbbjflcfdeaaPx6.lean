-- WRITTEN BY wip/gprint.py of this seat's repository, over the kit's printer, with given contracts.
import Derived.Test.YtpkcbbjflcfdeaaPx0
import Derived.Test.YtpkcbbjflcfdeaaPx2
import Derived.Test.YtpkcbbjflcfdeaaPx3
import Derived.Test.YtpkcbbjflcfdeaaPx5
import Derived.Test.YtpkcbbjflcfdeaaGivenG
namespace Go.Proofs.Ytpkcbbjflcfdeaa.P
open Go.RowKit Go.Proofs.YtpkcbbjflcfdeaaW.PrintWords Go.Proofs.YtpkcbbjflcfdeaaW.PrintLast Go.Proofs.YtpkcbbjflcfdeaaW.PrintMore
attribute [local go_sem] max2_int min2_int max_two min_two max_three min_three max_four min_four   -- for this text's walks alone
set_option linter.unusedVariables false
set_option linter.unusedSimpArgs false

/-! ### supercargoref05_Get: function 16 -/
def supercargoref05_Get.l0 : Nat → List (S42) → ByteArray → Int → Option (ByteArray × Bool)
  | 0, _, _, _ => none
  | k + 1, x0, x1, x6 => if x6 < (x0.length : Int) then (if 0 ≤ x6 then (if ((rd_T42 x0 x6).f0).toList = x1.toList then (some ((rd_T42 x0 x6).f1, true)) else (supercargoref05_Get.l0 k x0 x1 (wrap64 (x6 + 1)))) else (none)) else (some ((⟨#[]⟩ : ByteArray), false))
def supercargoref05_Get.f (k : Nat) (l0 : List (S42)) (a1 : ByteArray) : Option (ByteArray × Bool) := supercargoref05_Get.l0 k l0 a1 0
theorem supercargoref05_Get.mono_l : ∀ k, (∀ y0 y1 y2, LeO (supercargoref05_Get.l0 k y0 y1 y2) (supercargoref05_Get.l0 (k + 1) y0 y1 y2))
  | 0 => fun _ _ _ r h => by simp [supercargoref05_Get.l0] at h
  | k + 1 => by
    have ih0 := supercargoref05_Get.mono_l k
    · intro y0 y1 y2
      unfold supercargoref05_Get.l0
      repeat' first
      | (with_reducible exact ih0 _ _ _)
      | (with_reducible exact LeO.refl _)
      | (with_reducible exact LeO.none _)
      | (with_reducible refine LeO.ite ?_ ?_)
      | (with_reducible refine LeO.bind ?_ (fun _ => ?_))
      | exact ih0 _ _ _
      | exact LeO.none _
      | refine LeO.ite ?_ ?_
      | refine LeO.bind ?_ (fun _ => ?_)
theorem supercargoref05_Get.mono : ∀ a0 a1 k, LeO (supercargoref05_Get.f k a0 a1) (supercargoref05_Get.f (k + 1) a0 a1) := by
  intro a0 a1 k
  have ih0 := supercargoref05_Get.mono_l k
  unfold supercargoref05_Get.f
  repeat' first
      | (with_reducible exact ih0 _ _ _)
      | (with_reducible exact LeO.refl _)
      | (with_reducible exact LeO.none _)
      | (with_reducible refine LeO.ite ?_ ?_)
      | (with_reducible refine LeO.bind ?_ (fun _ => ?_))
      | exact ih0 _ _ _
      | exact LeO.none _
      | refine LeO.ite ?_ ?_
      | refine LeO.bind ?_ (fun _ => ?_)
set_option maxHeartbeats 8000000 in
set_option maxRecDepth 100000 in
theorem supercargoref05_Get.calls (k : Nat) (A0 : Option Addr) (c0 : Nat) (l0 : List (S42)) (a1 : ByteArray) (r1 : ByteArray) (r2 : Bool) (w : World) (hr0 : Kd.C k42 w A0 l0.length l0) (hc0 : l0.length ≤ c0) (h : supercargoref05_Get.f k l0 a1 = some (r1, r2)) :
    Calls Try.prog 16 #[.slice A0 l0.length c0, .string a1] w fun e w' => e = .returned (.tuple #[.string r1, .bool r2]) ∧ Drawn0 w w' := by
  have HR0 := Aside0.mk hr0
  have HC0 := Aside0.mk hc0
  clear hr0 hc0
  have H : (supercargoref05_Get.l0 k l0 a1 0) = some (r1, r2) := h
  clear h
  have H' := Aside0.mk H
  clear H
  go_enter Try.func16, Try.ntmps16
  go_wp2
  go_loopg [6] k (fun kq v6 w' => ∃ (x6_1 : Int), v6 = .int .i64 x6_1 ∧ Aside0 (supercargoref05_Get.l0 kq l0 a1 x6_1 = some (r1, r2)) ∧ Aside0 (kq ≤ k) ∧ Drawn0 w w')
  case atStart => exact ⟨(0), (by first | rfl | (simp; done) | (simp [*]; done)), H', ⟨Nat.le_refl _⟩, by repeat (first | exact Drawn0.refl _ | apply Drawn0.step)⟩
  case round =>
    clear H'
    try clear c1
    try clear p2
    obtain ⟨x6_1, rfl, HA, HK1, ⟨m1, rfl⟩⟩ := hrel
    cases gk with
    | zero => exact absurd HA.out (by simp [supercargoref05_Get.l0])
    | succ k1 =>
      have H := HA.out
      clear HA
      simp only [supercargoref05_Get.l0] at H
      by_cases c3 : x6_1 < (l0.length : Int)
      · rw [if_pos c3] at H
        have c3b0 : decide (x6_1 < (l0.length : Int)) = true := decide_eq_true c3
        clear c3
        by_cases c4 : 0 ≤ x6_1
        · rw [if_pos c4] at H
          have c4b0 : decide (0 ≤ x6_1) = true := decide_eq_true c4
          clear c4
          by_cases c5 : ((rd_T42 l0 x6_1).f0).toList = a1.toList
          · rw [if_pos c5] at H
            have c5b0 : (((rd_T42 l0 x6_1).f0).toList == a1.toList) = true := beq_iff_eq.mpr c5
            have c5b1 : (((rd_T42 l0 x6_1).f0).toList != a1.toList) = false := bne_eq_false_iff_eq.mpr c5
            clear c5
            simp only [Option.some.injEq, Prod.mk.injEq] at H
            obtain ⟨rfl, rfl⟩ := H
            have p158 : 0 ≤ (x6_1 : Int) := of_decide_eq_true (by first | (with_reducible assumption) | assumption)
            have q158 : x6_1 < (l0.length : Int) := of_decide_eq_true (by first | (with_reducible assumption) | assumption)
            obtain ⟨ad158, e158, hx158_0, hx158_1⟩ := at_T42 HR0.out x6_1 p158 q158
            cases e158
            replace p158 := eq_true p158
            replace q158 := eq_true q158
            have p159 : 0 ≤ (x6_1 : Int) := of_decide_eq_true (by first | (with_reducible assumption) | assumption)
            have q159 : x6_1 < (l0.length : Int) := of_decide_eq_true (by first | (with_reducible assumption) | assumption)
            obtain ⟨ad159, e159, hx159_0, hx159_1⟩ := at_T42 HR0.out x6_1 p159 q159
            obtain rfl : ad158 = ad159 := (by injection e159)
            replace p159 := eq_true p159
            replace q159 := eq_true q159
            go_wp2
            go_ret2
            exact ⟨by first | rfl | (simp; done) | (simp [*]; done), by repeat (first | exact Drawn0.refl _ | apply Drawn0.step)⟩
          · rw [if_neg c5] at H
            have c5b0 : (((rd_T42 l0 x6_1).f0).toList == a1.toList) = false := beq_eq_false_iff_ne.mpr c5
            have c5b1 : (((rd_T42 l0 x6_1).f0).toList != a1.toList) = true := bne_iff_ne.mpr c5
            have H' := Aside0.mk H
            clear H
            have p158 : 0 ≤ (x6_1 : Int) := of_decide_eq_true (by first | (with_reducible assumption) | assumption)
            have q158 : x6_1 < (l0.length : Int) := of_decide_eq_true (by first | (with_reducible assumption) | assumption)
            obtain ⟨ad158, e158, hx158_0, hx158_1⟩ := at_T42 HR0.out x6_1 p158 q158
            cases e158
            replace p158 := eq_true p158
            replace q158 := eq_true q158
            go_wp2
            go_roundg k1
            case measure => have := HK1.out; omega
            case rel => exact ⟨(wrap64 (x6_1 + 1)), (by first | rfl | (simp; done) | (simp [*]; done)), H', ⟨by have := HK1.out; omega⟩, by repeat (first | exact Drawn0.refl _ | apply Drawn0.step)⟩
        · rw [if_neg c4] at H
          exact absurd H (by simp)
      · rw [if_neg c3] at H
        have c3b0 : decide (x6_1 < (l0.length : Int)) = false := decide_eq_false c3
        clear c3
        simp only [Option.some.injEq, Prod.mk.injEq] at H
        obtain ⟨rfl, rfl⟩ := H
        go_wp2
        go_ret2
        exact ⟨by first | rfl | (simp; done) | (simp [*]; done), by repeat (first | exact Drawn0.refl _ | apply Drawn0.step)⟩

/-! ### field_Set: function 17 -/
def field_Set.f (l0 : List (S42)) (a1 : ByteArray) (a2 : ByteArray) : Option ((List (S42))) := (api_Field_30.f l0).bind fun t160 => ((field_place.f t160 a1).bind fun t163 => (if t163 < 0 then (if t160.length < 4398046511104 then (some (t160 ++ [(⟨a1, a2⟩ : S42)])) else (none)) else (if 0 ≤ t163 then (if t163 < (t160.length : Int) then (some (t160.set (t163 : Int).toNat (⟨(rd_T42 t160 t163).f0, a2⟩ : S42))) else (none)) else (none))))
set_option maxHeartbeats 8000000 in
set_option maxRecDepth 100000 in
theorem field_Set.calls (A0 : Option Addr) (c0 : Nat) (l0 : List (S42)) (a1 : ByteArray) (a2 : ByteArray) (r : List (S42)) (w : World) (hr0 : Kd.C k42 w A0 l0.length l0) (hc0 : l0.length ≤ c0) (h : field_Set.f l0 a1 a2 = some r) :
    Calls Try.prog 17 #[.slice A0 l0.length c0, .string a1, .string a2] w fun e w' => ∃ v0_ : Value, e = .returned (v0_) ∧ Kd.R k42 42 w' w.heap.size (fun _ => True) v0_ r ∧ Below w.heap.size w w' := by
  have hu42 := Try.underlying42
  have HR0 := Aside0.mk hr0
  have HC0 := Aside0.mk hc0
  clear hr0 hc0
  have HB := Aside0.mk (Below.refl w.heap.size w)
  have H : ((api_Field_30.f l0).bind fun t160 => ((field_place.f t160 a1).bind fun t163 => (if t163 < 0 then (if t160.length < 4398046511104 then (some (t160 ++ [(⟨a1, a2⟩ : S42)])) else (none)) else (if 0 ≤ t163 then (if t163 < (t160.length : Int) then (some (t160.set (t163 : Int).toNat (⟨(rd_T42 t160 t163).f0, a2⟩ : S42))) else (none)) else (none))))) = some r := h
  clear h
  replace H := Option.bind_eq_some_iff.mp H
  obtain ⟨t160, A40, H⟩ := H
  replace H : ((field_place.f t160 a1).bind fun t163 => (if t163 < 0 then (if t160.length < 4398046511104 then (some (t160 ++ [(⟨a1, a2⟩ : S42)])) else (none)) else (if 0 ≤ t163 then (if t163 < (t160.length : Int) then (some (t160.set (t163 : Int).toNat (⟨(rd_T42 t160 t163).f0, a2⟩ : S42))) else (none)) else (none)))) = some r := H
  have A4 := Aside0.mk A40
  clear A40
  replace H := Option.bind_eq_some_iff.mp H
  obtain ⟨t163, A50, H⟩ := H
  replace H : (if t163 < 0 then (if t160.length < 4398046511104 then (some (t160 ++ [(⟨a1, a2⟩ : S42)])) else (none)) else (if 0 ≤ t163 then (if t163 < (t160.length : Int) then (some (t160.set (t163 : Int).toNat (⟨(rd_T42 t160 t163).f0, a2⟩ : S42))) else (none)) else (none))) = some r := H
  have A5 := Aside0.mk A50
  clear A50
  by_cases c6 : t163 < 0
  · rw [if_pos c6] at H
    have c6b0 : decide (t163 < 0) = true := decide_eq_true c6
    clear c6
    by_cases c7 : t160.length < 4398046511104
    · rw [if_pos c7] at H
      have LMc7 := Aside0.mk c7
      clear c7
      obtain ⟨y164, hy164⟩ : ∃ y_ : List (S42), y_ = (t160 ++ [(⟨a1, a2⟩ : S42)]) := ⟨_, rfl⟩
      replace H : (some y164) = some r := by first | (rw [hy164]; with_reducible exact H) | (have H2_ := (Option.bind_some _ _).symm.trans H; rw [hy164]; with_reducible exact H2_) | (have H2_ := (Option.bind_some _ _).symm.trans H; with_reducible exact H2_) | with_reducible exact H | (rw [hy164]; exact H) | exact H
      have Ny164 := Aside0.mk hy164
      clear hy164
      obtain rfl := Option.some.inj H
      go_enter Try.func17, Try.ntmps17
      go_wp2_with (first | ((with_reducible refine gate_callee (f := 30) rfl ?_); refine goesL_ (some 10) rfl rfl Try.func30 (by kernel_rfl) rfl #[.slice A0 l0.length c0] rfl (by (try simp only [List.map_toArray, List.map_cons, List.map_nil]); first | done | rfl | (simp only [List.length_drop, List.length_take]; rfl)) ?_; (with_reducible refine (api_Field_30.calls _ _ l0 t160 _ ?side1 ?side2 A4.out).mono ?_); (case side1 => repeat (first | exact HR0.out | (with_reducible refine Kd.C_alloc ?_ _) | (with_reducible refine Kd.C_drewN ?_ _) | (with_reducible refine Kd.C_drew ?_))); (case side2 => exact HC0.out); rintro e w8 ⟨v161, rfl, ho0, hb⟩; refine ⟨_, rfl, ?_⟩; have n0_ := Aside0.mk (Kd.R_lower ho0 (below_size (by repeat (first | (with_reducible first | exact HB.out | apply below_alloc | apply pw_below_drewN | apply below_drew1) | exact HB.out)))); have n1_ := Aside0.mk (below_step (by repeat (first | (with_reducible first | exact HB.out | apply below_alloc | apply pw_below_drewN | apply below_drew1) | exact HB.out)) hb); clear HB; have HO162 := n0_; have HB := n1_; clear n0_ n1_; (try clear hb); (try clear hb2); (try clear hk); (try clear hi); (try clear ho0); obtain ⟨Ao9, co9, eo9⟩ := Kd.R_slice HO162.out; subst eo9) | ((with_reducible refine gate_callee (f := 29) rfl ?_); refine goesL_ (some 13) rfl rfl Try.func29 (by kernel_rfl) rfl #[.slice Ao9 t160.length co9, .string a1] rfl (by (try simp only [List.map_toArray, List.map_cons, List.map_nil]); first | done | rfl | (simp only [List.length_drop, List.length_take]; rfl)) ?_; (with_reducible refine (field_place.calls _ _ t160 a1 t163 _ ?side1 ?side2 A5.out).mono ?_); (case side1 => repeat (first | exact (Kd.R_reads' HO162.out).2.2 | (with_reducible refine Kd.C_alloc ?_ _) | (with_reducible refine Kd.C_drewN ?_ _) | (with_reducible refine Kd.C_drew ?_))); (case side2 => exact (Kd.R_reads' HO162.out).2.1); rintro e w10 ⟨rfl, hb⟩; refine ⟨_, rfl, ?_⟩; have n0_ := Aside0.mk (Kd.R_below (by (with_reducible repeat (first | apply Kd.R_alloc | apply Kd.R_drewN | apply Kd.R_drew)); exact HO162.out) hb); have n1_ := Aside0.mk (below_step (by repeat (first | (with_reducible first | exact HB.out | apply below_alloc | apply pw_below_drewN | apply below_drew1) | exact HB.out)) hb); clear HO162; clear HB; have HO162 := n0_; have HB := n1_; clear n0_ n1_; (try clear hb); (try clear hb2); (try clear hk); (try clear hi)) | ((with_reducible refine gate_builtin (b := .append) (xs := #[.tmp 16, .tmp 20]) rfl ?_); at_builtin; refine Kd.R_append k42 (w0 := w) w.heap.size rfl (.tmp 16) (.tmp 20) 22 42 (.agg #[(.string ⟨#[]⟩), (.string ⟨#[]⟩)]) 32 rfl Try.underlying22 info42 rfl (by decide) (by omega) (.slice Ao9 t160.length co9) t160 (⟨a1, a2⟩ : S42) [.string a1, .string a2] (fun _ => True) (fun _ => False) rfl rfl ?aP (fun _ hk => hk.elim) ?aF ?aO ?aB ?aS ?aL ?_; (case aP => exact k42_mkM _ _ _ (⟨a1, a2⟩ : S42)); (case aB => exact (by repeat (first | (with_reducible first | exact HB.out | apply below_alloc | apply pw_below_drewN | apply below_drew1) | exact HB.out))); (case aF => exact (fun _ _ => trivial)); (case aO => exact (by (with_reducible repeat (first | apply Kd.R_alloc | apply Kd.R_drewN | apply Kd.R_drew)); exact HO162.out)); (case aS => exact (below_size (by repeat (first | (with_reducible first | exact HB.out | apply below_alloc | apply pw_below_drewN | apply below_drew1) | exact HB.out)))); (case aL => have := LMc7.out; omega); intro v165 w11 ho hb hg hat; rw [← Ny164.out] at ho; have n0_ := Aside0.mk (hb); have n1_ := Aside0.mk (ho); clear HB; clear HO162; have HB := n0_; have HO166 := n1_; clear n0_ n1_; clear ho hb hg hat))
      go_ret
      exact ⟨_, by first | rfl | (simp [errW_none, errW_some] <;> rfl) | (simp [*, errW_none, errW_some] <;> rfl), by (with_reducible repeat (first | apply Kd.R_alloc | apply Kd.R_drewN | apply Kd.R_drew)); exact HO166.out, by repeat (first | (with_reducible first | exact HB.out | apply below_alloc | apply pw_below_drewN | apply below_drew1) | exact HB.out)⟩
    · rw [if_neg c7] at H
      exact absurd H (by simp)
  · rw [if_neg c6] at H
    have c6b0 : decide (t163 < 0) = false := decide_eq_false c6
    clear c6
    by_cases c12 : 0 ≤ t163
    · rw [if_pos c12] at H
      have c12b0 : decide (0 ≤ t163) = true := decide_eq_true c12
      clear c12
      by_cases c13 : t163 < (t160.length : Int)
      · rw [if_pos c13] at H
        have c13b0 : decide (t163 < (t160.length : Int)) = true := decide_eq_true c13
        clear c13
        obtain ⟨y167, hy167⟩ : ∃ y_ : List (S42), y_ = (t160.set (t163 : Int).toNat (⟨(rd_T42 t160 t163).f0, a2⟩ : S42)) := ⟨_, rfl⟩
        replace H : (some y167) = some r := by first | (rw [hy167]; with_reducible exact H) | (have H2_ := (Option.bind_some _ _).symm.trans H; rw [hy167]; with_reducible exact H2_) | (have H2_ := (Option.bind_some _ _).symm.trans H; with_reducible exact H2_) | with_reducible exact H | (rw [hy167]; exact H) | exact H
        have Ny167 := Aside0.mk hy167
        clear hy167
        obtain rfl := Option.some.inj H
        go_enter Try.func17, Try.ntmps17
        go_wp2_with (first | ((with_reducible refine gate_callee (f := 30) rfl ?_); refine goesL_ (some 10) rfl rfl Try.func30 (by kernel_rfl) rfl #[.slice A0 l0.length c0] rfl (by (try simp only [List.map_toArray, List.map_cons, List.map_nil]); first | done | rfl | (simp only [List.length_drop, List.length_take]; rfl)) ?_; (with_reducible refine (api_Field_30.calls _ _ l0 t160 _ ?side1 ?side2 A4.out).mono ?_); (case side1 => repeat (first | exact HR0.out | (with_reducible refine Kd.C_alloc ?_ _) | (with_reducible refine Kd.C_drewN ?_ _) | (with_reducible refine Kd.C_drew ?_))); (case side2 => exact HC0.out); rintro e w15 ⟨v161, rfl, ho0, hb⟩; refine ⟨_, rfl, ?_⟩; have n0_ := Aside0.mk (Kd.R_lower ho0 (below_size (by repeat (first | (with_reducible first | exact HB.out | apply below_alloc | apply pw_below_drewN | apply below_drew1) | exact HB.out)))); have n1_ := Aside0.mk (below_step (by repeat (first | (with_reducible first | exact HB.out | apply below_alloc | apply pw_below_drewN | apply below_drew1) | exact HB.out)) hb); clear HB; have HO162 := n0_; have HB := n1_; clear n0_ n1_; (try clear hb); (try clear hb2); (try clear hk); (try clear hi); (try clear ho0); obtain ⟨Ao16, co16, eo16⟩ := Kd.R_slice HO162.out; subst eo16) | ((with_reducible refine gate_callee (f := 29) rfl ?_); refine goesL_ (some 13) rfl rfl Try.func29 (by kernel_rfl) rfl #[.slice Ao16 t160.length co16, .string a1] rfl (by (try simp only [List.map_toArray, List.map_cons, List.map_nil]); first | done | rfl | (simp only [List.length_drop, List.length_take]; rfl)) ?_; (with_reducible refine (field_place.calls _ _ t160 a1 t163 _ ?side1 ?side2 A5.out).mono ?_); (case side1 => repeat (first | exact (Kd.R_reads' HO162.out).2.2 | (with_reducible refine Kd.C_alloc ?_ _) | (with_reducible refine Kd.C_drewN ?_ _) | (with_reducible refine Kd.C_drew ?_))); (case side2 => exact (Kd.R_reads' HO162.out).2.1); rintro e w17 ⟨rfl, hb⟩; refine ⟨_, rfl, ?_⟩; have n0_ := Aside0.mk (Kd.R_below (by (with_reducible repeat (first | apply Kd.R_alloc | apply Kd.R_drewN | apply Kd.R_drew)); exact HO162.out) hb); have n1_ := Aside0.mk (below_step (by repeat (first | (with_reducible first | exact HB.out | apply below_alloc | apply pw_below_drewN | apply below_drew1) | exact HB.out)) hb); clear HO162; clear HB; have HO162 := n0_; have HB := n1_; clear n0_ n1_; (try clear hb); (try clear hb2); (try clear hk); (try clear hi); have p14 : 0 ≤ (t163 : Int) := of_decide_eq_true (by first | (with_reducible assumption) | assumption); have q14 : (t163 : Int) < ((t160.length : Int) : Int) := of_decide_eq_true (by first | (with_reducible assumption) | assumption); obtain ⟨go14, co14, eo14, gb14, gl14, cl14, HG14⟩ := Kd.R_form HO162.out (by omega); (first | cases eo14 | (injection eo14 with ea_ en_ ec_; (first | subst ea_ | (injection ea_ with ea_; subst ea_)); subst ec_; clear en_)); have GB14 := Aside0.mk gb14; have GG14 := Aside0.mk HG14; clear gb14 gl14 HG14; obtain ⟨ce14, hcl14, hM14, hcc14, hfr14⟩ := Kd.R_elem HO162.out z42 (t163 : Int) p14 q14; obtain rfl := k42_openM hM14; have hx14_0 : w17.cell? ⟨go14, (t163 : Int).toNat * 2, none⟩ = some (.string ((rd_T42 t160 t163).f0)) := hcc14 0 _ rfl; have hx14_1 : w17.cell? ⟨go14, (t163 : Int).toNat * 2 + 1, none⟩ = some (.string ((rd_T42 t160 t163).f1)) := hcc14 1 _ rfl; have hf14_0 : w17.frozen? ⟨go14, (t163 : Int).toNat * 2, none⟩ = false := hfr14 0; have hf14_1 : w17.frozen? ⟨go14, (t163 : Int).toNat * 2 + 1, none⟩ = false := hfr14 1; clear hcl14 hcc14 hfr14 hM14; replace p14 := eq_true p14; replace q14 := eq_true q14; have HX18 := Aside0.mk (show Kd.R k42 42 w17 w.heap.size (fun _ => True) (.slice (some ⟨go14, 0, none⟩) t160.length co16) t160 from (by (with_reducible repeat (first | apply Kd.R_alloc | apply Kd.R_drewN | apply Kd.R_drew)); exact HO162.out)); obtain ⟨ce18, hcl18, hM18, hcc18, hfr18⟩ := Kd.R_elem HX18.out z42 (t163 : Int) (of_decide_eq_true (by first | (with_reducible assumption) | assumption)) (by have h_ : (t163 : Int) < ((t160.length : Int) : Int) := of_decide_eq_true (by first | (with_reducible assumption) | assumption); first | exact h_ | (have e_ := (Kd.R_reads' HO162.out).1; omega) | simpa using h_); obtain rfl := k42_openM hM18; have HP18 := Kd.R_seg HX18.out (t163 : Int) (of_decide_eq_true (by first | (with_reducible assumption) | assumption)) (by have h_ : (t163 : Int) < ((t160.length : Int) : Int) := of_decide_eq_true (by first | (with_reducible assumption) | assumption); first | exact h_ | (have e_ := (Kd.R_reads' HO162.out).1; omega) | simpa using h_) (seg := [.string a2]) (j := 1) hcl18 hcc18 (show 2 ≤ 2 from by decide) (x' := (⟨(rd_T42 t160 t163).f0, a2⟩ : S42)) (k42_mkM _ _ _ (⟨(rd_T42 t160 t163).f0, a2⟩ : S42) ) (fun _ hk => hk); have hx18_1 := hcc18 1 _ rfl; (try simp only [show (k42).sz = 2 from rfl, Nat.mul_one, Nat.add_zero] at hx18_1); have hf18_1 := hfr18 1; (try simp only [show (k42).sz = 2 from rfl, Nat.mul_one, Nat.add_zero] at hf18_1); clear hcl18 hcc18 hfr18 hM18) | ((with_reducible refine gate_store (t := 9) (p := 26) rfl ?_); refine store_event (t := 9) (p := 26) (v := ?vo_w19) (w1 := (w17.setCell ⟨go14, (t163 : Int).toNat * 2 + 1, none⟩ (.string a2))) ?hg ?ho ?hn ?hr ?_; (case ho => rfl); (case hg => rfl); (case hn => rfl); (case hr => first | (go_simp; done) | (go_simp; rfl)); intro w19 hw; have hg : w17.grownBy w19 (some go14) := (by rw [hw]; exact HP18.2); have hp_ : Kd.R k42 42 w19 w.heap.size (fun _ => True) (.slice (some ⟨go14, 0, none⟩) t160.length co16) y167 := (by rw [hw, Ny167.out]; exact HP18.1); clear HP18; have n0_ := Aside0.mk (hp_); have n1_ := Aside0.mk ((by rw [hw]; exact below_set (HB.out) GB14.out : Below w.heap.size w w19)); clear HO162; clear HB; have HO162 := n0_; have HB := n1_; clear n0_ n1_; clear hg hw hp_))
        go_ret
        exact ⟨_, by first | rfl | (simp [errW_none, errW_some] <;> rfl) | (simp [*, errW_none, errW_some] <;> rfl), by (with_reducible repeat (first | apply Kd.R_alloc | apply Kd.R_drewN | apply Kd.R_drew)); exact HO162.out, by repeat (first | (with_reducible first | exact HB.out | apply below_alloc | apply pw_below_drewN | apply below_drew1) | exact HB.out)⟩
      · rw [if_neg c13] at H
        exact absurd H (by simp)
    · rw [if_neg c12] at H
      exact absurd H (by simp)

/-! ### supercargolaw05_FieldGets: function 5 -/
mutual
def supercargolaw05_FieldGets.j0 : Nat → List (S42) → ByteArray → ByteArray → ByteArray → Bool → Option (Bool)
  | 0, _, _, _, _, _ => none
  | k + 1, x0, x1, x2, x3, x37 => if x37 = true then ((supercargolaw05_awake.f).bind fun t169 => (some t169)) else ((some (([] : List (S42)) : List (S42))).bind fun y170 => (if y170.length + x0.length < 4398046511104 then ((field_Get.f x0 x1).bind fun bt176 => ((supercargoref05_Get.f k x0 x1).bind fun bt178 => ((field_Set.f x0 x1 x2).bind fun t180 => (if bt176.1.toList = bt178.1.toList then (if (bt176.2 != bt178.2) = true then (supercargolaw05_FieldGets.j1 k x0 x1 x2 x3 t180 true) else ((supercargoref05_Set.f x0 x1 x2).bind fun t183 => ((supercargoref05_Same.f k t180 t183).bind fun t186 => (if t186 = true then ((supercargoref05_Same.f k x0 (y170 ++ x0)).bind fun t187 => (supercargolaw05_FieldGets.j1 k x0 x1 x2 x3 t180 (!t187))) else (supercargolaw05_FieldGets.j1 k x0 x1 x2 x3 t180 true))))) else (supercargolaw05_FieldGets.j1 k x0 x1 x2 x3 t180 true))))) else (none)))
def supercargolaw05_FieldGets.j1 : Nat → List (S42) → ByteArray → ByteArray → ByteArray → List (S42) → Bool → Option (Bool)
  | 0, _, _, _, _, _, _ => none
  | k + 1, x0, x1, x2, x3, x14, x80 => if x80 = true then (some false) else ((field_Get.f x14 x1).bind fun bt188 => (if bt188.1.toList = x2.toList then (supercargolaw05_FieldGets.j2 k x0 x1 x3 x14 (!bt188.2)) else (supercargolaw05_FieldGets.j2 k x0 x1 x3 x14 true)))
def supercargolaw05_FieldGets.j2 : Nat → List (S42) → ByteArray → ByteArray → List (S42) → Bool → Option (Bool)
  | 0, _, _, _, _, _ => none
  | k + 1, x0, x1, x3, x14, x93 => if x93 = true then (some false) else ((field_Get.f x0 x3).bind fun bt190 => ((field_Get.f x14 x3).bind fun bt192 => (if x3.toList = x1.toList then ((supercargolaw05_awake.f).bind fun t194 => (some t194)) else (if bt190.1.toList = bt192.1.toList then (if (bt190.2 == bt192.2) = true then ((supercargolaw05_awake.f).bind fun t195 => (some t195)) else (some false)) else (some false)))))
end
def supercargolaw05_FieldGets.f (k : Nat) (l0 : List (S42)) (a1 : ByteArray) (a2 : ByteArray) (a3 : ByteArray) : Option (Bool) := (supercargolaw05_long.f k l0).bind fun t168 => (if t168 = true then (supercargolaw05_FieldGets.j0 k l0 a1 a2 a3 true) else (if (a1.size : Int) > 100 then (supercargolaw05_FieldGets.j0 k l0 a1 a2 a3 true) else (if (a2.size : Int) > 200 then (supercargolaw05_FieldGets.j0 k l0 a1 a2 a3 true) else (supercargolaw05_FieldGets.j0 k l0 a1 a2 a3 (decide ((a3.size : Int) > 100))))))
theorem supercargolaw05_FieldGets.mono_l : ∀ k, (∀ y0 y1 y2 y3 y4, LeO (supercargolaw05_FieldGets.j0 k y0 y1 y2 y3 y4) (supercargolaw05_FieldGets.j0 (k + 1) y0 y1 y2 y3 y4)) ∧ (∀ y0 y1 y2 y3 y4 y5, LeO (supercargolaw05_FieldGets.j1 k y0 y1 y2 y3 y4 y5) (supercargolaw05_FieldGets.j1 (k + 1) y0 y1 y2 y3 y4 y5)) ∧ (∀ y0 y1 y2 y3 y4, LeO (supercargolaw05_FieldGets.j2 k y0 y1 y2 y3 y4) (supercargolaw05_FieldGets.j2 (k + 1) y0 y1 y2 y3 y4))
  | 0 => ⟨fun _ _ _ _ _ r h => by simp [supercargolaw05_FieldGets.j0] at h, fun _ _ _ _ _ _ r h => by simp [supercargolaw05_FieldGets.j1] at h, fun _ _ _ _ _ r h => by simp [supercargolaw05_FieldGets.j2] at h⟩
  | k + 1 => by
    obtain ⟨ih0, ih1, ih2⟩ := supercargolaw05_FieldGets.mono_l k
    refine ⟨?_, ?_, ?_⟩
    · intro y0 y1 y2 y3 y4
      unfold supercargolaw05_FieldGets.j0
      repeat' first
      | (with_reducible exact ih0 _ _ _ _ _)
      | (with_reducible exact ih1 _ _ _ _ _ _)
      | (with_reducible exact ih2 _ _ _ _ _)
      | (with_reducible exact supercargolaw05_long.mono _ _)
      | (with_reducible exact supercargoref05_Get.mono _ _ _)
      | (with_reducible exact supercargoref05_Same.mono _ _ _)
      | (with_reducible exact LeO.refl _)
      | (with_reducible exact LeO.none _)
      | (with_reducible refine LeO.ite ?_ ?_)
      | (with_reducible refine LeO.bind ?_ (fun _ => ?_))
      | exact ih0 _ _ _ _ _
      | exact ih1 _ _ _ _ _ _
      | exact ih2 _ _ _ _ _
      | exact supercargolaw05_long.mono _ _
      | exact supercargoref05_Get.mono _ _ _
      | exact supercargoref05_Same.mono _ _ _
      | exact LeO.none _
      | refine LeO.ite ?_ ?_
      | refine LeO.bind ?_ (fun _ => ?_)
    · intro y0 y1 y2 y3 y4 y5
      unfold supercargolaw05_FieldGets.j1
      repeat' first
      | (with_reducible exact ih0 _ _ _ _ _)
      | (with_reducible exact ih1 _ _ _ _ _ _)
      | (with_reducible exact ih2 _ _ _ _ _)
      | (with_reducible exact supercargolaw05_long.mono _ _)
      | (with_reducible exact supercargoref05_Get.mono _ _ _)
      | (with_reducible exact supercargoref05_Same.mono _ _ _)
      | (with_reducible exact LeO.refl _)
      | (with_reducible exact LeO.none _)
      | (with_reducible refine LeO.ite ?_ ?_)
      | (with_reducible refine LeO.bind ?_ (fun _ => ?_))
      | exact ih0 _ _ _ _ _
      | exact ih1 _ _ _ _ _ _
      | exact ih2 _ _ _ _ _
      | exact supercargolaw05_long.mono _ _
      | exact supercargoref05_Get.mono _ _ _
      | exact supercargoref05_Same.mono _ _ _
      | exact LeO.none _
      | refine LeO.ite ?_ ?_
      | refine LeO.bind ?_ (fun _ => ?_)
    · intro y0 y1 y2 y3 y4
      unfold supercargolaw05_FieldGets.j2
      repeat' first
      | (with_reducible exact ih0 _ _ _ _ _)
      | (with_reducible exact ih1 _ _ _ _ _ _)
      | (with_reducible exact ih2 _ _ _ _ _)
      | (with_reducible exact supercargolaw05_long.mono _ _)
      | (with_reducible exact supercargoref05_Get.mono _ _ _)
      | (with_reducible exact supercargoref05_Same.mono _ _ _)
      | (with_reducible exact LeO.refl _)
      | (with_reducible exact LeO.none _)
      | (with_reducible refine LeO.ite ?_ ?_)
      | (with_reducible refine LeO.bind ?_ (fun _ => ?_))
      | exact ih0 _ _ _ _ _
      | exact ih1 _ _ _ _ _ _
      | exact ih2 _ _ _ _ _
      | exact supercargolaw05_long.mono _ _
      | exact supercargoref05_Get.mono _ _ _
      | exact supercargoref05_Same.mono _ _ _
      | exact LeO.none _
      | refine LeO.ite ?_ ?_
      | refine LeO.bind ?_ (fun _ => ?_)
theorem supercargolaw05_FieldGets.mono : ∀ a0 a1 a2 a3 k, LeO (supercargolaw05_FieldGets.f k a0 a1 a2 a3) (supercargolaw05_FieldGets.f (k + 1) a0 a1 a2 a3) := by
  intro a0 a1 a2 a3 k
  obtain ⟨ih0, ih1, ih2⟩ := supercargolaw05_FieldGets.mono_l k
  unfold supercargolaw05_FieldGets.f
  repeat' first
      | (with_reducible exact ih0 _ _ _ _ _)
      | (with_reducible exact ih1 _ _ _ _ _ _)
      | (with_reducible exact ih2 _ _ _ _ _)
      | (with_reducible exact supercargolaw05_long.mono _ _)
      | (with_reducible exact supercargoref05_Get.mono _ _ _)
      | (with_reducible exact supercargoref05_Same.mono _ _ _)
      | (with_reducible exact LeO.refl _)
      | (with_reducible exact LeO.none _)
      | (with_reducible refine LeO.ite ?_ ?_)
      | (with_reducible refine LeO.bind ?_ (fun _ => ?_))
      | exact ih0 _ _ _ _ _
      | exact ih1 _ _ _ _ _ _
      | exact ih2 _ _ _ _ _
      | exact supercargolaw05_long.mono _ _
      | exact supercargoref05_Get.mono _ _ _
      | exact supercargoref05_Same.mono _ _ _
      | exact LeO.none _
      | refine LeO.ite ?_ ?_
      | refine LeO.bind ?_ (fun _ => ?_)
set_option maxHeartbeats 8000000 in
set_option maxRecDepth 100000 in
theorem supercargolaw05_FieldGets.calls (k : Nat) (A0 : Option Addr) (c0 : Nat) (l0 : List (S42)) (a1 : ByteArray) (a2 : ByteArray) (a3 : ByteArray) (r : Bool) (w : World) (hr0 : Kd.C k42 w A0 l0.length l0) (hc0 : l0.length ≤ c0) (h : supercargolaw05_FieldGets.f k l0 a1 a2 a3 = some r) :
    Calls Try.prog 5 #[.slice A0 l0.length c0, .string a1, .string a2, .string a3] w fun e w' => e = .returned (.bool r) ∧ Below w.heap.size w w' := by
  have HR0 := Aside0.mk hr0
  have HC0 := Aside0.mk hc0
  clear hr0 hc0
  have HB := Aside0.mk (Below.refl w.heap.size w)
  have H : ((supercargolaw05_long.f k l0).bind fun t168 => (if t168 = true then (supercargolaw05_FieldGets.j0 k l0 a1 a2 a3 true) else (if (a1.size : Int) > 100 then (supercargolaw05_FieldGets.j0 k l0 a1 a2 a3 true) else (if (a2.size : Int) > 200 then (supercargolaw05_FieldGets.j0 k l0 a1 a2 a3 true) else (supercargolaw05_FieldGets.j0 k l0 a1 a2 a3 (decide ((a3.size : Int) > 100))))))) = some r := h
  clear h
  have HC5 := Aside0.mk H
  clear H
  go_enter Try.func5, Try.ntmps5
  go_upto_region 1 with (fail)
  go_cut [37] (fun v37 wc => ∃ (kq : Nat) (x37_4 : Bool), v37 = .bool x37_4 ∧ Aside0 (supercargolaw05_FieldGets.j0 kq l0 a1 a2 a3 x37_4 = some r) ∧ Aside0 (kq ≤ k) ∧ Aside0 (Below w.heap.size w wc))
  case first =>
    have H := HC5.out
    clear HC5
    replace H := Option.bind_eq_some_iff.mp H
    obtain ⟨t168, A60, H⟩ := H
    replace H : (if t168 = true then (supercargolaw05_FieldGets.j0 k l0 a1 a2 a3 true) else (if (a1.size : Int) > 100 then (supercargolaw05_FieldGets.j0 k l0 a1 a2 a3 true) else (if (a2.size : Int) > 200 then (supercargolaw05_FieldGets.j0 k l0 a1 a2 a3 true) else (supercargolaw05_FieldGets.j0 k l0 a1 a2 a3 (decide ((a3.size : Int) > 100)))))) = some r := H
    have A6 := Aside0.mk A60
    clear A60
    by_cases c7 : t168 = true
    · subst c7
      have H1 : (supercargolaw05_FieldGets.j0 k l0 a1 a2 a3 true) = some r := by rw [if_pos rfl] at H; exact H
      clear H
      have H := H1
      clear H1
      have H' := Aside0.mk H
      clear H
      go_wp2_with (first | ((with_reducible refine gate_callee (f := 6) rfl ?_); refine goesL_ (some 22) rfl rfl Try.func6 (by kernel_rfl) rfl #[.slice A0 l0.length c0] rfl (by (try simp only [List.map_toArray, List.map_cons, List.map_nil]); first | done | rfl | (simp only [List.length_drop, List.length_take]; rfl)) ?_; (with_reducible refine (supercargolaw05_long.calls k _ _ l0 true _ ?side1 ?side2 A6.out).mono ?_); (case side1 => repeat (first | exact (Kd.C_below HR0.out HB.out) | (with_reducible refine Kd.C_alloc ?_ _) | (with_reducible refine Kd.C_drewN ?_ _) | (with_reducible refine Kd.C_drew ?_))); (case side2 => exact HC0.out); rintro e w8 ⟨rfl, hb⟩; refine ⟨_, rfl, ?_⟩; have n0_ := Aside0.mk (below_step (by repeat (first | (with_reducible first | exact HB.out | apply below_alloc | apply pw_below_drewN | apply below_drew1) | exact HB.out)) hb); clear HB; have HB := n0_; clear n0_; (try clear hb); (try clear hb2); (try clear hk); (try clear hi)))
      go_meet
      case rel => exact ⟨_, (true), (by first | rfl | (simp; done) | (simp [*]; done)), H', ⟨by first | omega | exact Nat.le_refl _⟩, ⟨by repeat (first | (with_reducible first | exact HB.out | apply below_alloc | apply pw_below_drewN | apply below_drew1) | exact HB.out)⟩⟩
    · replace c7 := Bool.eq_false_iff.mpr c7
      subst c7
      have H1 : (if (a1.size : Int) > 100 then (supercargolaw05_FieldGets.j0 k l0 a1 a2 a3 true) else (if (a2.size : Int) > 200 then (supercargolaw05_FieldGets.j0 k l0 a1 a2 a3 true) else (supercargolaw05_FieldGets.j0 k l0 a1 a2 a3 (decide ((a3.size : Int) > 100))))) = some r := by rw [if_neg (show ¬ (false = true) by decide)] at H; exact H
      clear H
      have H := H1
      clear H1
      by_cases c9 : (a1.size : Int) > 100
      · rw [if_pos c9] at H
        have c9b0 : decide (100 < (a1.size : Int)) = true := decide_eq_true c9
        have c9b1 : decide (100 < a1.size) = true := decide_eq_true (by omega)
        clear c9
        (first | rw [c9b0] | (simp only [i64_w, i32_w]; rw [c9b0]) | skip)
        have H' := Aside0.mk H
        clear H
        go_wp2_with (first | ((with_reducible refine gate_callee (f := 6) rfl ?_); refine goesL_ (some 22) rfl rfl Try.func6 (by kernel_rfl) rfl #[.slice A0 l0.length c0] rfl (by (try simp only [List.map_toArray, List.map_cons, List.map_nil]); first | done | rfl | (simp only [List.length_drop, List.length_take]; rfl)) ?_; (with_reducible refine (supercargolaw05_long.calls k _ _ l0 false _ ?side1 ?side2 A6.out).mono ?_); (case side1 => repeat (first | exact (Kd.C_below HR0.out HB.out) | (with_reducible refine Kd.C_alloc ?_ _) | (with_reducible refine Kd.C_drewN ?_ _) | (with_reducible refine Kd.C_drew ?_))); (case side2 => exact HC0.out); rintro e w10 ⟨rfl, hb⟩; refine ⟨_, rfl, ?_⟩; have n0_ := Aside0.mk (below_step (by repeat (first | (with_reducible first | exact HB.out | apply below_alloc | apply pw_below_drewN | apply below_drew1) | exact HB.out)) hb); clear HB; have HB := n0_; clear n0_; (try clear hb); (try clear hb2); (try clear hk); (try clear hi)))
        go_meet
        case rel => exact ⟨_, (true), (by first | rfl | (simp; done) | (simp [*]; done)), H', ⟨by first | omega | exact Nat.le_refl _⟩, ⟨by repeat (first | (with_reducible first | exact HB.out | apply below_alloc | apply pw_below_drewN | apply below_drew1) | exact HB.out)⟩⟩
      · rw [if_neg c9] at H
        have c9b0 : decide (100 < (a1.size : Int)) = false := decide_eq_false c9
        have c9b1 : decide (100 < a1.size) = false := decide_eq_false (by omega)
        clear c9
        (first | rw [c9b0] | (simp only [i64_w, i32_w]; rw [c9b0]) | skip)
        by_cases c11 : (a2.size : Int) > 200
        · rw [if_pos c11] at H
          have c11b0 : decide (200 < (a2.size : Int)) = true := decide_eq_true c11
          have c11b1 : decide (200 < a2.size) = true := decide_eq_true (by omega)
          clear c11
          have H' := Aside0.mk H
          clear H
          go_wp2_with (first | ((with_reducible refine gate_callee (f := 6) rfl ?_); refine goesL_ (some 22) rfl rfl Try.func6 (by kernel_rfl) rfl #[.slice A0 l0.length c0] rfl (by (try simp only [List.map_toArray, List.map_cons, List.map_nil]); first | done | rfl | (simp only [List.length_drop, List.length_take]; rfl)) ?_; (with_reducible refine (supercargolaw05_long.calls k _ _ l0 false _ ?side1 ?side2 A6.out).mono ?_); (case side1 => repeat (first | exact (Kd.C_below HR0.out HB.out) | (with_reducible refine Kd.C_alloc ?_ _) | (with_reducible refine Kd.C_drewN ?_ _) | (with_reducible refine Kd.C_drew ?_))); (case side2 => exact HC0.out); rintro e w12 ⟨rfl, hb⟩; refine ⟨_, rfl, ?_⟩; have n0_ := Aside0.mk (below_step (by repeat (first | (with_reducible first | exact HB.out | apply below_alloc | apply pw_below_drewN | apply below_drew1) | exact HB.out)) hb); clear HB; have HB := n0_; clear n0_; (try clear hb); (try clear hb2); (try clear hk); (try clear hi)))
          go_meet
          case rel => exact ⟨_, (true), (by first | rfl | (simp; done) | (simp [*]; done)), H', ⟨by first | omega | exact Nat.le_refl _⟩, ⟨by repeat (first | (with_reducible first | exact HB.out | apply below_alloc | apply pw_below_drewN | apply below_drew1) | exact HB.out)⟩⟩
        · rw [if_neg c11] at H
          have c11b0 : decide (200 < (a2.size : Int)) = false := decide_eq_false c11
          have c11b1 : decide (200 < a2.size) = false := decide_eq_false (by omega)
          clear c11
          have H' := Aside0.mk H
          clear H
          go_wp2_with (first | ((with_reducible refine gate_callee (f := 6) rfl ?_); refine goesL_ (some 22) rfl rfl Try.func6 (by kernel_rfl) rfl #[.slice A0 l0.length c0] rfl (by (try simp only [List.map_toArray, List.map_cons, List.map_nil]); first | done | rfl | (simp only [List.length_drop, List.length_take]; rfl)) ?_; (with_reducible refine (supercargolaw05_long.calls k _ _ l0 false _ ?side1 ?side2 A6.out).mono ?_); (case side1 => repeat (first | exact (Kd.C_below HR0.out HB.out) | (with_reducible refine Kd.C_alloc ?_ _) | (with_reducible refine Kd.C_drewN ?_ _) | (with_reducible refine Kd.C_drew ?_))); (case side2 => exact HC0.out); rintro e w13 ⟨rfl, hb⟩; refine ⟨_, rfl, ?_⟩; have n0_ := Aside0.mk (below_step (by repeat (first | (with_reducible first | exact HB.out | apply below_alloc | apply pw_below_drewN | apply below_drew1) | exact HB.out)) hb); clear HB; have HB := n0_; clear n0_; (try clear hb); (try clear hb2); (try clear hk); (try clear hi)))
          go_meet
          case rel => exact ⟨_, (decide ((a3.size : Int) > 100)), (by first | rfl | (simp; done) | (simp [*]; done)), H', ⟨by first | omega | exact Nat.le_refl _⟩, ⟨by repeat (first | (with_reducible first | exact HB.out | apply below_alloc | apply pw_below_drewN | apply below_drew1) | exact HB.out)⟩⟩
  case rest =>
    clear HC5
    try clear c1
    try clear p2
    try clear c5
    try clear c6
    try clear c7
    try clear c9
    try clear c9b0
    try clear c9b1
    try clear c11
    try clear c11b0
    try clear c11b1
    obtain ⟨kq, x37_4, rfl, HA, HJ4, HB⟩ := hcut
    cases kq with
    | zero => exact absurd HA.out (by simp [supercargolaw05_FieldGets.j0])
    | succ kj4 =>
      have H := HA.out
      clear HA
      simp only [supercargolaw05_FieldGets.j0] at H
      by_cases c14 : x37_4 = true
      · subst c14
        have H1 : ((supercargolaw05_awake.f).bind fun t169 => (some t169)) = some r := by rw [if_pos rfl] at H; exact H
        clear H
        have H := H1
        clear H1
        replace H := Option.bind_eq_some_iff.mp H
        obtain ⟨t169, A150, H⟩ := H
        replace H : (some t169) = some r := H
        have A15 := Aside0.mk A150
        clear A150
        obtain rfl := Option.some.inj H
        go_wp2_with (first | ((with_reducible refine gate_callee (f := 7) rfl ?_); refine goesL_ (some 38) rfl rfl Try.func7 (by kernel_rfl) rfl #[] rfl (by (try simp only [List.map_toArray, List.map_cons, List.map_nil]); first | done | rfl | (simp only [List.length_drop, List.length_take]; rfl)) ?_; (with_reducible refine (supercargolaw05_awake.calls  t169 _ A15.out).mono ?_); rintro e w16 ⟨rfl, hb⟩; refine ⟨_, rfl, ?_⟩; have n0_ := Aside0.mk (below_step (by repeat (first | (with_reducible first | exact HB.out | apply below_alloc | apply pw_below_drewN | apply below_drew1) | exact HB.out)) hb); clear HB; have HB := n0_; clear n0_; (try clear hb); (try clear hb2); (try clear hk); (try clear hi)))
        go_ret
        exact ⟨by first | rfl | (simp [errW_none, errW_some] <;> rfl) | (simp [*, errW_none, errW_some] <;> rfl), by repeat (first | (with_reducible first | exact HB.out | apply below_alloc | apply pw_below_drewN | apply below_drew1) | exact HB.out)⟩
      · replace c14 := Bool.eq_false_iff.mpr c14
        subst c14
        have H1 : ((some (([] : List (S42)) : List (S42))).bind fun y170 => (if y170.length + l0.length < 4398046511104 then ((field_Get.f l0 a1).bind fun bt176 => ((supercargoref05_Get.f kj4 l0 a1).bind fun bt178 => ((field_Set.f l0 a1 a2).bind fun t180 => (if bt176.1.toList = bt178.1.toList then (if (bt176.2 != bt178.2) = true then (supercargolaw05_FieldGets.j1 kj4 l0 a1 a2 a3 t180 true) else ((supercargoref05_Set.f l0 a1 a2).bind fun t183 => ((supercargoref05_Same.f kj4 t180 t183).bind fun t186 => (if t186 = true then ((supercargoref05_Same.f kj4 l0 (y170 ++ l0)).bind fun t187 => (supercargolaw05_FieldGets.j1 kj4 l0 a1 a2 a3 t180 (!t187))) else (supercargolaw05_FieldGets.j1 kj4 l0 a1 a2 a3 t180 true))))) else (supercargolaw05_FieldGets.j1 kj4 l0 a1 a2 a3 t180 true))))) else (none))) = some r := by rw [if_neg (show ¬ (false = true) by decide)] at H; exact H
        clear H
        have H := H1
        clear H1
        obtain ⟨y170, hy170⟩ : ∃ y_ : List (S42), y_ = (([] : List (S42))) := ⟨_, rfl⟩
        replace H : (if y170.length + l0.length < 4398046511104 then ((field_Get.f l0 a1).bind fun bt176 => ((supercargoref05_Get.f kj4 l0 a1).bind fun bt178 => ((field_Set.f l0 a1 a2).bind fun t180 => (if bt176.1.toList = bt178.1.toList then (if (bt176.2 != bt178.2) = true then (supercargolaw05_FieldGets.j1 kj4 l0 a1 a2 a3 t180 true) else ((supercargoref05_Set.f l0 a1 a2).bind fun t183 => ((supercargoref05_Same.f kj4 t180 t183).bind fun t186 => (if t186 = true then ((supercargoref05_Same.f kj4 l0 (y170 ++ l0)).bind fun t187 => (supercargolaw05_FieldGets.j1 kj4 l0 a1 a2 a3 t180 (!t187))) else (supercargolaw05_FieldGets.j1 kj4 l0 a1 a2 a3 t180 true))))) else (supercargolaw05_FieldGets.j1 kj4 l0 a1 a2 a3 t180 true))))) else (none)) = some r := by first | (rw [hy170]; with_reducible exact H) | (have H2_ := (Option.bind_some _ _).symm.trans H; rw [hy170]; with_reducible exact H2_) | (have H2_ := (Option.bind_some _ _).symm.trans H; with_reducible exact H2_) | with_reducible exact H | (rw [hy170]; exact H) | exact H
        have Ny170 := Aside0.mk hy170
        clear hy170
        by_cases c17 : y170.length + l0.length < 4398046511104
        · rw [if_pos c17] at H
          have LMc17 := Aside0.mk c17
          clear c17
          obtain ⟨y173, hy173⟩ : ∃ y_ : List (S42), y_ = (y170 ++ l0) := ⟨_, rfl⟩
          replace H : ((field_Get.f l0 a1).bind fun bt176 => ((supercargoref05_Get.f kj4 l0 a1).bind fun bt178 => ((field_Set.f l0 a1 a2).bind fun t180 => (if bt176.1.toList = bt178.1.toList then (if (bt176.2 != bt178.2) = true then (supercargolaw05_FieldGets.j1 kj4 l0 a1 a2 a3 t180 true) else ((supercargoref05_Set.f l0 a1 a2).bind fun t183 => ((supercargoref05_Same.f kj4 t180 t183).bind fun t186 => (if t186 = true then ((supercargoref05_Same.f kj4 l0 y173).bind fun t187 => (supercargolaw05_FieldGets.j1 kj4 l0 a1 a2 a3 t180 (!t187))) else (supercargolaw05_FieldGets.j1 kj4 l0 a1 a2 a3 t180 true))))) else (supercargolaw05_FieldGets.j1 kj4 l0 a1 a2 a3 t180 true))))) = some r := by first | (rw [hy173]; with_reducible exact H) | (have H2_ := (Option.bind_some _ _).symm.trans H; rw [hy173]; with_reducible exact H2_) | (have H2_ := (Option.bind_some _ _).symm.trans H; with_reducible exact H2_) | with_reducible exact H | (rw [hy173]; exact H) | exact H
          have Ny173 := Aside0.mk hy173
          clear hy173
          replace H := Option.bind_eq_some_iff.mp H
          obtain ⟨⟨t176, t177⟩, A180, H⟩ := H
          replace H : ((supercargoref05_Get.f kj4 l0 a1).bind fun bt178 => ((field_Set.f l0 a1 a2).bind fun t180 => (if t176.toList = bt178.1.toList then (if (t177 != bt178.2) = true then (supercargolaw05_FieldGets.j1 kj4 l0 a1 a2 a3 t180 true) else ((supercargoref05_Set.f l0 a1 a2).bind fun t183 => ((supercargoref05_Same.f kj4 t180 t183).bind fun t186 => (if t186 = true then ((supercargoref05_Same.f kj4 l0 y173).bind fun t187 => (supercargolaw05_FieldGets.j1 kj4 l0 a1 a2 a3 t180 (!t187))) else (supercargolaw05_FieldGets.j1 kj4 l0 a1 a2 a3 t180 true))))) else (supercargolaw05_FieldGets.j1 kj4 l0 a1 a2 a3 t180 true)))) = some r := H
          have A18 := Aside0.mk A180
          clear A180
          replace H := Option.bind_eq_some_iff.mp H
          obtain ⟨⟨t178, t179⟩, A190, H⟩ := H
          replace H : ((field_Set.f l0 a1 a2).bind fun t180 => (if t176.toList = t178.toList then (if (t177 != t179) = true then (supercargolaw05_FieldGets.j1 kj4 l0 a1 a2 a3 t180 true) else ((supercargoref05_Set.f l0 a1 a2).bind fun t183 => ((supercargoref05_Same.f kj4 t180 t183).bind fun t186 => (if t186 = true then ((supercargoref05_Same.f kj4 l0 y173).bind fun t187 => (supercargolaw05_FieldGets.j1 kj4 l0 a1 a2 a3 t180 (!t187))) else (supercargolaw05_FieldGets.j1 kj4 l0 a1 a2 a3 t180 true))))) else (supercargolaw05_FieldGets.j1 kj4 l0 a1 a2 a3 t180 true))) = some r := H
          have A19 := Aside0.mk A190
          clear A190
          replace H := Option.bind_eq_some_iff.mp H
          obtain ⟨t180, A200, H⟩ := H
          replace H : (if t176.toList = t178.toList then (if (t177 != t179) = true then (supercargolaw05_FieldGets.j1 kj4 l0 a1 a2 a3 t180 true) else ((supercargoref05_Set.f l0 a1 a2).bind fun t183 => ((supercargoref05_Same.f kj4 t180 t183).bind fun t186 => (if t186 = true then ((supercargoref05_Same.f kj4 l0 y173).bind fun t187 => (supercargolaw05_FieldGets.j1 kj4 l0 a1 a2 a3 t180 (!t187))) else (supercargolaw05_FieldGets.j1 kj4 l0 a1 a2 a3 t180 true))))) else (supercargolaw05_FieldGets.j1 kj4 l0 a1 a2 a3 t180 true)) = some r := H
          have A20 := Aside0.mk A200
          clear A200
          have HC21 := Aside0.mk H
          clear H
          go_upto_region 7 with (first | ((with_reducible refine gate_dst (N := 39) rfl ?_); (try (refine gate_guard (by rfl) ?_; dsimp only)); refine Kd.R_lit k42 _ 42 ?hg (N := 39) ?hd (xs := ([] : List (S42))) (inner := []) (ok := fun _ => True) (okp := fun _ => True) ?hr ?hp (fun _ hk => hk) trivial (Below.refl _ _) (Nat.le_refl _) (by simp) ?_; (case hd => rfl); (case hg => rfl); (case hr => first | (go_simp; done) | (go_simp; rfl)); (case hp => exact (Reps.none _ _)); intro v171 w22 ho23 hb hg_ hnew_; clear hg_ hnew_; (first | rw [← Ny170.out] at ho23 | (simp only [Int.reduceToNat] at ho23; rw [← Ny170.out] at ho23)); have n0_ := Aside0.mk (Kd.R_lower ho23 (below_size (by repeat (first | (with_reducible first | exact HB.out | apply below_alloc | apply pw_below_drewN | apply below_drew1) | exact HB.out)))); have n1_ := Aside0.mk (below_step (by repeat (first | (with_reducible first | exact HB.out | apply below_alloc | apply pw_below_drewN | apply below_drew1) | exact HB.out)) hb); clear HB; have HO172 := n0_; have HB := n1_; clear n0_ n1_; clear hb ho23) | ((with_reducible refine gate_builtin (b := .append) (xs := #[.tmp 39, .tmp 40]) rfl ?_); (try (refine gate_guard (by rfl) ?_; dsimp only)); at_builtin; refine Kd.R_append_rows k42 (w0 := w) w.heap.size rfl (.tmp 39) (.tmp 40) 22 42 (.agg #[(.string ⟨#[]⟩), (.string ⟨#[]⟩)]) 32 rfl Try.underlying22 info42 rfl (by decide) (by omega) v171 y170 l0 _ _ _ (fun _ => True) (fun _ => False) rfl rfl ?aO ?aR (fun _ _ h => h) (fun _ h => h.elim) ?aF ?aB ?aS ?aL ?_; (case aR => repeat (first | exact (Kd.C_below HR0.out HB.out) | (with_reducible refine Kd.C_alloc ?_ _) | (with_reducible refine Kd.C_drewN ?_ _) | (with_reducible refine Kd.C_drew ?_))); (case aB => exact (by repeat (first | (with_reducible first | exact HB.out | apply below_alloc | apply pw_below_drewN | apply below_drew1) | exact HB.out))); (case aF => exact (fun _ _ => trivial)); (case aO => exact (by (with_reducible repeat (first | apply Kd.R_alloc | apply Kd.R_drewN | apply Kd.R_drew)); exact HO172.out)); (case aS => exact (below_size (by repeat (first | (with_reducible first | exact HB.out | apply below_alloc | apply pw_below_drewN | apply below_drew1) | exact HB.out)))); (case aL => have := LMc17.out; omega); intro v174 w24 ho hb hg hat; rw [← Ny173.out] at ho; have n0_ := Aside0.mk (hb); have n1_ := Aside0.mk (ho); clear HB; clear HO172; have HB := n0_; have HO175 := n1_; clear n0_ n1_; clear ho hb hg hat) | ((with_reducible refine gate_callee (f := 15) rfl ?_); refine goesL_ (some 45) rfl rfl Try.func15 (by kernel_rfl) rfl #[.slice A0 l0.length c0, .string a1] rfl (by (try simp only [List.map_toArray, List.map_cons, List.map_nil]); first | done | rfl | (simp only [List.length_drop, List.length_take]; rfl)) ?_; (with_reducible refine (field_Get.calls _ _ l0 a1 t176 t177 _ ?side1 ?side2 A18.out).mono ?_); (case side1 => repeat (first | exact (Kd.C_below HR0.out HB.out) | (with_reducible refine Kd.C_alloc ?_ _) | (with_reducible refine Kd.C_drewN ?_ _) | (with_reducible refine Kd.C_drew ?_))); (case side2 => exact HC0.out); rintro e w25 ⟨rfl, hb⟩; refine ⟨_, rfl, ?_⟩; have n0_ := Aside0.mk (Kd.R_below (by (with_reducible repeat (first | apply Kd.R_alloc | apply Kd.R_drewN | apply Kd.R_drew)); exact HO175.out) hb); have n1_ := Aside0.mk (below_step (by repeat (first | (with_reducible first | exact HB.out | apply below_alloc | apply pw_below_drewN | apply below_drew1) | exact HB.out)) hb); clear HO175; clear HB; have HO175 := n0_; have HB := n1_; clear n0_ n1_; (try clear hb); (try clear hb2); (try clear hk); (try clear hi)) | ((with_reducible refine gate_callee (f := 16) rfl ?_); refine goesL_ (some 51) rfl rfl Try.func16 (by kernel_rfl) rfl #[.slice A0 l0.length c0, .string a1] rfl (by (try simp only [List.map_toArray, List.map_cons, List.map_nil]); first | done | rfl | (simp only [List.length_drop, List.length_take]; rfl)) ?_; (with_reducible refine (supercargoref05_Get.calls kj4 _ _ l0 a1 t178 t179 _ ?side1 ?side2 A19.out).mono ?_); (case side1 => repeat (first | exact (Kd.C_below HR0.out HB.out) | (with_reducible refine Kd.C_alloc ?_ _) | (with_reducible refine Kd.C_drewN ?_ _) | (with_reducible refine Kd.C_drew ?_))); (case side2 => exact HC0.out); rintro e w' ⟨rfl, ⟨nd, rfl⟩⟩; refine ⟨_, rfl, ?_⟩) | ((with_reducible refine gate_callee (f := 17) rfl ?_); refine goesL_ (some 57) rfl rfl Try.func17 (by kernel_rfl) rfl #[.slice A0 l0.length c0, .string a1, .string a2] rfl (by (try simp only [List.map_toArray, List.map_cons, List.map_nil]); first | done | rfl | (simp only [List.length_drop, List.length_take]; rfl)) ?_; (with_reducible refine (field_Set.calls _ _ l0 a1 a2 t180 _ ?side1 ?side2 A20.out).mono ?_); (case side1 => repeat (first | exact (Kd.C_below HR0.out (by repeat (first | (with_reducible first | exact HB.out | apply below_alloc | apply pw_below_drewN | apply below_drew1) | exact HB.out))) | (with_reducible refine Kd.C_alloc ?_ _) | (with_reducible refine Kd.C_drewN ?_ _) | (with_reducible refine Kd.C_drew ?_))); (case side2 => exact HC0.out); rintro e w26 ⟨v181, rfl, ho0, hb⟩; refine ⟨_, rfl, ?_⟩; have n0_ := Aside0.mk (Kd.R_elder' (by (with_reducible repeat (first | apply Kd.R_alloc | apply Kd.R_drewN | apply Kd.R_drew)); exact HO175.out) (Kd.R_base ho0) hb); have n1_ := Aside0.mk (Kd.R_lower (Kd.R_new' ho0 (Kd.R_lt (by (with_reducible repeat (first | apply Kd.R_alloc | apply Kd.R_drewN | apply Kd.R_drew)); exact HO175.out))) (below_size (by repeat (first | (with_reducible first | exact HB.out | apply below_alloc | apply pw_below_drewN | apply below_drew1) | exact HB.out)))); have n2_ := Aside0.mk (below_step (by repeat (first | (with_reducible first | exact HB.out | apply below_alloc | apply pw_below_drewN | apply below_drew1) | exact HB.out)) hb); clear HO175; clear HB; have HO175 := n0_; have HO182 := n1_; have HB := n2_; clear n0_ n1_ n2_; (try clear hb); (try clear hb2); (try clear hk); (try clear hi); (try clear ho0)))
          (try simp only [Act.put, List.setIfInBounds_toArray, List.set_cons_zero, List.set_cons_succ])
          go_cut [80] (fun v80 wc => ∃ (kq : Nat) (x80_20 : Bool), v80 = .bool x80_20 ∧ Aside0 (supercargolaw05_FieldGets.j1 kq l0 a1 a2 a3 t180 x80_20 = some r) ∧ Aside0 (kq ≤ kj4) ∧ Aside0 (Kd.R k42 42 wc w.heap.size (fun _ => True) v181 t180) ∧ Aside0 (Below w.heap.size w wc))
          case first =>
            have H := HC21.out
            clear HC21
            by_cases c27 : t176.toList = t178.toList
            · rw [if_pos c27] at H
              have c27b0 : (t176.toList == t178.toList) = true := beq_iff_eq.mpr c27
              have c27b1 : (t176.toList != t178.toList) = false := bne_eq_false_iff_eq.mpr c27
              clear c27
              (first | rw [c27b0] | (simp only [i64_w, i32_w]; rw [c27b0]) | skip)
              by_cases c28 : (t177 != t179) = true
              · rw [if_pos c28] at H
                have c28b0 : (t177 != t179) = true := c28
                (try (have c28b1 : decide (t177 = t179) = false := by simpa using c28))
                (try (have c28b2 : (t177 == t179) = false := by simpa using c28))
                (try (have c28b3 : ¬ (t177 = t179) := by simpa using c28))
                clear c28
                have H' := Aside0.mk H
                clear H
                go_wp2
                go_meet
                case rel => exact ⟨_, (true), (by first | rfl | (simp; done) | (simp [*]; done)), H', ⟨by have := HJ4.out; first | omega | exact Nat.le_refl _⟩, ⟨by (with_reducible repeat (first | apply Kd.R_alloc | apply Kd.R_drewN | apply Kd.R_drew)); exact Kd.R_mono HO182.out (fun _ hk => trivial)⟩, ⟨by repeat (first | (with_reducible first | exact HB.out | apply below_alloc | apply pw_below_drewN | apply below_drew1) | exact HB.out)⟩⟩
              · rw [if_neg c28] at H
                have c28b0 : (t177 != t179) = false := by simpa using c28
                (try (have c28b1 : decide (t177 = t179) = true := by simpa using c28))
                (try (have c28b2 : (t177 == t179) = true := by simpa using c28))
                clear c28
                replace H := Option.bind_eq_some_iff.mp H
                obtain ⟨t183, A290, H⟩ := H
                replace H : ((supercargoref05_Same.f kj4 t180 t183).bind fun t186 => (if t186 = true then ((supercargoref05_Same.f kj4 l0 y173).bind fun t187 => (supercargolaw05_FieldGets.j1 kj4 l0 a1 a2 a3 t180 (!t187))) else (supercargolaw05_FieldGets.j1 kj4 l0 a1 a2 a3 t180 true))) = some r := H
                have A29 := Aside0.mk A290
                clear A290
                replace H := Option.bind_eq_some_iff.mp H
                obtain ⟨t186, A300, H⟩ := H
                replace H : (if t186 = true then ((supercargoref05_Same.f kj4 l0 y173).bind fun t187 => (supercargolaw05_FieldGets.j1 kj4 l0 a1 a2 a3 t180 (!t187))) else (supercargolaw05_FieldGets.j1 kj4 l0 a1 a2 a3 t180 true)) = some r := H
                have A30 := Aside0.mk A300
                clear A300
                by_cases c31 : t186 = true
                · subst c31
                  have H1 : ((supercargoref05_Same.f kj4 l0 y173).bind fun t187 => (supercargolaw05_FieldGets.j1 kj4 l0 a1 a2 a3 t180 (!t187))) = some r := by rw [if_pos rfl] at H; exact H
                  clear H
                  have H := H1
                  clear H1
                  replace H := Option.bind_eq_some_iff.mp H
                  obtain ⟨t187, A320, H⟩ := H
                  replace H : (supercargolaw05_FieldGets.j1 kj4 l0 a1 a2 a3 t180 (!t187)) = some r := H
                  have A32 := Aside0.mk A320
                  clear A320
                  have H' := Aside0.mk H
                  clear H
                  go_wp2_with (first | (go_at_call 18; (with_reducible refine (supercargoref05_Set.calls _ _ l0 a1 a2 t183 _ ?side1 ?side2 A29.out).mono ?_); (case side1 => repeat (first | exact (Kd.C_below HR0.out HB.out) | (with_reducible refine Kd.C_alloc ?_ _) | (with_reducible refine Kd.C_drewN ?_ _) | (with_reducible refine Kd.C_drew ?_))); (case side2 => exact HC0.out); rintro e w33 ⟨v184, rfl, ho0, hb⟩; have n0_ := Aside0.mk (Kd.R_elder' (by (with_reducible repeat (first | apply Kd.R_alloc | apply Kd.R_drewN | apply Kd.R_drew)); exact HO175.out) (Kd.R_base ho0) hb); have n1_ := Aside0.mk (Kd.R_elder' (by (with_reducible repeat (first | apply Kd.R_alloc | apply Kd.R_drewN | apply Kd.R_drew)); exact HO182.out) (Kd.R_base ho0) hb); have n2_ := Aside0.mk (Kd.R_lower (Kd.R_new' (Kd.R_new' ho0 (Kd.R_lt (by (with_reducible repeat (first | apply Kd.R_alloc | apply Kd.R_drewN | apply Kd.R_drew)); exact HO175.out))) (Kd.R_lt (by (with_reducible repeat (first | apply Kd.R_alloc | apply Kd.R_drewN | apply Kd.R_drew)); exact HO182.out))) (below_size (by repeat (first | (with_reducible first | exact HB.out | apply below_alloc | apply pw_below_drewN | apply below_drew1) | exact HB.out)))); have n3_ := Aside0.mk (below_step (by repeat (first | (with_reducible first | exact HB.out | apply below_alloc | apply pw_below_drewN | apply below_drew1) | exact HB.out)) hb); clear HO175; clear HO182; clear HB; have HO175 := n0_; have HO182 := n1_; have HO185 := n2_; have HB := n3_; clear n0_ n1_ n2_ n3_; (try clear hb); (try clear hb2); (try clear hk); (try clear hi); (try clear ho0); obtain ⟨Ao34, co34, eo34⟩ := Kd.R_slice HO182.out; subst eo34; obtain ⟨Ao35, co35, eo35⟩ := Kd.R_slice HO185.out; subst eo35) | (go_at_call 11; (with_reducible refine (supercargoref05_Same.calls kj4 _ _ t180 _ _ t183 true _ ?side1 ?side2 ?side3 ?side4 A30.out).mono ?_); (case side1 => repeat (first | exact (Kd.R_reads' HO182.out).2.2 | (with_reducible refine Kd.C_alloc ?_ _) | (with_reducible refine Kd.C_drewN ?_ _) | (with_reducible refine Kd.C_drew ?_))); (case side2 => exact (Kd.R_reads' HO182.out).2.1); (case side3 => repeat (first | exact (Kd.R_reads' HO185.out).2.2 | (with_reducible refine Kd.C_alloc ?_ _) | (with_reducible refine Kd.C_drewN ?_ _) | (with_reducible refine Kd.C_drew ?_))); (case side4 => exact (Kd.R_reads' HO185.out).2.1); rintro e w' ⟨rfl, ⟨nd, rfl⟩⟩; obtain ⟨Ao36, co36, eo36⟩ := Kd.R_slice HO175.out; subst eo36) | (go_at_call 11; (with_reducible refine (supercargoref05_Same.calls kj4 _ _ l0 _ _ y173 t187 _ ?side1 ?side2 ?side3 ?side4 A32.out).mono ?_); (case side1 => repeat (first | exact (Kd.C_below HR0.out (by repeat (first | (with_reducible first | exact HB.out | apply below_alloc | apply pw_below_drewN | apply below_drew1) | exact HB.out))) | (with_reducible refine Kd.C_alloc ?_ _) | (with_reducible refine Kd.C_drewN ?_ _) | (with_reducible refine Kd.C_drew ?_))); (case side2 => exact HC0.out); (case side3 => repeat (first | exact (Kd.R_reads' HO175.out).2.2 | (with_reducible refine Kd.C_alloc ?_ _) | (with_reducible refine Kd.C_drewN ?_ _) | (with_reducible refine Kd.C_drew ?_))); (case side4 => exact (Kd.R_reads' HO175.out).2.1); rintro e w' ⟨rfl, ⟨nd, rfl⟩⟩))
                  go_meet
                  case rel => exact ⟨_, (!t187), (by first | rfl | (simp; done) | (simp [*]; done)), H', ⟨by have := HJ4.out; first | omega | exact Nat.le_refl _⟩, ⟨by (with_reducible repeat (first | apply Kd.R_alloc | apply Kd.R_drewN | apply Kd.R_drew)); exact Kd.R_mono HO182.out (fun _ hk => trivial)⟩, ⟨by repeat (first | (with_reducible first | exact HB.out | apply below_alloc | apply pw_below_drewN | apply below_drew1) | exact HB.out)⟩⟩
                · replace c31 := Bool.eq_false_iff.mpr c31
                  subst c31
                  have H1 : (supercargolaw05_FieldGets.j1 kj4 l0 a1 a2 a3 t180 true) = some r := by rw [if_neg (show ¬ (false = true) by decide)] at H; exact H
                  clear H
                  have H := H1
                  clear H1
                  have H' := Aside0.mk H
                  clear H
                  go_wp2_with (first | (go_at_call 18; (with_reducible refine (supercargoref05_Set.calls _ _ l0 a1 a2 t183 _ ?side1 ?side2 A29.out).mono ?_); (case side1 => repeat (first | exact (Kd.C_below HR0.out HB.out) | (with_reducible refine Kd.C_alloc ?_ _) | (with_reducible refine Kd.C_drewN ?_ _) | (with_reducible refine Kd.C_drew ?_))); (case side2 => exact HC0.out); rintro e w37 ⟨v184, rfl, ho0, hb⟩; have n0_ := Aside0.mk (Kd.R_elder' (by (with_reducible repeat (first | apply Kd.R_alloc | apply Kd.R_drewN | apply Kd.R_drew)); exact HO175.out) (Kd.R_base ho0) hb); have n1_ := Aside0.mk (Kd.R_elder' (by (with_reducible repeat (first | apply Kd.R_alloc | apply Kd.R_drewN | apply Kd.R_drew)); exact HO182.out) (Kd.R_base ho0) hb); have n2_ := Aside0.mk (Kd.R_lower (Kd.R_new' (Kd.R_new' ho0 (Kd.R_lt (by (with_reducible repeat (first | apply Kd.R_alloc | apply Kd.R_drewN | apply Kd.R_drew)); exact HO175.out))) (Kd.R_lt (by (with_reducible repeat (first | apply Kd.R_alloc | apply Kd.R_drewN | apply Kd.R_drew)); exact HO182.out))) (below_size (by repeat (first | (with_reducible first | exact HB.out | apply below_alloc | apply pw_below_drewN | apply below_drew1) | exact HB.out)))); have n3_ := Aside0.mk (below_step (by repeat (first | (with_reducible first | exact HB.out | apply below_alloc | apply pw_below_drewN | apply below_drew1) | exact HB.out)) hb); clear HO175; clear HO182; clear HB; have HO175 := n0_; have HO182 := n1_; have HO185 := n2_; have HB := n3_; clear n0_ n1_ n2_ n3_; (try clear hb); (try clear hb2); (try clear hk); (try clear hi); (try clear ho0); obtain ⟨Ao38, co38, eo38⟩ := Kd.R_slice HO182.out; subst eo38; obtain ⟨Ao39, co39, eo39⟩ := Kd.R_slice HO185.out; subst eo39) | (go_at_call 11; (with_reducible refine (supercargoref05_Same.calls kj4 _ _ t180 _ _ t183 false _ ?side1 ?side2 ?side3 ?side4 A30.out).mono ?_); (case side1 => repeat (first | exact (Kd.R_reads' HO182.out).2.2 | (with_reducible refine Kd.C_alloc ?_ _) | (with_reducible refine Kd.C_drewN ?_ _) | (with_reducible refine Kd.C_drew ?_))); (case side2 => exact (Kd.R_reads' HO182.out).2.1); (case side3 => repeat (first | exact (Kd.R_reads' HO185.out).2.2 | (with_reducible refine Kd.C_alloc ?_ _) | (with_reducible refine Kd.C_drewN ?_ _) | (with_reducible refine Kd.C_drew ?_))); (case side4 => exact (Kd.R_reads' HO185.out).2.1); rintro e w' ⟨rfl, ⟨nd, rfl⟩⟩))
                  go_meet
                  case rel => exact ⟨_, (true), (by first | rfl | (simp; done) | (simp [*]; done)), H', ⟨by have := HJ4.out; first | omega | exact Nat.le_refl _⟩, ⟨by (with_reducible repeat (first | apply Kd.R_alloc | apply Kd.R_drewN | apply Kd.R_drew)); exact Kd.R_mono HO182.out (fun _ hk => trivial)⟩, ⟨by repeat (first | (with_reducible first | exact HB.out | apply below_alloc | apply pw_below_drewN | apply below_drew1) | exact HB.out)⟩⟩
            · rw [if_neg c27] at H
              have c27b0 : (t176.toList == t178.toList) = false := beq_eq_false_iff_ne.mpr c27
              have c27b1 : (t176.toList != t178.toList) = true := bne_iff_ne.mpr c27
              (first | rw [c27b0] | (simp only [i64_w, i32_w]; rw [c27b0]) | skip)
              have H' := Aside0.mk H
              clear H
              go_wp2
              go_meet
              case rel => exact ⟨_, (true), (by first | rfl | (simp; done) | (simp [*]; done)), H', ⟨by have := HJ4.out; first | omega | exact Nat.le_refl _⟩, ⟨by (with_reducible repeat (first | apply Kd.R_alloc | apply Kd.R_drewN | apply Kd.R_drew)); exact Kd.R_mono HO182.out (fun _ hk => trivial)⟩, ⟨by repeat (first | (with_reducible first | exact HB.out | apply below_alloc | apply pw_below_drewN | apply below_drew1) | exact HB.out)⟩⟩
          case rest =>
            clear HC21
            try clear c1
            try clear c2
            try clear p2
            try clear c3
            try clear c5
            try clear c6
            try clear c7
            try clear c9
            try clear c9b0
            try clear c9b1
            try clear c11
            try clear c11b0
            try clear c11b1
            try clear c14
            try clear c15
            try clear c16
            try clear c17
            try clear c27
            try clear c27b0
            try clear c27b1
            try clear c28
            try clear c28b0
            try clear c28b1
            try clear c28b2
            try clear c31
            try clear p2
            obtain ⟨kq, x80_20, rfl, HA, HJ20, HO_14, HB⟩ := hcut
            cases kq with
            | zero => exact absurd HA.out (by simp [supercargolaw05_FieldGets.j1])
            | succ kj20 =>
              have H := HA.out
              clear HA
              simp only [supercargolaw05_FieldGets.j1] at H
              by_cases c40 : x80_20 = true
              · subst c40
                have H1 : (some false) = some r := by rw [if_pos rfl] at H; exact H
                clear H
                have H := H1
                clear H1
                obtain rfl := Option.some.inj H
                go_wp2
                go_ret
                exact ⟨by first | rfl | (simp [errW_none, errW_some] <;> rfl) | (simp [*, errW_none, errW_some] <;> rfl), by repeat (first | (with_reducible first | exact HB.out | apply below_alloc | apply pw_below_drewN | apply below_drew1) | exact HB.out)⟩
              · replace c40 := Bool.eq_false_iff.mpr c40
                subst c40
                have H1 : ((field_Get.f t180 a1).bind fun bt188 => (if bt188.1.toList = a2.toList then (supercargolaw05_FieldGets.j2 kj20 l0 a1 a3 t180 (!bt188.2)) else (supercargolaw05_FieldGets.j2 kj20 l0 a1 a3 t180 true))) = some r := by rw [if_neg (show ¬ (false = true) by decide)] at H; exact H
                clear H
                have H := H1
                clear H1
                replace H := Option.bind_eq_some_iff.mp H
                obtain ⟨⟨t188, t189⟩, A410, H⟩ := H
                replace H : (if t188.toList = a2.toList then (supercargolaw05_FieldGets.j2 kj20 l0 a1 a3 t180 (!t189)) else (supercargolaw05_FieldGets.j2 kj20 l0 a1 a3 t180 true)) = some r := H
                have A41 := Aside0.mk A410
                clear A410
                have HC42 := Aside0.mk H
                clear H
                obtain ⟨Ao43, co43, eo43⟩ := Kd.R_slice HO_14.out
                subst eo43
                go_upto_region 10 with (first | ((with_reducible refine gate_callee (f := 15) rfl ?_); refine goesL_ (some 84) rfl rfl Try.func15 (by kernel_rfl) rfl #[.slice Ao43 t180.length co43, .string a1] rfl (by (try simp only [List.map_toArray, List.map_cons, List.map_nil]); first | done | rfl | (simp only [List.length_drop, List.length_take]; rfl)) ?_; (with_reducible refine (field_Get.calls _ _ t180 a1 t188 t189 _ ?side1 ?side2 A41.out).mono ?_); (case side1 => repeat (first | exact (Kd.R_reads' HO_14.out).2.2 | (with_reducible refine Kd.C_alloc ?_ _) | (with_reducible refine Kd.C_drewN ?_ _) | (with_reducible refine Kd.C_drew ?_))); (case side2 => exact (Kd.R_reads' HO_14.out).2.1); rintro e w44 ⟨rfl, hb⟩; refine ⟨_, rfl, ?_⟩; have n0_ := Aside0.mk (Kd.R_below (by (with_reducible repeat (first | apply Kd.R_alloc | apply Kd.R_drewN | apply Kd.R_drew)); exact HO_14.out) hb); have n1_ := Aside0.mk (below_step (by repeat (first | (with_reducible first | exact HB.out | apply below_alloc | apply pw_below_drewN | apply below_drew1) | exact HB.out)) hb); clear HO_14; clear HB; have HO_14 := n0_; have HB := n1_; clear n0_ n1_; (try clear hb); (try clear hb2); (try clear hk); (try clear hi)))
                (try simp only [Act.put, List.setIfInBounds_toArray, List.set_cons_zero, List.set_cons_succ])
                go_cut [93] (fun v93 wc => ∃ (kq : Nat) (x93_41 : Bool), v93 = .bool x93_41 ∧ Aside0 (supercargolaw05_FieldGets.j2 kq l0 a1 a3 t180 x93_41 = some r) ∧ Aside0 (kq ≤ kj20) ∧ Aside0 (Kd.R k42 42 wc w.heap.size (fun _ => True) (.slice Ao43 t180.length co43) t180) ∧ Aside0 (Below w.heap.size w wc))
                case first =>
                  have H := HC42.out
                  clear HC42
                  by_cases c45 : t188.toList = a2.toList
                  · rw [if_pos c45] at H
                    have c45b0 : (t188.toList == a2.toList) = true := beq_iff_eq.mpr c45
                    have c45b1 : (t188.toList != a2.toList) = false := bne_eq_false_iff_eq.mpr c45
                    clear c45
                    (first | rw [c45b0] | (simp only [i64_w, i32_w]; rw [c45b0]) | skip)
                    have H' := Aside0.mk H
                    clear H
                    go_wp2
                    go_meet
                    case rel => exact ⟨_, (!t189), (by first | rfl | (simp; done) | (simp [*]; done)), H', ⟨by have := HJ4.out; have := HJ20.out; first | omega | exact Nat.le_refl _⟩, ⟨by (with_reducible repeat (first | apply Kd.R_alloc | apply Kd.R_drewN | apply Kd.R_drew)); exact HO_14.out⟩, ⟨by repeat (first | (with_reducible first | exact HB.out | apply below_alloc | apply pw_below_drewN | apply below_drew1) | exact HB.out)⟩⟩
                  · rw [if_neg c45] at H
                    have c45b0 : (t188.toList == a2.toList) = false := beq_eq_false_iff_ne.mpr c45
                    have c45b1 : (t188.toList != a2.toList) = true := bne_iff_ne.mpr c45
                    (first | rw [c45b0] | (simp only [i64_w, i32_w]; rw [c45b0]) | skip)
                    have H' := Aside0.mk H
                    clear H
                    go_wp2
                    go_meet
                    case rel => exact ⟨_, (true), (by first | rfl | (simp; done) | (simp [*]; done)), H', ⟨by have := HJ4.out; have := HJ20.out; first | omega | exact Nat.le_refl _⟩, ⟨by (with_reducible repeat (first | apply Kd.R_alloc | apply Kd.R_drewN | apply Kd.R_drew)); exact HO_14.out⟩, ⟨by repeat (first | (with_reducible first | exact HB.out | apply below_alloc | apply pw_below_drewN | apply below_drew1) | exact HB.out)⟩⟩
                case rest =>
                  clear HC42
                  try clear c1
                  try clear c2
                  try clear p2
                  try clear c3
                  try clear c4
                  try clear c5
                  try clear c6
                  try clear c7
                  try clear c9
                  try clear c9b0
                  try clear c9b1
                  try clear c11
                  try clear c11b0
                  try clear c11b1
                  try clear c14
                  try clear c15
                  try clear c16
                  try clear c17
                  try clear c27
                  try clear c27b0
                  try clear c27b1
                  try clear c28
                  try clear c28b0
                  try clear c28b1
                  try clear c28b2
                  try clear c31
                  try clear c40
                  try clear c45
                  try clear c45b0
                  try clear c45b1
                  try clear p2
                  obtain ⟨kq, x93_41, rfl, HA, HJ41, HO_14, HB⟩ := hcut
                  cases kq with
                  | zero => exact absurd HA.out (by simp [supercargolaw05_FieldGets.j2])
                  | succ kj41 =>
                    have H := HA.out
                    clear HA
                    simp only [supercargolaw05_FieldGets.j2] at H
                    by_cases c46 : x93_41 = true
                    · subst c46
                      have H1 : (some false) = some r := by rw [if_pos rfl] at H; exact H
                      clear H
                      have H := H1
                      clear H1
                      obtain rfl := Option.some.inj H
                      go_wp2
                      go_ret
                      exact ⟨by first | rfl | (simp [errW_none, errW_some] <;> rfl) | (simp [*, errW_none, errW_some] <;> rfl), by repeat (first | (with_reducible first | exact HB.out | apply below_alloc | apply pw_below_drewN | apply below_drew1) | exact HB.out)⟩
                    · replace c46 := Bool.eq_false_iff.mpr c46
                      subst c46
                      have H1 : ((field_Get.f l0 a3).bind fun bt190 => ((field_Get.f t180 a3).bind fun bt192 => (if a3.toList = a1.toList then ((supercargolaw05_awake.f).bind fun t194 => (some t194)) else (if bt190.1.toList = bt192.1.toList then (if (bt190.2 == bt192.2) = true then ((supercargolaw05_awake.f).bind fun t195 => (some t195)) else (some false)) else (some false))))) = some r := by rw [if_neg (show ¬ (false = true) by decide)] at H; exact H
                      clear H
                      have H := H1
                      clear H1
                      replace H := Option.bind_eq_some_iff.mp H
                      obtain ⟨⟨t190, t191⟩, A470, H⟩ := H
                      replace H : ((field_Get.f t180 a3).bind fun bt192 => (if a3.toList = a1.toList then ((supercargolaw05_awake.f).bind fun t194 => (some t194)) else (if t190.toList = bt192.1.toList then (if (t191 == bt192.2) = true then ((supercargolaw05_awake.f).bind fun t195 => (some t195)) else (some false)) else (some false)))) = some r := H
                      have A47 := Aside0.mk A470
                      clear A470
                      replace H := Option.bind_eq_some_iff.mp H
                      obtain ⟨⟨t192, t193⟩, A480, H⟩ := H
                      replace H : (if a3.toList = a1.toList then ((supercargolaw05_awake.f).bind fun t194 => (some t194)) else (if t190.toList = t192.toList then (if (t191 == t193) = true then ((supercargolaw05_awake.f).bind fun t195 => (some t195)) else (some false)) else (some false))) = some r := H
                      have A48 := Aside0.mk A480
                      clear A480
                      by_cases c49 : a3.toList = a1.toList
                      · rw [if_pos c49] at H
                        have c49b0 : (a3.toList == a1.toList) = true := beq_iff_eq.mpr c49
                        have c49b1 : (a3.toList != a1.toList) = false := bne_eq_false_iff_eq.mpr c49
                        clear c49
                        replace H := Option.bind_eq_some_iff.mp H
                        obtain ⟨t194, A500, H⟩ := H
                        replace H : (some t194) = some r := H
                        have A50 := Aside0.mk A500
                        clear A500
                        obtain rfl := Option.some.inj H
                        go_wp2_with (first | ((with_reducible refine gate_callee (f := 15) rfl ?_); refine goesL_ (some 97) rfl rfl Try.func15 (by kernel_rfl) rfl #[.slice A0 l0.length c0, .string a3] rfl (by (try simp only [List.map_toArray, List.map_cons, List.map_nil]); first | done | rfl | (simp only [List.length_drop, List.length_take]; rfl)) ?_; (with_reducible refine (field_Get.calls _ _ l0 a3 t190 t191 _ ?side1 ?side2 A47.out).mono ?_); (case side1 => repeat (first | exact (Kd.C_below HR0.out HB.out) | (with_reducible refine Kd.C_alloc ?_ _) | (with_reducible refine Kd.C_drewN ?_ _) | (with_reducible refine Kd.C_drew ?_))); (case side2 => exact HC0.out); rintro e w51 ⟨rfl, hb⟩; refine ⟨_, rfl, ?_⟩; have n0_ := Aside0.mk (Kd.R_below (by (with_reducible repeat (first | apply Kd.R_alloc | apply Kd.R_drewN | apply Kd.R_drew)); exact HO_14.out) hb); have n1_ := Aside0.mk (below_step (by repeat (first | (with_reducible first | exact HB.out | apply below_alloc | apply pw_below_drewN | apply below_drew1) | exact HB.out)) hb); clear HO_14; clear HB; have HO_14 := n0_; have HB := n1_; clear n0_ n1_; (try clear hb); (try clear hb2); (try clear hk); (try clear hi)) | ((with_reducible refine gate_callee (f := 15) rfl ?_); refine goesL_ (some 103) rfl rfl Try.func15 (by kernel_rfl) rfl #[.slice Ao43 t180.length co43, .string a3] rfl (by (try simp only [List.map_toArray, List.map_cons, List.map_nil]); first | done | rfl | (simp only [List.length_drop, List.length_take]; rfl)) ?_; (with_reducible refine (field_Get.calls _ _ t180 a3 t192 t193 _ ?side1 ?side2 A48.out).mono ?_); (case side1 => repeat (first | exact (Kd.R_reads' HO_14.out).2.2 | (with_reducible refine Kd.C_alloc ?_ _) | (with_reducible refine Kd.C_drewN ?_ _) | (with_reducible refine Kd.C_drew ?_))); (case side2 => exact (Kd.R_reads' HO_14.out).2.1); rintro e w52 ⟨rfl, hb⟩; refine ⟨_, rfl, ?_⟩; have n0_ := Aside0.mk (Kd.R_below (by (with_reducible repeat (first | apply Kd.R_alloc | apply Kd.R_drewN | apply Kd.R_drew)); exact HO_14.out) hb); have n1_ := Aside0.mk (below_step (by repeat (first | (with_reducible first | exact HB.out | apply below_alloc | apply pw_below_drewN | apply below_drew1) | exact HB.out)) hb); clear HO_14; clear HB; have HO_14 := n0_; have HB := n1_; clear n0_ n1_; (try clear hb); (try clear hb2); (try clear hk); (try clear hi)) | (go_at_call 7; (with_reducible refine (supercargolaw05_awake.calls  t194 _ A50.out).mono ?_); rintro e w53 ⟨rfl, hb⟩; have n0_ := Aside0.mk (Kd.R_below (by (with_reducible repeat (first | apply Kd.R_alloc | apply Kd.R_drewN | apply Kd.R_drew)); exact HO_14.out) hb); have n1_ := Aside0.mk (below_step (by repeat (first | (with_reducible first | exact HB.out | apply below_alloc | apply pw_below_drewN | apply below_drew1) | exact HB.out)) hb); clear HO_14; clear HB; have HO_14 := n0_; have HB := n1_; clear n0_ n1_; (try clear hb); (try clear hb2); (try clear hk); (try clear hi)))
                        go_ret
                        exact ⟨by first | rfl | (simp [errW_none, errW_some] <;> rfl) | (simp [*, errW_none, errW_some] <;> rfl), by repeat (first | (with_reducible first | exact HB.out | apply below_alloc | apply pw_below_drewN | apply below_drew1) | exact HB.out)⟩
                      · rw [if_neg c49] at H
                        have c49b0 : (a3.toList == a1.toList) = false := beq_eq_false_iff_ne.mpr c49
                        have c49b1 : (a3.toList != a1.toList) = true := bne_iff_ne.mpr c49
                        by_cases c54 : t190.toList = t192.toList
                        · rw [if_pos c54] at H
                          have c54b0 : (t190.toList == t192.toList) = true := beq_iff_eq.mpr c54
                          have c54b1 : (t190.toList != t192.toList) = false := bne_eq_false_iff_eq.mpr c54
                          clear c54
                          by_cases c55 : (t191 == t193) = true
                          · rw [if_pos c55] at H
                            have c55b0 : (t191 == t193) = true := c55
                            (try (have c55b1 : decide (t191 = t193) = true := by simpa using c55))
                            (try (have c55b2 : (t191 == t193) = true := by simpa using c55))
                            clear c55
                            replace H := Option.bind_eq_some_iff.mp H
                            obtain ⟨t195, A560, H⟩ := H
                            replace H : (some t195) = some r := H
                            have A56 := Aside0.mk A560
                            clear A560
                            obtain rfl := Option.some.inj H
                            go_wp2_with (first | ((with_reducible refine gate_callee (f := 15) rfl ?_); refine goesL_ (some 97) rfl rfl Try.func15 (by kernel_rfl) rfl #[.slice A0 l0.length c0, .string a3] rfl (by (try simp only [List.map_toArray, List.map_cons, List.map_nil]); first | done | rfl | (simp only [List.length_drop, List.length_take]; rfl)) ?_; (with_reducible refine (field_Get.calls _ _ l0 a3 t190 t191 _ ?side1 ?side2 A47.out).mono ?_); (case side1 => repeat (first | exact (Kd.C_below HR0.out HB.out) | (with_reducible refine Kd.C_alloc ?_ _) | (with_reducible refine Kd.C_drewN ?_ _) | (with_reducible refine Kd.C_drew ?_))); (case side2 => exact HC0.out); rintro e w57 ⟨rfl, hb⟩; refine ⟨_, rfl, ?_⟩; have n0_ := Aside0.mk (Kd.R_below (by (with_reducible repeat (first | apply Kd.R_alloc | apply Kd.R_drewN | apply Kd.R_drew)); exact HO_14.out) hb); have n1_ := Aside0.mk (below_step (by repeat (first | (with_reducible first | exact HB.out | apply below_alloc | apply pw_below_drewN | apply below_drew1) | exact HB.out)) hb); clear HO_14; clear HB; have HO_14 := n0_; have HB := n1_; clear n0_ n1_; (try clear hb); (try clear hb2); (try clear hk); (try clear hi)) | ((with_reducible refine gate_callee (f := 15) rfl ?_); refine goesL_ (some 103) rfl rfl Try.func15 (by kernel_rfl) rfl #[.slice Ao43 t180.length co43, .string a3] rfl (by (try simp only [List.map_toArray, List.map_cons, List.map_nil]); first | done | rfl | (simp only [List.length_drop, List.length_take]; rfl)) ?_; (with_reducible refine (field_Get.calls _ _ t180 a3 t192 t193 _ ?side1 ?side2 A48.out).mono ?_); (case side1 => repeat (first | exact (Kd.R_reads' HO_14.out).2.2 | (with_reducible refine Kd.C_alloc ?_ _) | (with_reducible refine Kd.C_drewN ?_ _) | (with_reducible refine Kd.C_drew ?_))); (case side2 => exact (Kd.R_reads' HO_14.out).2.1); rintro e w58 ⟨rfl, hb⟩; refine ⟨_, rfl, ?_⟩; have n0_ := Aside0.mk (Kd.R_below (by (with_reducible repeat (first | apply Kd.R_alloc | apply Kd.R_drewN | apply Kd.R_drew)); exact HO_14.out) hb); have n1_ := Aside0.mk (below_step (by repeat (first | (with_reducible first | exact HB.out | apply below_alloc | apply pw_below_drewN | apply below_drew1) | exact HB.out)) hb); clear HO_14; clear HB; have HO_14 := n0_; have HB := n1_; clear n0_ n1_; (try clear hb); (try clear hb2); (try clear hk); (try clear hi)) | (go_at_call 7; (with_reducible refine (supercargolaw05_awake.calls  t195 _ A56.out).mono ?_); rintro e w59 ⟨rfl, hb⟩; have n0_ := Aside0.mk (Kd.R_below (by (with_reducible repeat (first | apply Kd.R_alloc | apply Kd.R_drewN | apply Kd.R_drew)); exact HO_14.out) hb); have n1_ := Aside0.mk (below_step (by repeat (first | (with_reducible first | exact HB.out | apply below_alloc | apply pw_below_drewN | apply below_drew1) | exact HB.out)) hb); clear HO_14; clear HB; have HO_14 := n0_; have HB := n1_; clear n0_ n1_; (try clear hb); (try clear hb2); (try clear hk); (try clear hi)))
                            go_ret
                            exact ⟨by first | rfl | (simp [errW_none, errW_some] <;> rfl) | (simp [*, errW_none, errW_some] <;> rfl), by repeat (first | (with_reducible first | exact HB.out | apply below_alloc | apply pw_below_drewN | apply below_drew1) | exact HB.out)⟩
                          · rw [if_neg c55] at H
                            have c55b0 : (t191 == t193) = false := by simpa using c55
                            (try (have c55b1 : decide (t191 = t193) = false := by simpa using c55))
                            (try (have c55b2 : (t191 == t193) = false := by simpa using c55))
                            (try (have c55b3 : ¬ (t191 = t193) := by simpa using c55))
                            clear c55
                            obtain rfl := Option.some.inj H
                            go_wp2_with (first | ((with_reducible refine gate_callee (f := 15) rfl ?_); refine goesL_ (some 97) rfl rfl Try.func15 (by kernel_rfl) rfl #[.slice A0 l0.length c0, .string a3] rfl (by (try simp only [List.map_toArray, List.map_cons, List.map_nil]); first | done | rfl | (simp only [List.length_drop, List.length_take]; rfl)) ?_; (with_reducible refine (field_Get.calls _ _ l0 a3 t190 t191 _ ?side1 ?side2 A47.out).mono ?_); (case side1 => repeat (first | exact (Kd.C_below HR0.out HB.out) | (with_reducible refine Kd.C_alloc ?_ _) | (with_reducible refine Kd.C_drewN ?_ _) | (with_reducible refine Kd.C_drew ?_))); (case side2 => exact HC0.out); rintro e w60 ⟨rfl, hb⟩; refine ⟨_, rfl, ?_⟩; have n0_ := Aside0.mk (Kd.R_below (by (with_reducible repeat (first | apply Kd.R_alloc | apply Kd.R_drewN | apply Kd.R_drew)); exact HO_14.out) hb); have n1_ := Aside0.mk (below_step (by repeat (first | (with_reducible first | exact HB.out | apply below_alloc | apply pw_below_drewN | apply below_drew1) | exact HB.out)) hb); clear HO_14; clear HB; have HO_14 := n0_; have HB := n1_; clear n0_ n1_; (try clear hb); (try clear hb2); (try clear hk); (try clear hi)) | ((with_reducible refine gate_callee (f := 15) rfl ?_); refine goesL_ (some 103) rfl rfl Try.func15 (by kernel_rfl) rfl #[.slice Ao43 t180.length co43, .string a3] rfl (by (try simp only [List.map_toArray, List.map_cons, List.map_nil]); first | done | rfl | (simp only [List.length_drop, List.length_take]; rfl)) ?_; (with_reducible refine (field_Get.calls _ _ t180 a3 t192 t193 _ ?side1 ?side2 A48.out).mono ?_); (case side1 => repeat (first | exact (Kd.R_reads' HO_14.out).2.2 | (with_reducible refine Kd.C_alloc ?_ _) | (with_reducible refine Kd.C_drewN ?_ _) | (with_reducible refine Kd.C_drew ?_))); (case side2 => exact (Kd.R_reads' HO_14.out).2.1); rintro e w61 ⟨rfl, hb⟩; refine ⟨_, rfl, ?_⟩; have n0_ := Aside0.mk (Kd.R_below (by (with_reducible repeat (first | apply Kd.R_alloc | apply Kd.R_drewN | apply Kd.R_drew)); exact HO_14.out) hb); have n1_ := Aside0.mk (below_step (by repeat (first | (with_reducible first | exact HB.out | apply below_alloc | apply pw_below_drewN | apply below_drew1) | exact HB.out)) hb); clear HO_14; clear HB; have HO_14 := n0_; have HB := n1_; clear n0_ n1_; (try clear hb); (try clear hb2); (try clear hk); (try clear hi)))
                            go_ret
                            exact ⟨by first | rfl | (simp [errW_none, errW_some] <;> rfl) | (simp [*, errW_none, errW_some] <;> rfl), by repeat (first | (with_reducible first | exact HB.out | apply below_alloc | apply pw_below_drewN | apply below_drew1) | exact HB.out)⟩
                        · rw [if_neg c54] at H
                          have c54b0 : (t190.toList == t192.toList) = false := beq_eq_false_iff_ne.mpr c54
                          have c54b1 : (t190.toList != t192.toList) = true := bne_iff_ne.mpr c54
                          obtain rfl := Option.some.inj H
                          go_wp2_with (first | ((with_reducible refine gate_callee (f := 15) rfl ?_); refine goesL_ (some 97) rfl rfl Try.func15 (by kernel_rfl) rfl #[.slice A0 l0.length c0, .string a3] rfl (by (try simp only [List.map_toArray, List.map_cons, List.map_nil]); first | done | rfl | (simp only [List.length_drop, List.length_take]; rfl)) ?_; (with_reducible refine (field_Get.calls _ _ l0 a3 t190 t191 _ ?side1 ?side2 A47.out).mono ?_); (case side1 => repeat (first | exact (Kd.C_below HR0.out HB.out) | (with_reducible refine Kd.C_alloc ?_ _) | (with_reducible refine Kd.C_drewN ?_ _) | (with_reducible refine Kd.C_drew ?_))); (case side2 => exact HC0.out); rintro e w62 ⟨rfl, hb⟩; refine ⟨_, rfl, ?_⟩; have n0_ := Aside0.mk (Kd.R_below (by (with_reducible repeat (first | apply Kd.R_alloc | apply Kd.R_drewN | apply Kd.R_drew)); exact HO_14.out) hb); have n1_ := Aside0.mk (below_step (by repeat (first | (with_reducible first | exact HB.out | apply below_alloc | apply pw_below_drewN | apply below_drew1) | exact HB.out)) hb); clear HO_14; clear HB; have HO_14 := n0_; have HB := n1_; clear n0_ n1_; (try clear hb); (try clear hb2); (try clear hk); (try clear hi)) | ((with_reducible refine gate_callee (f := 15) rfl ?_); refine goesL_ (some 103) rfl rfl Try.func15 (by kernel_rfl) rfl #[.slice Ao43 t180.length co43, .string a3] rfl (by (try simp only [List.map_toArray, List.map_cons, List.map_nil]); first | done | rfl | (simp only [List.length_drop, List.length_take]; rfl)) ?_; (with_reducible refine (field_Get.calls _ _ t180 a3 t192 t193 _ ?side1 ?side2 A48.out).mono ?_); (case side1 => repeat (first | exact (Kd.R_reads' HO_14.out).2.2 | (with_reducible refine Kd.C_alloc ?_ _) | (with_reducible refine Kd.C_drewN ?_ _) | (with_reducible refine Kd.C_drew ?_))); (case side2 => exact (Kd.R_reads' HO_14.out).2.1); rintro e w63 ⟨rfl, hb⟩; refine ⟨_, rfl, ?_⟩; have n0_ := Aside0.mk (Kd.R_below (by (with_reducible repeat (first | apply Kd.R_alloc | apply Kd.R_drewN | apply Kd.R_drew)); exact HO_14.out) hb); have n1_ := Aside0.mk (below_step (by repeat (first | (with_reducible first | exact HB.out | apply below_alloc | apply pw_below_drewN | apply below_drew1) | exact HB.out)) hb); clear HO_14; clear HB; have HO_14 := n0_; have HB := n1_; clear n0_ n1_; (try clear hb); (try clear hb2); (try clear hk); (try clear hi)))
                          go_ret
                          exact ⟨by first | rfl | (simp [errW_none, errW_some] <;> rfl) | (simp [*, errW_none, errW_some] <;> rfl), by repeat (first | (with_reducible first | exact HB.out | apply below_alloc | apply pw_below_drewN | apply below_drew1) | exact HB.out)⟩
        · rw [if_neg c17] at H
          exact absurd H (by simp)

end Go.Proofs.Ytpkcbbjflcfdeaa.P
