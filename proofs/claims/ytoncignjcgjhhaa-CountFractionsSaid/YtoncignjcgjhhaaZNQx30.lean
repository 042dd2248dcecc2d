/- Contracts of functions of the seat's program: each Go function's Lean function and its walk, written by a program of this session over the kit's print. Not trusted: Lean checks it. -/
import Derived.Test.YtoncignjcgjhhaaZNAwake7
import Derived.Test.YtoncignjcgjhhaaZGA
import Derived.Test.YtoncignjcgjhhaaZNQx8
import Derived.Test.YtoncignjcgjhhaaZNQx13
import Derived.Test.YtoncignjcgjhhaaZNQx29
import Derived.Test.YtoncignjcgjhhaaZN
set_option linter.unusedVariables false
set_option linter.unusedSimpArgs false
namespace Go.Proofs.Ytoncignjcgjhhaa.Q
open Go.RowKit Go.Proofs.YtoncignjcgjhhaaW.PrintWords Go.Proofs.YtoncignjcgjhhaaW.PrintLast Go.Proofs.YtoncignjcgjhhaaW.PrintMore
attribute [local go_sem] max2_int min2_int max_two min_two max_three min_three max_four min_four   -- for this text's walks alone
set_option linter.unusedVariables false
set_option linter.unusedSimpArgs false

/-! ### tenorlaw7_CountFractions: function 3 -/
def tenorlaw7_CountFractions.j0 : Nat → Int → Int → Int → Bool → Int → List (S63) → Option (Bool)
  | 0, _, _, _, _, _, _ => none
  | k + 1, x0, x2, x3, x25, x273000, x273001 => if x25 = true then ((tenorlaw7_awake.f).bind fun t274 => (some t274)) else ((count_Fraction.f k x0 x273000 x273001 x2 x3).bind fun bt275 => ((tenorref7_Fraction.f k x0 x273000 x273001 x2 x3).bind fun bt278 => (if bt275.1 = bt278.1 then (if bt275.2.1 = bt278.2.1 then (if bt275.2.2 = bt278.2.2 then ((tenorlaw7_awake.f).bind fun t282 => (some t282)) else (some false)) else (some false)) else (some false))))
def tenorlaw7_CountFractions.f (k : Nat) (a0 : Int) (a1_0 : Int) (l1_1 : List (S63)) (a2 : Int) (a3 : Int) : Option (Bool) := if (l1_1.length : Int) > 100 then (tenorlaw7_CountFractions.j0 k a0 a2 a3 true a1_0 l1_1) else ((tenorlaw7_short.f a0 a1_0 l1_1 a2 a3).bind fun t273 => (tenorlaw7_CountFractions.j0 k a0 a2 a3 (!t273) a1_0 l1_1))
theorem tenorlaw7_CountFractions.mono_l : ∀ k, (∀ y0 y1 y2 y3 y4 y5, LeO (tenorlaw7_CountFractions.j0 k y0 y1 y2 y3 y4 y5) (tenorlaw7_CountFractions.j0 (k + 1) y0 y1 y2 y3 y4 y5))
  | 0 => fun _ _ _ _ _ _ r h => by simp [tenorlaw7_CountFractions.j0] at h
  | k + 1 => by
    have ih0 := tenorlaw7_CountFractions.mono_l k
    · intro y0 y1 y2 y3 y4 y5
      unfold tenorlaw7_CountFractions.j0
      repeat' first
      | (with_reducible exact ih0 _ _ _ _ _ _)
      | (with_reducible exact count_Fraction.mono _ _ _ _ _ _)
      | (with_reducible exact tenorref7_Fraction.mono _ _ _ _ _ _)
      | (with_reducible exact LeO.refl _)
      | (with_reducible exact LeO.none _)
      | (with_reducible refine LeO.ite ?_ ?_)
      | (with_reducible refine LeO.bind ?_ (fun _ => ?_))
      | exact ih0 _ _ _ _ _ _
      | exact count_Fraction.mono _ _ _ _ _ _
      | exact tenorref7_Fraction.mono _ _ _ _ _ _
      | exact LeO.none _
      | refine LeO.ite ?_ ?_
      | refine LeO.bind ?_ (fun _ => ?_)
theorem tenorlaw7_CountFractions.mono : ∀ a0 a1 a2 a3 a4 k, LeO (tenorlaw7_CountFractions.f k a0 a1 a2 a3 a4) (tenorlaw7_CountFractions.f (k + 1) a0 a1 a2 a3 a4) := by
  intro a0 a1 a2 a3 a4 k
  have ih0 := tenorlaw7_CountFractions.mono_l k
  unfold tenorlaw7_CountFractions.f
  repeat' first
      | (with_reducible exact ih0 _ _ _ _ _ _)
      | (with_reducible exact count_Fraction.mono _ _ _ _ _ _)
      | (with_reducible exact tenorref7_Fraction.mono _ _ _ _ _ _)
      | (with_reducible exact LeO.refl _)
      | (with_reducible exact LeO.none _)
      | (with_reducible refine LeO.ite ?_ ?_)
      | (with_reducible refine LeO.bind ?_ (fun _ => ?_))
      | exact ih0 _ _ _ _ _ _
      | exact count_Fraction.mono _ _ _ _ _ _
      | exact tenorref7_Fraction.mono _ _ _ _ _ _
      | exact LeO.none _
      | refine LeO.ite ?_ ?_
      | refine LeO.bind ?_ (fun _ => ?_)
set_option maxHeartbeats 8000000 in
set_option maxRecDepth 100000 in
theorem tenorlaw7_CountFractions.calls (k : Nat) (a0 : Int) (a1_0 : Int) (A1_1 : Option Addr) (c1_1 : Nat) (l1_1 : List (S63)) (a2 : Int) (a3 : Int) (r : Bool) (w : World) (hr1_1 : Kd.C k63 w A1_1 l1_1.length l1_1) (hc1_1 : l1_1.length ≤ c1_1) (h : tenorlaw7_CountFractions.f k a0 a1_0 l1_1 a2 a3 = some r) (HT : r = true) :
    Calls Try.prog 3 #[.int .i64 a0, .agg #[.int .i64 a1_0, .slice A1_1 l1_1.length c1_1], .int .i64 a2, .int .i64 a3] w fun e w' => e = .returned (.bool r) ∧ Below w.heap.size w w' := by
  have hu24 := Try.underlying24
  have hu31 := Try.underlying31
  have HR1_1 := Aside0.mk hr1_1
  have HC1_1 := Aside0.mk hc1_1
  clear hr1_1 hc1_1
  have HB := Aside0.mk (Below.refl w.heap.size w)
  have H : (if (l1_1.length : Int) > 100 then (tenorlaw7_CountFractions.j0 k a0 a2 a3 true a1_0 l1_1) else ((tenorlaw7_short.f a0 a1_0 l1_1 a2 a3).bind fun t273 => (tenorlaw7_CountFractions.j0 k a0 a2 a3 (!t273) a1_0 l1_1))) = some r := h
  clear h
  have HC5 := Aside0.mk H
  clear H
  go_enter Try.func3, Try.ntmps3
  go_upto_region 1 with (first | ((with_reducible refine gate_dst (N := 5) rfl ?_); refine box_event ?hg (N := 5) ?hd (cs := #[.int .i64 a1_0, .slice A1_1 l1_1.length c1_1]) (t := 24) ?hr ?_; (case hd => rfl); (case hg => rfl); (case hr => first | (go_simp; done) | (go_simp; rfl)); intro gb272 hg w6 hbox hb; have n0_ := Aside0.mk (below_step (by repeat (first | (with_reducible first | exact HB.out | apply below_alloc | apply pw_below_drewN | apply below_drew1) | exact HB.out)) hb); have n1_ := Aside0.mk (hbox); have n2_ := Aside0.mk ((by rw [hg]; exact (below_size (by repeat (first | (with_reducible first | exact HB.out | apply below_alloc | apply pw_below_drewN | apply below_drew1) | exact HB.out))) : w.heap.size ≤ gb272)); have n3_ := Aside0.mk ((by rw [hg]; exact (below_size (by repeat (first | (with_reducible first | exact HB.out | apply below_alloc | apply pw_below_drewN | apply below_drew1) | exact HB.out))) : w.heap.size ≤ gb272)); clear HB; have HB := n0_; have BK272 := n1_; have GW272 := n2_; have GE272 := n3_; clear n0_ n1_ n2_ n3_; clear hb hbox hg))
  (try simp only [Act.put, List.setIfInBounds_toArray, List.set_cons_zero, List.set_cons_succ])
  go_cut [25] (fun v25 wc => ∃ (kq : Nat) (x25_4 : Bool), v25 = .bool x25_4 ∧ Aside0 (tenorlaw7_CountFractions.j0 kq a0 a2 a3 x25_4 a1_0 l1_1 = some r) ∧ Aside0 (kq ≤ k) ∧ Aside0 (wc.heap[gb272]? = some (.cells #[.int .i64 a1_0, (.slice A1_1 l1_1.length c1_1)] 24 (0, 0))) ∧ Aside0 (Below w.heap.size w wc))
  case first =>
    have H := HC5.out
    clear HC5
    by_cases c7 : (l1_1.length : Int) > 100
    · rw [if_pos c7] at H
      have c7b0 : decide (100 < (l1_1.length : Int)) = true := decide_eq_true c7
      have c7b1 : decide (100 < l1_1.length) = true := decide_eq_true (by omega)
      clear c7
      (first | rw [c7b0] | (simp only [i64_w, i32_w]; rw [c7b0]) | skip)
      have H' := Aside0.mk H
      clear H
      have hcz8_0 : w6.cell? ⟨gb272, 0, none⟩ = some (.int .i64 a1_0) := (blk_cell BK272.out 0).trans rfl
      have hcz8_1 : w6.cell? ⟨gb272, 1, none⟩ = some (.slice A1_1 l1_1.length c1_1) := (blk_cell BK272.out 1).trans rfl
      have hfz8_0 := blk_frozen BK272.out 0
      have hfz8_1 := blk_frozen BK272.out 1
      go_wp2
      go_meet
      case rel => exact ⟨_, (true), (by first | rfl | (simp; done) | (simp [*]; done)), H', ⟨by first | omega | exact Nat.le_refl _⟩, ⟨by (with_reducible repeat (first | refine blk_drewN ?_ _ | refine blk_drew ?_ | refine blk_alloc ?_ _)); exact BK272.out⟩, ⟨by repeat (first | (with_reducible first | exact HB.out | apply below_alloc | apply pw_below_drewN | apply below_drew1 | refine below_set ?_ GE272.out) | exact HB.out)⟩⟩
    · rw [if_neg c7] at H
      have c7b0 : decide (100 < (l1_1.length : Int)) = false := decide_eq_false c7
      have c7b1 : decide (100 < l1_1.length) = false := decide_eq_false (by omega)
      clear c7
      (first | rw [c7b0] | (simp only [i64_w, i32_w]; rw [c7b0]) | skip)
      replace H := Option.bind_eq_some_iff.mp H
      obtain ⟨t273, A90, H⟩ := H
      replace H : (tenorlaw7_CountFractions.j0 k a0 a2 a3 (!t273) a1_0 l1_1) = some r := H
      have A9 := Aside0.mk A90
      clear A90
      have H' := Aside0.mk H
      clear H
      have hcz10_0 : w6.cell? ⟨gb272, 0, none⟩ = some (.int .i64 a1_0) := (blk_cell BK272.out 0).trans rfl
      have hcz10_1 : w6.cell? ⟨gb272, 1, none⟩ = some (.slice A1_1 l1_1.length c1_1) := (blk_cell BK272.out 1).trans rfl
      have hfz10_0 := blk_frozen BK272.out 0
      have hfz10_1 := blk_frozen BK272.out 1
      go_wp2_with (first | (go_at_call 25; (with_reducible refine (tenorlaw7_short.calls a0 a1_0 _ _ l1_1 a2 a3 t273 _ ?side1 ?side2 A9.out).mono ?_); (case side1 => repeat (first | exact (Kd.C_below HR1_1.out HB.out) | (with_reducible refine Kd.C_alloc ?_ _) | (with_reducible refine Kd.C_drewN ?_ _) | (with_reducible refine Kd.C_drew ?_))); (case side2 => exact HC1_1.out); rintro e w11 ⟨rfl, hb⟩; have n0_ := Aside0.mk (blk_below (g := gb272) (o := .cells #[.int .i64 a1_0, .slice A1_1 l1_1.length c1_1] 24 (0, 0)) (by (with_reducible repeat (first | refine blk_drewN ?_ _ | refine blk_drew ?_ | refine blk_alloc ?_ _)); exact BK272.out) hb); have n1_ := Aside0.mk (below_step (by repeat (first | (with_reducible first | exact HB.out | apply below_alloc | apply pw_below_drewN | apply below_drew1 | refine below_set ?_ GE272.out) | exact HB.out)) hb); clear BK272; clear HB; have BK272 := n0_; have HB := n1_; clear n0_ n1_; (try clear hb); (try clear hb2); (try clear hk); (try clear hi)))
      go_meet
      case rel => exact ⟨_, (!t273), (by first | rfl | (simp; done) | (simp [*]; done)), H', ⟨by first | omega | exact Nat.le_refl _⟩, ⟨by (with_reducible repeat (first | refine blk_drewN ?_ _ | refine blk_drew ?_ | refine blk_alloc ?_ _)); exact BK272.out⟩, ⟨by repeat (first | (with_reducible first | exact HB.out | apply below_alloc | apply pw_below_drewN | apply below_drew1 | refine below_set ?_ GE272.out) | exact HB.out)⟩⟩
  case rest =>
    clear HC5
    try clear c1
    try clear p2
    try clear c3
    try clear c7
    try clear c7b0
    try clear c7b1
    try clear hcz10_0
    try clear hcz10_1
    try clear hcz8_0
    try clear hcz8_1
    try clear hfz10_0
    try clear hfz10_1
    try clear hfz8_0
    try clear hfz8_1
    obtain ⟨kq, x25_4, rfl, HA, HJ4, BK272, HB⟩ := hcut
    cases kq with
    | zero => exact absurd HA.out (by simp [tenorlaw7_CountFractions.j0])
    | succ kj4 =>
      have H := HA.out
      clear HA
      simp only [tenorlaw7_CountFractions.j0] at H
      by_cases c12 : x25_4 = true
      · subst c12
        have H1 : ((tenorlaw7_awake.f).bind fun t274 => (some t274)) = some r := by rw [if_pos rfl] at H; exact H
        clear H
        have H := H1
        clear H1
        replace H := Option.bind_eq_some_iff.mp H
        obtain ⟨t274, A130, H⟩ := H
        replace H : (some t274) = some r := H
        have A13 := Aside0.mk A130
        clear A130
        obtain rfl := Option.some.inj H
        go_wp2_with (first | ((with_reducible refine gate_callee (f := 26) rfl ?_); refine goesL_ (some 26) rfl rfl Try.func26 (by kernel_rfl) rfl #[] rfl (by (try simp only [List.map_toArray, List.map_cons, List.map_nil]); first | done | rfl | (simp only [List.length_drop, List.length_take]; rfl)) ?_; (with_reducible refine (tenorlaw7_awake.calls  t274 _ A13.out).mono ?_); rintro e w14 ⟨rfl, hb⟩; refine ⟨_, rfl, ?_⟩; have n0_ := Aside0.mk (blk_below (g := gb272) (o := .cells #[.int .i64 a1_0, .slice A1_1 l1_1.length c1_1] 24 (0, 0)) (by (with_reducible repeat (first | refine blk_drewN ?_ _ | refine blk_drew ?_ | refine blk_alloc ?_ _)); exact BK272.out) hb); have n1_ := Aside0.mk (below_step (by repeat (first | (with_reducible first | exact HB.out | apply below_alloc | apply pw_below_drewN | apply below_drew1 | refine below_set ?_ GE272.out) | exact HB.out)) hb); clear BK272; clear HB; have BK272 := n0_; have HB := n1_; clear n0_ n1_; (try clear hb); (try clear hb2); (try clear hk); (try clear hi)))
        go_ret
        exact ⟨by first | rfl | (simp [errW_none, errW_some] <;> rfl) | (simp [*, errW_none, errW_some] <;> rfl), by repeat (first | (with_reducible first | exact HB.out | apply below_alloc | apply pw_below_drewN | apply below_drew1 | refine below_set ?_ GE272.out) | exact HB.out)⟩
      · replace c12 := Bool.eq_false_iff.mpr c12
        subst c12
        have H1 : ((count_Fraction.f kj4 a0 a1_0 l1_1 a2 a3).bind fun bt275 => ((tenorref7_Fraction.f kj4 a0 a1_0 l1_1 a2 a3).bind fun bt278 => (if bt275.1 = bt278.1 then (if bt275.2.1 = bt278.2.1 then (if bt275.2.2 = bt278.2.2 then ((tenorlaw7_awake.f).bind fun t282 => (some t282)) else (some false)) else (some false)) else (some false)))) = some r := by rw [if_neg (show ¬ (false = true) by decide)] at H; exact H
        clear H
        have H := H1
        clear H1
        replace H := Option.bind_eq_some_iff.mp H
        obtain ⟨⟨t275, t276, t277⟩, A150, H⟩ := H
        replace H : ((tenorref7_Fraction.f kj4 a0 a1_0 l1_1 a2 a3).bind fun bt278 => (if t275 = bt278.1 then (if t276 = bt278.2.1 then (if t277 = bt278.2.2 then ((tenorlaw7_awake.f).bind fun t282 => (some t282)) else (some false)) else (some false)) else (some false))) = some r := H
        have A15 := Aside0.mk A150
        clear A150
        replace H := Option.bind_eq_some_iff.mp H
        obtain ⟨⟨t278, t279, t280⟩, A160, H⟩ := H
        replace H : (if t275 = t278 then (if t276 = t279 then (if t277 = t280 then ((tenorlaw7_awake.f).bind fun t282 => (some t282)) else (some false)) else (some false)) else (some false)) = some r := H
        have A16 := Aside0.mk A160
        clear A160
        by_cases c17 : t275 = t278
        · rw [if_pos c17] at H
          have c17b0 : (t275 == t278) = true := beq_iff_eq.mpr c17
          have c17b1 : (t275 != t278) = false := bne_eq_false_iff_eq.mpr c17
          clear c17
          by_cases c18 : t276 = t279
          · rw [if_pos c18] at H
            have c18b0 : (t276 == t279) = true := beq_iff_eq.mpr c18
            have c18b1 : (t276 != t279) = false := bne_eq_false_iff_eq.mpr c18
            clear c18
            by_cases c19 : t277 = t280
            · rw [if_pos c19] at H
              have c19b0 : (t277 == t280) = true := beq_iff_eq.mpr c19
              have c19b1 : (t277 != t280) = false := bne_eq_false_iff_eq.mpr c19
              clear c19
              replace H := Option.bind_eq_some_iff.mp H
              obtain ⟨t282, A200, H⟩ := H
              replace H : (some t282) = some r := H
              have A20 := Aside0.mk A200
              clear A200
              obtain rfl := Option.some.inj H
              have hcz21_0 : wc.cell? ⟨gb272, 0, none⟩ = some (.int .i64 a1_0) := (blk_cell BK272.out 0).trans rfl
              have hcz21_1 : wc.cell? ⟨gb272, 1, none⟩ = some (.slice A1_1 l1_1.length c1_1) := (blk_cell BK272.out 1).trans rfl
              have hfz21_0 := blk_frozen BK272.out 0
              have hfz21_1 := blk_frozen BK272.out 1
              go_wp2_with (first | ((with_reducible refine gate_callee (f := 27) rfl ?_); refine goesL_ (some 32) rfl rfl Try.func27 (by kernel_rfl) rfl #[.int .i64 a0, .agg #[.int .i64 a1_0, .slice A1_1 l1_1.length c1_1], .int .i64 a2, .int .i64 a3] rfl (by (try simp only [List.map_toArray, List.map_cons, List.map_nil]); first | done | rfl | (simp only [List.length_drop, List.length_take]; rfl)) ?_; (with_reducible refine (count_Fraction.calls kj4 a0 a1_0 _ _ l1_1 a2 a3 t275 t276 t277 _ ?side1 ?side2 A15.out).mono ?_); (case side1 => repeat (first | exact (Kd.C_below HR1_1.out HB.out) | (with_reducible refine Kd.C_alloc ?_ _) | (with_reducible refine Kd.C_drewN ?_ _) | (with_reducible refine Kd.C_drew ?_))); (case side2 => exact HC1_1.out); rintro e w22 ⟨rfl, hb⟩; refine ⟨_, rfl, ?_⟩; have n0_ := Aside0.mk (blk_below (g := gb272) (o := .cells #[.int .i64 a1_0, .slice A1_1 l1_1.length c1_1] 24 (0, 0)) (by (with_reducible repeat (first | refine blk_drewN ?_ _ | refine blk_drew ?_ | refine blk_alloc ?_ _)); exact BK272.out) hb); have n1_ := Aside0.mk (below_step (by repeat (first | (with_reducible first | exact HB.out | apply below_alloc | apply pw_below_drewN | apply below_drew1 | refine below_set ?_ GE272.out) | exact HB.out)) hb); clear BK272; clear HB; have BK272 := n0_; have HB := n1_; clear n0_ n1_; (try clear hb); (try clear hb2); (try clear hk); (try clear hi); have hcz23_0 : w22.cell? ⟨gb272, 0, none⟩ = some (.int .i64 a1_0) := (blk_cell BK272.out 0).trans rfl; have hcz23_1 : w22.cell? ⟨gb272, 1, none⟩ = some (.slice A1_1 l1_1.length c1_1) := (blk_cell BK272.out 1).trans rfl; have hfz23_0 := blk_frozen BK272.out 0; have hfz23_1 := blk_frozen BK272.out 1) | ((with_reducible refine gate_callee (f := 28) rfl ?_); refine goesL_ (some 41) rfl rfl Try.func28 (by kernel_rfl) rfl #[.int .i64 a0, .agg #[.int .i64 a1_0, .slice A1_1 l1_1.length c1_1], .int .i64 a2, .int .i64 a3] rfl (by (try simp only [List.map_toArray, List.map_cons, List.map_nil]); first | done | rfl | (simp only [List.length_drop, List.length_take]; rfl)) ?_; (with_reducible refine (tenorref7_Fraction.calls kj4 a0 a1_0 _ _ l1_1 a2 a3 t278 t279 t280 _ ?side1 ?side2 A16.out).mono ?_); (case side1 => repeat (first | exact (Kd.C_below HR1_1.out HB.out) | (with_reducible refine Kd.C_alloc ?_ _) | (with_reducible refine Kd.C_drewN ?_ _) | (with_reducible refine Kd.C_drew ?_))); (case side2 => exact HC1_1.out); rintro e w24 ⟨rfl, hb⟩; refine ⟨_, rfl, ?_⟩; have n0_ := Aside0.mk (blk_below (g := gb272) (o := .cells #[.int .i64 a1_0, .slice A1_1 l1_1.length c1_1] 24 (0, 0)) (by (with_reducible repeat (first | refine blk_drewN ?_ _ | refine blk_drew ?_ | refine blk_alloc ?_ _)); exact BK272.out) hb); have n1_ := Aside0.mk (below_step (by repeat (first | (with_reducible first | exact HB.out | apply below_alloc | apply pw_below_drewN | apply below_drew1 | refine below_set ?_ GE272.out) | exact HB.out)) hb); clear BK272; clear HB; have BK272 := n0_; have HB := n1_; clear n0_ n1_; (try clear hb); (try clear hb2); (try clear hk); (try clear hi)) | ((with_reducible refine gate_dst (N := 12) rfl ?_); refine box_event ?hg (N := 12) ?hd (cs := #[.int .i64 0, .int .i64 0]) (t := 31) ?hr ?_; (case hd => rfl); (case hg => rfl); (case hr => first | (go_simp; done) | (go_simp; rfl)); intro gb281 hg w25 hbox hb; have n0_ := Aside0.mk (blk_below (g := gb272) (o := .cells #[.int .i64 a1_0, .slice A1_1 l1_1.length c1_1] 24 (0, 0)) (by (with_reducible repeat (first | refine blk_drewN ?_ _ | refine blk_drew ?_ | refine blk_alloc ?_ _)); exact BK272.out) hb); have n1_ := Aside0.mk (below_step (by repeat (first | (with_reducible first | exact HB.out | apply below_alloc | apply pw_below_drewN | apply below_drew1 | refine below_set ?_ GE272.out) | exact HB.out)) hb); have n2_ := Aside0.mk (hbox); have n3_ := Aside0.mk ((by rw [hg]; exact (below_size (by repeat (first | (with_reducible first | exact HB.out | apply below_alloc | apply pw_below_drewN | apply below_drew1 | refine below_set ?_ GE272.out) | exact HB.out))) : w.heap.size ≤ gb281)); have n4_ := Aside0.mk ((by rw [hg]; exact (below_size (by repeat (first | (with_reducible first | exact HB.out | apply below_alloc | apply pw_below_drewN | apply below_drew1 | refine below_set ?_ GE272.out) | exact HB.out))) : w.heap.size ≤ gb281)); have n5_ := Aside0.mk ((by rw [hg]; exact Nat.ne_of_lt (blk_lt (g := gb272) (o := .cells #[.int .i64 a1_0, .slice A1_1 l1_1.length c1_1] 24 (0, 0)) (by (with_reducible repeat (first | refine blk_drewN ?_ _ | refine blk_drew ?_ | refine blk_alloc ?_ _)); exact BK272.out)) : gb272 ≠ gb281)); have n6_ := Aside0.mk ((by rw [hg]; exact Nat.ne_of_gt (blk_lt (g := gb272) (o := .cells #[.int .i64 a1_0, .slice A1_1 l1_1.length c1_1] 24 (0, 0)) (by (with_reducible repeat (first | refine blk_drewN ?_ _ | refine blk_drew ?_ | refine blk_alloc ?_ _)); exact BK272.out)) : gb281 ≠ gb272)); clear BK272; clear HB; have BK272 := n0_; have HB := n1_; have BK281 := n2_; have GW281 := n3_; have GE281 := n4_; have NB272_281 := n5_; have NB281_272 := n6_; clear n0_ n1_ n2_ n3_ n4_ n5_ n6_; clear hb hbox hg; have hnb26 := NB281_272.out; have hnc26 := NB272_281.out; have hcz27_0 : w25.cell? ⟨gb281, 0, none⟩ = some (.int .i64 0) := (blk_cell BK281.out 0).trans rfl; have hcz27_1 : w25.cell? ⟨gb281, 1, none⟩ = some (.int .i64 0) := (blk_cell BK281.out 1).trans rfl; have hfz27_0 := blk_frozen BK281.out 0; have hfz27_1 := blk_frozen BK281.out 1) | (go_at_call 26; (with_reducible refine (tenorlaw7_awake.calls  t282 _ A20.out).mono ?_); rintro e w28 ⟨rfl, hb⟩; have n0_ := Aside0.mk (blk_below (g := gb272) (o := .cells #[.int .i64 a1_0, .slice A1_1 l1_1.length c1_1] 24 (0, 0)) (by (with_reducible repeat (first | refine blk_drewN ?_ _ | refine blk_drew ?_ | refine blk_alloc ?_ _)); refine blk_far ?_ NB272_281.out _; (with_reducible repeat (first | refine blk_drewN ?_ _ | refine blk_drew ?_ | refine blk_alloc ?_ _)); refine blk_far ?_ NB272_281.out _; (with_reducible repeat (first | refine blk_drewN ?_ _ | refine blk_drew ?_ | refine blk_alloc ?_ _)); exact BK272.out) hb); have n1_ := Aside0.mk (blk_below (g := gb281) (o := .cells #[.int .i64 t278, .int .i64 t279] 31 (0, 0)) (by (with_reducible repeat (first | refine blk_drewN ?_ _ | refine blk_drew ?_ | refine blk_alloc ?_ _)); refine blk_put (cs := #[.int .i64 t278, .int .i64 0]) ?_ 1 _ rfl; (with_reducible repeat (first | refine blk_drewN ?_ _ | refine blk_drew ?_ | refine blk_alloc ?_ _)); refine blk_put (cs := #[.int .i64 0, .int .i64 0]) ?_ 0 _ rfl; (with_reducible repeat (first | refine blk_drewN ?_ _ | refine blk_drew ?_ | refine blk_alloc ?_ _)); exact BK281.out) hb); have n2_ := Aside0.mk (below_step (by repeat (first | (with_reducible first | exact HB.out | apply below_alloc | apply pw_below_drewN | apply below_drew1 | refine below_set ?_ GE272.out | refine below_set ?_ GE281.out) | exact HB.out)) hb); clear BK272; clear BK281; clear HB; have BK272 := n0_; have BK281 := n1_; have HB := n2_; clear n0_ n1_ n2_; (try clear hb); (try clear hb2); (try clear hk); (try clear hi)))
              go_ret
              exact ⟨by first | rfl | (simp [errW_none, errW_some] <;> rfl) | (simp [*, errW_none, errW_some] <;> rfl), by repeat (first | (with_reducible first | exact HB.out | apply below_alloc | apply pw_below_drewN | apply below_drew1 | refine below_set ?_ GE272.out | refine below_set ?_ GE281.out) | exact HB.out)⟩
            · rw [if_neg c19] at H
              have c19b0 : (t277 == t280) = false := beq_eq_false_iff_ne.mpr c19
              have c19b1 : (t277 != t280) = true := bne_iff_ne.mpr c19
              exact absurd (H.trans (congrArg some HT)) (by decide)
          · rw [if_neg c18] at H
            have c18b0 : (t276 == t279) = false := beq_eq_false_iff_ne.mpr c18
            have c18b1 : (t276 != t279) = true := bne_iff_ne.mpr c18
            exact absurd (H.trans (congrArg some HT)) (by decide)
        · rw [if_neg c17] at H
          have c17b0 : (t275 == t278) = false := beq_eq_false_iff_ne.mpr c17
          have c17b1 : (t275 != t278) = true := bne_iff_ne.mpr c17
          exact absurd (H.trans (congrArg some HT)) (by decide)

end Go.Proofs.Ytoncignjcgjhhaa.Q
